/-
  A small machine that reads a function of the program and reckons what a call of it comes to; what Go's library on the road comes to; the functions of the program, one by one. No conditions beyond each specification's own. (ask's FUNCTIONS COME TO WHAT IS SAID (1)., NORMAL FORMS: what the functions' runs come to (written by a, HOW LONG A QUERY'S WORDS ARE. No program in sight., and so on.)
-/
import Derived.Test.YtehhekmihbaghaaGreatDoorQc
import Derived.Test.YtehhekmihbaghaaGreatDoorQb
import Derived.Lib.AppendIntMem
import Derived.Deep.LoopGhost
import Derived.Lib.Walk
import Derived.Lib.SliceRun

namespace Go.FM
open Go Go.Proofs
set_option maxRecDepth 100000 in
theorem zwq:z3c PR B0 42 zce:=by
 refine z0m [] [] zce [[.bool]] Tryz.func42 y48 trivial ?_;intro vs r hwf h;unfold zce at h
 split at h
 ·rename_i n
  refine ⟨0,?_⟩;rw [← h];refine (y1r 0 n).trans ?_;simp only [R.get_ok];unfold zhb
  have:decide (n≥0)=decide (0≤n):=rfl
  rw [this];cases decide (0≤n) <;> rfl
 ·simp [R.get] at h
set_option maxRecDepth 100000 in
theorem zk5:z3c PR B0 121 z7y:=by
 refine z0m [(90,z2k)] [] z7y [[.int .i64]] Tryz.func121 y35 ⟨z7o,trivial⟩ ?_;intro vs r hwf h;unfold z7y at h
 split at h
 ·rename_i s
  refine ⟨0,?_⟩;rw [← h];exact y0t 0 s
 ·simp [R.get] at h
set_option maxRecDepth 100000 in
theorem zoc:z3c PR B0 120 z9s:=by
 refine z0m [(91,z9r)] [] z9s [[.int .i64]] Tryz.func120 y7d ⟨zoe,trivial⟩ ?_;intro vs r hwf h;unfold z9s at h
 split at h
 ·rename_i s
  refine ⟨0,?_⟩;rw [← h];refine (y2r 0 s).trans ?_;simp only [R.get_br,R.get_ok,R.get_no]
 ·simp [R.get] at h
set_option maxRecDepth 100000 in
theorem y06:z3c PR B0 41 ze1:=by
 refine z0m [] [] ze1 [[.int .i64,.int .i64,.int .i64,.int .i64,.int .i64,.int .i64,.int .i64,.int .i64,.int .i64,.int .i64,.int .i64,.int .i64,.int .i64,.int .i64,.int .i64,.bool,.int .i64]] Tryz.func41 y75 trivial ?_;intro vs r hwf h;unfold ze1 at h
 split at h
 ·rename_i k c a0 b0 a1 b1 a2 b2 a3 b3 a4 b4 lo hi ft fl bu d
  refine ⟨0,?_⟩;cases hc:(decide (0≤d)&&decide (d≤5)) with
  | false=>rw [hc] at h; simp [R.get] at h
  | true=>
   rw [hc,R.get_br,z00,R.get_ok] at h;rw [← h];refine (y4j 0 k c a0 b0 a1 b1 a2 b2 a3 b3 a4 b4 lo hi ft fl bu d).trans ?_;have e5:(decide (0≤d)&&decide (d≤ic 5))=true:=hc;rw [e5,z00,z00];simp only [Bool.and_eq_true,decide_eq_true_eq] at hc;obtain ⟨n,rfl⟩:∃ n:Nat,d=n:=⟨d.toNat,by omega⟩
   simp only [Int.toNat_natCast,Nat.min_self];unfold zfn;have hn:n=0∨n=1∨n=2∨n=3∨n=4∨n=5:=by omega
   have h13:(k==1)=true→(k==3)=false:=fun h1=>by
    rw [zj7] at h1 ⊢
    have:=of_decide_eq_true h1
    exact decide_eq_false (by omega)
   generalize (k==1)=e1 at h13 ⊢
   generalize (k==3)=e3 at h13 ⊢
   rcases hn with rfl | rfl | rfl | rfl | rfl | rfl <;> cases e1 <;> cases e3 <;> first | rfl | exact absurd (h13 rfl) (by decide)
 ·simp [R.get] at h
theorem zvn (N:Nat) (l:List IV) (s:ByteArray) (hl:l.length≤strMax) (K:Out→St→Res)
  (hx:∀ l0 s1 x4 x7 x8,K (.exit 0) ⟨[(0,(.list false [.str] l0)),(1,(.str s1)),(4,(.int .i64 x4)),(7,(.int .i64 x7)),(8,(.int .i64 x8))],[]⟩=some (.int .i64 (-1),[]))
  (hr:∀ l0 s1 x4 x7 x8,K .ret ⟨[(0,(.list false [.str] l0)),(1,(.str s1)),(4,(.int .i64 x4)),(7,(.int .i64 x7)),(8,(.int .i64 x8))],[]⟩=some (.int .i64 x4,[])) :
  ∀ (d i n:Nat) (x4:Int),i+d=l.length→d < n →
   lpE (z0j N) (z0p z0y [1,0,1,0,0]) ⟨[0,1,4,7,8],[],[]⟩ n ⟨[(0,(.list false [.str] l)),(1,(.str s)),(4,(.int .i64 x4)),(7,(.int .i64 (ic l.length))),(8,(.int .i64 (i:Int)))],[]⟩ K=some (.int .i64 (zf5 (l.drop i) s (i:Int)),[])
 | 0,i,n+1,x4,hd,hn=>by
  rw [z05,z5b,zgi (by omega),z02,hx,List.drop_of_length_le (by omega)]
  rfl
 | d+1,i,n+1,x4,hd,hn=>by
  have hi:i < l.length:=by omega
  unfold strMax at hl;have ih:=zvn N l s (by unfold strMax; omega) K hx hr d (i+1) n x4 (by omega) (by omega)
  rw [z05,z5b,zfr hi,zs1,Bool.and_true,z00,z00,zgx hi,zdi (by omega),List.drop_eq_getElem_cons hi]
  unfold zf5;cases (ByteArray.toList s==ByteArray.toList (IV.toStr l[i])) with
  | true=>rw [z00,z00,hr]
  | false=>
   rw [z02,z02,ih]
   rfl
 | _,_,0,_,_,h=>by omega
set_option maxRecDepth 100000 in
theorem zb5:z3c PR B0 118 z23:=by
 refine z0m [] [(2,⟨[0,1,4,7,8],[],[]⟩)] z23 [[.int .i64]] Tryz.func118 zc2 trivial ?_;intro vs r hwf h;unfold z23 at h
 split at h
 ·rename_i l s
  refine ⟨l.length+1,?_⟩;rw [← h];refine (zbd (l.length+1) l s).trans ?_;simp only [R.get_ok];have hl:=(hwf (by simp [zcl])).1
  simp only [wfV,wfL] at hl
  have:=zvn (l.length+1) l s hl.1 _ (fun l0 s1 x4 x7 x8=>z9e (l.length+1) l0 s1 x4 x7 x8) (fun l0 s1 x4 x7 x8=>z9a (l.length+1) l0 s1 x4 x7 x8) l.length 0 (l.length+1) 0 (by omega) (by omega)
  rw [List.drop_zero] at this;exact this
 ·simp [R.get] at h
theorem yen (l:List IV) (i m:Nat) (x:IV) (hx:x.toStr=ByteArray.empty):IV.toStr (List.getD (l++List.replicate m x) i default)=wAt l i:=by
 unfold wAt
 by_cases h:i < l.length
 ·simp [List.getD,List.getElem?_append,h]
 ·have e0:(List.getD l i default).toStr=ByteArray.empty:=by simp [List.getD,h]; rfl
  rw [e0]
  by_cases h6:i - l.length < m
  ·have e:List.getD (l++List.replicate m x) i default=x:=by simp [List.getD,List.getElem?_append,h,List.getElem?_replicate,h6]
   rw [e,hx]
  ·have e:List.getD (l++List.replicate m x) i default=default:=by simp [List.getD,List.getElem?_append,h,List.getElem?_replicate,h6]
   rw [e]
   rfl
theorem ydp (l:List IV) (i:Nat):IV.toStr (List.getD (List.take (List.length l) l++List.replicate (Int.toNat 6) (IV.str { data:=#[] })) i default)=wAt l i:=by
 rw [List.take_length];exact yen l i _ _ rfl
set_option maxRecDepth 100000 in
theorem y0q:z3c PR B0 119 ze5:=by
 refine z0m [(121,z7y),(120,z9s),(161,z2o)] [] ze5 [[.int .i64,.int .i64,.int .i64,.int .i64,.int .i64,.int .i64,.int .i64,.int .i64,.int .i64,.int .i64,.int .i64,.int .i64,.int .i64,.int .i64,.int .i64,.bool,.int .i64]] Tryz.func119 y6m
  ⟨zk5,zoc,zb0,trivial⟩ ?_
 intro vs r hwf h;unfold ze5 at h
 split at h
 ·rename_i l
  refine ⟨0,?_⟩;cases hc:(decide (l.length≤4294967290)&&l.all (fun x=>decide (x.toStr.size < 4294967281))) with
  | false=>rw [hc] at h; simp [R.get] at h
  | true=>
   rw [hc,R.get_br,z00,R.get_ok] at h;rw [← h];refine (y2h 0 l).trans ?_;simp only [Bool.and_eq_true,decide_eq_true_eq,List.all_eq_true] at hc;obtain ⟨hl,hz⟩:=hc;have hw:∀ i,(wAt l i).size < 4294967281:=fun i=>by
    unfold wAt
    by_cases hi:i < l.length
    ·have:List.getD l i default=l[i]:=by simp [hi]
     rw [this];exact hz _ (List.getElem_mem hi)
    ·have:List.getD l i default=default:=by simp [List.getD,hi]
     rw [this]
     decide
   have hb:TI.bytes (Env.tyd (zmg 0) 9)=16:=by rfl
   have hr6:(List.replicate (Int.toNat 6) (IV.str { data:=#[] })).length=6:=rfl;simp only [ydp];rw [hb,hr6];have ge:∀ k:Nat,k < 6→decide ((k:Int) < ic (List.length l+6 - 0))=true:=fun k hk=>decide_eq_true (by simp only [ic]; omega)
   have g0:=ge 0 (by omega)
   have g1:=ge 1 (by omega)
   have g3:=ge 3 (by omega)
   have g5:=ge 5 (by omega)
   rw [decide_eq_true (show List.length l≤4294967296 by omega),z00,decide_eq_true (show (List.length l+6)*16≤z0e by unfold z0e; omega),z00]
   have n0:decide ((0:Nat)≤0)=true:=rfl;have d1:(decide (0≤1)&&decide (1 < ic (List.length l+6 - 0)))=true:=by simpa using g1
   have d0:(decide (0≤0)&&decide (0 < ic (List.length l+6 - 0)))=true:=by simpa using g0
   have d3:(decide (0≤3)&&decide (3 < ic (List.length l+6 - 0)))=true:=by simpa using g3
   have d5:(decide (0≤5)&&decide (5 < ic (List.length l+6 - 0)))=true:=by simpa using g5
   rw [d1,d0,d3,d5,decide_eq_true (hw 3),decide_eq_true (hw 5)];simp only [z00];unfold z2h;cases ((wAt l 0).toList==zn9.toList) with
   | true=>rfl
   | false=>
    cases ((wAt l 0).toList==zuz.toList) with
    | true=>rfl
    | false=>
     cases ((wAt l 0).toList==zmr.toList) <;> cases ((wAt l 0).toList==zjw.toList) <;> rfl
 ·simp [R.get] at h
open Go Go.Proofs
def z0q (N:Nat):Env:=mkE [(42,zce),(41,ze1),(44,z5n),(43,z2j),(45,z5u)] [(18,⟨[2,4,6,75,76,77],[2,500],[⟨.tmp 6,500,9,false,[.str]⟩]⟩)] 100 N
abbrev z2f (s4:ByteArray) (n6 n75:Nat) (x76 x77 xo2_0 xo2_1 xo2_2 xo2_3 xo2_4 xo2_5 xo2_6 xo2_7 xo2_8 xo2_9 xo2_10 xo2_11 xo2_12 xo2_13 xo2_14:Int) (bo2_15:Bool) (xo2_16:Int) (lo500:List IV):St:=⟨[(2,(.ptr 2 0 0)),(4,(.str s4)),(6,(.row 500 0 n6)),(75,(.bview 2 2 5 2 n75)),(76,(.int .i64 x76)),(77,(.int .i64 x77))],[(2,(some (.box [(.int .i64 xo2_0),(.int .i64 xo2_1),(.int .i64 xo2_2),(.int .i64 xo2_3),(.int .i64 xo2_4),(.int .i64 xo2_5),(.int .i64 xo2_6),(.int .i64 xo2_7),(.int .i64 xo2_8),(.int .i64 xo2_9),(.int .i64 xo2_10),(.int .i64 xo2_11),(.int .i64 xo2_12),(.int .i64 xo2_13),(.int .i64 xo2_14),(.bool bo2_15),(.int .i64 xo2_16)]))),(500,(some (.row true 9 false [.str] lo500)))]⟩
theorem zyq (N:Nat) (q_Kind q_Class q_Region_0_Lo q_Region_0_Hi q_Region_1_Lo q_Region_1_Hi q_Region_2_Lo q_Region_2_Hi q_Region_3_Lo q_Region_3_Hi q_Region_4_Lo q_Region_4_Hi q_Lo q_Hi q_Feature:Int) (q_Falls:Bool) (q_Budget a1:Int):z1c (z0q N) z2c [.tmp 4] [[.str]] [(.agg [(.int .i64 q_Kind),(.int .i64 q_Class),(.int .i64 q_Region_0_Lo),(.int .i64 q_Region_0_Hi),(.int .i64 q_Region_1_Lo),(.int .i64 q_Region_1_Hi),(.int .i64 q_Region_2_Lo),(.int .i64 q_Region_2_Hi),(.int .i64 q_Region_3_Lo),(.int .i64 q_Region_3_Hi),(.int .i64 q_Region_4_Lo),(.int .i64 q_Region_4_Hi),(.int .i64 q_Lo),(.int .i64 q_Hi),(.int .i64 q_Feature),(.bool q_Falls),(.int .i64 q_Budget)]),(.int .i64 a1)]=(cond (decide (a1 < 1)) (some ((.str ({data:=#[]})),[])) (cond (decide (a1 > 4)) (some ((.str ({data:=#[]})),[])) (cond (decide (0≤a1)&&decide (a1≤5)) (cond (! (q_Kind==Qy.k (zfn {k:=q_Kind,c:=q_Class,a0:=q_Region_0_Lo,b0:=q_Region_0_Hi,a1:=q_Region_1_Lo,b1:=q_Region_1_Hi,a2:=q_Region_2_Lo,b2:=q_Region_2_Hi,a3:=q_Region_3_Lo,b3:=q_Region_3_Hi,a4:=q_Region_4_Lo,b4:=q_Region_4_Hi,lo:=q_Lo,hi:=q_Hi,ft:=q_Feature,fl:=q_Falls,bu:=q_Budget} a1)&&(q_Class==Qy.c (zfn {k:=q_Kind,c:=q_Class,a0:=q_Region_0_Lo,b0:=q_Region_0_Hi,a1:=q_Region_1_Lo,b1:=q_Region_1_Hi,a2:=q_Region_2_Lo,b2:=q_Region_2_Hi,a3:=q_Region_3_Lo,b3:=q_Region_3_Hi,a4:=q_Region_4_Lo,b4:=q_Region_4_Hi,lo:=q_Lo,hi:=q_Hi,ft:=q_Feature,fl:=q_Falls,bu:=q_Budget} a1)&&(q_Region_0_Lo==Qy.a0 (zfn {k:=q_Kind,c:=q_Class,a0:=q_Region_0_Lo,b0:=q_Region_0_Hi,a1:=q_Region_1_Lo,b1:=q_Region_1_Hi,a2:=q_Region_2_Lo,b2:=q_Region_2_Hi,a3:=q_Region_3_Lo,b3:=q_Region_3_Hi,a4:=q_Region_4_Lo,b4:=q_Region_4_Hi,lo:=q_Lo,hi:=q_Hi,ft:=q_Feature,fl:=q_Falls,bu:=q_Budget} a1)&&(q_Region_0_Hi==Qy.b0 (zfn {k:=q_Kind,c:=q_Class,a0:=q_Region_0_Lo,b0:=q_Region_0_Hi,a1:=q_Region_1_Lo,b1:=q_Region_1_Hi,a2:=q_Region_2_Lo,b2:=q_Region_2_Hi,a3:=q_Region_3_Lo,b3:=q_Region_3_Hi,a4:=q_Region_4_Lo,b4:=q_Region_4_Hi,lo:=q_Lo,hi:=q_Hi,ft:=q_Feature,fl:=q_Falls,bu:=q_Budget} a1)&&(q_Region_1_Lo==Qy.a1 (zfn {k:=q_Kind,c:=q_Class,a0:=q_Region_0_Lo,b0:=q_Region_0_Hi,a1:=q_Region_1_Lo,b1:=q_Region_1_Hi,a2:=q_Region_2_Lo,b2:=q_Region_2_Hi,a3:=q_Region_3_Lo,b3:=q_Region_3_Hi,a4:=q_Region_4_Lo,b4:=q_Region_4_Hi,lo:=q_Lo,hi:=q_Hi,ft:=q_Feature,fl:=q_Falls,bu:=q_Budget} a1)&&(q_Region_1_Hi==Qy.b1 (zfn {k:=q_Kind,c:=q_Class,a0:=q_Region_0_Lo,b0:=q_Region_0_Hi,a1:=q_Region_1_Lo,b1:=q_Region_1_Hi,a2:=q_Region_2_Lo,b2:=q_Region_2_Hi,a3:=q_Region_3_Lo,b3:=q_Region_3_Hi,a4:=q_Region_4_Lo,b4:=q_Region_4_Hi,lo:=q_Lo,hi:=q_Hi,ft:=q_Feature,fl:=q_Falls,bu:=q_Budget} a1)&&(q_Region_2_Lo==Qy.a2 (zfn {k:=q_Kind,c:=q_Class,a0:=q_Region_0_Lo,b0:=q_Region_0_Hi,a1:=q_Region_1_Lo,b1:=q_Region_1_Hi,a2:=q_Region_2_Lo,b2:=q_Region_2_Hi,a3:=q_Region_3_Lo,b3:=q_Region_3_Hi,a4:=q_Region_4_Lo,b4:=q_Region_4_Hi,lo:=q_Lo,hi:=q_Hi,ft:=q_Feature,fl:=q_Falls,bu:=q_Budget} a1)&&(q_Region_2_Hi==Qy.b2 (zfn {k:=q_Kind,c:=q_Class,a0:=q_Region_0_Lo,b0:=q_Region_0_Hi,a1:=q_Region_1_Lo,b1:=q_Region_1_Hi,a2:=q_Region_2_Lo,b2:=q_Region_2_Hi,a3:=q_Region_3_Lo,b3:=q_Region_3_Hi,a4:=q_Region_4_Lo,b4:=q_Region_4_Hi,lo:=q_Lo,hi:=q_Hi,ft:=q_Feature,fl:=q_Falls,bu:=q_Budget} a1)&&(q_Region_3_Lo==Qy.a3 (zfn {k:=q_Kind,c:=q_Class,a0:=q_Region_0_Lo,b0:=q_Region_0_Hi,a1:=q_Region_1_Lo,b1:=q_Region_1_Hi,a2:=q_Region_2_Lo,b2:=q_Region_2_Hi,a3:=q_Region_3_Lo,b3:=q_Region_3_Hi,a4:=q_Region_4_Lo,b4:=q_Region_4_Hi,lo:=q_Lo,hi:=q_Hi,ft:=q_Feature,fl:=q_Falls,bu:=q_Budget} a1)&&(q_Region_3_Hi==Qy.b3 (zfn {k:=q_Kind,c:=q_Class,a0:=q_Region_0_Lo,b0:=q_Region_0_Hi,a1:=q_Region_1_Lo,b1:=q_Region_1_Hi,a2:=q_Region_2_Lo,b2:=q_Region_2_Hi,a3:=q_Region_3_Lo,b3:=q_Region_3_Hi,a4:=q_Region_4_Lo,b4:=q_Region_4_Hi,lo:=q_Lo,hi:=q_Hi,ft:=q_Feature,fl:=q_Falls,bu:=q_Budget} a1)&&(q_Region_4_Lo==Qy.a4 (zfn {k:=q_Kind,c:=q_Class,a0:=q_Region_0_Lo,b0:=q_Region_0_Hi,a1:=q_Region_1_Lo,b1:=q_Region_1_Hi,a2:=q_Region_2_Lo,b2:=q_Region_2_Hi,a3:=q_Region_3_Lo,b3:=q_Region_3_Hi,a4:=q_Region_4_Lo,b4:=q_Region_4_Hi,lo:=q_Lo,hi:=q_Hi,ft:=q_Feature,fl:=q_Falls,bu:=q_Budget} a1)&&(q_Region_4_Hi==Qy.b4 (zfn {k:=q_Kind,c:=q_Class,a0:=q_Region_0_Lo,b0:=q_Region_0_Hi,a1:=q_Region_1_Lo,b1:=q_Region_1_Hi,a2:=q_Region_2_Lo,b2:=q_Region_2_Hi,a3:=q_Region_3_Lo,b3:=q_Region_3_Hi,a4:=q_Region_4_Lo,b4:=q_Region_4_Hi,lo:=q_Lo,hi:=q_Hi,ft:=q_Feature,fl:=q_Falls,bu:=q_Budget} a1)&&(q_Lo==Qy.lo (zfn {k:=q_Kind,c:=q_Class,a0:=q_Region_0_Lo,b0:=q_Region_0_Hi,a1:=q_Region_1_Lo,b1:=q_Region_1_Hi,a2:=q_Region_2_Lo,b2:=q_Region_2_Hi,a3:=q_Region_3_Lo,b3:=q_Region_3_Hi,a4:=q_Region_4_Lo,b4:=q_Region_4_Hi,lo:=q_Lo,hi:=q_Hi,ft:=q_Feature,fl:=q_Falls,bu:=q_Budget} a1)&&(q_Hi==Qy.hi (zfn {k:=q_Kind,c:=q_Class,a0:=q_Region_0_Lo,b0:=q_Region_0_Hi,a1:=q_Region_1_Lo,b1:=q_Region_1_Hi,a2:=q_Region_2_Lo,b2:=q_Region_2_Hi,a3:=q_Region_3_Lo,b3:=q_Region_3_Hi,a4:=q_Region_4_Lo,b4:=q_Region_4_Hi,lo:=q_Lo,hi:=q_Hi,ft:=q_Feature,fl:=q_Falls,bu:=q_Budget} a1)&&(q_Feature==Qy.ft (zfn {k:=q_Kind,c:=q_Class,a0:=q_Region_0_Lo,b0:=q_Region_0_Hi,a1:=q_Region_1_Lo,b1:=q_Region_1_Hi,a2:=q_Region_2_Lo,b2:=q_Region_2_Hi,a3:=q_Region_3_Lo,b3:=q_Region_3_Hi,a4:=q_Region_4_Lo,b4:=q_Region_4_Hi,lo:=q_Lo,hi:=q_Hi,ft:=q_Feature,fl:=q_Falls,bu:=q_Budget} a1)&&(q_Falls==Qy.fl (zfn {k:=q_Kind,c:=q_Class,a0:=q_Region_0_Lo,b0:=q_Region_0_Hi,a1:=q_Region_1_Lo,b1:=q_Region_1_Hi,a2:=q_Region_2_Lo,b2:=q_Region_2_Hi,a3:=q_Region_3_Lo,b3:=q_Region_3_Hi,a4:=q_Region_4_Lo,b4:=q_Region_4_Hi,lo:=q_Lo,hi:=q_Hi,ft:=q_Feature,fl:=q_Falls,bu:=q_Budget} a1)&&(q_Budget==Qy.bu (zfn {k:=q_Kind,c:=q_Class,a0:=q_Region_0_Lo,b0:=q_Region_0_Hi,a1:=q_Region_1_Lo,b1:=q_Region_1_Hi,a2:=q_Region_2_Lo,b2:=q_Region_2_Hi,a3:=q_Region_3_Lo,b3:=q_Region_3_Hi,a4:=q_Region_4_Lo,b4:=q_Region_4_Hi,lo:=q_Lo,hi:=q_Hi,ft:=q_Feature,fl:=q_Falls,bu:=q_Budget} a1)&&true)))))))))))))))))) (some ((.str ({data:=#[]})),[])) (cond (!zhb q_Class) (some ((.str ({data:=#[]})),[])) (cond (!zhb q_Feature) (some ((.str ({data:=#[]})),[])) (cond (!zhb q_Budget) (some ((.str ({data:=#[]})),[])) (cond (q_Kind==1) (cond (decide (0≤a1)&&decide (a1≤ic 5)) (lpE (z0q N) (z0p z2c [1,1,1,1,1,1,0,1,0,0]) ⟨[2,4,6,75,76,77],[2,500],[⟨(.tmp 6),500,9,false,[.str]⟩]⟩ N (z2f ({data:=#[]}) 7 (Int.toNat a1) (ic (Int.toNat a1)) 0 q_Kind q_Class q_Region_0_Lo q_Region_0_Hi q_Region_1_Lo q_Region_1_Hi q_Region_2_Lo q_Region_2_Hi q_Region_3_Lo q_Region_3_Hi q_Region_4_Lo q_Region_4_Hi q_Lo q_Hi q_Feature q_Falls q_Budget [(IV.str {data:=#[114,97,110,103,101]}),(IV.str (z0i q_Class)),(IV.str {data:=#[102,114,111,109]}),(IV.str (z0b q_Lo)),(IV.str {data:=#[116,111]}),(IV.str (z0b q_Hi)),(IV.str {data:=#[105,110]})]) (z04 1 (kSq (z0q N) (z0p z2c [1,1,1,1,1,1,1]) (z3f (z0q N) none [(ResultVar.tmp 4)] [[.str]])))) none) (cond (q_Kind==2) (cond (decide (0≤a1)&&decide (a1≤ic 5)) (lpE (z0q N) (z0p z2c [1,1,1,1,1,1,0,1,0,0]) ⟨[2,4,6,75,76,77],[2,500],[⟨(.tmp 6),500,9,false,[.str]⟩]⟩ N (z2f ({data:=#[]}) 3 (Int.toNat a1) (ic (Int.toNat a1)) 0 q_Kind q_Class q_Region_0_Lo q_Region_0_Hi q_Region_1_Lo q_Region_1_Hi q_Region_2_Lo q_Region_2_Hi q_Region_3_Lo q_Region_3_Hi q_Region_4_Lo q_Region_4_Hi q_Lo q_Hi q_Feature q_Falls q_Budget [(IV.str {data:=#[98,101,115,116]}),(IV.str (z0i q_Class)),(IV.str {data:=#[105,110]})]) (z04 1 (kSq (z0q N) (z0p z2c [1,1,1,1,1,1,1]) (z3f (z0q N) none [(ResultVar.tmp 4)] [[.str]])))) none) (cond (q_Kind==3) (cond q_Falls (cond (decide (0≤a1)&&decide (a1≤ic 5)) (lpE (z0q N) (z0p z2c [1,1,1,1,1,1,0,1,0,0]) ⟨[2,4,6,75,76,77],[2,500],[⟨(.tmp 6),500,9,false,[.str]⟩]⟩ N (z2f ({data:=#[]}) 5 (Int.toNat a1) (ic (Int.toNat a1)) 0 q_Kind q_Class q_Region_0_Lo q_Region_0_Hi q_Region_1_Lo q_Region_1_Hi q_Region_2_Lo q_Region_2_Hi q_Region_3_Lo q_Region_3_Hi q_Region_4_Lo q_Region_4_Hi q_Lo q_Hi q_Feature q_Falls q_Budget [(IV.str {data:=#[102,97,108,108,115]}),(IV.str (z0i q_Class)),(IV.str {data:=#[98,121]}),(IV.str (z0i q_Feature)),(IV.str {data:=#[105,110]})]) (z04 1 (kSq (z0q N) (z0p z2c [1,1,1,1,1,1,1]) (z3f (z0q N) none [(ResultVar.tmp 4)] [[.str]])))) none) (cond (decide (0≤a1)&&decide (a1≤ic 5)) (lpE (z0q N) (z0p z2c [1,1,1,1,1,1,0,1,0,0]) ⟨[2,4,6,75,76,77],[2,500],[⟨(.tmp 6),500,9,false,[.str]⟩]⟩ N (z2f ({data:=#[]}) 5 (Int.toNat a1) (ic (Int.toNat a1)) 0 q_Kind q_Class q_Region_0_Lo q_Region_0_Hi q_Region_1_Lo q_Region_1_Hi q_Region_2_Lo q_Region_2_Hi q_Region_3_Lo q_Region_3_Hi q_Region_4_Lo q_Region_4_Hi q_Lo q_Hi q_Feature q_Falls q_Budget [(IV.str {data:=#[114,105,115,101,115]}),(IV.str (z0i q_Class)),(IV.str {data:=#[98,121]}),(IV.str (z0i q_Feature)),(IV.str {data:=#[105,110]})]) (z04 1 (kSq (z0q N) (z0p z2c [1,1,1,1,1,1,1]) (z3f (z0q N) none [(ResultVar.tmp 4)] [[.str]])))) none)) (some ((.str ({data:=#[]})),[]))))))))) none))):=by kernel_rfl
theorem zj4 (N:Nat) (s4:ByteArray) (n6 n75:Nat) (x76 x77 xo2_0 xo2_1 xo2_2 xo2_3 xo2_4 xo2_5 xo2_6 xo2_7 xo2_8 xo2_9 xo2_10 xo2_11 xo2_12 xo2_13 xo2_14:Int) (bo2_15:Bool) (xo2_16:Int) (lo500:List IV) (again:St→Res) (k:Out→St→Res):rnd (z0q N) (z0p z2c [1,1,1,1,1,1,0,1,0,0]) (z2f s4 n6 n75 x76 x77 xo2_0 xo2_1 xo2_2 xo2_3 xo2_4 xo2_5 xo2_6 xo2_7 xo2_8 xo2_9 xo2_10 xo2_11 xo2_12 xo2_13 xo2_14 bo2_15 xo2_16 lo500) (z4t again ⟨[2,4,6,75,76,77],[2,500],[⟨(.tmp 6),500,9,false,[.str]⟩]⟩ k)=(cond (decide (x77 < x76)) (cond (decide (x77 < ic n75)) (cond (decide (x77=ic 0)) (cond (decide (ByteArray.size (z0b xo2_2)+ByteArray.size {data:=#[46,46]}≤strMax)) (cond (decide (ByteArray.size (z0b xo2_2++{data:=#[46,46]})+ByteArray.size (z0b xo2_3)≤strMax)) (cond (decide ((n6+List.length (List.drop 0 (List.take 1 [IV.str (z0b xo2_2++{data:=#[46,46]}++z0b xo2_3)])))*TI.bytes (Env.tyd (z0q N) 9)≤z0e)) (again (z2f s4 (n6+List.length (List.drop 0 (List.take 1 [IV.str (z0b xo2_2++{data:=#[46,46]}++z0b xo2_3)]))) n75 x76 (IntKind.wrap IntKind.i64 (x77+1)) xo2_0 xo2_1 xo2_2 xo2_3 xo2_4 xo2_5 xo2_6 xo2_7 xo2_8 xo2_9 xo2_10 xo2_11 xo2_12 xo2_13 xo2_14 bo2_15 xo2_16 (List.take n6 lo500++List.drop 0 (List.take 1 [IV.str (z0b xo2_2++{data:=#[46,46]}++z0b xo2_3)])))) none) none) none) (cond (decide (x77=ic 1)) (cond (decide (ByteArray.size (z0b xo2_4)+ByteArray.size {data:=#[46,46]}≤strMax)) (cond (decide (ByteArray.size (z0b xo2_4++{data:=#[46,46]})+ByteArray.size (z0b xo2_5)≤strMax)) (cond (decide ((n6+List.length (List.drop 0 (List.take 1 [IV.str (z0b xo2_4++{data:=#[46,46]}++z0b xo2_5)])))*TI.bytes (Env.tyd (z0q N) 9)≤z0e)) (again (z2f s4 (n6+List.length (List.drop 0 (List.take 1 [IV.str (z0b xo2_4++{data:=#[46,46]}++z0b xo2_5)]))) n75 x76 (IntKind.wrap IntKind.i64 (x77+1)) xo2_0 xo2_1 xo2_2 xo2_3 xo2_4 xo2_5 xo2_6 xo2_7 xo2_8 xo2_9 xo2_10 xo2_11 xo2_12 xo2_13 xo2_14 bo2_15 xo2_16 (List.take n6 lo500++List.drop 0 (List.take 1 [IV.str (z0b xo2_4++{data:=#[46,46]}++z0b xo2_5)])))) none) none) none) (cond (decide (x77=ic 2)) (cond (decide (ByteArray.size (z0b xo2_6)+ByteArray.size {data:=#[46,46]}≤strMax)) (cond (decide (ByteArray.size (z0b xo2_6++{data:=#[46,46]})+ByteArray.size (z0b xo2_7)≤strMax)) (cond (decide ((n6+List.length (List.drop 0 (List.take 1 [IV.str (z0b xo2_6++{data:=#[46,46]}++z0b xo2_7)])))*TI.bytes (Env.tyd (z0q N) 9)≤z0e)) (again (z2f s4 (n6+List.length (List.drop 0 (List.take 1 [IV.str (z0b xo2_6++{data:=#[46,46]}++z0b xo2_7)]))) n75 x76 (IntKind.wrap IntKind.i64 (x77+1)) xo2_0 xo2_1 xo2_2 xo2_3 xo2_4 xo2_5 xo2_6 xo2_7 xo2_8 xo2_9 xo2_10 xo2_11 xo2_12 xo2_13 xo2_14 bo2_15 xo2_16 (List.take n6 lo500++List.drop 0 (List.take 1 [IV.str (z0b xo2_6++{data:=#[46,46]}++z0b xo2_7)])))) none) none) none) (cond (decide (x77=ic 3)) (cond (decide (ByteArray.size (z0b xo2_8)+ByteArray.size {data:=#[46,46]}≤strMax)) (cond (decide (ByteArray.size (z0b xo2_8++{data:=#[46,46]})+ByteArray.size (z0b xo2_9)≤strMax)) (cond (decide ((n6+List.length (List.drop 0 (List.take 1 [IV.str (z0b xo2_8++{data:=#[46,46]}++z0b xo2_9)])))*TI.bytes (Env.tyd (z0q N) 9)≤z0e)) (again (z2f s4 (n6+List.length (List.drop 0 (List.take 1 [IV.str (z0b xo2_8++{data:=#[46,46]}++z0b xo2_9)]))) n75 x76 (IntKind.wrap IntKind.i64 (x77+1)) xo2_0 xo2_1 xo2_2 xo2_3 xo2_4 xo2_5 xo2_6 xo2_7 xo2_8 xo2_9 xo2_10 xo2_11 xo2_12 xo2_13 xo2_14 bo2_15 xo2_16 (List.take n6 lo500++List.drop 0 (List.take 1 [IV.str (z0b xo2_8++{data:=#[46,46]}++z0b xo2_9)])))) none) none) none) (cond (decide (x77=ic 4)) (cond (decide (ByteArray.size (z0b xo2_10)+ByteArray.size {data:=#[46,46]}≤strMax)) (cond (decide (ByteArray.size (z0b xo2_10++{data:=#[46,46]})+ByteArray.size (z0b xo2_11)≤strMax)) (cond (decide ((n6+List.length (List.drop 0 (List.take 1 [IV.str (z0b xo2_10++{data:=#[46,46]}++z0b xo2_11)])))*TI.bytes (Env.tyd (z0q N) 9)≤z0e)) (again (z2f s4 (n6+List.length (List.drop 0 (List.take 1 [IV.str (z0b xo2_10++{data:=#[46,46]}++z0b xo2_11)]))) n75 x76 (IntKind.wrap IntKind.i64 (x77+1)) xo2_0 xo2_1 xo2_2 xo2_3 xo2_4 xo2_5 xo2_6 xo2_7 xo2_8 xo2_9 xo2_10 xo2_11 xo2_12 xo2_13 xo2_14 bo2_15 xo2_16 (List.take n6 lo500++List.drop 0 (List.take 1 [IV.str (z0b xo2_10++{data:=#[46,46]}++z0b xo2_11)])))) none) none) none) none))))) none) (k (.exit 1) (z2f s4 n6 n75 x76 x77 xo2_0 xo2_1 xo2_2 xo2_3 xo2_4 xo2_5 xo2_6 xo2_7 xo2_8 xo2_9 xo2_10 xo2_11 xo2_12 xo2_13 xo2_14 bo2_15 xo2_16 lo500))):=by kernel_rfl
theorem zot (N:Nat) (s4:ByteArray) (n6 n75:Nat) (x76 x77 xo2_0 xo2_1 xo2_2 xo2_3 xo2_4 xo2_5 xo2_6 xo2_7 xo2_8 xo2_9 xo2_10 xo2_11 xo2_12 xo2_13 xo2_14:Int) (bo2_15:Bool) (xo2_16:Int) (lo500:List IV):(z04 1 (kSq (z0q N) (z0p z2c [1,1,1,1,1,1,1]) (z3f (z0q N) none [(ResultVar.tmp 4)] [[.str]]))) (.exit 1) (z2f s4 n6 n75 x76 x77 xo2_0 xo2_1 xo2_2 xo2_3 xo2_4 xo2_5 xo2_6 xo2_7 xo2_8 xo2_9 xo2_10 xo2_11 xo2_12 xo2_13 xo2_14 bo2_15 xo2_16 lo500)=(cond (decide ((n6+List.length (List.drop 0 (List.take 2 [IV.str {data:=#[98,117,100,103,101,116]},IV.str (z0i xo2_16)])))*TI.bytes (Env.tyd (z0q N) 9)≤z0e)) (cond (decide (List.length (List.drop 0 (List.take (n6+List.length (List.drop 0 (List.take 2 [IV.str {data:=#[98,117,100,103,101,116]},IV.str (z0i xo2_16)]))) (List.take n6 lo500++List.drop 0 (List.take 2 [IV.str {data:=#[98,117,100,103,101,116]},IV.str (z0i xo2_16)]))))≤strMax)&&decide (ByteArray.size (z9n (List.map IV.toStr (List.drop 0 (List.take (n6+List.length (List.drop 0 (List.take 2 [IV.str {data:=#[98,117,100,103,101,116]},IV.str (z0i xo2_16)]))) (List.take n6 lo500++List.drop 0 (List.take 2 [IV.str {data:=#[98,117,100,103,101,116]},IV.str (z0i xo2_16)]))))) {data:=#[32]})≤strMax)) (some ((.str (z9n (List.map IV.toStr (List.drop 0 (List.take (n6+List.length (List.drop 0 (List.take 2 [IV.str {data:=#[98,117,100,103,101,116]},IV.str (z0i xo2_16)]))) (List.take n6 lo500++List.drop 0 (List.take 2 [IV.str {data:=#[98,117,100,103,101,116]},IV.str (z0i xo2_16)]))))) {data:=#[32]})),[])) none) none):=by kernel_rfl
open Go
theorem y8g (l:List ByteArray) (h:∀ w∈l,w.size≤100):(z9n l z42).size≤101*l.length:=by
 have hs:(z9n l z42).size=(Lib.join (l.map (·.data.toList)) [32]).length:=by
  show (Array.size (List.toArray _))=_;rw [List.size_toArray]
 rw [hs];cases l with
 | nil=>simp [Lib.join_nil]
 | cons x r=>
  rw [List.map_cons,Lib.join_length]
  have:∀ (r:List ByteArray),(∀ w∈r,w.size≤100)→Lib.lens (r.map (·.data.toList))≤100*r.length:=fun r=>by
   induction r with
   | nil=>intro _; simp [Lib.lens]
   | cons y r ih=>
    intro h;have h1:=h y (List.mem_cons_self ..);rw [zfc] at h1;have h2:=ih (fun w hw=>h w (List.mem_cons_of_mem _ hw))
    rw [List.map_cons,List.length_cons];simp only [Lib.lens,List.map_cons,List.sum_cons] at h2 ⊢
    omega
  have:=this (x :: r) h
  rw [List.map_cons] at this;simp only [List.length_cons,List.length_map,List.length_nil] at this ⊢
  omega
theorem y7u {a b:Int} (ha:InR a) (hb:InR b):(y7w a b).size≤82:=by
 unfold y7w;have h1:=(zdr a ha).2;have h2:=(zdr b hb).2;have h3:ByteArray.size y5k=2:=rfl;rw [ByteArray.size_append,ByteArray.size_append,h3];omega
theorem y61 {n:Int} (h:InR n):(z0i n).size≤21:=ze4 h.1 h.2
structure Qy.In (q:Qy):Prop where
 k:InR q.k
 c:InR q.c
 a0:InR q.a0
 b0:InR q.b0
 a1:InR q.a1
 b1:InR q.b1
 a2:InR q.a2
 b2:InR q.b2
 a3:InR q.a3
 b3:InR q.b3
 a4:InR q.a4
 b4:InR q.b4
 lo:InR q.lo
 hi:InR q.hi
 ft:InR q.ft
 bu:InR q.bu
open Go Go.Proofs
abbrev yhz (q:Qy):Ob:=.box [.int .i64 q.k,.int .i64 q.c,.int .i64 q.a0,.int .i64 q.b0,.int .i64 q.a1,.int .i64 q.b1,.int .i64 q.a2,.int .i64 q.b2,.int .i64 q.a3,.int .i64 q.b3,.int .i64 q.a4,.int .i64 q.b4,.int .i64 q.lo,.int .i64 q.hi,.int .i64 q.ft,.bool q.fl,.int .i64 q.bu]
abbrev stP (q:Qy) (s4:ByteArray) (W:List IV) (D:Nat) (i:Int):St:=⟨[(2,(.ptr 2 0 0)),(4,(.str s4)),(6,(.row 500 0 W.length)),(75,(.bview 2 2 5 2 D)),(76,(.int .i64 (ic D))),(77,(.int .i64 i))],[(2,(some (yhz q))),(500,(some (.row true 9 false [.str] W)))]⟩
theorem zyn (N:Nat):TI.bytes (Env.tyd (z0q N) 9)=16:=by rfl
theorem y7g (N:Nat) (q:Qy) (hq:q.In) (s4:ByteArray) (W:List IV) (hW:W.length≤20) (hs:∀ w∈W,w.toStr.size≤100) (D:Nat) (i:Int) :
  (z04 1 (kSq (z0q N) (z0p z2c [1,1,1,1,1,1,1]) (z3f (z0q N) none [(ResultVar.tmp 4)] [[.str]]))) (.exit 1) (stP q s4 W D i)=some (.str (z9n (W.map IV.toStr++[zeq,z0i q.bu]) z42),[]):=by
 refine (zot N s4 W.length D (ic D) i q.k q.c q.a0 q.b0 q.a1 q.b1 q.a2 q.b2 q.a3 q.b3 q.a4 q.b4 q.lo q.hi q.ft q.fl q.bu W).trans ?_;have e2:(List.drop 0 (List.take 2 [IV.str { data:=#[98,117,100,103,101,116] },IV.str (z0i q.bu)]))=[IV.str { data:=#[98,117,100,103,101,116] },IV.str (z0i q.bu)]:=rfl;rw [zyn,e2,List.take_length];have e3:List.drop 0 (List.take (W.length+List.length [IV.str { data:=#[98,117,100,103,101,116] },IV.str (z0i q.bu)]) (W++[IV.str { data:=#[98,117,100,103,101,116] },IV.str (z0i q.bu)]))=W++[IV.str { data:=#[98,117,100,103,101,116] },IV.str (z0i q.bu)]:=by
  rw [List.drop_zero,List.take_of_length_le (by simp)]
 rw [e3];have e4:List.map IV.toStr (W++[IV.str { data:=#[98,117,100,103,101,116] },IV.str (z0i q.bu)])=W.map IV.toStr++[zeq,z0i q.bu]:=by simp [IV.toStr]
 rw [e4];have hz:=y8g (W.map IV.toStr++[zeq,z0i q.bu]) (fun w hw=>by
  rcases List.mem_append.1 hw with h | h
  ·obtain ⟨x,hx,rfl⟩:=List.mem_map.1 h
   exact hs x hx
  ·simp only [List.mem_cons,List.not_mem_nil,or_false] at h
   rcases h with rfl | rfl
   ·decide
   ·have:=y61 hq.bu
    omega)
 simp only [List.length_append,List.length_map,List.length_cons,List.length_nil] at hz ⊢
 rw [decide_eq_true (show (W.length+(0+1+1))*16≤z0e by unfold z0e; omega),z00,decide_eq_true (show W.length+(0+1+1)≤strMax by unfold strMax; omega),
  decide_eq_true (show ByteArray.size (z9n (W.map IV.toStr++[zeq,z0i q.bu]) { data:=#[32] })≤strMax from Nat.le_trans hz (by unfold strMax; omega)),Bool.and_true,z00]
def yh7 (a b:Int):IV:=.str (y7w a b)
theorem y2f (N:Nat) (q:Qy) (s4:ByteArray) (W:List IV) (hW:W.length≤20) (D i:Nat) (hiD:i < D) (a b:Int) (again:St→Res) (k:Out→St→Res) (ha:InR a) (hb:InR b)
  (hab:(i=0∧a=q.a0∧b=q.b0)∨(i=1∧a=q.a1∧b=q.b1)∨(i=2∧a=q.a2∧b=q.b2)∨(i=3∧a=q.a3∧b=q.b3)) :
  rnd (z0q N) (z0p z2c [1,1,1,1,1,1,0,1,0,0]) (stP q s4 W D (i:Int)) (z4t again ⟨[2,4,6,75,76,77],[2,500],[⟨.tmp 6,500,9,false,[.str]⟩]⟩ k)=again (stP q s4 (W++[yh7 a b]) D ((i+1:Nat):Int)):=by
 refine (zj4 N s4 W.length D (ic D) i q.k q.c q.a0 q.b0 q.a1 q.b1 q.a2 q.b2 q.a3 q.b3 q.a4 q.b4 q.lo q.hi q.ft q.fl q.bu W again k).trans ?_;have d1:decide ((i:Int) < ic D)=true:=decide_eq_true (by simp only [ic]; omega)
 rw [d1,z00,z00];have h3:ByteArray.size { data:=#[46,46] }=2:=rfl;have sz:∀ x y:Int,InR x→InR y→decide (ByteArray.size (z0b x)+ByteArray.size { data:=#[46,46] }≤strMax)=true∧decide (ByteArray.size (z0b x++{ data:=#[46,46] })+ByteArray.size (z0b y)≤strMax)=true:=fun x y hx hy=>by
  have h1:=(zdr x hx).2;have h2:=(zdr y hy).2;refine ⟨decide_eq_true (by rw [h3]; unfold strMax; omega),decide_eq_true (by rw [ByteArray.size_append,h3]; unfold strMax; omega)⟩
 have e1:∀ x:IV,(List.drop 0 (List.take 1 [x]))=[x]:=fun _=>rfl
 have g16:∀ x:IV,decide ((W.length+List.length [x])*TI.bytes (Env.tyd (z0q N) 9)≤z0e)=true:=fun x=>decide_eq_true (by rw [zyn]; simp only [List.length_cons,List.length_nil]; unfold z0e; omega)
 have hl:∀ x:IV,W.length+List.length [x]=(W++[x]).length:=fun x=>by simp
 obtain ⟨s1,s2⟩:=sz a b ha hb;simp only [e1,g16,z00,List.take_length];rcases hab with ⟨rfl,rfl,rfl⟩ | ⟨rfl,rfl,rfl⟩ | ⟨rfl,rfl,rfl⟩ | ⟨rfl,rfl,rfl⟩
 ·rw [s1,s2,show decide (((0:Nat):Int)=ic 0)=true from rfl,z00,z00,z00,hl]
  rfl
 ·rw [s1,s2,show decide (((1:Nat):Int)=ic 0)=false from rfl,show decide (((1:Nat):Int)=ic 1)=true from rfl,z02,z00,z00,z00,hl]
  rfl
 ·rw [s1,s2,show decide (((2:Nat):Int)=ic 0)=false from rfl,show decide (((2:Nat):Int)=ic 1)=false from rfl,show decide (((2:Nat):Int)=ic 2)=true from rfl,z02,z02,z00,z00,z00,hl]
  rfl
 ·rw [s1,s2,show decide (((3:Nat):Int)=ic 0)=false from rfl,show decide (((3:Nat):Int)=ic 1)=false from rfl,show decide (((3:Nat):Int)=ic 2)=false from rfl,show decide (((3:Nat):Int)=ic 3)=true from rfl,z02,z02,z02,z00,z00,z00,hl]
  rfl
theorem y09 (N:Nat) (q:Qy) (hq:q.In) (s4:ByteArray) (D:Nat) (hD:D≤4) :
  ∀ (d i n:Nat) (W:List IV),i+d=D→d < n→W.length+d≤20→(∀ w∈W,w.toStr.size≤100) →
   lpE (z0q N) (z0p z2c [1,1,1,1,1,1,0,1,0,0]) ⟨[2,4,6,75,76,77],[2,500],[⟨.tmp 6,500,9,false,[.str]⟩]⟩ n (stP q s4 W D (i:Int)) (z04 1 (kSq (z0q N) (z0p z2c [1,1,1,1,1,1,1]) (z3f (z0q N) none [(ResultVar.tmp 4)] [[.str]]))) =
    some (.str (z9n (W.map IV.toStr++(((q.spans.take D).drop i).map fun s=>y7w s.1 s.2)++[zeq,z0i q.bu]) z42),[])
 | 0,i,n+1,W,hd,hn,hW,hs=>by
  have hi:i=D:=by omega
  rw [z05];refine (zj4 N s4 W.length D (ic D) i q.k q.c q.a0 q.b0 q.a1 q.b1 q.a2 q.b2 q.a3 q.b3 q.a4 q.b4 q.lo q.hi q.ft q.fl q.bu W _ _).trans ?_;rw [decide_eq_false (show ¬ (i:Int) < ic D by simp only [ic]; omega),z02]
  refine (y7g N q hq s4 W (by omega) hs D i).trans ?_
  rw [List.drop_of_length_le (by rw [List.length_take]; omega)]
  simp
 | d+1,i,n+1,W,hd,hn,hW,hs=>by
  obtain ⟨a,b,ha,hb,hab,hsp⟩:∃ a b,InR a∧InR b∧((i=0∧a=q.a0∧b=q.b0)∨(i=1∧a=q.a1∧b=q.b1)∨(i=2∧a=q.a2∧b=q.b2)∨(i=3∧a=q.a3∧b=q.b3))∧(q.spans.take D).drop i=(a,b) :: (q.spans.take D).drop (i+1):=by
   have hi:i=0∨i=1∨i=2∨i=3:=by omega
   have hDD:D=0∨D=1∨D=2∨D=3∨D=4:=by omega
   rcases hi with rfl | rfl | rfl | rfl
   ·exact ⟨q.a0,q.b0,hq.a0,hq.b0,.inl ⟨rfl,rfl,rfl⟩,by rcases hDD with rfl | rfl | rfl | rfl | rfl <;> first | rfl | omega⟩
   ·exact ⟨q.a1,q.b1,hq.a1,hq.b1,.inr (.inl ⟨rfl,rfl,rfl⟩),by rcases hDD with rfl | rfl | rfl | rfl | rfl <;> first | rfl | omega⟩
   ·exact ⟨q.a2,q.b2,hq.a2,hq.b2,.inr (.inr (.inl ⟨rfl,rfl,rfl⟩)),by rcases hDD with rfl | rfl | rfl | rfl | rfl <;> first | rfl | omega⟩
   ·exact ⟨q.a3,q.b3,hq.a3,hq.b3,.inr (.inr (.inr ⟨rfl,rfl,rfl⟩)),by rcases hDD with rfl | rfl | rfl | rfl | rfl <;> first | rfl | omega⟩
  rw [z05,y2f N q s4 W (by omega) D i (by omega) a b _ _ ha hb hab,hsp]
  have ih:=y09 N q hq s4 D hD d (i+1) n (W++[yh7 a b]) (by omega) (by omega) (by simp only [List.length_append,List.length_cons,List.length_nil]; omega) (fun w hw=>by
   rcases List.mem_append.1 hw with h | h
   ·exact hs w h
   ·rw [List.mem_singleton] at h
    subst h
    have:=y7u ha hb
    simp only [yh7,IV.toStr];omega)
  refine ih.trans ?_;simp [yh7,IV.toStr]
 | _,_,0,_,_,h,_,_=>by omega
set_option maxRecDepth 100000 in
theorem zwy:z3c PR B0 18 zbz:=by
 refine z0m [(42,zce),(41,ze1),(44,z5n),(43,z2j),(45,z5u)] [(18,⟨[2,4,6,75,76,77],[2,500],[⟨.tmp 6,500,9,false,[.str]⟩]⟩)] zbz [[.str]] Tryz.func18 y44
  ⟨zwq,y06,zf1,z7u,zfy,trivial⟩ ?_
 intro vs r hwf h;unfold zbz at h
 split at h
 ·rename_i k c a0 b0 a1 b1 a2 b2 a3 b3 a4 b4 lo hi ft fl bu d
  refine ⟨20,?_⟩;rw [R.get_ok] at h;rw [← h];refine (zyq 20 k c a0 b0 a1 b1 a2 b2 a3 b3 a4 b4 lo hi ft fl bu d).trans ?_;have hb:=hwf (by simp [zcl])
  have hq:Qy.In ⟨k,c,a0,b0,a1,b1,a2,b2,a3,b3,a4,b4,lo,hi,ft,fl,bu⟩:=by
   have:=hb.1
   simp only [wfV,wfLs,wfL,and_true,true_and] at this;obtain ⟨h1,h2,h3,h4,h5,h6,h7,h8,h9,h10,h11,h12,h13,h14,h15,h16⟩:=this;exact ⟨h1,h2,h3,h4,h5,h6,h7,h8,h9,h10,h11,h12,h13,h14,h15,h16⟩
  show cond (decide (d < 1)) _ (cond (decide (d > 4)) _ (cond _ (cond (!(Qy.eq ⟨k,c,a0,b0,a1,b1,a2,b2,a3,b3,a4,b4,lo,hi,ft,fl,bu⟩ (zfn ⟨k,c,a0,b0,a1,b1,a2,b2,a3,b3,a4,b4,lo,hi,ft,fl,bu⟩ d))) _ _) _))=_;generalize hQ:(⟨k,c,a0,b0,a1,b1,a2,b2,a3,b3,a4,b4,lo,hi,ft,fl,bu⟩:Qy)=q at hq ⊢
  unfold y1h okQ;cases h1:decide (d < 1) with
  | true=>simp only [z00,z02,Bool.not_true,Bool.false_and]
  | false=>
   cases h4:decide (d > 4) with
   | true=>simp only [z00,z02,Bool.not_true,Bool.not_false,Bool.false_and,Bool.and_false]
   | false=>
    have h1:=of_decide_eq_false h1;have h4:=of_decide_eq_false h4;rw [decide_eq_true (show 0≤d by omega),decide_eq_true (show d≤5 by omega),decide_eq_true (show d≤ic 5 by simp only [ic]; omega)]
    simp only [Bool.and_true,z00,z02,Bool.not_false,Bool.true_and];cases he:q.eq (zfn q d) with
    | false=>simp only [Bool.not_false,z00,z02,Bool.false_and]
    | true=>
     have ec:q.c=c:=by rw [← hQ]
     have ef:q.ft=ft:=by rw [← hQ]
     have eb:q.bu=bu:=by rw [← hQ]
     have ek:q.k=k:=by rw [← hQ]
     rw [ec,ef,eb,ek];cases hc:zhb c with
     | false=>simp only [Bool.not_true,Bool.not_false,z00,z02,Bool.false_and,Bool.true_and]
     | true=>
      cases hf:zhb ft with
      | false=>simp only [Bool.not_true,Bool.not_false,z00,z02,Bool.false_and,Bool.true_and]
      | true=>
       cases hbu:zhb bu with
       | false=>simp only [Bool.not_true,Bool.not_false,z00,z02,Bool.false_and,Bool.true_and]
       | true=>
        simp only [Bool.not_true,z02,Bool.true_and];have hDn:d.toNat≤4:=by omega
        have run:=fun (W:List IV) (hW:W.length≤16) (hs:∀ w∈W,w.toStr.size≤100)=>y09 20 q hq ⟨#[]⟩ d.toNat hDn d.toNat 0 20 W (by omega) (by omega) (by omega) hs
        have zi:∀ {n:Int},InR n→(z0i n).size≤100:=fun h=>by have:=y61 h; omega
        have zp:∀ {n:Int},InR n→(z0b n).size≤100:=fun h=>by have:=(zdr _ h).2; omega
        have fin:∀ (W:List IV) (l:List ByteArray),W.map IV.toStr=l++[yd6]→y6q q=l→z9n (W.map IV.toStr++(((q.spans.take d.toNat).drop 0).map fun s=>y7w s.1 s.2)++[zeq,z0i q.bu]) z42=z9n (yaa q d.toNat) z42:=fun W l hWl hl=>by
         unfold yaa;rw [hWl,hl,List.drop_zero];simp
        subst hQ;cases k1:(k==1) with
        | true=>
         simp only [z00,Bool.true_or];refine (run [IV.str zn9,IV.str (z0i c),IV.str yam,IV.str (z0b lo),IV.str yhn,IV.str (z0b hi),IV.str yd6] (by simp) (fun w hw=>?_)).trans ?_
         ·simp only [List.mem_cons,List.not_mem_nil,or_false] at hw
          rcases hw with rfl | rfl | rfl | rfl | rfl | rfl | rfl
          ·decide
          ·exact zi hq.c
          ·decide
          ·exact zp hq.lo
          ·decide
          ·exact zp hq.hi
          ·decide
         ·rw [fin _ [zn9,z0i c,yam,z0b lo,yhn,z0b hi] rfl (by unfold y6q; simp only [k1,z00])]
        | false=>
         simp only [z02,Bool.false_or];cases k2:(k==2) with
         | true=>
          simp only [z00,Bool.true_or];refine (run [IV.str zuz,IV.str (z0i c),IV.str yd6] (by simp) (fun w hw=>?_)).trans ?_
          ·simp only [List.mem_cons,List.not_mem_nil,or_false] at hw
           rcases hw with rfl | rfl | rfl
           ·decide
           ·exact zi hq.c
           ·decide
          ·rw [fin _ [zuz,z0i c] rfl (by unfold y6q; simp only [k1,k2,z00,z02])]
         | false=>
          simp only [z02,Bool.false_or];cases k3:(k==3) with
          | false=>simp only [z02]
          | true=>
           simp only [z00];cases fl with
           | true=>
            simp only [z00];refine (run [IV.str zjw,IV.str (z0i c),IV.str yg9,IV.str (z0i ft),IV.str yd6] (by simp) (fun w hw=>?_)).trans ?_
            ·simp only [List.mem_cons,List.not_mem_nil,or_false] at hw
             rcases hw with rfl | rfl | rfl | rfl | rfl
             ·decide
             ·exact zi hq.c
             ·decide
             ·exact zi hq.ft
             ·decide
            ·rw [fin _ [zjw,z0i c,yg9,z0i ft] rfl (by unfold y6q; simp only [k1,k2,z00,z02])]
           | false=>
            simp only [z02];refine (run [IV.str zmr,IV.str (z0i c),IV.str yg9,IV.str (z0i ft),IV.str yd6] (by simp) (fun w hw=>?_)).trans ?_
            ·simp only [List.mem_cons,List.not_mem_nil,or_false] at hw
             rcases hw with rfl | rfl | rfl | rfl | rfl
             ·decide
             ·exact zi hq.c
             ·decide
             ·exact zi hq.ft
             ·decide
            ·rw [fin _ [zmr,z0i c,yg9,z0i ft] rfl (by unfold y6q; simp only [k1,k2,z02])]
 ·simp [R.get] at h
open Go Go.Proofs
def z43 (N:Nat):Env:=mkE [(18,zbz),(121,z7y),(119,ze5),(120,z9s),(118,z23),(104,z4e),(46,z1a)] [(9,⟨[0,2,3,4,5,7,8,9,45,46,47],[2,9],[]⟩)] 82 N
abbrev z3j (s0:ByteArray) (x3:Int) (b4:Bool) (l5:List IV) (x7 x8:Int) (l45:List IV) (x46 x47 xo2_0 xo2_1 xo2_2 xo2_3 xo2_4 xo2_5 xo2_6 xo2_7 xo2_8 xo2_9 xo2_10 xo2_11 xo2_12 xo2_13 xo2_14:Int) (bo2_15:Bool) (xo2_16 xo9_0 xo9_1 xo9_2 xo9_3 xo9_4 xo9_5 xo9_6 xo9_7 xo9_8 xo9_9 xo9_10 xo9_11 xo9_12 xo9_13 xo9_14:Int) (bo9_15:Bool) (xo9_16:Int):St:=⟨[(0,(.str s0)),(2,(.ptr 2 0 0)),(3,(.int .i64 x3)),(4,(.bool b4)),(5,(.list false [.str] l5)),(7,(.int .i64 x7)),(8,(.int .i64 x8)),(9,(.ptr 9 0 0)),(45,(.list false [.str] l45)),(46,(.int .i64 x46)),(47,(.int .i64 x47))],[(2,(some (.box [(.int .i64 xo2_0),(.int .i64 xo2_1),(.int .i64 xo2_2),(.int .i64 xo2_3),(.int .i64 xo2_4),(.int .i64 xo2_5),(.int .i64 xo2_6),(.int .i64 xo2_7),(.int .i64 xo2_8),(.int .i64 xo2_9),(.int .i64 xo2_10),(.int .i64 xo2_11),(.int .i64 xo2_12),(.int .i64 xo2_13),(.int .i64 xo2_14),(.bool bo2_15),(.int .i64 xo2_16)]))),(9,(some (.box [(.int .i64 xo9_0),(.int .i64 xo9_1),(.int .i64 xo9_2),(.int .i64 xo9_3),(.int .i64 xo9_4),(.int .i64 xo9_5),(.int .i64 xo9_6),(.int .i64 xo9_7),(.int .i64 xo9_8),(.int .i64 xo9_9),(.int .i64 xo9_10),(.int .i64 xo9_11),(.int .i64 xo9_12),(.int .i64 xo9_13),(.int .i64 xo9_14),(.bool bo9_15),(.int .i64 xo9_16)])))]⟩
theorem zzu (N:Nat) (s:ByteArray):z1c (z43 N) z5c [.cell 2 38,.tmp 3,.tmp 4] [[.int .i64,.int .i64,.int .i64,.int .i64,.int .i64,.int .i64,.int .i64,.int .i64,.int .i64,.int .i64,.int .i64,.int .i64,.int .i64,.int .i64,.int .i64,.bool,.int .i64],[.int .i64],[.bool]] [(.str s)]=(cond (decide (ByteArray.size s < 4294967281)&&decide (1≤ByteArray.size {data:=#[32]})) (cond (decide (zf5 (List.map IV.str (z09 s {data:=#[32]})) {data:=#[105,110]} 0 < 0)) (some ((.tup [(.agg [(.int .i64 0),(.int .i64 0),(.int .i64 0),(.int .i64 0),(.int .i64 0),(.int .i64 0),(.int .i64 0),(.int .i64 0),(.int .i64 0),(.int .i64 0),(.int .i64 0),(.int .i64 0),(.int .i64 0),(.int .i64 0),(.int .i64 0),(.bool false),(.int .i64 0)]),(.int .i64 0),(.bool false)]),[])) (cond (decide (IntKind.wrap IntKind.i64 (IntKind.wrap IntKind.i64 (IntKind.wrap IntKind.i64 (ic (List.length (List.map IV.str (z09 s {data:=#[32]}))) - 2) - zf5 (List.map IV.str (z09 s {data:=#[32]})) {data:=#[105,110]} 0) - 1) < 1)) (some ((.tup [(.agg [(.int .i64 0),(.int .i64 0),(.int .i64 0),(.int .i64 0),(.int .i64 0),(.int .i64 0),(.int .i64 0),(.int .i64 0),(.int .i64 0),(.int .i64 0),(.int .i64 0),(.int .i64 0),(.int .i64 0),(.int .i64 0),(.int .i64 0),(.bool false),(.int .i64 0)]),(.int .i64 0),(.bool false)]),[])) (cond (decide (IntKind.wrap IntKind.i64 (IntKind.wrap IntKind.i64 (IntKind.wrap IntKind.i64 (ic (List.length (List.map IV.str (z09 s {data:=#[32]}))) - 2) - zf5 (List.map IV.str (z09 s {data:=#[32]})) {data:=#[105,110]} 0) - 1) > 4)) (some ((.tup [(.agg [(.int .i64 0),(.int .i64 0),(.int .i64 0),(.int .i64 0),(.int .i64 0),(.int .i64 0),(.int .i64 0),(.int .i64 0),(.int .i64 0),(.int .i64 0),(.int .i64 0),(.int .i64 0),(.int .i64 0),(.int .i64 0),(.int .i64 0),(.bool false),(.int .i64 0)]),(.int .i64 0),(.bool false)]),[])) (cond (decide (0≤zf5 (List.map IV.str (z09 s {data:=#[32]})) {data:=#[105,110]} 0)&&decide (zf5 (List.map IV.str (z09 s {data:=#[32]})) {data:=#[105,110]} 0≤ic (List.length (List.map IV.str (z09 s {data:=#[32]}))))) (cond (decide (List.length (List.drop 0 (List.take (Int.toNat (zf5 (List.map IV.str (z09 s {data:=#[32]})) {data:=#[105,110]} 0)) (List.map IV.str (z09 s {data:=#[32]}))))≤4294967290)&&List.all (List.drop 0 (List.take (Int.toNat (zf5 (List.map IV.str (z09 s {data:=#[32]})) {data:=#[105,110]} 0)) (List.map IV.str (z09 s {data:=#[32]})))) fun x=>decide (ByteArray.size (IV.toStr x) < 4294967281)) (cond (decide (0≤IntKind.wrap IntKind.i64 (zf5 (List.map IV.str (z09 s {data:=#[32]})) {data:=#[105,110]} 0+1))&&(decide (IntKind.wrap IntKind.i64 (zf5 (List.map IV.str (z09 s {data:=#[32]})) {data:=#[105,110]} 0+1)≤IntKind.wrap IntKind.i64 (ic (List.length (List.map IV.str (z09 s {data:=#[32]}))) - 2))&&decide (IntKind.wrap IntKind.i64 (ic (List.length (List.map IV.str (z09 s {data:=#[32]}))) - 2)≤ic (List.length (List.map IV.str (z09 s {data:=#[32]})))))) (lpE (z43 N) (z0p z5c [1,1,1,1,1,1,1,0,1,0,0]) ⟨[0,2,3,4,5,7,8,9,45,46,47],[2,9],[]⟩ N (z3j s 0 false (List.map IV.str (z09 s {data:=#[32]})) (IntKind.wrap IntKind.i64 (ic (List.length (List.map IV.str (z09 s {data:=#[32]}))) - 2)) (IntKind.wrap IntKind.i64 (IntKind.wrap IntKind.i64 (IntKind.wrap IntKind.i64 (ic (List.length (List.map IV.str (z09 s {data:=#[32]}))) - 2) - zf5 (List.map IV.str (z09 s {data:=#[32]})) {data:=#[105,110]} 0) - 1)) (List.drop (Int.toNat (IntKind.wrap IntKind.i64 (zf5 (List.map IV.str (z09 s {data:=#[32]})) {data:=#[105,110]} 0+1))) (List.take (Int.toNat (IntKind.wrap IntKind.i64 (ic (List.length (List.map IV.str (z09 s {data:=#[32]}))) - 2))) (List.map IV.str (z09 s {data:=#[32]})))) (ic (List.length (List.drop (Int.toNat (IntKind.wrap IntKind.i64 (zf5 (List.map IV.str (z09 s {data:=#[32]})) {data:=#[105,110]} 0+1))) (List.take (Int.toNat (IntKind.wrap IntKind.i64 (ic (List.length (List.map IV.str (z09 s {data:=#[32]}))) - 2))) (List.map IV.str (z09 s {data:=#[32]})))))) 0 0 0 0 0 0 0 0 0 0 0 0 0 0 0 0 false 0 (Qy.k (z2h (List.drop 0 (List.take (Int.toNat (zf5 (List.map IV.str (z09 s {data:=#[32]})) {data:=#[105,110]} 0)) (List.map IV.str (z09 s {data:=#[32]})))))) (Qy.c (z2h (List.drop 0 (List.take (Int.toNat (zf5 (List.map IV.str (z09 s {data:=#[32]})) {data:=#[105,110]} 0)) (List.map IV.str (z09 s {data:=#[32]})))))) (Qy.a0 (z2h (List.drop 0 (List.take (Int.toNat (zf5 (List.map IV.str (z09 s {data:=#[32]})) {data:=#[105,110]} 0)) (List.map IV.str (z09 s {data:=#[32]})))))) (Qy.b0 (z2h (List.drop 0 (List.take (Int.toNat (zf5 (List.map IV.str (z09 s {data:=#[32]})) {data:=#[105,110]} 0)) (List.map IV.str (z09 s {data:=#[32]})))))) (Qy.a1 (z2h (List.drop 0 (List.take (Int.toNat (zf5 (List.map IV.str (z09 s {data:=#[32]})) {data:=#[105,110]} 0)) (List.map IV.str (z09 s {data:=#[32]})))))) (Qy.b1 (z2h (List.drop 0 (List.take (Int.toNat (zf5 (List.map IV.str (z09 s {data:=#[32]})) {data:=#[105,110]} 0)) (List.map IV.str (z09 s {data:=#[32]})))))) (Qy.a2 (z2h (List.drop 0 (List.take (Int.toNat (zf5 (List.map IV.str (z09 s {data:=#[32]})) {data:=#[105,110]} 0)) (List.map IV.str (z09 s {data:=#[32]})))))) (Qy.b2 (z2h (List.drop 0 (List.take (Int.toNat (zf5 (List.map IV.str (z09 s {data:=#[32]})) {data:=#[105,110]} 0)) (List.map IV.str (z09 s {data:=#[32]})))))) (Qy.a3 (z2h (List.drop 0 (List.take (Int.toNat (zf5 (List.map IV.str (z09 s {data:=#[32]})) {data:=#[105,110]} 0)) (List.map IV.str (z09 s {data:=#[32]})))))) (Qy.b3 (z2h (List.drop 0 (List.take (Int.toNat (zf5 (List.map IV.str (z09 s {data:=#[32]})) {data:=#[105,110]} 0)) (List.map IV.str (z09 s {data:=#[32]})))))) (Qy.a4 (z2h (List.drop 0 (List.take (Int.toNat (zf5 (List.map IV.str (z09 s {data:=#[32]})) {data:=#[105,110]} 0)) (List.map IV.str (z09 s {data:=#[32]})))))) (Qy.b4 (z2h (List.drop 0 (List.take (Int.toNat (zf5 (List.map IV.str (z09 s {data:=#[32]})) {data:=#[105,110]} 0)) (List.map IV.str (z09 s {data:=#[32]})))))) (Qy.lo (z2h (List.drop 0 (List.take (Int.toNat (zf5 (List.map IV.str (z09 s {data:=#[32]})) {data:=#[105,110]} 0)) (List.map IV.str (z09 s {data:=#[32]})))))) (Qy.hi (z2h (List.drop 0 (List.take (Int.toNat (zf5 (List.map IV.str (z09 s {data:=#[32]})) {data:=#[105,110]} 0)) (List.map IV.str (z09 s {data:=#[32]})))))) (Qy.ft (z2h (List.drop 0 (List.take (Int.toNat (zf5 (List.map IV.str (z09 s {data:=#[32]})) {data:=#[105,110]} 0)) (List.map IV.str (z09 s {data:=#[32]})))))) (Qy.fl (z2h (List.drop 0 (List.take (Int.toNat (zf5 (List.map IV.str (z09 s {data:=#[32]})) {data:=#[105,110]} 0)) (List.map IV.str (z09 s {data:=#[32]})))))) (Qy.bu (z2h (List.drop 0 (List.take (Int.toNat (zf5 (List.map IV.str (z09 s {data:=#[32]})) {data:=#[105,110]} 0)) (List.map IV.str (z09 s {data:=#[32]}))))))) (z04 0 (kSq (z43 N) (z0p z5c [1,1,1,1,1,1,1,1]) (z3f (z43 N) none [(ResultVar.cell 2 38),(ResultVar.tmp 3),(ResultVar.tmp 4)] [[(.int .i64),(.int .i64),(.int .i64),(.int .i64),(.int .i64),(.int .i64),(.int .i64),(.int .i64),(.int .i64),(.int .i64),(.int .i64),(.int .i64),(.int .i64),(.int .i64),(.int .i64),.bool,(.int .i64)],[(.int .i64)],[.bool]])))) none) none) none)))) none):=by kernel_rfl
theorem zil (N:Nat) (s0:ByteArray) (x3:Int) (b4:Bool) (l5:List IV) (x7 x8:Int) (l45:List IV) (x46 x47 xo2_0 xo2_1 xo2_2 xo2_3 xo2_4 xo2_5 xo2_6 xo2_7 xo2_8 xo2_9 xo2_10 xo2_11 xo2_12 xo2_13 xo2_14:Int) (bo2_15:Bool) (xo2_16 xo9_0 xo9_1 xo9_2 xo9_3 xo9_4 xo9_5 xo9_6 xo9_7 xo9_8 xo9_9 xo9_10 xo9_11 xo9_12 xo9_13 xo9_14:Int) (bo9_15:Bool) (xo9_16:Int) (again:St→Res) (k:Out→St→Res):rnd (z43 N) (z0p z5c [1,1,1,1,1,1,1,0,1,0,0]) (z3j s0 x3 b4 l5 x7 x8 l45 x46 x47 xo2_0 xo2_1 xo2_2 xo2_3 xo2_4 xo2_5 xo2_6 xo2_7 xo2_8 xo2_9 xo2_10 xo2_11 xo2_12 xo2_13 xo2_14 bo2_15 xo2_16 xo9_0 xo9_1 xo9_2 xo9_3 xo9_4 xo9_5 xo9_6 xo9_7 xo9_8 xo9_9 xo9_10 xo9_11 xo9_12 xo9_13 xo9_14 bo9_15 xo9_16) (z4t again ⟨[0,2,3,4,5,7,8,9,45,46,47],[2,9],[]⟩ k)=(cond (decide (x47 < x46)) (cond (decide (0≤x47)&&decide (x47 < ic (List.length l45))) (cond (decide (ByteArray.size (IV.toStr (List.getD l45 (Int.toNat x47) default)) < 4294967281)) (cond (decide (ByteArray.size (cutL (IV.toStr (List.getD l45 (Int.toNat x47) default)) {data:=#[46,46]}) < 4294967281)) (cond (decide (ByteArray.size (zed (IV.toStr (List.getD l45 (Int.toNat x47) default)) {data:=#[46,46]}) < 4294967281)) (cond (decide (x47=ic 0)) (again (z3j s0 x3 b4 l5 x7 x8 l45 x46 (IntKind.wrap IntKind.i64 (x47+1)) xo2_0 xo2_1 xo2_2 xo2_3 xo2_4 xo2_5 xo2_6 xo2_7 xo2_8 xo2_9 xo2_10 xo2_11 xo2_12 xo2_13 xo2_14 bo2_15 xo2_16 xo9_0 xo9_1 (zic (cutL (IV.toStr (List.getD l45 (Int.toNat x47) default)) {data:=#[46,46]})) (zic (zed (IV.toStr (List.getD l45 (Int.toNat x47) default)) {data:=#[46,46]})) xo9_4 xo9_5 xo9_6 xo9_7 xo9_8 xo9_9 xo9_10 xo9_11 xo9_12 xo9_13 xo9_14 bo9_15 xo9_16)) (cond (decide (x47=ic 1)) (again (z3j s0 x3 b4 l5 x7 x8 l45 x46 (IntKind.wrap IntKind.i64 (x47+1)) xo2_0 xo2_1 xo2_2 xo2_3 xo2_4 xo2_5 xo2_6 xo2_7 xo2_8 xo2_9 xo2_10 xo2_11 xo2_12 xo2_13 xo2_14 bo2_15 xo2_16 xo9_0 xo9_1 xo9_2 xo9_3 (zic (cutL (IV.toStr (List.getD l45 (Int.toNat x47) default)) {data:=#[46,46]})) (zic (zed (IV.toStr (List.getD l45 (Int.toNat x47) default)) {data:=#[46,46]})) xo9_6 xo9_7 xo9_8 xo9_9 xo9_10 xo9_11 xo9_12 xo9_13 xo9_14 bo9_15 xo9_16)) (cond (decide (x47=ic 2)) (again (z3j s0 x3 b4 l5 x7 x8 l45 x46 (IntKind.wrap IntKind.i64 (x47+1)) xo2_0 xo2_1 xo2_2 xo2_3 xo2_4 xo2_5 xo2_6 xo2_7 xo2_8 xo2_9 xo2_10 xo2_11 xo2_12 xo2_13 xo2_14 bo2_15 xo2_16 xo9_0 xo9_1 xo9_2 xo9_3 xo9_4 xo9_5 (zic (cutL (IV.toStr (List.getD l45 (Int.toNat x47) default)) {data:=#[46,46]})) (zic (zed (IV.toStr (List.getD l45 (Int.toNat x47) default)) {data:=#[46,46]})) xo9_8 xo9_9 xo9_10 xo9_11 xo9_12 xo9_13 xo9_14 bo9_15 xo9_16)) (cond (decide (x47=ic 3)) (again (z3j s0 x3 b4 l5 x7 x8 l45 x46 (IntKind.wrap IntKind.i64 (x47+1)) xo2_0 xo2_1 xo2_2 xo2_3 xo2_4 xo2_5 xo2_6 xo2_7 xo2_8 xo2_9 xo2_10 xo2_11 xo2_12 xo2_13 xo2_14 bo2_15 xo2_16 xo9_0 xo9_1 xo9_2 xo9_3 xo9_4 xo9_5 xo9_6 xo9_7 (zic (cutL (IV.toStr (List.getD l45 (Int.toNat x47) default)) {data:=#[46,46]})) (zic (zed (IV.toStr (List.getD l45 (Int.toNat x47) default)) {data:=#[46,46]})) xo9_10 xo9_11 xo9_12 xo9_13 xo9_14 bo9_15 xo9_16)) (cond (decide (x47=ic 4)) (again (z3j s0 x3 b4 l5 x7 x8 l45 x46 (IntKind.wrap IntKind.i64 (x47+1)) xo2_0 xo2_1 xo2_2 xo2_3 xo2_4 xo2_5 xo2_6 xo2_7 xo2_8 xo2_9 xo2_10 xo2_11 xo2_12 xo2_13 xo2_14 bo2_15 xo2_16 xo9_0 xo9_1 xo9_2 xo9_3 xo9_4 xo9_5 xo9_6 xo9_7 xo9_8 xo9_9 (zic (cutL (IV.toStr (List.getD l45 (Int.toNat x47) default)) {data:=#[46,46]})) (zic (zed (IV.toStr (List.getD l45 (Int.toNat x47) default)) {data:=#[46,46]})) xo9_12 xo9_13 xo9_14 bo9_15 xo9_16)) none))))) none) none) none) none) (k (.exit 0) (z3j s0 x3 b4 l5 x7 x8 l45 x46 x47 xo2_0 xo2_1 xo2_2 xo2_3 xo2_4 xo2_5 xo2_6 xo2_7 xo2_8 xo2_9 xo2_10 xo2_11 xo2_12 xo2_13 xo2_14 bo2_15 xo2_16 xo9_0 xo9_1 xo9_2 xo9_3 xo9_4 xo9_5 xo9_6 xo9_7 xo9_8 xo9_9 xo9_10 xo9_11 xo9_12 xo9_13 xo9_14 bo9_15 xo9_16))):=by kernel_rfl
theorem zoq (N:Nat) (s0:ByteArray) (x3:Int) (b4:Bool) (l5:List IV) (x7 x8:Int) (l45:List IV) (x46 x47 xo2_0 xo2_1 xo2_2 xo2_3 xo2_4 xo2_5 xo2_6 xo2_7 xo2_8 xo2_9 xo2_10 xo2_11 xo2_12 xo2_13 xo2_14:Int) (bo2_15:Bool) (xo2_16 xo9_0 xo9_1 xo9_2 xo9_3 xo9_4 xo9_5 xo9_6 xo9_7 xo9_8 xo9_9 xo9_10 xo9_11 xo9_12 xo9_13 xo9_14:Int) (bo9_15:Bool) (xo9_16:Int):(z04 0 (kSq (z43 N) (z0p z5c [1,1,1,1,1,1,1,1]) (z3f (z43 N) none [(ResultVar.cell 2 38),(ResultVar.tmp 3),(ResultVar.tmp 4)] [[(.int .i64),(.int .i64),(.int .i64),(.int .i64),(.int .i64),(.int .i64),(.int .i64),(.int .i64),(.int .i64),(.int .i64),(.int .i64),(.int .i64),(.int .i64),(.int .i64),(.int .i64),.bool,(.int .i64)],[(.int .i64)],[.bool]]))) (.exit 0) (z3j s0 x3 b4 l5 x7 x8 l45 x46 x47 xo2_0 xo2_1 xo2_2 xo2_3 xo2_4 xo2_5 xo2_6 xo2_7 xo2_8 xo2_9 xo2_10 xo2_11 xo2_12 xo2_13 xo2_14 bo2_15 xo2_16 xo9_0 xo9_1 xo9_2 xo9_3 xo9_4 xo9_5 xo9_6 xo9_7 xo9_8 xo9_9 xo9_10 xo9_11 xo9_12 xo9_13 xo9_14 bo9_15 xo9_16)=(cond (decide (0≤IntKind.wrap IntKind.i64 (x7+1))&&decide (IntKind.wrap IntKind.i64 (x7+1) < ic (List.length l5))) (cond (!ByteArray.toList (y1h {k:=xo9_0,c:=xo9_1,a0:=xo9_2,b0:=xo9_3,a1:=xo9_4,b1:=xo9_5,a2:=xo9_6,b2:=xo9_7,a3:=xo9_8,b3:=xo9_9,a4:=xo9_10,b4:=xo9_11,lo:=xo9_12,hi:=xo9_13,ft:=xo9_14,fl:=bo9_15,bu:=z3w (IV.toStr (List.getD l5 (Int.toNat (IntKind.wrap IntKind.i64 (x7+1))) default))} x8)==ByteArray.toList s0) (some ((.tup [(.agg [(.int .i64 0),(.int .i64 0),(.int .i64 0),(.int .i64 0),(.int .i64 0),(.int .i64 0),(.int .i64 0),(.int .i64 0),(.int .i64 0),(.int .i64 0),(.int .i64 0),(.int .i64 0),(.int .i64 0),(.int .i64 0),(.int .i64 0),(.bool false),(.int .i64 0)]),(.int .i64 0),(.bool false)]),[])) (some ((.tup [(.agg [(.int .i64 xo9_0),(.int .i64 xo9_1),(.int .i64 xo9_2),(.int .i64 xo9_3),(.int .i64 xo9_4),(.int .i64 xo9_5),(.int .i64 xo9_6),(.int .i64 xo9_7),(.int .i64 xo9_8),(.int .i64 xo9_9),(.int .i64 xo9_10),(.int .i64 xo9_11),(.int .i64 xo9_12),(.int .i64 xo9_13),(.int .i64 xo9_14),(.bool bo9_15),(.int .i64 (z3w (IV.toStr (List.getD l5 (Int.toNat (IntKind.wrap IntKind.i64 (x7+1))) default))))]),(.int .i64 x8),(.bool true)]),[]))) none):=by kernel_rfl
open Go Go.Proofs
theorem ye8 (l:List IV):(z2h l).a0=0∧(z2h l).b0=0∧(z2h l).a1=0∧(z2h l).b1=0∧(z2h l).a2=0∧(z2h l).b2=0∧(z2h l).a3=0∧(z2h l).b3=0∧(z2h l).a4=0∧(z2h l).b4=0∧(z2h l).bu=0:=by
 unfold z2h;cases ((wAt l 0).toList==zn9.toList) <;> cases ((wAt l 0).toList==zuz.toList) <;> cases ((wAt l 0).toList==zmr.toList||(wAt l 0).toList==zjw.toList) <;> exact ⟨rfl,rfl,rfl,rfl,rfl,rfl,rfl,rfl,rfl,rfl,rfl⟩
def rq (l:List IV) (i d:Nat):Qy:=
 ⟨(
  z2h (l.take i)).k,(z2h (l.take i)).c,
  cond (Nat.blt 0 d) (spA l (i+1)) 0,cond (Nat.blt 0 d) (spB l (i+1)) 0,cond (Nat.blt 1 d) (spA l (i+2)) 0,cond (Nat.blt 1 d) (spB l (i+2)) 0,cond (Nat.blt 2 d) (spA l (i+3)) 0,cond (Nat.blt 2 d) (spB l (i+3)) 0,cond (Nat.blt 3 d) (spA l (i+4)) 0,cond (Nat.blt 3 d) (spB l (i+4)) 0,0,0,
  (z2h (l.take i)).lo,(z2h (l.take i)).hi,(z2h (l.take i)).ft,(z2h (l.take i)).fl,0⟩
theorem yie (l:List IV) (i:Nat):z2h (l.take i)=rq l i 0:=by
 obtain ⟨h1,h2,h3,h4,h5,h6,h7,h8,h9,h10,h11⟩:=ye8 (l.take i);unfold rq;generalize z2h (l.take i)=q at *;cases q;simp only at *;subst h1 h2 h3 h4 h5 h6 h7 h8 h9 h10 h11
 rfl
abbrev stQ (s:ByteArray) (W:List IV) (x7 x8:Int) (L:List IV) (q:Qy) (i:Int):St:=
 ⟨[(0,(.str s)),(2,(.ptr 2 0 0)),(3,(.int .i64 0)),(4,(.bool false)),(5,(.list false [.str] W)),(7,(.int .i64 x7)),(8,(.int .i64 x8)),(9,(.ptr 9 0 0)),(45,(.list false [.str] L)),(46,(.int .i64 (ic L.length))),(47,(.int .i64 i))],[(2,(some (yhz Qy.none))),(9,(some (yhz q)))]⟩
theorem yfv (w sep:ByteArray) (h:w.size < 4294967281):decide (ByteArray.size w < 4294967281)=true∧decide (ByteArray.size (cutL w sep) < 4294967281)=true∧decide (ByteArray.size (zed w sep) < 4294967281)=true:=by
 obtain ⟨h1,h2⟩:=zl5 w sep;exact ⟨decide_eq_true h,decide_eq_true (by omega),decide_eq_true (by omega)⟩
theorem y4b (N:Nat) (s:ByteArray) (W:List IV) (x7 x8:Int) (L:List IV) (I i:Nat) (hi:i < L.length) (h4:i < 4) (hL:IV.toStr (L.getD i default)=wAt W (I+1+i)) (hw:(wAt W (I+1+i)).size < 4294967281) (again:St→Res) (k:Out→St→Res) :
  rnd (z43 N) (z0p z5c [1,1,1,1,1,1,1,0,1,0,0]) (stQ s W x7 x8 L (rq W I i) (i:Int)) (z4t again ⟨[0,2,3,4,5,7,8,9,45,46,47],[2,9],[]⟩ k)=again (stQ s W x7 x8 L (rq W I (i+1)) ((i+1:Nat):Int)):=by
 refine (zil N s 0 false W x7 x8 L (ic L.length) i 0 0 0 0 0 0 0 0 0 0 0 0 0 0 0 false 0 (rq W I i).k (rq W I i).c (rq W I i).a0 (rq W I i).b0 (rq W I i).a1 (rq W I i).b1 (rq W I i).a2 (rq W I i).b2 (rq W I i).a3 (rq W I i).b3 (rq W I i).a4 (rq W I i).b4 (rq W I i).lo (rq W I i).hi (rq W I i).ft (rq W I i).fl (rq W I i).bu again k).trans ?_;rw [zfr hi,zs1,Bool.and_true,z00,z00,Int.toNat_natCast,hL];obtain ⟨c1,c2,c3⟩:=yfv (wAt W (I+1+i)) { data:=#[46,46] } hw;rw [c1,c2,c3,z00,z00,z00];have hi4:i=0∨i=1∨i=2∨i=3:=by omega
 rcases hi4 with rfl | rfl | rfl | rfl
 ·rw [show decide (((0:Nat):Int)=ic 0)=true from rfl,z00]
  rfl
 ·rw [show decide (((1:Nat):Int)=ic 0)=false from rfl,show decide (((1:Nat):Int)=ic 1)=true from rfl,z02,z00]
  rfl
 ·rw [show decide (((2:Nat):Int)=ic 0)=false from rfl,show decide (((2:Nat):Int)=ic 1)=false from rfl,show decide (((2:Nat):Int)=ic 2)=true from rfl,z02,z02,z00]
  rfl
 ·rw [show decide (((3:Nat):Int)=ic 0)=false from rfl,show decide (((3:Nat):Int)=ic 1)=false from rfl,show decide (((3:Nat):Int)=ic 2)=false from rfl,show decide (((3:Nat):Int)=ic 3)=true from rfl,z02,z02,z02,z00]
  rfl
theorem y01 (N:Nat) (s:ByteArray) (W:List IV) (x7 x8:Int) (L:List IV) (I:Nat) (h4:L.length≤4) (hL:∀ i,i < L.length→IV.toStr (L.getD i default)=wAt W (I+1+i)) (hw:∀ i,(wAt W i).size < 4294967281) (K:Out→St→Res) :
  ∀ (d i n:Nat),i+d=L.length→d < n →
   lpE (z43 N) (z0p z5c [1,1,1,1,1,1,1,0,1,0,0]) ⟨[0,2,3,4,5,7,8,9,45,46,47],[2,9],[]⟩ n (stQ s W x7 x8 L (rq W I i) (i:Int)) K=K (.exit 0) (stQ s W x7 x8 L (rq W I L.length) (ic L.length))
 | 0,i,n+1,hd,hn=>by
  have hi:i=L.length:=by omega
  subst hi;rw [z05];refine (zil N s 0 false W x7 x8 L (ic L.length) _ 0 0 0 0 0 0 0 0 0 0 0 0 0 0 0 false 0 (rq W I L.length).k (rq W I L.length).c (rq W I L.length).a0 (rq W I L.length).b0 (rq W I L.length).a1 (rq W I L.length).b1 (rq W I L.length).a2 (rq W I L.length).b2 (rq W I L.length).a3 (rq W I L.length).b3 (rq W I L.length).a4 (rq W I L.length).b4 (rq W I L.length).lo (rq W I L.length).hi (rq W I L.length).ft (rq W I L.length).fl (rq W I L.length).bu _ _).trans ?_;rw [zgi (Nat.le_refl _),z02]
  rfl
 | d+1,i,n+1,hd,hn=>by
  rw [z05,y4b N s W x7 x8 L I i (by omega) (by omega) (hL i (by omega)) (hw _)]
  exact y01 N s W x7 x8 L I h4 hL hw K d (i+1) n (by omega) (by omega)
 | _,_,0,_,h=>by omega
theorem y5t (w:ByteArray):∀ (l:List IV) (k:Int),0≤k→zf5 l w k = -1∨(k≤zf5 l w k∧zf5 l w k < k+(l.length:Int))
 | [],_,_=>.inl rfl
 | x :: l,k,hk=>by
  unfold zf5;cases (w.toList==x.toStr.toList) with
  | true=>rw [z00]; exact .inr ⟨Int.le_refl _,by simp only [List.length_cons]; omega⟩
  | false=>
   rw [z02];rcases y5t w l (k+1) (by omega) with h | ⟨h1,h2⟩
   ·exact .inl h
   ·exact .inr ⟨by omega,by simp only [List.length_cons]; omega⟩
theorem y77 (s:ByteArray) (hs:s.size < 4294967281):(z9g s).length≤4294967282∧∀ i,(wAt (z9g s) i).size < 4294967281:=by
 have h1:=Lib.splitB_all z42 (by decide) 0 _ s rfl
 have h2:=Lib.countB_le z42 (by decide) s.size s (Nat.le_refl _)
 refine ⟨?_,fun i=>?_⟩
 ·have e:(z9g s).length=Lib.countB s z42+1:=by
   unfold z9g z09;rw [List.length_map];exact h1
  omega
 ·unfold wAt
  by_cases hi:i < (z9g s).length
  ·have:List.getD (z9g s) i default=(z9g s)[i]:=by simp [hi]
   rw [this];have hm:=List.getElem_mem hi;unfold z9g at hm;obtain ⟨p,hp,hpe⟩:=List.mem_map.1 hm;have hz:=(z6f z42 _ s).2 p hp
   have:((z9g s)[i]).toStr=p:=by
    show (List.map IV.str (z09 s z42))[i].toStr=p;rw [← hpe]
    rfl
   rw [this];omega
  ·have:List.getD (z9g s) i default=default:=by simp [List.getD,hi]
   rw [this]
   decide
set_option maxRecDepth 100000 in
theorem zxg:z3c PR B0 73 zc4:=by
 refine z0m [(18,zbz),(121,z7y),(119,ze5),(120,z9s),(118,z23),(104,z4e),(46,z1a)] [(9,⟨[0,2,3,4,5,7,8,9,45,46,47],[2,9],[]⟩)] zc4
  [[.int .i64,.int .i64,.int .i64,.int .i64,.int .i64,.int .i64,.int .i64,.int .i64,.int .i64,.int .i64,.int .i64,.int .i64,.int .i64,.int .i64,.int .i64,.bool,.int .i64],[.int .i64],[.bool]] Tryz.func73 y4i
  ⟨zwy,zk5,y0q,zoc,zb5,zc7,z3v,trivial⟩ ?_
 intro vs r hwf h;unfold zc4 at h
 split at h
 ·rename_i s
  refine ⟨20,?_⟩;cases hs:decide (s.size < 4294967281) with
  | false=>rw [hs] at h; simp [R.get] at h
  | true=>
   rw [hs,R.get_br,z00,R.get_ok] at h;rw [← h];refine (zzu 20 s).trans ?_;have hs':=of_decide_eq_true hs;rw [hs];obtain ⟨hl,hw⟩:=y77 s hs';have eW:List.map IV.str (z09 s { data:=#[32] })=z9g s:=rfl;have eI:zf5 (z9g s) { data:=#[105,110] } 0=zos s:=rfl;rw [eW,eI,show decide (1≤ByteArray.size { data:=#[32] })=true from rfl,Bool.and_true,z00]
   have hr:=y5t yd6 (z9g s) 0 (Int.le_refl _)
   change zos s = -1∨(0≤zos s∧zos s < 0+((z9g s).length:Int)) at hr
   have w2:IntKind.wrap IntKind.i64 (ic (List.length (z9g s)) - 2)=ic (List.length (z9g s)) - 2:=z1d (by simp only [ic]; omega) (by simp only [ic]; omega)
   rw [w2];have wd:IntKind.wrap IntKind.i64 (IntKind.wrap IntKind.i64 (ic (List.length (z9g s)) - 2 - zos s) - 1)=zsj s:=by
    unfold zsj;rw [z1d (n:=ic (List.length (z9g s)) - 2 - zos s) (by simp only [ic]; omega) (by simp only [ic]; omega),z1d (by simp only [ic]; omega) (by simp only [ic]; omega)]
   rw [wd];unfold zk0 ydk y3b;cases h1:decide (zos s < 0) with
   | true=>simp only [z00,z02,Bool.not_true,Bool.false_and]; rfl
   | false=>
    cases h2:decide (zsj s < 1) with
    | true=>simp only [z00,z02,Bool.not_true,Bool.not_false,Bool.false_and,Bool.and_false]; rfl
    | false=>
     cases h3:decide (zsj s > 4) with
     | true=>simp only [z00,z02,Bool.not_true,Bool.not_false,Bool.false_and,Bool.and_false]; rfl
     | false=>
      simp only [z02,Bool.not_false,Bool.true_and];have h1:=of_decide_eq_false h1;have h2:=of_decide_eq_false h2;have h3:=of_decide_eq_false h3;obtain ⟨I,hI⟩:∃ I:Nat,zos s=I:=⟨(zos s).toNat,by omega⟩
      obtain ⟨D,hD⟩:∃ D:Nat,zsj s=D:=⟨(zsj s).toNat,by omega⟩
      have hD1:1≤D:=by omega
      have hD4:D≤4:=by omega
      unfold yeb;have hDd:(D:Int)=((z9g s).length:Int) - 2 - I - 1:=by
       rw [← hD,← hI]
       rfl
      rw [hI,hD] at *;generalize z9g s=W at *;have wi:IntKind.wrap IntKind.i64 ((I:Int)+1)=((I+1:Nat):Int):=by rw [z1d (by omega) (by omega)]; rfl
      have eb:ic (List.length W) - 2=((W.length - 2:Nat):Int):=by simp only [ic]; omega
      rw [wi,eb];simp only [Int.toNat_natCast,List.drop_zero];have hall:List.all (List.take I W) (fun x=>decide (ByteArray.size (IV.toStr x) < 4294967281))=true:=by
       rw [List.all_eq_true];intro x hx;obtain ⟨j,hj,rfl⟩:=List.mem_iff_getElem.1 (List.mem_of_mem_take hx)
       have:=hw j
       unfold wAt at this;have e:List.getD W j default=W[j]:=by simp [hj]
       rw [e] at this;exact decide_eq_true this
      rw [hall,decide_eq_true (show (0:Int)≤(I:Int) by omega),decide_eq_true (show (I:Int)≤ic (List.length W) by simp only [ic]; omega),decide_eq_true (show List.length (List.take I W)≤4294967290 by rw [List.length_take]; omega),
       decide_eq_true (show (0:Int)≤((I+1:Nat):Int) by omega),decide_eq_true (show ((I+1:Nat):Int)≤((W.length - 2:Nat):Int) by omega),decide_eq_true (show ((W.length - 2:Nat):Int)≤ic (List.length W) by simp only [ic]; omega)]
      simp only [Bool.and_true,z00];have hLl:(List.drop (I+1) (List.take (W.length - 2) W)).length=D:=by rw [List.length_drop,List.length_take]; omega
      have hLg:∀ i,i < (List.drop (I+1) (List.take (W.length - 2) W)).length→IV.toStr ((List.drop (I+1) (List.take (W.length - 2) W)).getD i default)=wAt W (I+1+i):=fun i hi=>by
       rw [hLl] at hi;unfold wAt
       congr 1
       simp only [List.getD,List.getElem?_drop,List.getElem?_take];rw [if_pos (by omega)]
      rw [yie W I];have run:=y01 20 s W ((W.length - 2:Nat):Int) (D:Int) (List.drop (I+1) (List.take (W.length - 2) W)) I (by rw [hLl]; exact hD4) hLg hw (z04 0 (kSq (z43 20) (z0p z5c [1,1,1,1,1,1,1,1]) (z3f (z43 20) none [(ResultVar.cell 2 38),(ResultVar.tmp 3),(ResultVar.tmp 4)] [[(.int .i64),(.int .i64),(.int .i64),(.int .i64),(.int .i64),(.int .i64),(.int .i64),(.int .i64),(.int .i64),(.int .i64),(.int .i64),(.int .i64),(.int .i64),(.int .i64),(.int .i64),.bool,(.int .i64)],[(.int .i64)],[.bool]]))) D 0 20 (by rw [hLl]; omega) (by omega)
      refine run.trans ?_;rw [hLl];refine (zoq 20 s 0 false W ((W.length - 2:Nat):Int) (D:Int) (List.drop (I+1) (List.take (W.length - 2) W)) (ic (List.drop (I+1) (List.take (W.length - 2) W)).length) _ 0 0 0 0 0 0 0 0 0 0 0 0 0 0 0 false 0 (rq W I D).k (rq W I D).c (rq W I D).a0 (rq W I D).b0 (rq W I D).a1 (rq W I D).b1 (rq W I D).a2 (rq W I D).b2 (rq W I D).a3 (rq W I D).b3 (rq W I D).a4 (rq W I D).b4 (rq W I D).lo (rq W I D).hi (rq W I D).ft (rq W I D).fl (rq W I D).bu).trans ?_;have e7:IntKind.wrap IntKind.i64 (((W.length - 2:Nat):Int)+1)=((W.length - 1:Nat):Int):=by rw [z1d (by omega) (by omega)]; omega
      rw [e7,Int.toNat_natCast,decide_eq_true (show (0:Int)≤((W.length - 1:Nat):Int) by omega),decide_eq_true (show ((W.length - 1:Nat):Int) < ic (List.length W) by simp only [ic]; omega),Bool.and_true,z00]
      have eq:(⟨(rq W I D).k,(rq W I D).c,(rq W I D).a0,(rq W I D).b0,(rq W I D).a1,(rq W I D).b1,(rq W I D).a2,(rq W I D).b2,(rq W I D).a3,(rq W I D).b3,(rq W I D).a4,(rq W I D).b4,(rq W I D).lo,(rq W I D).hi,(rq W I D).ft,(rq W I D).fl,z3w (IV.toStr (List.getD W (W.length - 1) default))⟩:Qy)=yhr W I D:=rfl;rw [eq];cases ((y1h (yhr W I D) (D:Int)).toList==s.toList) with
      | false=>rfl
      | true=>rfl
 ·simp [R.get] at h
open Go
def nm (x:IV) (j:Nat):Nat:=cond (x.cell 0).toBool 0 ((if (x.cell 4).toInt=(j:Int) then 1 else 0)+(if (x.cell 5).toInt=(j:Int) then 1 else 0))
open Go
theorem zsi {w:Int} (h:zb6 w=true):z70 (z08 w)=w∧z9o (z08 w)=true:=by
 have hn:z08 w=zrb w:=by unfold z08; rw [h]; rfl
 unfold zb6 at h;simp only [Bool.and_eq_true,Bool.not_eq_true',beq_iff_eq,beq_eq_false_iff_ne] at h;rw [hn];refine ⟨h.2,?_⟩;cases hr:z9o (zrb w) with
 | true=>rfl
 | false=>
  have:=h.2
  unfold z70 at this;rw [hr] at this;exact absurd this.symm h.1
def ygq (d c:Int) (bias ts:List IV):Md:=⟨yi8 d,yho c,yeo c bias 0,yeo c bias 1,yeo c bias 2,ygb d c ts⟩
open Go
abbrev z4v:List Kd:=[.bool,.int .i64,.int .i64]
def zc1 (x:IV):Bool:=(x.cell 0).toBool
def z1q (x:IV):Int:=(x.cell 1).toInt
def ziz (x:IV):Int:=(x.cell 2).toInt
def yhj (x y:IV):Bool:=zc1 x==zc1 y&&(z1q x==z1q y&&ziz x==ziz y)
def y5o (x:IV):Bool:=!(zc1 x&&!(z1q x==0&&ziz x==0))&&(decide (0≤z1q x)&&decide (z1q x≤4))
def zsf (l:List IV):Bool:=decide (1≤l.length)&&(decide (l.length≤65536)&&l.all y5o)
def za6:z0u
 | [.list true [.bool,.int .i64,.int .i64] l]=>.ok (.bool (zsf l)) []
 | _=>.no
def zj6:List IV→List IV→Bool
 | [],[]=>true
 | x :: l,y :: m=>yhj x y&&zj6 l m
 | _,_=>false
structure Vd where
 kind:Int
 proof:List IV
 w0:Int
 w1:Int
 w2:Int
 w3:Int
 twin:Int
 spent:Int
def Vd.none:Vd:=⟨0,[],0,0,0,0,0,0⟩
def Vd.V (v:Vd):V:=.agg [.int .i64 v.kind,.list true z4v v.proof,.int .i64 v.w0,.int .i64 v.w1,.int .i64 v.w2,.int .i64 v.w3,.int .i64 v.twin,.int .i64 v.spent]
def Vd.bare (v:Vd):Bool:=v.w0==0&&(v.w1==0&&(v.w2==0&&(v.w3==0&&v.twin==0)))
def Vd.right (v:Vd):Bool:=
 decide (0≤v.spent)&&(decide (v.spent≤65536) &&
  (v.kind==1&&(v.bare&&zsf v.proof)||(v.kind==2&&v.proof.isEmpty||(v.kind==3||v.kind==4)&&(v.bare&&v.proof.isEmpty))))
def zap:z0u
 | [.agg [.int .i64 k,.list true [.bool,.int .i64,.int .i64] p,.int .i64 a,.int .i64 b,.int .i64 c,.int .i64 d,.int .i64 t,.int .i64 s]]=>.ok (.bool (Vd.right ⟨k,p,a,b,c,d,t,s⟩)) []
 | _=>.no
def zpa:ByteArray→List IV→ByteArray
 | s,[]=>s
 | s,x :: l=>zpa (s.push 32++z0i x.toInt) l
def z3g (s w:ByteArray) (l:List IV):ByteArray:=(zpa (s++w) l).push 10
def zbt:z0u
 | [.bor [.bld s],.str w,.list false [.int .i64] l]=>.br (decide ((z3g s w l).size≤strMax)) (.ok (.tup []) [[.bld (z3g s w l)]]) .no
 | _=>.no
def z1r (l:List IV) (i:Int):Int:=cond (decide (ic l.length≤i)) 0 (z3w (l.getD i.toNat default).toStr)
def z90:z0u
 | [.list false [.str] l,.int .i64 i]=>.br (decide (0≤i)) (.ok (.int .i64 (z1r l i)) []) .no
 | _=>.no
def yd8 (b:Bool) (p a:Int):IV:=.agg [.bool b,.int p,.int a]
abbrev zb4:ByteArray:=⟨#[104,111,108,100,115]⟩
abbrev znd:ByteArray:=⟨#[102,97,105,108,115]⟩
abbrev ze2:ByteArray:=⟨#[117,110,107,110,111,119,110]⟩
abbrev znk:ByteArray:=⟨#[119,114,111,110,103]⟩
abbrev zz1:ByteArray:=⟨#[115,117,109]⟩
abbrev y9b:ByteArray:=⟨#[99,117,116]⟩
abbrev zii:ByteArray:=⟨#[10]⟩
abbrev ydj:ByteArray:=⟨#[32]⟩
abbrev z12:ByteArray:=⟨#[]⟩
def z6a (s:ByteArray):List IV:=(z09 (cutL s zii) ydj).map IV.str
def zd2 (l:List IV):ByteArray:=(l.getD 0 default).toStr
def zpi (s:ByteArray):IV:=
 cond ((zd2 (z6a s)).toList==zz1.toList) (yd8 true 0 0) (yd8 false (z1r (z6a s) 1) (z1r (z6a s) 2))
def zdt:Nat→ByteArray→List IV→List IV
 | 0,_,p=>p
 | n+1,s,p=>cond (!(s.toList==z12.toList)&&decide (p.length≤65536)) (zdt n (zed s zii) (p++[zpi s])) p
def zdo (s:ByteArray):Vd:=
 cond ((zd2 (z6a s)).toList==zb4.toList) ⟨1,zdt ((zed s zii).size+1) (zed s zii) [],0,0,0,0,0,z1r (z6a s) 1⟩
 (cond ((zd2 (z6a s)).toList==znd.toList) ⟨2,[],z1r (z6a s) 2,z1r (z6a s) 3,z1r (z6a s) 4,z1r (z6a s) 5,z1r (z6a s) 6,z1r (z6a s) 1⟩
 (cond ((zd2 (z6a s)).toList==ze2.toList) ⟨3,[],0,0,0,0,0,z1r (z6a s) 1⟩
 (cond ((zd2 (z6a s)).toList==znk.toList) ⟨4,[],0,0,0,0,0,z1r (z6a s) 1⟩
 ⟨0,[],0,0,0,0,0,z1r (z6a s) 1⟩)))
def zbw:z0u
 | [.str s]=>.br (decide (s.size < 4294967281)) (.ok (.agg [.int .i64 (zdo s).kind,.list true [.bool,.int .i64,.int .i64] (zdo s).proof,.int .i64 (zdo s).w0,.int .i64 (zdo s).w1,.int .i64 (zdo s).w2,.int .i64 (zdo s).w3,.int .i64 (zdo s).twin,.int .i64 (zdo s).spent]) []) .no
 | _=>.no
def z5v:ByteArray→List IV→ByteArray
 | s,[]=>s
 | s,x :: l=>z5v (cond (zc1 x) (z3g s zz1 []) (z3g s y9b [.int (z1q x),.int (ziz x)])) l
def z8w (v:Vd):ByteArray:=
 cond v.right
  (cond (v.kind==1) (z5v (z3g z12 zb4 [.int v.spent,.int (ic v.proof.length)]) v.proof)
  (cond (v.kind==2) (z3g z12 znd [.int v.spent,.int v.w0,.int v.w1,.int v.w2,.int v.w3,.int v.twin])
  (cond (v.kind==3) (z3g z12 ze2 [.int v.spent])
  (z3g z12 znk [.int v.spent]))))
  z12
def zad:z0u
 | [.agg [.int .i64 k,.list true [.bool,.int .i64,.int .i64] p,.int .i64 a,.int .i64 b,.int .i64 c,.int .i64 d,.int .i64 t,.int .i64 s]]=>
  .br (decide ((z8w ⟨k,p,a,b,c,d,t,s⟩).size≤strMax)) (.ok (.str (z8w ⟨k,p,a,b,c,d,t,s⟩)) []) .no
 | _=>.no
def zmj (s:ByteArray):Bool:=!(s.toList==z12.toList)&&(z8w (zdo s)).toList==s.toList
def z8p (s:ByteArray):Vd:=cond (zmj s) (zdo s) Vd.none
def zav:z0u
 | [.str s]=>.br (decide (s.size < 4294967281)) (.br (decide ((z8w (zdo s)).size≤strMax)) (.ok (.tup [.agg [.int .i64 (z8p s).kind,.list true [.bool,.int .i64,.int .i64] (z8p s).proof,.int .i64 (z8p s).w0,.int .i64 (z8p s).w1,.int .i64 (z8p s).w2,.int .i64 (z8p s).w3,.int .i64 (z8p s).twin,.int .i64 (z8p s).spent],.bool (zmj s)]) []) .no) .no
 | _=>.no
open Go
def Nd.cs (x:Nd):List FM.V:=[.bool x.lf,.int .i64 x.v,.int .i64 x.f,.int .i64 x.a,.int .i64 x.l,.int .i64 x.r]
def Nd.V (x:Nd):FM.V:=.agg x.cs
def Md.cs (m:Md):List FM.V:=[.int .i64 m.d,.int .i64 m.c,.int .i64 m.b0,.int .i64 m.b1,.int .i64 m.b2,.list true [.int .i64,.list false [.int .u64]] m.ts]
def Md.V (m:Md):FM.V:=.agg m.cs
def Qy.cs (q:Qy):List FM.V:=[.int .i64 q.k,.int .i64 q.c,.int .i64 q.a0,.int .i64 q.b0,.int .i64 q.a1,.int .i64 q.b1,.int .i64 q.a2,.int .i64 q.b2,.int .i64 q.a3,.int .i64 q.b3,.int .i64 q.a4,.int .i64 q.b4,.int .i64 q.lo,.int .i64 q.hi,.int .i64 q.ft,.bool q.fl,.int .i64 q.bu]
def Vd.cs (v:Vd):List FM.V:=[.int .i64 v.kind,.list true [.bool,.int .i64,.int .i64] v.proof,.int .i64 v.w0,.int .i64 v.w1,.int .i64 v.w2,.int .i64 v.w3,.int .i64 v.twin,.int .i64 v.spent]
def Ak.cs (a:Ak):List FM.V:=[.int .i64 a.k,.int .i64 a.c,.int .i64 a.lo,.int .i64 a.size,.int .i64 a.ft,.int .i64 a.bu,.bool a.fl,.list false [.int .i64] a.sp]
def Ak.V (a:Ak):FM.V:=.agg a.cs
structure Sp where
 lo:Int
 hi:Int
def Sp.cs (s:Sp):List FM.V:=[.int .i64 s.lo,.int .i64 s.hi]
def Sp.V (s:Sp):FM.V:=.agg s.cs
structure Bx where
 s0:Sp
 s1:Sp
 s2:Sp
 s3:Sp
 s4:Sp
def Bx.g (b:Bx):Nat→Sp
 | 0=>b.s0
 | 1=>b.s1
 | 2=>b.s2
 | 3=>b.s3
 | _=>b.s4
def Bx.p (b:Bx) (s:Sp):Nat→Bx
 | 0=>⟨s,b.s1,b.s2,b.s3,b.s4⟩
 | 1=>⟨b.s0,s,b.s2,b.s3,b.s4⟩
 | 2=>⟨b.s0,b.s1,s,b.s3,b.s4⟩
 | 3=>⟨b.s0,b.s1,b.s2,s,b.s4⟩
 | _=>⟨b.s0,b.s1,b.s2,b.s3,s⟩
def Bx.cs (b:Bx):List FM.V:=[.int .i64 b.s0.lo,.int .i64 b.s0.hi,.int .i64 b.s1.lo,.int .i64 b.s1.hi,.int .i64 b.s2.lo,.int .i64 b.s2.hi,.int .i64 b.s3.lo,.int .i64 b.s3.hi,.int .i64 b.s4.lo,.int .i64 b.s4.hi]
def Bx.V (b:Bx):FM.V:=.agg b.cs
structure Pt where
 p0:Int
 p1:Int
 p2:Int
 p3:Int
def Pt.cs (p:Pt):List FM.V:=[.int .i64 p.p0,.int .i64 p.p1,.int .i64 p.p2,.int .i64 p.p3]
def Pt.V (p:Pt):FM.V:=.agg p.cs
def Pt.g (p:Pt):Nat→Int
 | 0=>p.p0
 | 1=>p.p1
 | 2=>p.p2
 | _=>p.p3
def spOf?:List FM.V→Option Sp
 | [.int .i64 a,.int .i64 b]=>some ⟨a,b⟩
 | _=>none
def ptOf?:List FM.V→Option Pt
 | [.int .i64 a,.int .i64 b,.int .i64 c,.int .i64 d]=>some ⟨a,b,c,d⟩
 | _=>none
def bxOf?:List FM.V→Option Bx
 | [.int .i64 a0,.int .i64 b0,.int .i64 a1,.int .i64 b1,.int .i64 a2,.int .i64 b2,.int .i64 a3,.int .i64 b3,.int .i64 a4,.int .i64 b4]=>some ⟨⟨a0,b0⟩,⟨a1,b1⟩,⟨a2,b2⟩,⟨a3,b3⟩,⟨a4,b4⟩⟩
 | _=>none
def mdOf?:List FM.V→Option Md
 | [.int .i64 d,.int .i64 c,.int .i64 b0,.int .i64 b1,.int .i64 b2,.list true [.int .i64,.list false [.int .u64]] ts]=>some ⟨d,c,b0,b1,b2,ts⟩
 | _=>none
def qyOf?:List FM.V→Option Qy
 | [.int .i64 k,.int .i64 c,.int .i64 a0,.int .i64 b0,.int .i64 a1,.int .i64 b1,.int .i64 a2,.int .i64 b2,.int .i64 a3,.int .i64 b3,.int .i64 a4,.int .i64 b4,.int .i64 lo,.int .i64 hi,.int .i64 ft,.bool fl,.int .i64 bu]=>
  some ⟨k,c,a0,b0,a1,b1,a2,b2,a3,b3,a4,b4,lo,hi,ft,fl,bu⟩
 | _=>none
def vdOf?:List FM.V→Option Vd
 | [.int .i64 k,.list true [.bool,.int .i64,.int .i64] p,.int .i64 a,.int .i64 b,.int .i64 c,.int .i64 d,.int .i64 t,.int .i64 s]=>some ⟨k,p,a,b,c,d,t,s⟩
 | _=>none
def y1m {α:Type} (of:List FM.V→Option α) (v:FM.V) (k:α→R):R:=
 match v with
 | .agg l=>match of l with | some x=>k x | none=>.no
 | _=>.no
abbrev ycc (v:FM.V) (k:Sp→R):R:=y1m spOf? v k
abbrev y1u (v:FM.V) (k:Pt→R):R:=y1m ptOf? v k
abbrev zw8 (v:FM.V) (k:Bx→R):R:=y1m bxOf? v k
abbrev zto (v:FM.V) (k:Md→R):R:=y1m mdOf? v k
abbrev zx8 (v:FM.V) (k:Qy→R):R:=y1m qyOf? v k
abbrev ydt (v:FM.V) (k:Vd→R):R:=y1m vdOf? v k
theorem ze7 {α:Type} {of:List FM.V→Option α} {v:FM.V} {k:α→R} {z:FM.V × List (List FM.V)} (h:(y1m of v k).get=some z):∃ l x,v = .agg l∧of l=some x∧(k x).get=some z:=by
 unfold y1m at h
 split at h
 ·rename_i l
  split at h
  ·rename_i x hx
   exact ⟨l,x,rfl,hx,h⟩
  ·simp [R.get] at h
 ·simp [R.get] at h
theorem zrt {v:FM.V} {k:Sp→R} {z:FM.V × List (List FM.V)} (h:(ycc v k).get=some z):∃ x:Sp,v=x.V∧(k x).get=some z:=by
 obtain ⟨l,x,rfl,hx,h⟩:=ze7 h;unfold spOf? at hx
 split at hx
 ·simp only [Option.some.injEq] at hx
  subst hx;exact ⟨_,rfl,h⟩
 ·cases hx
theorem zc3 {v:FM.V} {k:Pt→R} {z:FM.V × List (List FM.V)} (h:(y1u v k).get=some z):∃ x:Pt,v=x.V∧(k x).get=some z:=by
 obtain ⟨l,x,rfl,hx,h⟩:=ze7 h;unfold ptOf? at hx
 split at hx
 ·simp only [Option.some.injEq] at hx
  subst hx;exact ⟨_,rfl,h⟩
 ·cases hx
theorem zam {v:FM.V} {k:Bx→R} {z:FM.V × List (List FM.V)} (h:(zw8 v k).get=some z):∃ x:Bx,v=x.V∧(k x).get=some z:=by
 obtain ⟨l,x,rfl,hx,h⟩:=ze7 h;unfold bxOf? at hx
 split at hx
 ·simp only [Option.some.injEq] at hx
  subst hx;exact ⟨_,rfl,h⟩
 ·cases hx
theorem z97 {v:FM.V} {k:Md→R} {z:FM.V × List (List FM.V)} (h:(zto v k).get=some z):∃ x:Md,v=x.V∧(k x).get=some z:=by
 obtain ⟨l,x,rfl,hx,h⟩:=ze7 h;unfold mdOf? at hx
 split at hx
 ·simp only [Option.some.injEq] at hx
  subst hx;exact ⟨_,rfl,h⟩
 ·cases hx
theorem zal {v:FM.V} {k:Qy→R} {z:FM.V × List (List FM.V)} (h:(zx8 v k).get=some z):∃ x:Qy,v=x.V∧(k x).get=some z:=by
 obtain ⟨l,x,rfl,hx,h⟩:=ze7 h;unfold qyOf? at hx
 split at hx
 ·simp only [Option.some.injEq] at hx
  subst hx;exact ⟨_,rfl,h⟩
 ·cases hx
theorem zzi {v:FM.V} {k:Vd→R} {z:FM.V × List (List FM.V)} (h:(ydt v k).get=some z):∃ x:Vd,v=x.V∧(k x).get=some z:=by
 obtain ⟨l,x,rfl,hx,h⟩:=ze7 h;unfold vdOf? at hx
 split at hx
 ·simp only [Option.some.injEq] at hx
  subst hx;exact ⟨_,rfl,h⟩
 ·cases hx
def Sp.emp (s:Sp):Bool:=decide (s.lo > s.hi)
def Sp.has (s:Sp) (n:Int):Bool:=decide (s.lo≤n)&&decide (n≤s.hi)
def y7v (lo hi:Int):Sp:=cond (decide (lo > hi)) ⟨1,0⟩ ⟨lo,hi⟩
def Sp.cutL (s:Sp) (a:Int):Sp:=y7v s.lo (min s.hi a)
def Sp.cutH (s:Sp) (a:Int):Sp:=cond (decide (a≥s.hi)) ⟨1,0⟩ (y7v (max s.lo (zcj (a+1))) s.hi)
def z7w:z0u
 | []=>.ok (.agg [.int .i64 1,.int .i64 0]) []
 | _=>.no
def zh9:z0u
 | [.int .i64 lo,.int .i64 hi]=>.ok (y7v lo hi).V []
 | _=>.no
def z6c:z0u
 | [s]=>ycc s fun s=>.ok (.bool (s.emp)) []
 | _=>.no
def z9p:z0u
 | [s,.int .i64 n]=>ycc s fun s=>.ok (.bool (s.has n)) []
 | _=>.no
def zhm:z0u
 | [s,.int .i64 n]=>ycc s fun s=>.ok (.tup [(s.cutL n).V,(s.cutH n).V]) []
 | _=>.no
def Bx.I (b:Bx):IV:=.agg [.int b.s0.lo,.int b.s0.hi,.int b.s1.lo,.int b.s1.hi,.int b.s2.lo,.int b.s2.hi,.int b.s3.lo,.int b.s3.hi,.int b.s4.lo,.int b.s4.hi]
abbrev cI (x:IV) (j:Nat):Int:=(x.cell j).toInt
def bxI (x:IV):Bx:=⟨⟨cI x 0,cI x 1⟩,⟨cI x 2,cI x 3⟩,⟨cI x 4,cI x 5⟩,⟨cI x 6,cI x 7⟩,⟨cI x 8,cI x 9⟩⟩
abbrev zxa:List Kd:=[.int .i64,.int .i64,.int .i64,.int .i64,.int .i64,.int .i64,.int .i64,.int .i64,.int .i64,.int .i64]
def Bx.emp (b:Bx):Bool:=b.s0.emp||(b.s1.emp||(b.s2.emp||(b.s3.emp||b.s4.emp)))
def bx0:Bx:=⟨⟨0,0⟩,⟨0,0⟩,⟨0,0⟩,⟨0,0⟩,⟨0,0⟩⟩
def yb7 (i:Int):Bool:=decide (0≤i)&&decide (i < 5)
def Bx.cutL (b:Bx) (i a:Int):Bx:=b.p ((b.g i.toNat).cutL a) i.toNat
def Bx.cutH (b:Bx) (i a:Int):Bx:=b.p ((b.g i.toNat).cutH a) i.toNat
def Pt.p (p:Pt) (x:Int):Nat→Pt
 | 0=>⟨x,p.p1,p.p2,p.p3⟩
 | 1=>⟨p.p0,x,p.p2,p.p3⟩
 | 2=>⟨p.p0,p.p1,x,p.p3⟩
 | _=>⟨p.p0,p.p1,p.p2,x⟩
def Bx.low (b:Bx):Pt:=⟨b.s0.lo,b.s1.lo,b.s2.lo,b.s3.lo⟩
def Bx.has (b:Bx) (p:Pt) (t:Int):Bool:=b.s0.has p.p0&&(b.s1.has p.p1&&(b.s2.has p.p2&&(b.s3.has p.p3&&b.s4.has t)))
def z5g:z0u
 | [b]=>zw8 b fun b=>.ok (.bool (b.emp)) []
 | _=>.no
def zgq:z0u
 | [b,p,.int .i64 t]=>zw8 b fun b=>y1u p fun p=>.ok (.bool (b.has p t)) []
 | _=>.no
def zbs:z0u
 | [b,.int .i64 i,.int .i64 a]=>zw8 b fun b=>.br (yb7 i) (.ok (.tup [(b.cutL i a).V,(b.cutH i a).V]) []) .no
 | _=>.no
def zvl (l:List IV) (p:Pt):Nat→Int→Int × Nd
 | 0,_=>(-1,Nd.zero)
 | n+1,a=>
  cond (decide (a≥ic l.length)) (-1,Nd.zero)
   (cond (!(zb6 (l.getD a.toNat default).toInt)) (-1,Nd.zero)
    (cond (z08 (l.getD a.toNat default).toInt).lf (a,z08 (l.getD a.toNat default).toInt)
     (cond (decide (p.g (z08 (l.getD a.toNat default).toInt).f.toNat≤(z08 (l.getD a.toNat default).toInt).a)) (zvl l p n (z08 (l.getD a.toNat default).toInt).l) (zvl l p n (z08 (l.getD a.toNat default).toInt).r))))
def yhl (l:List IV) (p:Pt):Int:=(zvl l p 31 0).1
def yey (l:List IV) (p:Pt):Nd:=(zvl l p 31 0).2
def ze0:z0u
 | [.list false [.int .u64] l,p]=>y1u p fun p=>.ok (.tup [.int .i64 (yhl l p),(yey l p).V]) []
 | _=>.no
def zp4 (l:List IV) (p:Pt):Int:=(yey l p).v
def zag:z0u
 | [.list false [.int .u64] l,p]=>y1u p fun p=>.ok (.int .i64 (zp4 l p)) []
 | _=>.no
def zhi (m:Md) (c:Int):Int:=cond (c==0) m.b0 (cond (c==1) m.b1 m.b2)
abbrev yha (t:IV):Int:=cI t 0
abbrev zqu (t:IV):List IV:=(t.cell 1).toList
def evF (c:Int) (p:Pt):List IV→Int→Int
 | [],s=>s
 | t :: r,s=>evF c p r (cond (yha t==c) (s+zp4 (zqu t) p) s)
def zej (m:Md) (c:Int):Bool:=decide (0≤c)&&decide (c < m.c)
def zah:z0u
 | [m,.int .i64 k,p]=>zto m fun m=>y1u p fun p=>.br (z3z m&&zej m k) (.ok (.int .i64 (evF k p m.ts (zhi m k))) []) .no
 | _=>.no
def z5k (m:Md) (k:Int) (p:Pt):Int:=cond (z3z m&&zej m k) (evF k p m.ts (zhi m k)) 0
def zaw:z0u
 | [m,.int .i64 k,p]=>zto m fun m=>y1u p fun p=>.ok (.int .i64 (z5k m k p)) []
 | _=>.no
def yi9 (x:Int):List Int→List Int
 | []=>[x]
 | y :: r=>cond (decide (x≤y)) (x :: y :: r) (y :: yi9 x r)
def ygf:List Int→List Int
 | []=>[]
 | x :: r=>yi9 x (ygf r)
def yi3:Int→List Int→List Int
 | _,[]=>[]
 | p,x :: r=>cond (x==p) (yi3 x r) (x :: yi3 x r)
def yil:List Int→List Int
 | []=>[]
 | x :: r=>x :: yi3 x r
def yif (f:Int) (w:IV):List Int:=cond (!(z08 w.toInt).lf&&(z08 w.toInt).f==f) [(z08 w.toInt).a] []
def yfw (ts:List IV) (f:Int):List Int:=ts.flatMap fun t=>(zqu t).flatMap (yif f)
def yio (ts:List IV) (f:Int):List Int:=yil (ygf (yfw ts f))
def yhs (a b:Int) (l:List Int):List Int:=l.filter fun t=>!(decide (t < a)||decide (t≥b))
def Qy.bx (q:Qy):Bx:=⟨⟨q.a0,q.b0⟩,⟨q.a1,q.b1⟩,⟨q.a2,q.b2⟩,⟨q.a3,q.b3⟩,⟨q.a4,q.b4⟩⟩
def y64 (d i:Int) (s:Sp):Bool:=!(decide (i≥d)&&!((s.lo==0)&&(s.hi==0)))&&(!s.emp&&(z1n s.lo&&z1n s.hi))
def zw7 (b:Bx) (d:Int):Bool:=y64 d 0 b.s0&&(y64 d 1 b.s1&&(y64 d 2 b.s2&&(y64 d 3 b.s3&&y64 d 4 b.s4)))
def z7a:z0u
 | [b,.int .i64 d]=>zw8 b fun b=>.ok (.bool (zw7 b d)) []
 | _=>.no
def y0r (m:Md) (q:Qy):Bool:=
 cond (q.k==1) (decide (q.lo≤q.hi)&&((q.ft==0)&&!q.fl))
  (cond (q.k==2) (decide (m.c≥2)&&((q.lo==0)&&((q.hi==0)&&((q.ft==0)&&!q.fl))))
   (cond (q.k==3) (decide (q.ft≥0)&&(decide (q.ft < m.d)&&((q.lo==0)&&(q.hi==0)))) false))
def z6x (m:Md) (q:Qy):Bool:=z3z m&&(decide (q.c≥0)&&(decide (q.c < m.c)&&(decide (q.bu≥0)&&(decide (q.bu≤65536)&&(zw7 q.bx m.d&&y0r m q)))))
def z9h (q:Qy):Bool:=(q.k==3)&&(decide (q.ft≥0)&&decide (q.ft < 4))
def zda (q:Qy):Bx:=q.bx.p (cond (z9h q) (q.bx.g q.ft.toNat) ⟨0,0⟩) 4
def z73 (q:Qy) (p:Pt) (t:Int):Pt:=cond (z9h q) (p.p t q.ft.toNat) p
def ycw (m:Md) (q:Qy) (p:Pt) (own:Int):Bool:=(List.range m.c.toNat).any fun c=>!((c:Int)==q.c)&&decide (z5k m (c:Int) p≥own)
def zhf (m:Md) (q:Qy) (p:Pt) (t:Int):Bool:=
 z6x m q &&
  cond (q.k==1) (!(Sp.has ⟨q.lo,q.hi⟩ (z5k m q.c p)))
   (cond (q.k==2) (ycw m q p (z5k m q.c p))
    (cond (decide (p.g q.ft.toNat≥t)) false
     (cond q.fl (decide (z5k m q.c (z73 q p t) > z5k m q.c p)) (decide (z5k m q.c (z73 q p t) < z5k m q.c p)))))
def zpy (n:Nd) (i:Nat) (own:List IV):List IV:=
 cond n.lf own ((own.set n.l.toNat ((bxI (own.getD i default)).cutL n.f n.a).I).set n.r.toNat ((bxI (own.getD i default)).cutH n.f n.a).I)
def pcI (b:Bx) (v:Int):IV:=.agg [.int b.s0.lo,.int b.s0.hi,.int b.s1.lo,.int b.s1.hi,.int b.s2.lo,.int b.s2.hi,.int b.s3.lo,.int b.s3.hi,.int b.s4.lo,.int b.s4.hi,.int v]
abbrev pcV (x:IV):Int:=cI x 10
def y10:List IV→Nat→List IV→List IV→List IV
 | [],_,_,out=>out
 | w :: r,i,own,out=>y10 r (i+1) (zpy (z08 w.toInt) i own) (cond ((z08 w.toInt).lf&&!(bxI (own.getD i default)).emp) (out++[pcI (bxI (own.getD i default)) (z08 w.toInt).v]) out)
def zaz (l:List IV) (b:Bx):List IV:=cond (zb8 l 4&&!b.emp) (y10 l 0 ((List.replicate l.length bx0.I).set 0 b.I) []) []
def yba:List IV→Int→Int
 | [],a=>a
 | x :: r,a=>yba r (min a (pcV x))
def yb6:List IV→Int→Int
 | [],a=>a
 | x :: r,a=>yb6 r (max a (pcV x))
def yh1 (ps:List IV):Int:=yba ps (pcV (ps.getD 0 default))
def yh5 (ps:List IV):Int:=yb6 ps (pcV (ps.getD 0 default))
def tOK (l:List IV) (b:Bx):Bool:=!((zaz l b).isEmpty)
def tLo (l:List IV) (b:Bx):Int:=cond (tOK l b) (yh1 (zaz l b)) 0
def tHi (l:List IV) (b:Bx):Int:=cond (tOK l b) (yh5 (zaz l b)) 0
def y9t (h:List IV→Int) (c:Int):List IV→Int→Int
 | [],s=>s
 | t :: r,s=>y9t h c r (cond (yha t==c) (s+h (zqu t)) s)
def sOK (m:Md) (c:Int) (b:Bx):Bool:=z3z m&&(zej m c&&!b.emp)
def sLo (m:Md) (c:Int) (b:Bx):Int:=cond (sOK m c b) (y9t (fun l=>tLo l b) c m.ts (zhi m c)) 0
def sHi (m:Md) (c:Int) (b:Bx):Int:=cond (sOK m c b) (y9t (fun l=>tHi l b) c m.ts (zhi m c)) 0
def zym (m:Md) (c lo:Int) (b:Bx):Nat→Int→Int→Bool→Int
 | 0,_,a,_=>a
 | n+1,i,a,z=>cond (i==c) (zym m c lo b n (i+1) a z)
  (cond (!z||decide (lo - sHi m i b < a)) (zym m c lo b n (i+1) (lo - sHi m i b) true) (zym m c lo b n (i+1) a z))
def yfb (m:Md) (c:Int) (b:Bx):Bool:=sOK m c b&&decide (m.c≥2)
def ygz (m:Md) (c:Int) (b:Bx):Int:=cond (yfb m c b) (zym m c (sLo m c b) b m.c.toNat 0 0 false) 0
def zyt (q:Qy) (b:Bx):Bx:=cond (z9h q) (b.p ⟨0,0⟩ 4) b
def zpp (q:Qy) (b:Bx):Bx:=cond (z9h q) ((b.p b.s4 q.ft.toNat).p ⟨0,0⟩ 4) b
def zy3 (q:Qy) (b:Bx):Bool:=z9h q&&(!b.emp&&decide ((b.g q.ft.toNat).lo < b.s4.hi))
def ydf (m:Md) (q:Qy) (b:Bx):Bool:=z9h q&&(sOK m q.c (zyt q b)&&sOK m q.c (zpp q b))
def yhc (m:Md) (q:Qy) (b:Bx):Int:=cond (ydf m q b) (sLo m q.c (zpp q b) - sHi m q.c (zyt q b)) 0
def yh6 (m:Md) (q:Qy) (b:Bx):Int:=cond (ydf m q b) (sHi m q.c (zpp q b) - sLo m q.c (zyt q b)) 0
def zdn (m:Md) (q:Qy) (b:Bx):Bool:=
 z6x m q &&
  cond b.emp true
   (cond (q.k==1) (sOK m q.c b&&(decide (q.lo≤sLo m q.c b)&&decide (sHi m q.c b≤q.hi)))
    (cond (q.k==2) (yfb m q.c b&&decide (ygz m q.c b > 0))
     (cond (!(zy3 q b)) true
      (cond q.fl (ydf m q b&&decide (yh6 m q b≤0)) (ydf m q b&&decide (yhc m q b≥0))))))
def yfu (q:Qy) (i:Int):Int:=cond (decide (i≥0)&&decide (i < 4)) i (cond ((i==4)&&(q.k==3)) q.ft (-1))
def ye0 (m:Md) (q:Qy) (b:Bx) (i:Nat):List Int:=
 cond (decide (yfu q (i:Int) < 0)) [] (yhs (b.g i).lo (b.g i).hi (yio m.ts (yfu q (i:Int))))
def spR (m:Md) (q:Qy) (b:Bx):Nat→Nat→Option (Int × Int)
 | 0,_=>none
 | n+1,i=>cond (decide ((ye0 m q b i).length > 0)) (some ((i:Int),(ye0 m q b i).getD (((ye0 m q b i).length - 1) / 2) 0)) (spR m q b n (i+1))
def zon (m:Md) (q:Qy) (b:Bx):Option (Int × Int):=spR m q b 5 0
def zak:z0u
 | [m,q]=>zto m fun m=>zx8 q fun q=>.ok (.bool (y0r m q)) []
 | _=>.no
def z3k:z0u
 | [m,q]=>zto m fun m=>zx8 q fun q=>.ok (.bool (z6x m q)) []
 | _=>.no
def z4k:z0u
 | [q]=>zx8 q fun q=>.ok (.bool (z9h q)) []
 | _=>.no
def z8u:z0u
 | [q]=>zx8 q fun q=>.ok (zda q).V []
 | _=>.no
def z7l:z0u
 | [q,p,.int .i64 t]=>zx8 q fun q=>y1u p fun p=>.ok (z73 q p t).V []
 | _=>.no
def z7j:z0u
 | [m,q,p,.int .i64 t]=>zto m fun m=>zx8 q fun q=>y1u p fun p=>.ok (.bool (zhf m q p t)) []
 | _=>.no
def spI (o:Option (Int × Int)):Int:=match o with | none=>0 | some (i,_)=>i
def yhm (o:Option (Int × Int)):Int:=match o with | none=>0 | some (_,a)=>a
structure Sr where
 left:List IV
 proof:List IV
 v:Vd
 spent:Int
def stI (s:Bool) (p a:Int):IV:=.agg [.bool s,.int p,.int a]
def zie (l:List IV):Bx:=bxI (l.getD (l.length - 1) default)
def zjz (l:List IV):List IV:=l.take (l.length - 1)
def ye3 (m:Md) (q:Qy) (s:Sr):Sr:=
 cond (zdn m q (zie s.left)) ⟨zjz s.left,s.proof++[stI true 0 0],cond (ic (s.left.length - 1)==0) ⟨1,s.proof++[stI true 0 0],0,0,0,0,0,0⟩ s.v,s.spent+1⟩
  (cond (zhf m q (zie s.left).low (zie s.left).s4.hi) ⟨zjz s.left,s.proof,⟨2,[],(zie s.left).s0.lo,(zie s.left).s1.lo,(zie s.left).s2.lo,(zie s.left).s3.lo,(zie s.left).s4.hi,0⟩,s.spent+1⟩
   (cond (zon m q (zie s.left)).isSome
    ⟨zjz s.left++[((zie s.left).cutH (spI (zon m q (zie s.left))) (yhm (zon m q (zie s.left)))).I,((zie s.left).cutL (spI (zon m q (zie s.left))) (yhm (zon m q (zie s.left)))).I],
     s.proof++[stI false (spI (zon m q (zie s.left))) (yhm (zon m q (zie s.left)))],s.v,s.spent+1⟩
    ⟨zjz s.left,s.proof,⟨3,[],0,0,0,0,0,0⟩,s.spent+1⟩))
def ygo (q:Qy) (s:Sr):Bool:=!(s.v.kind==0)||decide (s.spent≥q.bu)
open Go Go.Proofs
def y4c (N:Nat):Env:=mkE [] [] 2 N
theorem y16 (N:Nat):z1c (y4c N) zq7 [.cell 0 34] [[.int .i64,.int .i64]] []=(some ((.agg [(.int .i64 1),(.int .i64 0)]),[])):=by kernel_rfl
def y87 (N:Nat):Env:=mkE [(194,z7w)] [] 12 N
theorem y7l (N:Nat) (lo hi:Int):z1c (y87 N) y0p [.cell 4 34] [[.int .i64,.int .i64]] [(.int .i64 lo),(.int .i64 hi)]=(cond (decide (lo > hi)) (some ((.agg [(.int .i64 1),(.int .i64 0)]),[])) (some ((.agg [(.int .i64 lo),(.int .i64 hi)]),[]))):=by kernel_rfl
def zzf (N:Nat):Env:=mkE [] [] 8 N
theorem zvu (N:Nat) (s:Sp):z1c (zzf N) znt [.tmp 2] [[.bool]] [(Sp.V s)]=(some ((.bool (decide (Sp.lo s > Sp.hi s))),[])):=by kernel_rfl
def y6v (N:Nat):Env:=mkE [] [] 15 N
theorem y3i (N:Nat) (s:Sp) (n:Int):z1c (y6v N) zu6 [.tmp 4] [[.bool]] [(Sp.V s),(.int .i64 n)]=(cond (decide (Sp.lo s≤n)) (some ((.bool (decide (n≤Sp.hi s))),[])) (some ((.bool false),[]))):=by kernel_rfl
def y7i (N:Nat):Env:=mkE [(194,z7w),(193,zh9)] [] 29 N
theorem y29 (N:Nat) (s:Sp) (atv:Int):z1c (y7i N) zua [.cell 4 34,.cell 5 34] [[.int .i64,.int .i64],[.int .i64,.int .i64]] [(Sp.V s),(.int .i64 atv)]=(cond (decide (atv≥Sp.hi s)) (some ((.tup [(Sp.V (y7v (Sp.lo s) (min (Sp.hi s) atv))),(.agg [(.int .i64 1),(.int .i64 0)])]),[])) (some ((.tup [(Sp.V (y7v (Sp.lo s) (min (Sp.hi s) atv))),(Sp.V (y7v (max (Sp.lo s) (IntKind.wrap IntKind.i64 (atv+1))) (Sp.hi s)))]),[]))):=by kernel_rfl
def z2e (N:Nat):Env:=mkE [(55,z2n)] [(3,⟨[0,3,4,5,6,9],[3,5],[]⟩)] 46 N
abbrev z26 (p:Pt) (l0:List IV) (x4 x6 x9:Int) (bo5_0:Bool) (xo5_1 xo5_2 xo5_3 xo5_4 xo5_5:Int):St:=⟨[(0,(.list false [(.int .u64)] l0)),(3,(.ptr 3 0 0)),(4,(.int .i64 x4)),(5,(.ptr 5 0 0)),(6,(.int .i64 x6)),(9,(.int .i64 x9))],[(3,(some (.box (Pt.cs p)))),(5,(some (.box [(.bool bo5_0),(.int .i64 xo5_1),(.int .i64 xo5_2),(.int .i64 xo5_3),(.int .i64 xo5_4),(.int .i64 xo5_5)])))]⟩
theorem y3c (N:Nat) (l:List IV) (p:Pt):z1c (z2e N) z3x [.tmp 4,.cell 5 111] [[.int .i64],[.bool,.int .i64,.int .i64,.int .i64,.int .i64,.int .i64]] [(.list false [.int .u64] l),(Pt.V p)]=(lpE (z2e N) (z0p z3x [1,1,0,1,0,0]) ⟨[0,3,4,5,6,9],[3,5],[]⟩ N (z26 p l 0 0 0 false 0 0 0 0 0) (z04 0 (kSq (z2e N) (z0p z3x [1,1,1]) (z3f (z2e N) none [(ResultVar.tmp 4),(ResultVar.cell 5 111)] [[(.int .i64)],[.bool,(.int .i64),(.int .i64),(.int .i64),(.int .i64),(.int .i64)]])))):=by kernel_rfl
theorem zk9 (N:Nat) (p:Pt) (l0:List IV) (x4 x6 x9:Int) (bo5_0:Bool) (xo5_1 xo5_2 xo5_3 xo5_4 xo5_5:Int) (again:St→Res) (k:Out→St→Res):rnd (z2e N) (z0p z3x [1,1,0,1,0,0]) (z26 p l0 x4 x6 x9 bo5_0 xo5_1 xo5_2 xo5_3 xo5_4 xo5_5) (z4t again ⟨[0,3,4,5,6,9],[3,5],[]⟩ k)=(cond (decide (x9 < 31)) (cond (decide (x6≥ic (List.length l0))) (k (.exit 0) (z26 p l0 x4 x6 x9 bo5_0 xo5_1 xo5_2 xo5_3 xo5_4 xo5_5)) (cond (decide (0≤x6)&&decide (x6 < ic (List.length l0))) (cond (!zb6 (IV.toInt (List.getD l0 (Int.toNat x6) default))) (k .ret (z26 p l0 (-1) x6 x9 false 0 0 0 0 0)) (cond (Nd.lf (z08 (IV.toInt (List.getD l0 (Int.toNat x6) default)))) (k .ret ⟨[(0,(.list false [(.int .u64)] l0)),(3,(.ptr 3 0 0)),(4,(.int .i64 x6)),(5,(.ptr 5 0 0)),(6,(.int .i64 x6)),(9,(.int .i64 x9))],[(3,(some (.box (Pt.cs p)))),(5,(some (.box (Nd.cs (z08 (IV.toInt (List.getD l0 (Int.toNat x6) default)))))))]⟩) (cond (decide (Nd.f (z08 (IV.toInt (List.getD l0 (Int.toNat x6) default)))=ic 0)) (cond (decide (Pt.p0 p≤Nd.a (z08 (IV.toInt (List.getD l0 (Int.toNat x6) default))))) (again (z26 p l0 x4 (Nd.l (z08 (IV.toInt (List.getD l0 (Int.toNat x6) default)))) (IntKind.wrap IntKind.i64 (x9+1)) bo5_0 xo5_1 xo5_2 xo5_3 xo5_4 xo5_5)) (again (z26 p l0 x4 (Nd.r (z08 (IV.toInt (List.getD l0 (Int.toNat x6) default)))) (IntKind.wrap IntKind.i64 (x9+1)) bo5_0 xo5_1 xo5_2 xo5_3 xo5_4 xo5_5))) (cond (decide (Nd.f (z08 (IV.toInt (List.getD l0 (Int.toNat x6) default)))=ic 1)) (cond (decide (Pt.p1 p≤Nd.a (z08 (IV.toInt (List.getD l0 (Int.toNat x6) default))))) (again (z26 p l0 x4 (Nd.l (z08 (IV.toInt (List.getD l0 (Int.toNat x6) default)))) (IntKind.wrap IntKind.i64 (x9+1)) bo5_0 xo5_1 xo5_2 xo5_3 xo5_4 xo5_5)) (again (z26 p l0 x4 (Nd.r (z08 (IV.toInt (List.getD l0 (Int.toNat x6) default)))) (IntKind.wrap IntKind.i64 (x9+1)) bo5_0 xo5_1 xo5_2 xo5_3 xo5_4 xo5_5))) (cond (decide (Nd.f (z08 (IV.toInt (List.getD l0 (Int.toNat x6) default)))=ic 2)) (cond (decide (Pt.p2 p≤Nd.a (z08 (IV.toInt (List.getD l0 (Int.toNat x6) default))))) (again (z26 p l0 x4 (Nd.l (z08 (IV.toInt (List.getD l0 (Int.toNat x6) default)))) (IntKind.wrap IntKind.i64 (x9+1)) bo5_0 xo5_1 xo5_2 xo5_3 xo5_4 xo5_5)) (again (z26 p l0 x4 (Nd.r (z08 (IV.toInt (List.getD l0 (Int.toNat x6) default)))) (IntKind.wrap IntKind.i64 (x9+1)) bo5_0 xo5_1 xo5_2 xo5_3 xo5_4 xo5_5))) (cond (decide (Nd.f (z08 (IV.toInt (List.getD l0 (Int.toNat x6) default)))=ic 3)) (cond (decide (Pt.p3 p≤Nd.a (z08 (IV.toInt (List.getD l0 (Int.toNat x6) default))))) (again (z26 p l0 x4 (Nd.l (z08 (IV.toInt (List.getD l0 (Int.toNat x6) default)))) (IntKind.wrap IntKind.i64 (x9+1)) bo5_0 xo5_1 xo5_2 xo5_3 xo5_4 xo5_5)) (again (z26 p l0 x4 (Nd.r (z08 (IV.toInt (List.getD l0 (Int.toNat x6) default)))) (IntKind.wrap IntKind.i64 (x9+1)) bo5_0 xo5_1 xo5_2 xo5_3 xo5_4 xo5_5))) none)))))) none)) (k (.exit 0) (z26 p l0 x4 x6 x9 bo5_0 xo5_1 xo5_2 xo5_3 xo5_4 xo5_5))):=by kernel_rfl
theorem zhh (N:Nat) (p:Pt) (l0:List IV) (x4 x6 x9:Int) (bo5_0:Bool) (xo5_1 xo5_2 xo5_3 xo5_4 xo5_5:Int):(z04 0 (kSq (z2e N) (z0p z3x [1,1,1]) (z3f (z2e N) none [(ResultVar.tmp 4),(ResultVar.cell 5 111)] [[(.int .i64)],[.bool,(.int .i64),(.int .i64),(.int .i64),(.int .i64),(.int .i64)]]))) (.exit 0) (z26 p l0 x4 x6 x9 bo5_0 xo5_1 xo5_2 xo5_3 xo5_4 xo5_5)=(some ((.tup [(.int .i64 (-1)),(.agg [(.bool false),(.int .i64 0),(.int .i64 0),(.int .i64 0),(.int .i64 0),(.int .i64 0)])]),[])):=by kernel_rfl
theorem zqh (N:Nat) (p:Pt) (l0:List IV) (x4 x6 x9:Int) (bo5_0:Bool) (xo5_1 xo5_2 xo5_3 xo5_4 xo5_5:Int):(z04 0 (kSq (z2e N) (z0p z3x [1,1,1]) (z3f (z2e N) none [(ResultVar.tmp 4),(ResultVar.cell 5 111)] [[(.int .i64)],[.bool,(.int .i64),(.int .i64),(.int .i64),(.int .i64),(.int .i64)]]))) .ret (z26 p l0 x4 x6 x9 bo5_0 xo5_1 xo5_2 xo5_3 xo5_4 xo5_5)=(some ((.tup [(.int .i64 x4),(.agg [(.bool bo5_0),(.int .i64 xo5_1),(.int .i64 xo5_2),(.int .i64 xo5_3),(.int .i64 xo5_4),(.int .i64 xo5_5)])]),[])):=by kernel_rfl
def y14 (N:Nat):Env:=mkE [(217,ze0)] [] 15 N
theorem zxf (N:Nat) (l:List IV) (p:Pt):z1c (y14 N) zo3 [.tmp 4] [[.int .i64]] [(.list false [.int .u64] l),(Pt.V p)]=(some ((.int .i64 (Nd.v (yey l p))),[])):=by kernel_rfl
def z1v (N:Nat):Env:=mkE [(195,zag)] [(3,⟨[1,5,6,7,15,16,17],[5],[]⟩)] 33 N
abbrev z3o (p:Pt) (x1 x6 x7:Int) (l15:List IV) (x16 x17:Int):St:=⟨[(1,(.int .i64 x1)),(5,(.ptr 5 0 0)),(6,(.int .i64 x6)),(7,(.int .i64 x7)),(15,(.list true zwi l15)),(16,(.int .i64 x16)),(17,(.int .i64 x17))],[(5,(some (.box (Pt.cs p))))]⟩
theorem zx1 (N:Nat) (m:Md) (classv:Int) (p:Pt):z1c (z1v N) z2q [.tmp 6] [[.int .i64]] [(Md.V m),(.int .i64 classv),(Pt.V p)]=(cond (decide (classv=ic 0)) (lpE (z1v N) (z0p z2q [1,1,0,1,0,0]) ⟨[1,5,6,7,15,16,17],[5],[]⟩ N (z3o p classv 0 (Md.b0 m) (Md.ts m) (ic (List.length (Md.ts m))) 0) (z04 0 (kSq (z1v N) (z0p z2q [1,1,1]) (z3f (z1v N) none [(ResultVar.tmp 6)] [[(.int .i64)]])))) (cond (decide (classv=ic 1)) (lpE (z1v N) (z0p z2q [1,1,0,1,0,0]) ⟨[1,5,6,7,15,16,17],[5],[]⟩ N (z3o p classv 0 (Md.b1 m) (Md.ts m) (ic (List.length (Md.ts m))) 0) (z04 0 (kSq (z1v N) (z0p z2q [1,1,1]) (z3f (z1v N) none [(ResultVar.tmp 6)] [[(.int .i64)]])))) (cond (decide (classv=ic 2)) (lpE (z1v N) (z0p z2q [1,1,0,1,0,0]) ⟨[1,5,6,7,15,16,17],[5],[]⟩ N (z3o p classv 0 (Md.b2 m) (Md.ts m) (ic (List.length (Md.ts m))) 0) (z04 0 (kSq (z1v N) (z0p z2q [1,1,1]) (z3f (z1v N) none [(ResultVar.tmp 6)] [[(.int .i64)]])))) none))):=by kernel_rfl
theorem zh1 (N:Nat) (p:Pt) (x1 x6 x7:Int) (l15:List IV) (x16 x17:Int) (again:St→Res) (k:Out→St→Res):rnd (z1v N) (z0p z2q [1,1,0,1,0,0]) (z3o p x1 x6 x7 l15 x16 x17) (z4t again ⟨[1,5,6,7,15,16,17],[5],[]⟩ k)=(cond (decide (x17 < x16)) (cond (decide (0≤x17)&&decide (x17 < ic (List.length l15))) (cond (IV.toInt (IV.cell (List.getD l15 (Int.toNat x17) default) 0)==x1) (again (z3o p x1 x6 (IntKind.wrap IntKind.i64 (x7+zp4 (IV.toList (IV.cell (List.getD l15 (Int.toNat x17) default) 1)) p)) l15 x16 (IntKind.wrap IntKind.i64 (x17+1)))) (again (z3o p x1 x6 x7 l15 x16 (IntKind.wrap IntKind.i64 (x17+1))))) none) (k (.exit 0) (z3o p x1 x6 x7 l15 x16 x17))):=by kernel_rfl
theorem zmu (N:Nat) (p:Pt) (x1 x6 x7:Int) (l15:List IV) (x16 x17:Int):(z04 0 (kSq (z1v N) (z0p z2q [1,1,1]) (z3f (z1v N) none [(ResultVar.tmp 6)] [[(.int .i64)]]))) (.exit 0) (z3o p x1 x6 x7 l15 x16 x17)=(some ((.int .i64 x7),[])):=by kernel_rfl
def zzb (N:Nat):Env:=mkE [(53,z2p),(159,zah)] [] 24 N
theorem zw3 (N:Nat) (m:Md) (classv:Int) (p:Pt):z1c (zzb N) zoj [.tmp 6] [[.int .i64]] [(Md.V m),(.int .i64 classv),(Pt.V p)]=(cond (!z3z m) (some ((.int .i64 0),[])) (cond (decide (classv < 0)) (some ((.int .i64 0),[])) (cond (decide (classv≥Md.c m)) (some ((.int .i64 0),[])) (cond (z3z m&&zej m classv) (some ((.int .i64 (evF classv p (Md.ts m) (zhi m classv))),[])) none)))):=by kernel_rfl
def y2l (N:Nat):Env:=mkE [(155,z6c)] [(2,⟨[2,5,6],[],[]⟩)] 12 N
open Go Go.Proofs
def zyp (N:Nat):Env:=mkE [] [] 71 N
theorem zyc (N:Nat) (m:Md) (a1:Qy):z1c (zyp N) zoi [.tmp 4] [[.bool]] [(Md.V m),(Qy.V a1)]=(cond (Qy.k a1==1) (cond (decide (Qy.lo a1≤Qy.hi a1)) (cond (Qy.ft a1==0) (some ((.bool (!Qy.fl a1)),[])) (some ((.bool false),[]))) (some ((.bool false),[]))) (cond (Qy.k a1==2) (cond (decide (Md.c m≥2)) (cond (Qy.lo a1==0) (cond (Qy.hi a1==0) (cond (Qy.ft a1==0) (some ((.bool (!Qy.fl a1)),[])) (some ((.bool false),[]))) (some ((.bool false),[]))) (some ((.bool false),[]))) (some ((.bool false),[]))) (cond (Qy.k a1==3) (cond (decide (Qy.ft a1≥0)) (cond (decide (Qy.ft a1 < Md.d m)) (cond (Qy.lo a1==0) (some ((.bool (Qy.hi a1==0)),[])) (some ((.bool false),[]))) (some ((.bool false),[]))) (some ((.bool false),[]))) (some ((.bool false),[]))))):=by kernel_rfl
def zvw (N:Nat):Env:=mkE [(53,z2p),(108,zak),(107,z7a)] [] 41 N
theorem zt3 (N:Nat) (m:Md) (q:Qy):z1c (zvw N) zll [.tmp 4] [[.bool]] [(Md.V m),(Qy.V q)]=(cond (z3z m) (cond (decide (Qy.c q≥0)) (cond (decide (Qy.c q < Md.c m)) (cond (decide (Qy.bu q≥0)) (cond (decide (Qy.bu q≤65536)) (cond (zw7 {s0:={lo:=Qy.a0 q,hi:=Qy.b0 q},s1:={lo:=Qy.a1 q,hi:=Qy.b1 q},s2:={lo:=Qy.a2 q,hi:=Qy.b2 q},s3:={lo:=Qy.a3 q,hi:=Qy.b3 q},s4:={lo:=Qy.a4 q,hi:=Qy.b4 q}} (Md.d m)) (some ((.bool (y0r m q)),[])) (some ((.bool false),[]))) (some ((.bool false),[]))) (some ((.bool false),[]))) (some ((.bool false),[]))) (some ((.bool false),[]))) (some ((.bool false),[]))):=by kernel_rfl
def zss (N:Nat):Env:=mkE [] [] 16 N
theorem zqq (N:Nat) (q:Qy):z1c (zss N) ziu [.tmp 2] [[.bool]] [(Qy.V q)]=(cond (Qy.k q==3) (cond (decide (Qy.ft q≥0)) (some ((.bool (decide (Qy.ft q < 4))),[])) (some ((.bool false),[]))) (some ((.bool false),[]))):=by kernel_rfl
def zy0 (N:Nat):Env:=mkE [(109,z4k)] [] 16 N
theorem zt9 (N:Nat) (q:Qy):z1c (zy0 N) zl0 [.cell 2 36] [[.int .i64,.int .i64,.int .i64,.int .i64,.int .i64,.int .i64,.int .i64,.int .i64,.int .i64,.int .i64]] [(Qy.V q)]=(cond (z9h q) (cond (decide (Qy.ft q=ic 0)) (some ((.agg [(.int .i64 (Qy.a0 q)),(.int .i64 (Qy.b0 q)),(.int .i64 (Qy.a1 q)),(.int .i64 (Qy.b1 q)),(.int .i64 (Qy.a2 q)),(.int .i64 (Qy.b2 q)),(.int .i64 (Qy.a3 q)),(.int .i64 (Qy.b3 q)),(.int .i64 (Qy.a0 q)),(.int .i64 (Qy.b0 q))]),[])) (cond (decide (Qy.ft q=ic 1)) (some ((.agg [(.int .i64 (Qy.a0 q)),(.int .i64 (Qy.b0 q)),(.int .i64 (Qy.a1 q)),(.int .i64 (Qy.b1 q)),(.int .i64 (Qy.a2 q)),(.int .i64 (Qy.b2 q)),(.int .i64 (Qy.a3 q)),(.int .i64 (Qy.b3 q)),(.int .i64 (Qy.a1 q)),(.int .i64 (Qy.b1 q))]),[])) (cond (decide (Qy.ft q=ic 2)) (some ((.agg [(.int .i64 (Qy.a0 q)),(.int .i64 (Qy.b0 q)),(.int .i64 (Qy.a1 q)),(.int .i64 (Qy.b1 q)),(.int .i64 (Qy.a2 q)),(.int .i64 (Qy.b2 q)),(.int .i64 (Qy.a3 q)),(.int .i64 (Qy.b3 q)),(.int .i64 (Qy.a2 q)),(.int .i64 (Qy.b2 q))]),[])) (cond (decide (Qy.ft q=ic 3)) (some ((.agg [(.int .i64 (Qy.a0 q)),(.int .i64 (Qy.b0 q)),(.int .i64 (Qy.a1 q)),(.int .i64 (Qy.b1 q)),(.int .i64 (Qy.a2 q)),(.int .i64 (Qy.b2 q)),(.int .i64 (Qy.a3 q)),(.int .i64 (Qy.b3 q)),(.int .i64 (Qy.a3 q)),(.int .i64 (Qy.b3 q))]),[])) (cond (decide (Qy.ft q=ic 4)) (some ((.agg [(.int .i64 (Qy.a0 q)),(.int .i64 (Qy.b0 q)),(.int .i64 (Qy.a1 q)),(.int .i64 (Qy.b1 q)),(.int .i64 (Qy.a2 q)),(.int .i64 (Qy.b2 q)),(.int .i64 (Qy.a3 q)),(.int .i64 (Qy.b3 q)),(.int .i64 0),(.int .i64 0)]),[])) none))))) (some ((.agg [(.int .i64 (Qy.a0 q)),(.int .i64 (Qy.b0 q)),(.int .i64 (Qy.a1 q)),(.int .i64 (Qy.b1 q)),(.int .i64 (Qy.a2 q)),(.int .i64 (Qy.b2 q)),(.int .i64 (Qy.a3 q)),(.int .i64 (Qy.b3 q)),(.int .i64 0),(.int .i64 0)]),[]))):=by kernel_rfl
def zty (N:Nat):Env:=mkE [(109,z4k)] [] 14 N
theorem zqx (N:Nat) (q:Qy) (p:Pt) (twin:Int):z1c (zty N) zir [.cell 6 53] [[.int .i64,.int .i64,.int .i64,.int .i64]] [(Qy.V q),(Pt.V p),(.int .i64 twin)]=(cond (z9h q) (cond (decide (Qy.ft q=ic 0)) (some ((.agg [(.int .i64 twin),(.int .i64 (Pt.p1 p)),(.int .i64 (Pt.p2 p)),(.int .i64 (Pt.p3 p))]),[])) (cond (decide (Qy.ft q=ic 1)) (some ((.agg [(.int .i64 (Pt.p0 p)),(.int .i64 twin),(.int .i64 (Pt.p2 p)),(.int .i64 (Pt.p3 p))]),[])) (cond (decide (Qy.ft q=ic 2)) (some ((.agg [(.int .i64 (Pt.p0 p)),(.int .i64 (Pt.p1 p)),(.int .i64 twin),(.int .i64 (Pt.p3 p))]),[])) (cond (decide (Qy.ft q=ic 3)) (some ((.agg [(.int .i64 (Pt.p0 p)),(.int .i64 (Pt.p1 p)),(.int .i64 (Pt.p2 p)),(.int .i64 twin)]),[])) none)))) (some ((Pt.V p),[]))):=by kernel_rfl
def z17 (N:Nat):Env:=mkE [(115,zaw),(65,z3k),(116,z7l),(114,z9p)] [(9,⟨[4,5,6,8,9,36,37],[4,5,6],[]⟩)] 75 N
abbrev z2r (m:Md) (a1:Qy) (a2:Pt) (b8:Bool) (x9 x36 x37:Int):St:=⟨[(4,(.ptr 4 0 0)),(5,(.ptr 5 0 0)),(6,(.ptr 6 0 0)),(8,(.bool b8)),(9,(.int .i64 x9)),(36,(.int .i64 x36)),(37,(.int .i64 x37))],[(4,(some (.box (Md.cs m)))),(5,(some (.box (Qy.cs a1)))),(6,(some (.box (Pt.cs a2))))]⟩
theorem zr2 (N:Nat) (m:Md) (a1:Qy) (a2:Pt) (a3:Int):z1c (z17 N) z1t [.tmp 8] [[.bool]] [(Md.V m),(Qy.V a1),(Pt.V a2),(.int .i64 a3)]=(cond (!z6x m a1) (some ((.bool false),[])) (cond (Qy.k a1==1) (some ((.bool (!Sp.has {lo:=Qy.lo a1,hi:=Qy.hi a1} (z5k m (Qy.c a1) a2))),[])) (cond (Qy.k a1==2) (lpE (z17 N) (z0p z1t [1,1,1,0,1,0,1,1,1,0,0,1,0,0]) ⟨[4,5,6,8,9,36,37],[4,5,6],[]⟩ N (z2r m a1 a2 false (z5k m (Qy.c a1) a2) (Md.c m) 0) (z04 1 (kSq (z17 N) (z0p z1t [1,1,1,0,1,0,1,1,1,0,1]) (z04 0 (kSq (z17 N) (z0p z1t [1,1,1,1]) (z3f (z17 N) none [(ResultVar.tmp 8)] [[.bool]])))))) (cond (decide (Qy.ft a1=ic 0)) (cond (decide (Pt.p0 a2≥a3)) (some ((.bool false),[])) (cond (Qy.fl a1) (some ((.bool (decide (z5k m (Qy.c a1) (z73 a1 a2 a3) > z5k m (Qy.c a1) a2))),[])) (some ((.bool (decide (z5k m (Qy.c a1) (z73 a1 a2 a3) < z5k m (Qy.c a1) a2))),[])))) (cond (decide (Qy.ft a1=ic 1)) (cond (decide (Pt.p1 a2≥a3)) (some ((.bool false),[])) (cond (Qy.fl a1) (some ((.bool (decide (z5k m (Qy.c a1) (z73 a1 a2 a3) > z5k m (Qy.c a1) a2))),[])) (some ((.bool (decide (z5k m (Qy.c a1) (z73 a1 a2 a3) < z5k m (Qy.c a1) a2))),[])))) (cond (decide (Qy.ft a1=ic 2)) (cond (decide (Pt.p2 a2≥a3)) (some ((.bool false),[])) (cond (Qy.fl a1) (some ((.bool (decide (z5k m (Qy.c a1) (z73 a1 a2 a3) > z5k m (Qy.c a1) a2))),[])) (some ((.bool (decide (z5k m (Qy.c a1) (z73 a1 a2 a3) < z5k m (Qy.c a1) a2))),[])))) (cond (decide (Qy.ft a1=ic 3)) (cond (decide (Pt.p3 a2≥a3)) (some ((.bool false),[])) (cond (Qy.fl a1) (some ((.bool (decide (z5k m (Qy.c a1) (z73 a1 a2 a3) > z5k m (Qy.c a1) a2))),[])) (some ((.bool (decide (z5k m (Qy.c a1) (z73 a1 a2 a3) < z5k m (Qy.c a1) a2))),[])))) none))))))):=by kernel_rfl
theorem ze8 (N:Nat) (m:Md) (a1:Qy) (a2:Pt) (b8:Bool) (x9 x36 x37:Int) (again:St→Res) (k:Out→St→Res):rnd (z17 N) (z0p z1t [1,1,1,0,1,0,1,1,1,0,0,1,0,0]) (z2r m a1 a2 b8 x9 x36 x37) (z4t again ⟨[4,5,6,8,9,36,37],[4,5,6],[]⟩ k)=(cond (decide (x37 < x36)) (cond (x37 != Qy.c a1) (cond (decide (z5k m x37 a2≥x9)) (k .ret (z2r m a1 a2 true x9 x36 x37)) (again (z2r m a1 a2 b8 x9 x36 (IntKind.wrap IntKind.i64 (x37+1))))) (again (z2r m a1 a2 b8 x9 x36 (IntKind.wrap IntKind.i64 (x37+1))))) (k (.exit 1) (z2r m a1 a2 b8 x9 x36 x37))):=by kernel_rfl
theorem zjd (N:Nat) (m:Md) (a1:Qy) (a2:Pt) (b8:Bool) (x9 x36 x37:Int):(z04 1 (kSq (z17 N) (z0p z1t [1,1,1,0,1,0,1,1,1,0,1]) (z04 0 (kSq (z17 N) (z0p z1t [1,1,1,1]) (z3f (z17 N) none [(ResultVar.tmp 8)] [[.bool]]))))) (.exit 1) (z2r m a1 a2 b8 x9 x36 x37)=(some ((.bool false),[])):=by kernel_rfl
theorem zj8 (N:Nat) (m:Md) (a1:Qy) (a2:Pt) (b8:Bool) (x9 x36 x37:Int):(z04 1 (kSq (z17 N) (z0p z1t [1,1,1,0,1,0,1,1,1,0,1]) (z04 0 (kSq (z17 N) (z0p z1t [1,1,1,1]) (z3f (z17 N) none [(ResultVar.tmp 8)] [[.bool]]))))) .ret (z2r m a1 a2 b8 x9 x36 x37)=(some ((.bool b8),[])):=by kernel_rfl
def zti (N:Nat):Env:=mkE [(93,z5i),(155,z6c)] [(2,⟨[1,4,7,8],[],[]⟩)] 35 N
open Go Go.Proofs
open Go Go.Proofs
set_option maxRecDepth 100000
theorem y6w {i:Int} (h:yb7 i=true):i=0∨i=1∨i=2∨i=3∨i=4:=by
 unfold yb7 at h;simp only [Bool.and_eq_true,decide_eq_true_eq] at h;omega
theorem zk8:z3c PR B0 194 z7w:=by
 refine z0m [] [] z7w [[.int .i64,.int .i64]] Tryz.func194 y3n trivial ?_;intro vs r hwf h;unfold z7w at h
 split at h
 ·rw [R.get_ok] at h
  exact ⟨0,(y16 0).trans h⟩
 ·simp [R.get] at h
set_option maxRecDepth 100000 in
theorem y2y:z3c PR B0 193 zh9:=by
 refine z0m [(194,z7w)] [] zh9 [[.int .i64,.int .i64]] Tryz.func193 yav ⟨zk8,trivial⟩ ?_;intro vs r hwf h;unfold zh9 at h
 split at h
 ·rename_i lo hi
  rw [R.get_ok] at h;refine ⟨0,?_⟩;rw [← h];refine (y7l 0 lo hi).trans ?_;unfold y7v;cases decide (lo > hi) <;> rfl
 ·simp [R.get] at h
set_option maxRecDepth 100000 in
theorem ziy:z3c PR B0 155 z6c:=by
 refine z0m [] [] z6c [[.bool]] Tryz.func155 y0s trivial ?_;intro vs r hwf h;unfold z6c at h
 split at h
 ·rename_i s
  replace h:=zrt h;obtain ⟨s,rfl,h⟩:=h;rw [R.get_ok] at h;exact ⟨0,(zvu 0 s).trans h⟩
 ·simp [R.get] at h
set_option maxRecDepth 100000 in
theorem zo4:z3c PR B0 114 z9p:=by
 refine z0m [] [] z9p [[.bool]] Tryz.func114 y83 trivial ?_;intro vs r hwf h;unfold z9p at h
 split at h
 ·rename_i s n
  replace h:=zrt h;obtain ⟨s,rfl,h⟩:=h;rw [R.get_ok] at h;refine ⟨0,?_⟩;rw [← h];refine (y3i 0 s n).trans ?_;unfold Sp.has;cases decide (s.lo≤n) <;> rfl
 ·simp [R.get] at h
set_option maxRecDepth 100000 in
theorem y26:z3c PR B0 157 zhm:=by
 refine z0m [(194,z7w),(193,zh9)] [] zhm [[.int .i64,.int .i64],[.int .i64,.int .i64]] Tryz.func157 y73 ⟨zk8,y2y,trivial⟩ ?_;intro vs r hwf h;unfold zhm at h
 split at h
 ·rename_i s n
  replace h:=zrt h;obtain ⟨s,rfl,h⟩:=h;rw [R.get_ok] at h;refine ⟨0,?_⟩;rw [← h];refine (y29 0 s n).trans ?_;unfold Sp.cutH;cases decide (n≥s.hi) <;> rfl
 ·simp [R.get] at h
theorem zvx (b:Bx):z1c (y2l 6) zqa [.tmp 2] [[.bool]] [b.V] =
 cond b.s0.emp (some (.bool true,[])) (cond b.s1.emp (some (.bool true,[])) (cond b.s2.emp (some (.bool true,[])) (cond b.s3.emp (some (.bool true,[])) (cond b.s4.emp (some (.bool true,[])) (some (.bool false,[])))))):=by kernel_rfl
set_option maxRecDepth 100000 in
theorem zet:z3c PR B0 112 z5g:=by
 refine z0m [(155,z6c)] [(2,⟨[2,5,6],[],[]⟩)] z5g [[.bool]] Tryz.func112 y2z ⟨ziy,trivial⟩ ?_;intro vs r hwf h;unfold z5g at h
 split at h
 ·rename_i b
  replace h:=zam h;obtain ⟨b,rfl,h⟩:=h;rw [R.get_ok] at h;refine ⟨6,?_⟩;rw [← h];refine (zvx b).trans ?_;unfold Bx.emp;cases b.s0.emp <;> cases b.s1.emp <;> cases b.s2.emp <;> cases b.s3.emp <;> cases b.s4.emp <;> rfl
 ·simp [R.get] at h
set_option maxRecDepth 100000 in
theorem zpz:z3c PR B0 111 zbs:=by
 refine z0m [(157,zhm)] [] zbs [[.int .i64,.int .i64,.int .i64,.int .i64,.int .i64,.int .i64,.int .i64,.int .i64,.int .i64,.int .i64],[.int .i64,.int .i64,.int .i64,.int .i64,.int .i64,.int .i64,.int .i64,.int .i64,.int .i64,.int .i64]] Tryz.func111 yal ⟨y26,trivial⟩ ?_;intro vs r hwf h;unfold zbs at h
 split at h
 ·rename_i b i a
  replace h:=zam h;obtain ⟨b,rfl,h⟩:=h;cases hg:(yb7 i) with
  | false=>rw [hg] at h; simp [R.get] at h
  | true=>
  rw [hg,R.get_br,z00,R.get_ok] at h;refine ⟨0,?_⟩;rw [← h];rcases y6w hg with rfl | rfl | rfl | rfl | rfl <;> kernel_rfl
 ·simp [R.get] at h
set_option maxRecDepth 100000 in
theorem zg2:z3c PR B0 109 z4k:=by
 refine z0m [] [] z4k [[.bool]] Tryz.func109 zte trivial ?_;intro vs r hwf h;unfold z4k at h
 split at h
 ·rename_i q
  replace h:=zal h;obtain ⟨q,rfl,h⟩:=h;rw [R.get_ok] at h;refine ⟨0,?_⟩;rw [← h];refine (zqq 0 q).trans ?_;unfold z9h;cases (q.k==3) <;> cases decide (q.ft≥0) <;> rfl
 ·simp [R.get] at h
theorem zgd {q:Qy} (h:z9h q=true):q.ft=0∨q.ft=1∨q.ft=2∨q.ft=3:=by
 unfold z9h at h;simp only [Bool.and_eq_true,decide_eq_true_eq] at h;omega
set_option maxRecDepth 100000 in
theorem zs8:z3c PR B0 66 z8u:=by
 refine z0m [(109,z4k)] [] z8u [[.int .i64,.int .i64,.int .i64,.int .i64,.int .i64,.int .i64,.int .i64,.int .i64,.int .i64,.int .i64]] Tryz.func66 zwm ⟨zg2,trivial⟩ ?_;intro vs r hwf h;unfold z8u at h
 split at h
 ·rename_i q
  replace h:=zal h;obtain ⟨q,rfl,h⟩:=h;rw [R.get_ok] at h;refine ⟨0,?_⟩;rw [← h];refine (zt9 0 q).trans ?_;unfold zda;cases hp:z9h q with
  | false=>rfl
  | true=>rcases zgd hp with e | e | e | e <;> rw [e] <;> rfl
 ·simp [R.get] at h
set_option maxRecDepth 100000 in
theorem zox:z3c PR B0 116 z7l:=by
 refine z0m [(109,z4k)] [] z7l [[.int .i64,.int .i64,.int .i64,.int .i64]] Tryz.func116 zu2 ⟨zg2,trivial⟩ ?_;intro vs r hwf h;unfold z7l at h
 split at h
 ·rename_i q p t
  replace h:=zal h;obtain ⟨q,rfl,h⟩:=h;replace h:=zc3 h;obtain ⟨p,rfl,h⟩:=h;rw [R.get_ok] at h;refine ⟨0,?_⟩;rw [← h];refine (zqx 0 q p t).trans ?_;unfold z73;cases hp:z9h q with
  | false=>rfl
  | true=>rcases zgd hp with e | e | e | e <;> rw [e] <;> rfl
 ·simp [R.get] at h
def ydy (d i:Int) (s:Sp) (rest:Res):Res:=
 cond (decide (i≥d)) (cond (!((s.lo==0)&&((s.hi==0)&&true))) (some (.bool false,[])) (cond s.emp (some (.bool false,[])) (cond (!(z1n s.lo)) (some (.bool false,[])) (cond (!(z1n s.hi)) (some (.bool false,[])) rest))))
  (cond s.emp (some (.bool false,[])) (cond (!(z1n s.lo)) (some (.bool false,[])) (cond (!(z1n s.hi)) (some (.bool false,[])) rest)))
theorem zr3 (d i:Int) (s:Sp) (rest:Res):ydy d i s rest=cond (y64 d i s) rest (some (.bool false,[])):=by
 unfold ydy y64;rw [Bool.and_true];cases decide (i≥d) <;> cases ((s.lo==0)&&(s.hi==0)) <;> cases s.emp <;> cases z1n s.lo <;> cases z1n s.hi <;> rfl
theorem zp6 (b:Bx) (d:Int):z1c (zti 6) zit [.tmp 4] [[.bool]] [b.V,.int .i64 d]=ydy d 0 b.s0 (ydy d 1 b.s1 (ydy d 2 b.s2 (ydy d 3 b.s3 (ydy d 4 b.s4 (some (.bool true,[])))))):=by kernel_rfl
set_option maxRecDepth 100000 in
theorem zow:z3c PR B0 107 z7a:=by
 refine z0m [(93,z5i),(155,z6c)] [(2,⟨[1,4,7,8],[],[]⟩)] z7a [[.bool]] Tryz.func107 ztk ⟨zfk,ziy,trivial⟩ ?_;intro vs r hwf h;unfold z7a at h
 split at h
 ·rename_i b d
  replace h:=zam h;obtain ⟨b,rfl,h⟩:=h;rw [R.get_ok] at h;refine ⟨6,?_⟩;rw [← h];refine (zp6 b d).trans ?_;rw [zr3,zr3,zr3,zr3,zr3];unfold zw7;cases y64 d 0 b.s0 <;> cases y64 d 1 b.s1 <;> cases y64 d 2 b.s2 <;> cases y64 d 3 b.s3 <;> cases y64 d 4 b.s4 <;> rfl
 ·simp [R.get] at h
set_option maxRecDepth 100000 in
theorem zsv:z3c PR B0 108 zak:=by
 refine z0m [] [] zak [[.bool]] Tryz.func108 y20 trivial ?_;intro vs r hwf h;unfold zak at h
 split at h
 ·rename_i m q
  replace h:=z97 h;obtain ⟨m,rfl,h⟩:=h;replace h:=zal h;obtain ⟨q,rfl,h⟩:=h;rw [R.get_ok] at h;refine ⟨0,?_⟩;rw [← h];refine (zyc 0 m q).trans ?_;unfold y0r;cases (q.k==1) <;> cases (q.k==2) <;> cases (q.k==3) <;> cases decide (q.lo≤q.hi) <;> cases (q.ft==0) <;> cases decide (m.c≥2) <;> cases (q.lo==0) <;> cases (q.hi==0) <;> cases decide (q.ft≥0) <;> cases decide (q.ft < m.d) <;> rfl
 ·simp [R.get] at h
set_option maxRecDepth 100000 in
theorem zbx:z3c PR B0 65 z3k:=by
 refine z0m [(53,z2p),(108,zak),(107,z7a)] [] z3k [[.bool]] Tryz.func65 zwr ⟨z8o,zsv,zow,trivial⟩ ?_;intro vs r hwf h;unfold z3k at h
 split at h
 ·rename_i m q
  replace h:=z97 h;obtain ⟨m,rfl,h⟩:=h;replace h:=zal h;obtain ⟨q,rfl,h⟩:=h;rw [R.get_ok] at h;refine ⟨0,?_⟩;rw [← h];refine (zt3 0 m q).trans ?_;unfold z6x Qy.bx;generalize zw7 _ _=rg;cases z3z m <;> cases decide (q.c≥0) <;> cases decide (q.c < m.c) <;> cases decide (q.bu≥0) <;> cases decide (q.bu≤65536) <;> cases rg <;> rfl
 ·simp [R.get] at h
theorem yay {w:Int} (hb:zb6 w=true) (hl:(z08 w).lf=false):(0≤(z08 w).f∧(z08 w).f < 4)∧(1≤(z08 w).l∧(z08 w).l < 31)∧(1≤(z08 w).r∧(z08 w).r < 31)∧z1n (z08 w).a=true:=by
 have h:=(zsi hb).2;unfold z9o at h;rw [hl,z02] at h;unfold zl2 at h;simp only [Bool.and_eq_true,decide_eq_true_eq] at h;exact ⟨⟨h.2.1,h.2.2.1⟩,h.2.2.2.2.1,h.2.2.2.2.2,h.2.2.2.1⟩
theorem y63 (w:Int):z1n (z08 w).v=true:=by
 cases hb:zb6 w with
 | false=>
  have e:z08 w=Nd.zero:=by unfold z08; rw [hb]; rfl
  rw [e]
  rfl
 | true=>
  have h:=(zsi hb).2;unfold z9o at h;cases hl:(z08 w).lf with
  | true=>
   rw [hl,z00,Bool.and_eq_true] at h;exact h.2
  | false=>
   rw [hl,z02,Bool.and_eq_true,beq_iff_eq] at h;rw [h.1]
   rfl
abbrev yht (l:List IV) (p:Pt) (a j:Int):St:=
 ⟨[(0,(.list false [(.int .u64)] l)),(3,(.ptr 3 0 0)),(4,(.int .i64 0)),(5,(.ptr 5 0 0)),(6,(.int .i64 a)),(9,(.int .i64 j))],[(3,(some (.box (Pt.cs p)))),(5,(some (.box [(.bool false),(.int .i64 0),(.int .i64 0),(.int .i64 0),(.int .i64 0),(.int .i64 0)])))]⟩
theorem y39 (N:Nat) (l:List IV) (p:Pt):∀ (m j n:Nat) (a:Int),0≤a→j+m=31→m < n →
  lpE (z2e N) (z0p z3x [1,1,0,1,0,0]) ⟨[0,3,4,5,6,9],[3,5],[]⟩ n (yht l p a (j:Int)) (z04 0 (kSq (z2e N) (z0p z3x [1,1,1]) (z3f (z2e N) none [(ResultVar.tmp 4),(ResultVar.cell 5 111)] [[(.int .i64)],[.bool,(.int .i64),(.int .i64),(.int .i64),(.int .i64),(.int .i64)]]))) =
   some (.tup [.int .i64 (zvl l p m a).1,(zvl l p m a).2.V],[])
 | m,j,0,a,_,_,h=>absurd h (by omega)
 | 0,j,n+1,a,ha,hd,_=>by
  have hj:j=31:=by omega
  subst hj;rw [z05,zk9,decide_eq_false (show ¬ ((31:Nat):Int) < 31 by omega),z02]
  exact zhh N p l _ _ _ _ _ _ _ _ _
 | m+1,j,n+1,a,ha,hd,hn=>by
  have ej:IntKind.wrap IntKind.i64 ((j:Int)+1)=((j+1:Nat):Int):=zdi (by omega)
  rw [z05,zk9,decide_eq_true (show (j:Int) < 31 by omega),z00,zvl,ej]
  cases hge:decide (a≥ic l.length) with
  | true=>
   rw [z00,z00];exact zhh N p l _ _ _ _ _ _ _ _ _
  | false=>
   have hge:=of_decide_eq_false hge;rw [z02,z02,decide_eq_true ha,decide_eq_true (show a < ic l.length by omega),Bool.and_self,z00]
   generalize (l.getD a.toNat default).toInt=w;cases hb:zb6 w with
   | false=>
    rw [Bool.not_false,z00,z00];exact zqh N p l _ _ _ _ _ _ _ _ _
   | true=>
    rw [Bool.not_true,z02,z02];cases hl:(z08 w).lf with
    | true=>
     rw [z00,z00]
     rfl
    | false=>
     obtain ⟨⟨f0,f4⟩,⟨l1,l31⟩,⟨r1,r31⟩,_⟩:=yay hb hl;rw [z02,z02];have step:∀ c:Bool,(cond c (lpE (z2e N) (z0p z3x [1,1,0,1,0,0]) ⟨[0,3,4,5,6,9],[3,5],[]⟩ n (yht l p (z08 w).l ((j+1:Nat):Int)) (z04 0 (kSq (z2e N) (z0p z3x [1,1,1]) (z3f (z2e N) none [(ResultVar.tmp 4),(ResultVar.cell 5 111)] [[(.int .i64)],[.bool,(.int .i64),(.int .i64),(.int .i64),(.int .i64),(.int .i64)]]))))
       (lpE (z2e N) (z0p z3x [1,1,0,1,0,0]) ⟨[0,3,4,5,6,9],[3,5],[]⟩ n (yht l p (z08 w).r ((j+1:Nat):Int)) (z04 0 (kSq (z2e N) (z0p z3x [1,1,1]) (z3f (z2e N) none [(ResultVar.tmp 4),(ResultVar.cell 5 111)] [[(.int .i64)],[.bool,(.int .i64),(.int .i64),(.int .i64),(.int .i64),(.int .i64)]]))))) =
       some (.tup [.int .i64 (cond c (zvl l p m (z08 w).l) (zvl l p m (z08 w).r)).1,(cond c (zvl l p m (z08 w).l) (zvl l p m (z08 w).r)).2.V],[]):=fun c=>by
      cases c with
      | true=>exact y39 N l p m (j+1) n (z08 w).l (by omega) (by omega) (by omega)
      | false=>exact y39 N l p m (j+1) n (z08 w).r (by omega) (by omega) (by omega)
     obtain e | e | e | e:(z08 w).f=0∨(z08 w).f=1∨(z08 w).f=2∨(z08 w).f=3:=by omega
     all_goals
      rw [e];exact step _
set_option maxRecDepth 100000 in
theorem zyh:z3c PR B0 217 ze0:=by
 refine z0m [(55,z2n)] [(3,⟨[0,3,4,5,6,9],[3,5],[]⟩)] ze0 [[.int .i64],[.bool,.int .i64,.int .i64,.int .i64,.int .i64,.int .i64]] Tryz.func217 y6o ⟨z8m,trivial⟩ ?_;intro vs r hwf h;unfold ze0 at h
 split at h
 ·rename_i l p
  replace h:=zc3 h;obtain ⟨p,rfl,h⟩:=h;rw [R.get_ok] at h;refine ⟨32,?_⟩;rw [← h];exact (y3c 32 l p).trans (y39 32 l p 31 0 32 0 (by omega) rfl (by omega))
 ·simp [R.get] at h
set_option maxRecDepth 100000 in
theorem ztd:z3c PR B0 195 zag:=by
 refine z0m [(217,ze0)] [] zag [[.int .i64]] Tryz.func195 zzv ⟨zyh,trivial⟩ ?_;intro vs r hwf h;unfold zag at h
 split at h
 ·rename_i l p
  replace h:=zc3 h;obtain ⟨p,rfl,h⟩:=h;rw [R.get_ok] at h;exact ⟨0,(zxf 0 l p).trans h⟩
 ·simp [R.get] at h
theorem z7f {n:Int} (h:z1n n=true) : -2147483648≤n∧n≤2147483647:=by
 unfold z1n at h
 simpa only [Bool.and_eq_true,decide_eq_true_eq] using h
theorem zw1 (l:List IV) (p:Pt):∀ (n:Nat) (a:Int),z1n (zvl l p n a).2.v=true
 | 0,_=>rfl
 | n+1,a=>by
  rw [zvl];cases decide (a≥ic l.length) with
  | true=>rfl
  | false=>
   rw [z02];generalize (l.getD a.toNat default).toInt=w;cases zb6 w with
   | false=>rfl
   | true=>
    rw [Bool.not_true,z02];cases (z08 w).lf with
    | true=>exact y63 w
    | false=>
     rw [z02];cases decide (p.g (z08 w).f.toNat≤(z08 w).a) with
     | true=>exact zw1 l p n _
     | false=>exact zw1 l p n _
theorem yeu (l:List IV) (p:Pt) : -2147483648≤zp4 l p∧zp4 l p≤2147483647:=z7f (zw1 l p 31 0)
theorem z3q {m:Md} (h:z3z m=true):(1≤m.d∧m.d≤4)∧(1≤m.c∧m.c≤3)∧m.ts.length≤8∧(z1n m.b0=true∧z1n m.b1=true∧z1n m.b2=true)∧m.ts.all (z74 m.d m.c)=true:=by
 unfold z3z zg5 at h;simp only [Bool.and_eq_true,Bool.not_eq_true',decide_eq_false_iff_not] at h;obtain ⟨⟨h1,h2,h3,h4,h5⟩,⟨h6,h7,h8⟩,h9⟩:=h;exact ⟨⟨by omega,by omega⟩,⟨by omega,by omega⟩,Nat.le_of_ble_eq_true h5,⟨h6.1,h7.1,h8.1⟩,h9⟩
theorem y5d {m:Md} {k:Int} (h:zej m k=true):0≤k∧k < m.c:=by
 unfold zej at h
 simpa only [Bool.and_eq_true,decide_eq_true_eq] using h
theorem zyi {m:Md} {k:Int} (hm:z3z m=true) (h:zej m k=true):k=0∨k=1∨k=2:=by
 have:=y5d h
 have:=(z3q hm).2.1
 omega
theorem y8q {m:Md} (hm:z3z m=true) (k:Int) : -2147483648≤zhi m k∧zhi m k≤2147483647:=by
 obtain ⟨h0,h1,h2⟩:=(z3q hm).2.2.2.1;unfold zhi;cases (k==0) with
 | true=>exact z7f h0
 | false=>
  cases (k==1) with
  | true=>exact z7f h1
  | false=>exact z7f h2
abbrev yin (ts:List IV) (p:Pt) (k s i:Int):St:=
 ⟨[(1,(.int .i64 k)),(5,(.ptr 5 0 0)),(6,(.int .i64 0)),(7,(.int .i64 s)),(15,(.list true [(.int .i64),(.list false [(.int .u64)])] ts)),(16,(.int .i64 (ic (List.length ts)))),(17,(.int .i64 i))],[(5,(some (.box (Pt.cs p))))]⟩
theorem zw0 (N:Nat) (ts:List IV) (p:Pt) (k:Int) (hts:ts.length≤8):∀ (m i n:Nat) (s:Int),i+m=ts.length→m < n → -2147483648*(i+1)≤s∧s≤2147483648*(i+1) →
  lpE (z1v N) (z0p z2q [1,1,0,1,0,0]) ⟨[1,5,6,7,15,16,17],[5],[]⟩ n (yin ts p k s (i:Int)) (z04 0 (kSq (z1v N) (z0p z2q [1,1,1]) (z3f (z1v N) none [(ResultVar.tmp 6)] [[(.int .i64)]]))) =
   some (.int .i64 (evF k p (ts.drop i) s),[])
 | m,i,0,s,_,h,_=>absurd h (by omega)
 | 0,i,n+1,s,hd,_,_=>by
  have hi:i=ts.length:=by omega
  subst hi;rw [z05,zh1,zgi (Nat.le_refl _),z02,List.drop_length];exact zmu N p _ _ _ _ _ _
 | m+1,i,n+1,s,hd,hn,hs=>by
  have hi:i < ts.length:=by omega
  have ei:IntKind.wrap IntKind.i64 ((i:Int)+1)=((i+1:Nat):Int):=zdi (by omega)
  rw [z05,zh1,ei,zfr hi,z00,zs1,Bool.and_self,z00,zgx hi,List.drop_eq_getElem_cons hi,evF];have hv:=yeu (zqu ts[i]) p;cases hc:((ts[i].cell 0).toInt==k) with
  | true=>
   rw [z00,z00];have ew:IntKind.wrap IntKind.i64 (s+zp4 (zqu ts[i]) p)=s+zp4 (zqu ts[i]) p:=z1d (by omega) (by omega)
   have ih:=zw0 N ts p k hts m (i+1) n (s+zp4 (zqu ts[i]) p) (by omega) (by omega) (by omega)
   rw [← ew] at ih;refine Eq.trans ih ?_;rw [ew]
  | false=>
   rw [z02,z02];exact zw0 N ts p k hts m (i+1) n s (by omega) (by omega) (by omega)
set_option maxRecDepth 100000 in
theorem ztb:z3c PR B0 159 zah:=by
 refine z0m [(195,zag)] [(3,⟨[1,5,6,7,15,16,17],[5],[]⟩)] zah [[.int .i64]] Tryz.func159 zzo ⟨ztd,trivial⟩ ?_;intro vs r hwf h;unfold zah at h
 split at h
 ·rename_i m k p
  replace h:=z97 h;obtain ⟨m,rfl,h⟩:=h;replace h:=zc3 h;obtain ⟨p,rfl,h⟩:=h;cases hg:(z3z m&&zej m k) with
  | false=>rw [hg] at h; simp [R.get] at h
  | true=>
  rw [hg,R.get_br,z00,R.get_ok] at h;rw [Bool.and_eq_true] at hg;have hb:=y8q hg.1 k;have run:=zw0 10 m.ts p k (z3q hg.1).2.2.1 m.ts.length 0 10 (zhi m k) (by omega) (by have:=(z3q hg.1).2.2.1; omega) (by omega)
  refine ⟨10,?_⟩;rw [← h];refine (zx1 10 m k p).trans ?_;rcases zyi hg.1 hg.2 with rfl | rfl | rfl <;> exact run
 ·simp [R.get] at h
set_option maxRecDepth 100000 in
theorem zsx:z3c PR B0 115 zaw:=by
 refine z0m [(53,z2p),(159,zah)] [] zaw [[.int .i64]] Tryz.func115 y1p ⟨z8o,ztb,trivial⟩ ?_;intro vs r hwf h;unfold zaw at h
 split at h
 ·rename_i m k p
  replace h:=z97 h;obtain ⟨m,rfl,h⟩:=h;replace h:=zc3 h;obtain ⟨p,rfl,h⟩:=h;rw [R.get_ok] at h;refine ⟨0,?_⟩;rw [← h];refine (zw3 0 m k p).trans ?_;unfold z5k zej;cases z3z m with
  | false=>rfl
  | true=>
   cases h0:decide (k < 0) with
   | true=>rw [decide_eq_false (show ¬ 0≤k by have:=of_decide_eq_true h0; omega)]; rfl
   | false=>
    rw [decide_eq_true (show 0≤k by have:=of_decide_eq_false h0; omega)]
    cases h1:decide (k≥m.c) with
    | true=>rw [decide_eq_false (show ¬ k < m.c by have:=of_decide_eq_true h1; omega)]; rfl
    | false=>rw [decide_eq_true (show k < m.c by have:=of_decide_eq_false h1; omega)]; rfl
 ·simp [R.get] at h
abbrev yhi (m:Md) (q:Qy) (p:Pt) (own i:Int):St:=
 ⟨[(4,(.ptr 4 0 0)),(5,(.ptr 5 0 0)),(6,(.ptr 6 0 0)),(8,(.bool false)),(9,(.int .i64 own)),(36,(.int .i64 (Md.c m))),(37,(.int .i64 i))],[(4,(some (.box (Md.cs m)))),(5,(some (.box (Qy.cs q)))),(6,(some (.box (Pt.cs p))))]⟩
def y9s (m:Md) (q:Qy) (p:Pt) (own:Int):Nat→Nat→Bool
 | 0,_=>false
 | d+1,i=>(!((i:Int)==q.c)&&decide (z5k m (i:Int) p≥own))||y9s m q p own d (i+1)
theorem y5s (m:Md) (q:Qy) (p:Pt) (own:Int):∀ d i,y9s m q p own d i=(List.range' i d).any fun c=>!((c:Int)==q.c)&&decide (z5k m (c:Int) p≥own)
 | 0,_=>rfl
 | d+1,i=>by rw [y9s,y5s m q p own d (i+1),List.range'_succ,List.any_cons]
theorem zvb (N:Nat) (m:Md) (q:Qy) (p:Pt) (own:Int) (hc:0≤m.c∧m.c≤3):∀ (d i n:Nat),((i+d:Nat):Int)=m.c→d < n →
  lpE (z17 N) (z0p z1t [1,1,1,0,1,0,1,1,1,0,0,1,0,0]) ⟨[4,5,6,8,9,36,37],[4,5,6],[]⟩ n (yhi m q p own (i:Int)) (z04 1 (kSq (z17 N) (z0p z1t [1,1,1,0,1,0,1,1,1,0,1]) (z04 0 (kSq (z17 N) (z0p z1t [1,1,1,1]) (z3f (z17 N) none [(ResultVar.tmp 8)] [[.bool]]))))) =
   some (.bool (y9s m q p own d i),[])
 | d,i,0,_,h=>absurd h (by omega)
 | 0,i,n+1,hd,_=>by
  rw [z05,ze8,decide_eq_false (show ¬ (i:Int) < m.c by omega),z02]
  exact zjd N m q p _ _ _ _
 | d+1,i,n+1,hd,hn=>by
  have ei:IntKind.wrap IntKind.i64 ((i:Int)+1)=((i+1:Nat):Int):=zdi (by omega)
  rw [z05,ze8,ei,decide_eq_true (show (i:Int) < m.c by omega),z00,y9s]
  have ih:=zvb N m q p own hc d (i+1) n (by omega) (by omega)
  have en:((i:Int) != q.c)=!((i:Int)==q.c):=rfl;rw [en];cases ((i:Int)==q.c) with
  | true=>exact ih
  | false=>
   rw [Bool.not_false,z00,Bool.true_and];cases decide (z5k m (i:Int) p≥own) with
   | true=>exact zj8 N m q p _ _ _ _
   | false=>exact ih
theorem y1w {m:Md} {q:Qy} (h:z6x m q=true):z3z m=true∧(0≤q.c∧q.c < m.c)∧(0≤q.bu∧q.bu≤65536)∧zw7 q.bx m.d=true∧y0r m q=true:=by
 unfold z6x at h;simp only [Bool.and_eq_true,decide_eq_true_eq] at h;exact ⟨h.1,⟨h.2.1,h.2.2.1⟩,⟨h.2.2.2.1,h.2.2.2.2.1⟩,h.2.2.2.2.2.1,h.2.2.2.2.2.2⟩
theorem zmf {m:Md} {q:Qy} (h:y0r m q=true):(q.k=1∧q.lo≤q.hi∧q.ft=0∧q.fl=false)∨(q.k=2∧2≤m.c∧q.lo=0∧q.hi=0∧q.ft=0∧q.fl=false)∨(q.k=3∧(0≤q.ft∧q.ft < m.d)∧q.lo=0∧q.hi=0):=by
 unfold y0r at h;cases h1:(q.k==1) with
 | true=>
  rw [h1,z00] at h;simp only [Bool.and_eq_true,decide_eq_true_eq,beq_iff_eq,Bool.not_eq_true'] at h;exact .inl ⟨beq_iff_eq.1 h1,h⟩
 | false=>
  rw [h1,z02] at h;cases h2:(q.k==2) with
  | true=>
   rw [h2,z00] at h;simp only [Bool.and_eq_true,decide_eq_true_eq,beq_iff_eq,Bool.not_eq_true',ge_iff_le] at h;exact .inr (.inl ⟨beq_iff_eq.1 h2,h⟩)
  | false=>
   rw [h2,z02] at h;cases h3:(q.k==3) with
   | true=>
    rw [h3,z00] at h;simp only [Bool.and_eq_true,decide_eq_true_eq,beq_iff_eq,ge_iff_le] at h;exact .inr (.inr ⟨beq_iff_eq.1 h3,⟨h.1,h.2.1⟩,h.2.2⟩)
   | false=>rw [h3,z02] at h; cases h
set_option maxRecDepth 100000 in
theorem zpg:z3c PR B0 70 z7j:=by
 refine z0m [(115,zaw),(65,z3k),(116,z7l),(114,z9p)] [(9,⟨[4,5,6,8,9,36,37],[4,5,6],[]⟩)] z7j [[.bool]] Tryz.func70 zsr ⟨zsx,zbx,zox,zo4,trivial⟩ ?_;intro vs r hwf h;unfold z7j at h
 split at h
 ·rename_i m q p t
  replace h:=z97 h;obtain ⟨m,rfl,h⟩:=h;replace h:=zal h;obtain ⟨q,rfl,h⟩:=h;replace h:=zc3 h;obtain ⟨p,rfl,h⟩:=h;rw [R.get_ok] at h;refine ⟨10,?_⟩;rw [← h];refine (zr2 10 m q p t).trans ?_;unfold zhf;cases hr:z6x m q with
  | false=>rfl
  | true=>
   obtain ⟨hm,_,_,_,hk⟩:=y1w hr;have hmp:=z3q hm;rw [Bool.not_true,z02,Bool.true_and];cases h1:(q.k==1) with
   | true=>rfl
   | false=>
    rw [z02,z02];cases h2:(q.k==2) with
    | true=>
     rw [z00,z00];refine (zvb 10 m q p _ (by omega) m.c.toNat 0 10 (by omega) (by omega)).trans ?_
     rw [y5s,← List.range_eq_range']
     rfl
    | false=>
     rw [z02,z02];rcases zmf hk with ⟨e,_⟩ | ⟨e,_⟩ | ⟨_,⟨f0,fd⟩,_⟩
     ·rw [e] at h1; cases h1
     ·rw [e] at h2; cases h2
     ·have step:∀ x:Int,cond (decide (x≥t)) (some (V.bool false,[])) (cond q.fl (some (V.bool (decide (z5k m q.c (z73 q p t) > z5k m q.c p)),[])) (some (V.bool (decide (z5k m q.c (z73 q p t) < z5k m q.c p)),[]))) =
        some (V.bool (cond (decide (x≥t)) false (cond q.fl (decide (z5k m q.c (z73 q p t) > z5k m q.c p)) (decide (z5k m q.c (z73 q p t) < z5k m q.c p)))),([]:List (List V))):=fun x=>by
       cases decide (x≥t) with
       | true=>rfl
       | false=>cases q.fl <;> rfl
      obtain e | e | e | e:q.ft=0∨q.ft=1∨q.ft=2∨q.ft=3:=by omega
      all_goals
       rw [e];exact step _
 ·simp [R.get] at h
open Go Go.Proofs Go.RowKit Go.Sort
open Go Go.Proofs
set_option maxRecDepth 100000
theorem y7z {l:List IV} {d e:Int} (h:zb8 l d=true) (hde:d≤e):zb8 l e=true:=by
 have key:∀ (l:List IV) (n:Int) (i:Nat),zfp d n i l=true→zfp e n i l=true:=by
  intro l n
  induction l with
  | nil=>intro _ _; rfl
  | cons w r ih=>
   intro i h;rw [zfp] at h ⊢
   simp only [Bool.and_eq_true] at h ⊢
   refine ⟨⟨h.1.1,?_⟩,ih _ h.2⟩;have h2:=h.1.2;unfold y8l at h2 ⊢
   cases hl:(z08 w.toInt).lf with
   | true=>rfl
   | false=>
    rw [hl,z02] at h2;rw [z02];simp only [Bool.and_eq_true,Bool.not_eq_true',decide_eq_false_iff_not] at h2 ⊢
    exact ⟨by omega,h2.2⟩
 unfold zb8 at h ⊢
 simp only [Bool.and_eq_true] at h ⊢
 exact ⟨h.1,key _ _ _ h.2.1,h.2.2⟩
theorem yf9 {l:List IV}:∀ {a:Int},z1n a=true→(∀ x∈l,z1n (pcV x)=true)→z1n (yba l a)=true:=by
 induction l with
 | nil=>intro a h _; exact h
 | cons x r ih=>
  intro a h hx;rw [yba];refine ih ?_ fun y hy=>hx y (List.mem_cons_of_mem _ hy)
  have:=z7f h
  have:=z7f (hx x (List.mem_cons_self ..))
  unfold z1n;rw [decide_eq_true (by omega),decide_eq_true (by omega)]
  rfl
theorem ye9 {l:List IV}:∀ {a:Int},z1n a=true→(∀ x∈l,z1n (pcV x)=true)→z1n (yb6 l a)=true:=by
 induction l with
 | nil=>intro a h _; exact h
 | cons x r ih=>
  intro a h hx;rw [yb6];refine ih ?_ fun y hy=>hx y (List.mem_cons_of_mem _ hy)
  have:=z7f h
  have:=z7f (hx x (List.mem_cons_self ..))
  unfold z1n;rw [decide_eq_true (by omega),decide_eq_true (by omega)]
  rfl
theorem zv2:∀ (l:List IV) (i:Nat) (own out:List IV),(∀ x∈out,z1n (pcV x)=true)→∀ x∈y10 l i own out,z1n (pcV x)=true
 | [],_,_,_,h=>h
 | w :: r,i,own,out,h=>by
  rw [y10];refine zv2 r (i+1) _ _ ?_;cases ((z08 w.toInt).lf&&!(bxI (own.getD i default)).emp) with
  | true=>
   intro x hx;rcases List.mem_append.1 hx with hx | hx
   ·exact h x hx
   ·obtain rfl:=List.mem_singleton.1 hx
    exact y63 _
  | false=>exact h
theorem y3a (l:List IV) (b:Bx):∀ x∈zaz l b,z1n (pcV x)=true:=by
 unfold zaz;cases (zb8 l 4&&!b.emp) with
 | true=>exact zv2 _ _ _ _ (fun x hx=>by cases hx)
 | false=>intro x hx; cases hx
theorem yih (l:List IV) (b:Bx):z1n (tLo l b)=true∧z1n (tHi l b)=true:=by
 unfold tLo tHi tOK;have hf:=y3a l b;generalize zaz l b=ps at hf ⊢
 cases ps with
 | nil=>exact ⟨rfl,rfl⟩
 | cons x r=>exact ⟨yf9 (hf x (List.mem_cons_self ..)) hf,ye9 (hf x (List.mem_cons_self ..)) hf⟩
theorem y02 {d c:Int} {t:IV} (h:z74 d c t=true):(0≤yha t∧yha t < c)∧zb8 (zqu t) d=true:=by
 unfold z74 at h;simp only [Bool.and_eq_true,Bool.not_eq_true',decide_eq_false_iff_not] at h;exact ⟨⟨by show 0≤(t.cell 0).toInt; omega,by show (t.cell 0).toInt < c; omega⟩,h.2.2⟩
open Go Go.Proofs
open Go Go.Proofs Go.RowKit Go.Sort Go.Lib
open Go Go.Proofs
set_option maxRecDepth 100000
open Go Go.Proofs
open Go Go.Proofs
set_option maxRecDepth 100000
structure SrInv (q:Qy) (sh:Bool) (s:Sr):Prop where
 sp0:0≤s.spent
 sp1:s.spent≤max 0 q.bu
 left:(s.left.length:Int)≤s.spent+1
 proof:(s.proof.length:Int)≤s.spent
 vp:(s.v.proof.length:Int)≤s.spent
 own:sh=false→s.v.proof=[]
 open_:s.v.kind=0→0 < s.left.length
 shut:sh=true→s.v.kind≠0
theorem ycg (l:List IV):(zjz l).length=l.length - 1:=by
 unfold zjz;rw [List.length_take];omega
theorem SrInv.step {m:Md} {q:Qy} {s:Sr} (h:SrInv q false s) (ho:ygo q s=false) :
  SrInv q (zdn m q (zie s.left)&&(ic (s.left.length - 1)==0)) (ye3 m q s)∧(ye3 m q s).spent=s.spent+1:=by
 unfold ygo at ho;rw [Bool.or_eq_false_iff] at ho;have hk:s.v.kind=0:=by simpa using ho.1
 have hs:=of_decide_eq_false ho.2;have h1:=h.sp0;have h2:=h.left;have h3:=h.proof;have h4:=h.vp;have h5:=h.own rfl;have h6:=h.open_ hk;have hp:=ycg s.left;have h5':s.v.proof.length=0:=by rw [h5]; rfl
 unfold ye3;cases zdn m q (zie s.left) with
 | true=>
  rw [z00];cases he:(ic (s.left.length - 1)==0) with
  | true=>
   refine ⟨⟨?_,?_,?_,?_,?_,fun h=>(by cases h),fun h=>(by cases h),fun _=>(show (1:Int)≠0 by decide)⟩,rfl⟩ <;> simp only [cond_true,List.length_append,List.length_singleton] <;> omega
  | false=>
   have hne:s.left.length - 1≠0:=by simpa [ic] using he
   refine ⟨⟨?_,?_,?_,?_,?_,fun _=>h5,fun _=>?_,fun h=>(by cases h)⟩,rfl⟩ <;> simp only [cond_false,List.length_append,List.length_singleton] <;> omega
 | false=>
  rw [z02,Bool.false_and];cases zhf m q (zie s.left).low (zie s.left).s4.hi with
  | true=>refine ⟨⟨?_,?_,?_,?_,?_,fun _=>rfl,fun h=>(by cases h),fun h=>(by cases h)⟩,rfl⟩ <;> simp only [cond_true,List.length_nil] <;> omega
  | false=>
   rw [z02];cases (zon m q (zie s.left)).isSome with
   | true=>refine ⟨⟨?_,?_,?_,?_,?_,fun _=>h5,fun _=>?_,fun h=>(by cases h)⟩,rfl⟩ <;> simp only [cond_true,List.length_append,List.length_singleton,List.length_cons,List.length_nil] <;> omega
   | false=>refine ⟨⟨?_,?_,?_,?_,?_,fun _=>rfl,fun h=>(by cases h),fun h=>(by cases h)⟩,rfl⟩ <;> simp only [cond_false,List.length_nil] <;> omega
open Go
def yge:Md:=⟨1,1,3,0,0,[.agg [.int 0,.list [.int (zw2 false 0 0 5 1 2),.int (zw2 true 10 0 0 0 0),.int (zw2 true 20 0 0 0 0)]]]⟩
def z4z:z0u
 | []=>.ok yge.V []
 | _=>.no
open Go
def zqb (s:Sp):Bool:=decide (-2147483648≤s.lo)&&(decide (s.lo≤s.hi)&&decide (s.hi≤2147483647))
def z4u (b:Bx):Bool:=zqb b.s0&&(zqb b.s1&&(zqb b.s2&&(zqb b.s3&&zqb b.s4)))
def zab:z0u
 | [.list false [.int .u64] l,b]=>zw8 b fun b=>.br (zb8 l 4&&z4u b) (.ok (.tup [.int .i64 (tLo l b),.int .i64 (tHi l b)]) []) .no
 | _=>.no
def za7:z0u
 | [m,.int .i64 k,b]=>zto m fun m=>zw8 b fun b=>.br (b.emp||z4u b) (.ok (.tup [.int .i64 (sLo m k b),.int .i64 (sHi m k b)]) []) .no
 | _=>.no
def z93:z0u
 | [m,q,b]=>zto m fun m=>zx8 q fun q=>zw8 b fun b=>.br (z6x m q&&(b.emp||z4u b)) (.ok (.bool (zdn m q b)) []) .no
 | _=>.no
def zcd (x:IV):Bool:=cond (zc1 x) (z1q x==0&&ziz x==0) (decide (0≤z1q x)&&decide (z1q x≤4))
def z8i:z0u
 | [.agg [.bool s,.int .i64 p,.int .i64 a]]=>.ok (.bool (zcd (stI s p a))) []
 | _=>.no
def zql (st:Int × Int) (x:IV):Option (Int × Int):=
 cond (st.1==0||!(zcd x)) none (cond (zc1 x) (some (st.1 - 1,st.2)) (some (st.1+1,max st.2 (st.1+1))))
def yb5:List IV→Int × Int→Option (Int × Int)
 | [],st=>some st
 | x :: r,st=>match zql st x with
  | some st'=>yb5 r st'
  | none=>none
def zm7 (l:List IV):Int:=cond (decide (ic l.length > 65536)) 0 (match yb5 l (1,1) with
 | some st=>cond (!(st.1==0)||decide (st.2 > 200)) 0 st.2
 | none=>0)
def zas:z0u
 | [.list true [.bool,.int .i64,.int .i64] l]=>.ok (.int .i64 (zm7 l)) []
 | _=>.no
def z8r:z0u
 | [.list true [.bool,.int .i64,.int .i64] l]=>.ok (.bool (decide (zm7 l > 0))) []
 | _=>.no
def zqw (st:List IV × List IV) (x:IV):Option (List IV × List IV):=
 cond (zc1 x) (some (zjz st.1,st.2++[(zie st.1).I]))
  (cond (decide (ziz x < ((zie st.1).g (z1q x).toNat).lo)||decide (ziz x≥((zie st.1).g (z1q x).toNat).hi)) none
   (some (zjz st.1++[((zie st.1).cutH (z1q x) (ziz x)).I,((zie st.1).cutL (z1q x) (ziz x)).I],st.2)))
def y5p:List IV→List IV × List IV→Option (List IV × List IV)
 | [],st=>some st
 | x :: r,st=>match zqw st x with
  | some st'=>y5p r st'
  | none=>none
def psF (b:Bx) (l:List IV):Option (List IV):=cond (decide (zm7 l > 0)) ((y5p l ([b.I],[])).map (·.2)) none
def zac:z0u
 | [b,.list true [.bool,.int .i64,.int .i64] l]=>zw8 b fun b=>.br (psF b l).isSome (.ok (.tup [.list true zxa ((psF b l).getD []),.bool true]) []) (.ok (.tup [.list true zxa [],.bool false]) [])
 | _=>.no
def Vd.p (v:Vd):Pt:=⟨v.w0,v.w1,v.w2,v.w3⟩
def zrk (m:Md) (q:Qy) (v:Vd):Bool:=
 z6x m q&&cond (v.kind==1) (match psF (zda q) v.proof with
   | some l=>l.all fun x=>zdn m q (bxI x)
   | none=>false)
  (cond (v.kind==2) ((zda q).has v.p v.twin&&zhf m q v.p v.twin) false)
def z79:z0u
 | [m,q,v]=>zto m fun m=>zx8 q fun q=>ydt v fun v=>.ok (.bool (zrk m q v)) []
 | _=>.no
open Go Go.Proofs
def zwj (N:Nat):Env:=mkE [] [] 16 N
theorem ztl (N:Nat) (s_Sum:Bool) (s_Place s_At:Int):z1c (zwj N) zkx [.tmp 2] [[.bool]] [(.agg [(.bool s_Sum),(.int .i64 s_Place),(.int .i64 s_At)])]=(cond s_Sum (some ((.bool (s_Sum==true&&(s_Place==0&&(s_At==0&&true)))),[])) (cond (decide (s_Place≥0)) (some ((.bool (decide (s_Place≤4))),[])) (some ((.bool false),[])))):=by kernel_rfl
def zx2 (N:Nat):Env:=mkE [(156,zas)] [] 6 N
theorem zt0 (N:Nat) (l:List IV):z1c (zx2 N) zkv [.tmp 2] [[.bool]] [(.list true [.bool,.int .i64,.int .i64] l)]=(some ((.bool (decide (zm7 l > 0))),[])):=by kernel_rfl
def y8h (N:Nat):Env:=mkE [(114,z9p)] [(2,⟨[2,3,6,9,10],[3],[]⟩)] 25 N
open Go Go.Proofs
def z3s (N:Nat):Env:=mkE [(192,z8i)] [(5,⟨[2,3,4,10,11,12],[],[]⟩)] 40 N
abbrev z30 (x2 x3 x4:Int) (l10:List IV) (x11 x12:Int):St:=⟨[(2,(.int .i64 x2)),(3,(.int .i64 x3)),(4,(.int .i64 x4)),(10,(.list true z4v l10)),(11,(.int .i64 x11)),(12,(.int .i64 x12))],[]⟩
theorem zwt (N:Nat) (l:List IV):z1c (z3s N) z57 [.tmp 2] [[.int .i64]] [(.list true [.bool,.int .i64,.int .i64] l)]=(cond (decide (ic (List.length l) > 65536)) (some ((.int .i64 0),[])) (lpE (z3s N) (z0p z57 [1,1,1,0,1,0,0]) ⟨[2,3,4,10,11,12],[],[]⟩ N (z30 0 1 1 l (ic (List.length l)) 0) (z04 0 (kSq (z3s N) (z0p z57 [1,1,1,1]) (z3f (z3s N) none [(ResultVar.tmp 2)] [[(.int .i64)]]))))):=by kernel_rfl
theorem zgp (N:Nat) (x2 x3 x4:Int) (l10:List IV) (x11 x12:Int) (again:St→Res) (k:Out→St→Res):rnd (z3s N) (z0p z57 [1,1,1,0,1,0,0]) (z30 x2 x3 x4 l10 x11 x12) (z4t again ⟨[2,3,4,10,11,12],[],[]⟩ k)=(cond (decide (x12 < x11)) (cond (decide (0≤x12)&&decide (x12 < ic (List.length l10))) (cond (x3==0) (k .ret (z30 0 x3 x4 l10 x11 x12)) (cond (!zcd (stI (IV.toBool (IV.cell (List.getD l10 (Int.toNat x12) default) 0)) (IV.toInt (IV.cell (List.getD l10 (Int.toNat x12) default) 1)) (IV.toInt (IV.cell (List.getD l10 (Int.toNat x12) default) 2)))) (k .ret (z30 0 x3 x4 l10 x11 x12)) (cond (IV.toBool (IV.cell (List.getD l10 (Int.toNat x12) default) 0)) (again (z30 x2 (IntKind.wrap IntKind.i64 (x3 - 1)) x4 l10 x11 (IntKind.wrap IntKind.i64 (x12+1)))) (again (z30 x2 (IntKind.wrap IntKind.i64 (x3+1)) (max x4 (IntKind.wrap IntKind.i64 (x3+1))) l10 x11 (IntKind.wrap IntKind.i64 (x12+1))))))) none) (k (.exit 0) (z30 x2 x3 x4 l10 x11 x12))):=by kernel_rfl
theorem zn6 (N:Nat) (x2 x3 x4:Int) (l10:List IV) (x11 x12:Int):(z04 0 (kSq (z3s N) (z0p z57 [1,1,1,1]) (z3f (z3s N) none [(ResultVar.tmp 2)] [[(.int .i64)]]))) (.exit 0) (z30 x2 x3 x4 l10 x11 x12)=(cond (x3 != 0) (some ((.int .i64 0),[])) (cond (decide (x4 > 200)) (some ((.int .i64 0),[])) (some ((.int .i64 x4),[])))):=by kernel_rfl
theorem zn4 (N:Nat) (x2 x3 x4:Int) (l10:List IV) (x11 x12:Int):(z04 0 (kSq (z3s N) (z0p z57 [1,1,1,1]) (z3f (z3s N) none [(ResultVar.tmp 2)] [[(.int .i64)]]))) .ret (z30 x2 x3 x4 l10 x11 x12)=(some ((.int .i64 x2),[])):=by kernel_rfl
def z0c (N:Nat):Env:=mkE [(112,z5g),(158,zab),(53,z2p)] [(5,⟨[1,5,6,7,8,9,40,41,42],[5],[]⟩)] 66 N
abbrev z1p (a2:Bx) (x1 x6 x7 x8 x9:Int) (l40:List IV) (x41 x42:Int):St:=⟨[(1,(.int .i64 x1)),(5,(.ptr 5 0 0)),(6,(.int .i64 x6)),(7,(.int .i64 x7)),(8,(.int .i64 x8)),(9,(.int .i64 x9)),(40,(.list true zwi l40)),(41,(.int .i64 x41)),(42,(.int .i64 x42))],[(5,(some (.box (Bx.cs a2))))]⟩
theorem zwp (N:Nat) (m:Md) (a1:Int) (a2:Bx):z1c (z0c N) z0v [.tmp 6,.tmp 7] [[.int .i64],[.int .i64]] [(Md.V m),(.int .i64 a1),(Bx.V a2)]=(cond (!z3z m) (some ((.tup [(.int .i64 0),(.int .i64 0)]),[])) (cond (decide (a1 < 0)) (some ((.tup [(.int .i64 0),(.int .i64 0)]),[])) (cond (decide (a1≥Md.c m)) (some ((.tup [(.int .i64 0),(.int .i64 0)]),[])) (cond (Bx.emp a2) (some ((.tup [(.int .i64 0),(.int .i64 0)]),[])) (cond (decide (a1=ic 0)) (cond (decide (a1=ic 0)) (lpE (z0c N) (z0p z0v [1,1,1,0,1,0,0]) ⟨[1,5,6,7,8,9,40,41,42],[5],[]⟩ N (z1p a2 a1 0 0 (Md.b0 m) (Md.b0 m) (Md.ts m) (ic (List.length (Md.ts m))) 0) (z04 0 (kSq (z0c N) (z0p z0v [1,1,1,1]) (z3f (z0c N) none [(ResultVar.tmp 6),(ResultVar.tmp 7)] [[(.int .i64)],[(.int .i64)]])))) (cond (decide (a1=ic 1)) (lpE (z0c N) (z0p z0v [1,1,1,0,1,0,0]) ⟨[1,5,6,7,8,9,40,41,42],[5],[]⟩ N (z1p a2 a1 0 0 (Md.b0 m) (Md.b1 m) (Md.ts m) (ic (List.length (Md.ts m))) 0) (z04 0 (kSq (z0c N) (z0p z0v [1,1,1,1]) (z3f (z0c N) none [(ResultVar.tmp 6),(ResultVar.tmp 7)] [[(.int .i64)],[(.int .i64)]])))) (cond (decide (a1=ic 2)) (lpE (z0c N) (z0p z0v [1,1,1,0,1,0,0]) ⟨[1,5,6,7,8,9,40,41,42],[5],[]⟩ N (z1p a2 a1 0 0 (Md.b0 m) (Md.b2 m) (Md.ts m) (ic (List.length (Md.ts m))) 0) (z04 0 (kSq (z0c N) (z0p z0v [1,1,1,1]) (z3f (z0c N) none [(ResultVar.tmp 6),(ResultVar.tmp 7)] [[(.int .i64)],[(.int .i64)]])))) none))) (cond (decide (a1=ic 1)) (cond (decide (a1=ic 0)) (lpE (z0c N) (z0p z0v [1,1,1,0,1,0,0]) ⟨[1,5,6,7,8,9,40,41,42],[5],[]⟩ N (z1p a2 a1 0 0 (Md.b1 m) (Md.b0 m) (Md.ts m) (ic (List.length (Md.ts m))) 0) (z04 0 (kSq (z0c N) (z0p z0v [1,1,1,1]) (z3f (z0c N) none [(ResultVar.tmp 6),(ResultVar.tmp 7)] [[(.int .i64)],[(.int .i64)]])))) (cond (decide (a1=ic 1)) (lpE (z0c N) (z0p z0v [1,1,1,0,1,0,0]) ⟨[1,5,6,7,8,9,40,41,42],[5],[]⟩ N (z1p a2 a1 0 0 (Md.b1 m) (Md.b1 m) (Md.ts m) (ic (List.length (Md.ts m))) 0) (z04 0 (kSq (z0c N) (z0p z0v [1,1,1,1]) (z3f (z0c N) none [(ResultVar.tmp 6),(ResultVar.tmp 7)] [[(.int .i64)],[(.int .i64)]])))) (cond (decide (a1=ic 2)) (lpE (z0c N) (z0p z0v [1,1,1,0,1,0,0]) ⟨[1,5,6,7,8,9,40,41,42],[5],[]⟩ N (z1p a2 a1 0 0 (Md.b1 m) (Md.b2 m) (Md.ts m) (ic (List.length (Md.ts m))) 0) (z04 0 (kSq (z0c N) (z0p z0v [1,1,1,1]) (z3f (z0c N) none [(ResultVar.tmp 6),(ResultVar.tmp 7)] [[(.int .i64)],[(.int .i64)]])))) none))) (cond (decide (a1=ic 2)) (cond (decide (a1=ic 0)) (lpE (z0c N) (z0p z0v [1,1,1,0,1,0,0]) ⟨[1,5,6,7,8,9,40,41,42],[5],[]⟩ N (z1p a2 a1 0 0 (Md.b2 m) (Md.b0 m) (Md.ts m) (ic (List.length (Md.ts m))) 0) (z04 0 (kSq (z0c N) (z0p z0v [1,1,1,1]) (z3f (z0c N) none [(ResultVar.tmp 6),(ResultVar.tmp 7)] [[(.int .i64)],[(.int .i64)]])))) (cond (decide (a1=ic 1)) (lpE (z0c N) (z0p z0v [1,1,1,0,1,0,0]) ⟨[1,5,6,7,8,9,40,41,42],[5],[]⟩ N (z1p a2 a1 0 0 (Md.b2 m) (Md.b1 m) (Md.ts m) (ic (List.length (Md.ts m))) 0) (z04 0 (kSq (z0c N) (z0p z0v [1,1,1,1]) (z3f (z0c N) none [(ResultVar.tmp 6),(ResultVar.tmp 7)] [[(.int .i64)],[(.int .i64)]])))) (cond (decide (a1=ic 2)) (lpE (z0c N) (z0p z0v [1,1,1,0,1,0,0]) ⟨[1,5,6,7,8,9,40,41,42],[5],[]⟩ N (z1p a2 a1 0 0 (Md.b2 m) (Md.b2 m) (Md.ts m) (ic (List.length (Md.ts m))) 0) (z04 0 (kSq (z0c N) (z0p z0v [1,1,1,1]) (z3f (z0c N) none [(ResultVar.tmp 6),(ResultVar.tmp 7)] [[(.int .i64)],[(.int .i64)]])))) none))) none))))))):=by kernel_rfl
theorem zgv (N:Nat) (a2:Bx) (x1 x6 x7 x8 x9:Int) (l40:List IV) (x41 x42:Int) (again:St→Res) (k:Out→St→Res):rnd (z0c N) (z0p z0v [1,1,1,0,1,0,0]) (z1p a2 x1 x6 x7 x8 x9 l40 x41 x42) (z4t again ⟨[1,5,6,7,8,9,40,41,42],[5],[]⟩ k)=(cond (decide (x42 < x41)) (cond (decide (0≤x42)&&decide (x42 < ic (List.length l40))) (cond (IV.toInt (IV.cell (List.getD l40 (Int.toNat x42) default) 0)==x1) (cond (zb8 (IV.toList (IV.cell (List.getD l40 (Int.toNat x42) default) 1)) 4&&z4u a2) (again (z1p a2 x1 x6 x7 (IntKind.wrap IntKind.i64 (x8+tLo (IV.toList (IV.cell (List.getD l40 (Int.toNat x42) default) 1)) a2)) (IntKind.wrap IntKind.i64 (x9+tHi (IV.toList (IV.cell (List.getD l40 (Int.toNat x42) default) 1)) a2)) l40 x41 (IntKind.wrap IntKind.i64 (x42+1)))) none) (again (z1p a2 x1 x6 x7 x8 x9 l40 x41 (IntKind.wrap IntKind.i64 (x42+1))))) none) (k (.exit 0) (z1p a2 x1 x6 x7 x8 x9 l40 x41 x42))):=by kernel_rfl
theorem zmd (N:Nat) (a2:Bx) (x1 x6 x7 x8 x9:Int) (l40:List IV) (x41 x42:Int):(z04 0 (kSq (z0c N) (z0p z0v [1,1,1,1]) (z3f (z0c N) none [(ResultVar.tmp 6),(ResultVar.tmp 7)] [[(.int .i64)],[(.int .i64)]]))) (.exit 0) (z1p a2 x1 x6 x7 x8 x9 l40 x41 x42)=(some ((.tup [(.int .i64 x8),(.int .i64 x9)]),[])):=by kernel_rfl
def z1h (N:Nat):Env:=mkE [(112,z5g),(113,za7)] [(9,⟨[3,4,5,6,7,42,43],[3,4,5],[]⟩)] 94 N
abbrev z3d (m:Md) (a1:Qy) (a2:Bx) (b6:Bool) (x7 x42 x43:Int):St:=⟨[(3,(.ptr 3 0 0)),(4,(.ptr 4 0 0)),(5,(.ptr 5 0 0)),(6,(.bool b6)),(7,(.int .i64 x7)),(42,(.int .i64 x42)),(43,(.int .i64 x43))],[(3,(some (.box (Md.cs m)))),(4,(some (.box (Qy.cs a1)))),(5,(some (.box (Bx.cs a2))))]⟩
theorem zu1 (N:Nat) (m:Md) (a1:Qy) (a2:Bx):z1c (z1h N) z2a [.tmp 6] [[.bool]] [(Md.V m),(Qy.V a1),(Bx.V a2)]=(cond (Bx.emp a2) (some ((.bool true),[])) (cond (Bx.emp a2||z4u a2) (cond (Qy.k a1==1) (cond (decide (Qy.lo a1≤sLo m (Qy.c a1) a2)) (some ((.bool (decide (sHi m (Qy.c a1) a2≤Qy.hi a1))),[])) (some ((.bool false),[]))) (cond (Qy.k a1==2) (lpE (z1h N) (z0p z2a [1,1,1,0,1,0,1,1,1,0,0,1,0,0]) ⟨[3,4,5,6,7,42,43],[3,4,5],[]⟩ N (z3d m a1 a2 false (sLo m (Qy.c a1) a2) (Md.c m) 0) (z04 1 (kSq (z1h N) (z0p z2a [1,1,1,0,1,0,1,1,1,0,1]) (z04 0 (kSq (z1h N) (z0p z2a [1,1,1,1]) (z3f (z1h N) none [(ResultVar.tmp 6)] [[.bool]])))))) (cond (decide (Qy.ft a1=ic 0)) (cond (decide (Sp.lo (Bx.s0 a2)≥Sp.hi (Bx.s4 a2))) (some ((.bool true),[])) (cond (decide (Qy.ft a1=ic 0)) (cond (Bx.emp {s0:=(Bx.s4 a2),s1:=(Bx.s1 a2),s2:=(Bx.s2 a2),s3:=(Bx.s3 a2),s4:=(Bx.s4 a2)}||z4u {s0:=(Bx.s4 a2),s1:=(Bx.s1 a2),s2:=(Bx.s2 a2),s3:=(Bx.s3 a2),s4:=(Bx.s4 a2)}) (cond (Qy.fl a1) (some ((.bool (decide (sHi m (Qy.c a1) {s0:=(Bx.s4 a2),s1:=(Bx.s1 a2),s2:=(Bx.s2 a2),s3:=(Bx.s3 a2),s4:=(Bx.s4 a2)}≤sLo m (Qy.c a1) a2))),[])) (some ((.bool (decide (sLo m (Qy.c a1) {s0:=(Bx.s4 a2),s1:=(Bx.s1 a2),s2:=(Bx.s2 a2),s3:=(Bx.s3 a2),s4:=(Bx.s4 a2)}≥sHi m (Qy.c a1) a2))),[]))) none) (cond (decide (Qy.ft a1=ic 1)) (cond (Bx.emp {s0:=(Bx.s0 a2),s1:=(Bx.s4 a2),s2:=(Bx.s2 a2),s3:=(Bx.s3 a2),s4:=(Bx.s4 a2)}||z4u {s0:=(Bx.s0 a2),s1:=(Bx.s4 a2),s2:=(Bx.s2 a2),s3:=(Bx.s3 a2),s4:=(Bx.s4 a2)}) (cond (Qy.fl a1) (some ((.bool (decide (sHi m (Qy.c a1) {s0:=(Bx.s0 a2),s1:=(Bx.s4 a2),s2:=(Bx.s2 a2),s3:=(Bx.s3 a2),s4:=(Bx.s4 a2)}≤sLo m (Qy.c a1) a2))),[])) (some ((.bool (decide (sLo m (Qy.c a1) {s0:=(Bx.s0 a2),s1:=(Bx.s4 a2),s2:=(Bx.s2 a2),s3:=(Bx.s3 a2),s4:=(Bx.s4 a2)}≥sHi m (Qy.c a1) a2))),[]))) none) (cond (decide (Qy.ft a1=ic 2)) (cond (Bx.emp {s0:=(Bx.s0 a2),s1:=(Bx.s1 a2),s2:=(Bx.s4 a2),s3:=(Bx.s3 a2),s4:=(Bx.s4 a2)}||z4u {s0:=(Bx.s0 a2),s1:=(Bx.s1 a2),s2:=(Bx.s4 a2),s3:=(Bx.s3 a2),s4:=(Bx.s4 a2)}) (cond (Qy.fl a1) (some ((.bool (decide (sHi m (Qy.c a1) {s0:=(Bx.s0 a2),s1:=(Bx.s1 a2),s2:=(Bx.s4 a2),s3:=(Bx.s3 a2),s4:=(Bx.s4 a2)}≤sLo m (Qy.c a1) a2))),[])) (some ((.bool (decide (sLo m (Qy.c a1) {s0:=(Bx.s0 a2),s1:=(Bx.s1 a2),s2:=(Bx.s4 a2),s3:=(Bx.s3 a2),s4:=(Bx.s4 a2)}≥sHi m (Qy.c a1) a2))),[]))) none) (cond (decide (Qy.ft a1=ic 3)) (cond (Bx.emp {s0:=(Bx.s0 a2),s1:=(Bx.s1 a2),s2:=(Bx.s2 a2),s3:=(Bx.s4 a2),s4:=(Bx.s4 a2)}||z4u {s0:=(Bx.s0 a2),s1:=(Bx.s1 a2),s2:=(Bx.s2 a2),s3:=(Bx.s4 a2),s4:=(Bx.s4 a2)}) (cond (Qy.fl a1) (some ((.bool (decide (sHi m (Qy.c a1) {s0:=(Bx.s0 a2),s1:=(Bx.s1 a2),s2:=(Bx.s2 a2),s3:=(Bx.s4 a2),s4:=(Bx.s4 a2)}≤sLo m (Qy.c a1) a2))),[])) (some ((.bool (decide (sLo m (Qy.c a1) {s0:=(Bx.s0 a2),s1:=(Bx.s1 a2),s2:=(Bx.s2 a2),s3:=(Bx.s4 a2),s4:=(Bx.s4 a2)}≥sHi m (Qy.c a1) a2))),[]))) none) (cond (decide (Qy.ft a1=ic 4)) (cond (Bx.emp a2||z4u a2) (cond (Qy.fl a1) (some ((.bool (decide (sHi m (Qy.c a1) a2≤sLo m (Qy.c a1) a2))),[])) (some ((.bool (decide (sLo m (Qy.c a1) a2≥sHi m (Qy.c a1) a2))),[]))) none) none)))))) (cond (decide (Qy.ft a1=ic 1)) (cond (decide (Sp.lo (Bx.s1 a2)≥Sp.hi (Bx.s4 a2))) (some ((.bool true),[])) (cond (decide (Qy.ft a1=ic 0)) (cond (Bx.emp {s0:=(Bx.s4 a2),s1:=(Bx.s1 a2),s2:=(Bx.s2 a2),s3:=(Bx.s3 a2),s4:=(Bx.s4 a2)}||z4u {s0:=(Bx.s4 a2),s1:=(Bx.s1 a2),s2:=(Bx.s2 a2),s3:=(Bx.s3 a2),s4:=(Bx.s4 a2)}) (cond (Qy.fl a1) (some ((.bool (decide (sHi m (Qy.c a1) {s0:=(Bx.s4 a2),s1:=(Bx.s1 a2),s2:=(Bx.s2 a2),s3:=(Bx.s3 a2),s4:=(Bx.s4 a2)}≤sLo m (Qy.c a1) a2))),[])) (some ((.bool (decide (sLo m (Qy.c a1) {s0:=(Bx.s4 a2),s1:=(Bx.s1 a2),s2:=(Bx.s2 a2),s3:=(Bx.s3 a2),s4:=(Bx.s4 a2)}≥sHi m (Qy.c a1) a2))),[]))) none) (cond (decide (Qy.ft a1=ic 1)) (cond (Bx.emp {s0:=(Bx.s0 a2),s1:=(Bx.s4 a2),s2:=(Bx.s2 a2),s3:=(Bx.s3 a2),s4:=(Bx.s4 a2)}||z4u {s0:=(Bx.s0 a2),s1:=(Bx.s4 a2),s2:=(Bx.s2 a2),s3:=(Bx.s3 a2),s4:=(Bx.s4 a2)}) (cond (Qy.fl a1) (some ((.bool (decide (sHi m (Qy.c a1) {s0:=(Bx.s0 a2),s1:=(Bx.s4 a2),s2:=(Bx.s2 a2),s3:=(Bx.s3 a2),s4:=(Bx.s4 a2)}≤sLo m (Qy.c a1) a2))),[])) (some ((.bool (decide (sLo m (Qy.c a1) {s0:=(Bx.s0 a2),s1:=(Bx.s4 a2),s2:=(Bx.s2 a2),s3:=(Bx.s3 a2),s4:=(Bx.s4 a2)}≥sHi m (Qy.c a1) a2))),[]))) none) (cond (decide (Qy.ft a1=ic 2)) (cond (Bx.emp {s0:=(Bx.s0 a2),s1:=(Bx.s1 a2),s2:=(Bx.s4 a2),s3:=(Bx.s3 a2),s4:=(Bx.s4 a2)}||z4u {s0:=(Bx.s0 a2),s1:=(Bx.s1 a2),s2:=(Bx.s4 a2),s3:=(Bx.s3 a2),s4:=(Bx.s4 a2)}) (cond (Qy.fl a1) (some ((.bool (decide (sHi m (Qy.c a1) {s0:=(Bx.s0 a2),s1:=(Bx.s1 a2),s2:=(Bx.s4 a2),s3:=(Bx.s3 a2),s4:=(Bx.s4 a2)}≤sLo m (Qy.c a1) a2))),[])) (some ((.bool (decide (sLo m (Qy.c a1) {s0:=(Bx.s0 a2),s1:=(Bx.s1 a2),s2:=(Bx.s4 a2),s3:=(Bx.s3 a2),s4:=(Bx.s4 a2)}≥sHi m (Qy.c a1) a2))),[]))) none) (cond (decide (Qy.ft a1=ic 3)) (cond (Bx.emp {s0:=(Bx.s0 a2),s1:=(Bx.s1 a2),s2:=(Bx.s2 a2),s3:=(Bx.s4 a2),s4:=(Bx.s4 a2)}||z4u {s0:=(Bx.s0 a2),s1:=(Bx.s1 a2),s2:=(Bx.s2 a2),s3:=(Bx.s4 a2),s4:=(Bx.s4 a2)}) (cond (Qy.fl a1) (some ((.bool (decide (sHi m (Qy.c a1) {s0:=(Bx.s0 a2),s1:=(Bx.s1 a2),s2:=(Bx.s2 a2),s3:=(Bx.s4 a2),s4:=(Bx.s4 a2)}≤sLo m (Qy.c a1) a2))),[])) (some ((.bool (decide (sLo m (Qy.c a1) {s0:=(Bx.s0 a2),s1:=(Bx.s1 a2),s2:=(Bx.s2 a2),s3:=(Bx.s4 a2),s4:=(Bx.s4 a2)}≥sHi m (Qy.c a1) a2))),[]))) none) (cond (decide (Qy.ft a1=ic 4)) (cond (Bx.emp a2||z4u a2) (cond (Qy.fl a1) (some ((.bool (decide (sHi m (Qy.c a1) a2≤sLo m (Qy.c a1) a2))),[])) (some ((.bool (decide (sLo m (Qy.c a1) a2≥sHi m (Qy.c a1) a2))),[]))) none) none)))))) (cond (decide (Qy.ft a1=ic 2)) (cond (decide (Sp.lo (Bx.s2 a2)≥Sp.hi (Bx.s4 a2))) (some ((.bool true),[])) (cond (decide (Qy.ft a1=ic 0)) (cond (Bx.emp {s0:=(Bx.s4 a2),s1:=(Bx.s1 a2),s2:=(Bx.s2 a2),s3:=(Bx.s3 a2),s4:=(Bx.s4 a2)}||z4u {s0:=(Bx.s4 a2),s1:=(Bx.s1 a2),s2:=(Bx.s2 a2),s3:=(Bx.s3 a2),s4:=(Bx.s4 a2)}) (cond (Qy.fl a1) (some ((.bool (decide (sHi m (Qy.c a1) {s0:=(Bx.s4 a2),s1:=(Bx.s1 a2),s2:=(Bx.s2 a2),s3:=(Bx.s3 a2),s4:=(Bx.s4 a2)}≤sLo m (Qy.c a1) a2))),[])) (some ((.bool (decide (sLo m (Qy.c a1) {s0:=(Bx.s4 a2),s1:=(Bx.s1 a2),s2:=(Bx.s2 a2),s3:=(Bx.s3 a2),s4:=(Bx.s4 a2)}≥sHi m (Qy.c a1) a2))),[]))) none) (cond (decide (Qy.ft a1=ic 1)) (cond (Bx.emp {s0:=(Bx.s0 a2),s1:=(Bx.s4 a2),s2:=(Bx.s2 a2),s3:=(Bx.s3 a2),s4:=(Bx.s4 a2)}||z4u {s0:=(Bx.s0 a2),s1:=(Bx.s4 a2),s2:=(Bx.s2 a2),s3:=(Bx.s3 a2),s4:=(Bx.s4 a2)}) (cond (Qy.fl a1) (some ((.bool (decide (sHi m (Qy.c a1) {s0:=(Bx.s0 a2),s1:=(Bx.s4 a2),s2:=(Bx.s2 a2),s3:=(Bx.s3 a2),s4:=(Bx.s4 a2)}≤sLo m (Qy.c a1) a2))),[])) (some ((.bool (decide (sLo m (Qy.c a1) {s0:=(Bx.s0 a2),s1:=(Bx.s4 a2),s2:=(Bx.s2 a2),s3:=(Bx.s3 a2),s4:=(Bx.s4 a2)}≥sHi m (Qy.c a1) a2))),[]))) none) (cond (decide (Qy.ft a1=ic 2)) (cond (Bx.emp {s0:=(Bx.s0 a2),s1:=(Bx.s1 a2),s2:=(Bx.s4 a2),s3:=(Bx.s3 a2),s4:=(Bx.s4 a2)}||z4u {s0:=(Bx.s0 a2),s1:=(Bx.s1 a2),s2:=(Bx.s4 a2),s3:=(Bx.s3 a2),s4:=(Bx.s4 a2)}) (cond (Qy.fl a1) (some ((.bool (decide (sHi m (Qy.c a1) {s0:=(Bx.s0 a2),s1:=(Bx.s1 a2),s2:=(Bx.s4 a2),s3:=(Bx.s3 a2),s4:=(Bx.s4 a2)}≤sLo m (Qy.c a1) a2))),[])) (some ((.bool (decide (sLo m (Qy.c a1) {s0:=(Bx.s0 a2),s1:=(Bx.s1 a2),s2:=(Bx.s4 a2),s3:=(Bx.s3 a2),s4:=(Bx.s4 a2)}≥sHi m (Qy.c a1) a2))),[]))) none) (cond (decide (Qy.ft a1=ic 3)) (cond (Bx.emp {s0:=(Bx.s0 a2),s1:=(Bx.s1 a2),s2:=(Bx.s2 a2),s3:=(Bx.s4 a2),s4:=(Bx.s4 a2)}||z4u {s0:=(Bx.s0 a2),s1:=(Bx.s1 a2),s2:=(Bx.s2 a2),s3:=(Bx.s4 a2),s4:=(Bx.s4 a2)}) (cond (Qy.fl a1) (some ((.bool (decide (sHi m (Qy.c a1) {s0:=(Bx.s0 a2),s1:=(Bx.s1 a2),s2:=(Bx.s2 a2),s3:=(Bx.s4 a2),s4:=(Bx.s4 a2)}≤sLo m (Qy.c a1) a2))),[])) (some ((.bool (decide (sLo m (Qy.c a1) {s0:=(Bx.s0 a2),s1:=(Bx.s1 a2),s2:=(Bx.s2 a2),s3:=(Bx.s4 a2),s4:=(Bx.s4 a2)}≥sHi m (Qy.c a1) a2))),[]))) none) (cond (decide (Qy.ft a1=ic 4)) (cond (Bx.emp a2||z4u a2) (cond (Qy.fl a1) (some ((.bool (decide (sHi m (Qy.c a1) a2≤sLo m (Qy.c a1) a2))),[])) (some ((.bool (decide (sLo m (Qy.c a1) a2≥sHi m (Qy.c a1) a2))),[]))) none) none)))))) (cond (decide (Qy.ft a1=ic 3)) (cond (decide (Sp.lo (Bx.s3 a2)≥Sp.hi (Bx.s4 a2))) (some ((.bool true),[])) (cond (decide (Qy.ft a1=ic 0)) (cond (Bx.emp {s0:=(Bx.s4 a2),s1:=(Bx.s1 a2),s2:=(Bx.s2 a2),s3:=(Bx.s3 a2),s4:=(Bx.s4 a2)}||z4u {s0:=(Bx.s4 a2),s1:=(Bx.s1 a2),s2:=(Bx.s2 a2),s3:=(Bx.s3 a2),s4:=(Bx.s4 a2)}) (cond (Qy.fl a1) (some ((.bool (decide (sHi m (Qy.c a1) {s0:=(Bx.s4 a2),s1:=(Bx.s1 a2),s2:=(Bx.s2 a2),s3:=(Bx.s3 a2),s4:=(Bx.s4 a2)}≤sLo m (Qy.c a1) a2))),[])) (some ((.bool (decide (sLo m (Qy.c a1) {s0:=(Bx.s4 a2),s1:=(Bx.s1 a2),s2:=(Bx.s2 a2),s3:=(Bx.s3 a2),s4:=(Bx.s4 a2)}≥sHi m (Qy.c a1) a2))),[]))) none) (cond (decide (Qy.ft a1=ic 1)) (cond (Bx.emp {s0:=(Bx.s0 a2),s1:=(Bx.s4 a2),s2:=(Bx.s2 a2),s3:=(Bx.s3 a2),s4:=(Bx.s4 a2)}||z4u {s0:=(Bx.s0 a2),s1:=(Bx.s4 a2),s2:=(Bx.s2 a2),s3:=(Bx.s3 a2),s4:=(Bx.s4 a2)}) (cond (Qy.fl a1) (some ((.bool (decide (sHi m (Qy.c a1) {s0:=(Bx.s0 a2),s1:=(Bx.s4 a2),s2:=(Bx.s2 a2),s3:=(Bx.s3 a2),s4:=(Bx.s4 a2)}≤sLo m (Qy.c a1) a2))),[])) (some ((.bool (decide (sLo m (Qy.c a1) {s0:=(Bx.s0 a2),s1:=(Bx.s4 a2),s2:=(Bx.s2 a2),s3:=(Bx.s3 a2),s4:=(Bx.s4 a2)}≥sHi m (Qy.c a1) a2))),[]))) none) (cond (decide (Qy.ft a1=ic 2)) (cond (Bx.emp {s0:=(Bx.s0 a2),s1:=(Bx.s1 a2),s2:=(Bx.s4 a2),s3:=(Bx.s3 a2),s4:=(Bx.s4 a2)}||z4u {s0:=(Bx.s0 a2),s1:=(Bx.s1 a2),s2:=(Bx.s4 a2),s3:=(Bx.s3 a2),s4:=(Bx.s4 a2)}) (cond (Qy.fl a1) (some ((.bool (decide (sHi m (Qy.c a1) {s0:=(Bx.s0 a2),s1:=(Bx.s1 a2),s2:=(Bx.s4 a2),s3:=(Bx.s3 a2),s4:=(Bx.s4 a2)}≤sLo m (Qy.c a1) a2))),[])) (some ((.bool (decide (sLo m (Qy.c a1) {s0:=(Bx.s0 a2),s1:=(Bx.s1 a2),s2:=(Bx.s4 a2),s3:=(Bx.s3 a2),s4:=(Bx.s4 a2)}≥sHi m (Qy.c a1) a2))),[]))) none) (cond (decide (Qy.ft a1=ic 3)) (cond (Bx.emp {s0:=(Bx.s0 a2),s1:=(Bx.s1 a2),s2:=(Bx.s2 a2),s3:=(Bx.s4 a2),s4:=(Bx.s4 a2)}||z4u {s0:=(Bx.s0 a2),s1:=(Bx.s1 a2),s2:=(Bx.s2 a2),s3:=(Bx.s4 a2),s4:=(Bx.s4 a2)}) (cond (Qy.fl a1) (some ((.bool (decide (sHi m (Qy.c a1) {s0:=(Bx.s0 a2),s1:=(Bx.s1 a2),s2:=(Bx.s2 a2),s3:=(Bx.s4 a2),s4:=(Bx.s4 a2)}≤sLo m (Qy.c a1) a2))),[])) (some ((.bool (decide (sLo m (Qy.c a1) {s0:=(Bx.s0 a2),s1:=(Bx.s1 a2),s2:=(Bx.s2 a2),s3:=(Bx.s4 a2),s4:=(Bx.s4 a2)}≥sHi m (Qy.c a1) a2))),[]))) none) (cond (decide (Qy.ft a1=ic 4)) (cond (Bx.emp a2||z4u a2) (cond (Qy.fl a1) (some ((.bool (decide (sHi m (Qy.c a1) a2≤sLo m (Qy.c a1) a2))),[])) (some ((.bool (decide (sLo m (Qy.c a1) a2≥sHi m (Qy.c a1) a2))),[]))) none) none)))))) (cond (decide (Qy.ft a1=ic 4)) (cond (decide (Sp.lo (Bx.s4 a2)≥Sp.hi (Bx.s4 a2))) (some ((.bool true),[])) (cond (decide (Qy.ft a1=ic 0)) (cond (Bx.emp {s0:=(Bx.s4 a2),s1:=(Bx.s1 a2),s2:=(Bx.s2 a2),s3:=(Bx.s3 a2),s4:=(Bx.s4 a2)}||z4u {s0:=(Bx.s4 a2),s1:=(Bx.s1 a2),s2:=(Bx.s2 a2),s3:=(Bx.s3 a2),s4:=(Bx.s4 a2)}) (cond (Qy.fl a1) (some ((.bool (decide (sHi m (Qy.c a1) {s0:=(Bx.s4 a2),s1:=(Bx.s1 a2),s2:=(Bx.s2 a2),s3:=(Bx.s3 a2),s4:=(Bx.s4 a2)}≤sLo m (Qy.c a1) a2))),[])) (some ((.bool (decide (sLo m (Qy.c a1) {s0:=(Bx.s4 a2),s1:=(Bx.s1 a2),s2:=(Bx.s2 a2),s3:=(Bx.s3 a2),s4:=(Bx.s4 a2)}≥sHi m (Qy.c a1) a2))),[]))) none) (cond (decide (Qy.ft a1=ic 1)) (cond (Bx.emp {s0:=(Bx.s0 a2),s1:=(Bx.s4 a2),s2:=(Bx.s2 a2),s3:=(Bx.s3 a2),s4:=(Bx.s4 a2)}||z4u {s0:=(Bx.s0 a2),s1:=(Bx.s4 a2),s2:=(Bx.s2 a2),s3:=(Bx.s3 a2),s4:=(Bx.s4 a2)}) (cond (Qy.fl a1) (some ((.bool (decide (sHi m (Qy.c a1) {s0:=(Bx.s0 a2),s1:=(Bx.s4 a2),s2:=(Bx.s2 a2),s3:=(Bx.s3 a2),s4:=(Bx.s4 a2)}≤sLo m (Qy.c a1) a2))),[])) (some ((.bool (decide (sLo m (Qy.c a1) {s0:=(Bx.s0 a2),s1:=(Bx.s4 a2),s2:=(Bx.s2 a2),s3:=(Bx.s3 a2),s4:=(Bx.s4 a2)}≥sHi m (Qy.c a1) a2))),[]))) none) (cond (decide (Qy.ft a1=ic 2)) (cond (Bx.emp {s0:=(Bx.s0 a2),s1:=(Bx.s1 a2),s2:=(Bx.s4 a2),s3:=(Bx.s3 a2),s4:=(Bx.s4 a2)}||z4u {s0:=(Bx.s0 a2),s1:=(Bx.s1 a2),s2:=(Bx.s4 a2),s3:=(Bx.s3 a2),s4:=(Bx.s4 a2)}) (cond (Qy.fl a1) (some ((.bool (decide (sHi m (Qy.c a1) {s0:=(Bx.s0 a2),s1:=(Bx.s1 a2),s2:=(Bx.s4 a2),s3:=(Bx.s3 a2),s4:=(Bx.s4 a2)}≤sLo m (Qy.c a1) a2))),[])) (some ((.bool (decide (sLo m (Qy.c a1) {s0:=(Bx.s0 a2),s1:=(Bx.s1 a2),s2:=(Bx.s4 a2),s3:=(Bx.s3 a2),s4:=(Bx.s4 a2)}≥sHi m (Qy.c a1) a2))),[]))) none) (cond (decide (Qy.ft a1=ic 3)) (cond (Bx.emp {s0:=(Bx.s0 a2),s1:=(Bx.s1 a2),s2:=(Bx.s2 a2),s3:=(Bx.s4 a2),s4:=(Bx.s4 a2)}||z4u {s0:=(Bx.s0 a2),s1:=(Bx.s1 a2),s2:=(Bx.s2 a2),s3:=(Bx.s4 a2),s4:=(Bx.s4 a2)}) (cond (Qy.fl a1) (some ((.bool (decide (sHi m (Qy.c a1) {s0:=(Bx.s0 a2),s1:=(Bx.s1 a2),s2:=(Bx.s2 a2),s3:=(Bx.s4 a2),s4:=(Bx.s4 a2)}≤sLo m (Qy.c a1) a2))),[])) (some ((.bool (decide (sLo m (Qy.c a1) {s0:=(Bx.s0 a2),s1:=(Bx.s1 a2),s2:=(Bx.s2 a2),s3:=(Bx.s4 a2),s4:=(Bx.s4 a2)}≥sHi m (Qy.c a1) a2))),[]))) none) (cond (decide (Qy.ft a1=ic 4)) (cond (Bx.emp a2||z4u a2) (cond (Qy.fl a1) (some ((.bool (decide (sHi m (Qy.c a1) a2≤sLo m (Qy.c a1) a2))),[])) (some ((.bool (decide (sLo m (Qy.c a1) a2≥sHi m (Qy.c a1) a2))),[]))) none) none)))))) none))))))) none)):=by kernel_rfl
theorem zfv (N:Nat) (m:Md) (a1:Qy) (a2:Bx) (b6:Bool) (x7 x42 x43:Int) (again:St→Res) (k:Out→St→Res):rnd (z1h N) (z0p z2a [1,1,1,0,1,0,1,1,1,0,0,1,0,0]) (z3d m a1 a2 b6 x7 x42 x43) (z4t again ⟨[3,4,5,6,7,42,43],[3,4,5],[]⟩ k)=(cond (decide (x43 < x42)) (cond (Bx.emp a2||z4u a2) (cond (x43 != Qy.c a1) (cond (decide (sHi m x43 a2≥x7)) (k .ret (z3d m a1 a2 false x7 x42 x43)) (again (z3d m a1 a2 b6 x7 x42 (IntKind.wrap IntKind.i64 (x43+1))))) (again (z3d m a1 a2 b6 x7 x42 (IntKind.wrap IntKind.i64 (x43+1))))) none) (k (.exit 1) (z3d m a1 a2 b6 x7 x42 x43))):=by kernel_rfl
theorem zle (N:Nat) (m:Md) (a1:Qy) (a2:Bx) (b6:Bool) (x7 x42 x43:Int):(z04 1 (kSq (z1h N) (z0p z2a [1,1,1,0,1,0,1,1,1,0,1]) (z04 0 (kSq (z1h N) (z0p z2a [1,1,1,1]) (z3f (z1h N) none [(ResultVar.tmp 6)] [[.bool]]))))) (.exit 1) (z3d m a1 a2 b6 x7 x42 x43)=(some ((.bool true),[])):=by kernel_rfl
theorem zls (N:Nat) (m:Md) (a1:Qy) (a2:Bx) (b6:Bool) (x7 x42 x43:Int):(z04 1 (kSq (z1h N) (z0p z2a [1,1,1,0,1,0,1,1,1,0,1]) (z04 0 (kSq (z1h N) (z0p z2a [1,1,1,1]) (z3f (z1h N) none [(ResultVar.tmp 6)] [[.bool]]))))) .ret (z3d m a1 a2 b6 x7 x42 x43)=(some ((.bool b6),[])):=by kernel_rfl
def z0t (N:Nat):Env:=mkE [(69,zgq),(68,z93),(67,zac),(70,z7j),(65,z3k),(66,z8u)] [(8,⟨[3,4,6,9,29,30,31],[3,4],[]⟩)] 59 N
abbrev z2s (m:Md) (q:Qy) (b6 b9:Bool) (l29:List IV) (x30 x31:Int):St:=⟨[(3,(.ptr 3 0 0)),(4,(.ptr 4 0 0)),(6,(.bool b6)),(9,(.bool b9)),(29,(.list true zxa l29)),(30,(.int .i64 x30)),(31,(.int .i64 x31))],[(3,(some (.box (Md.cs m)))),(4,(some (.box (Qy.cs q))))]⟩
theorem zsa (N:Nat) (m:Md) (q:Qy) (v:Vd):z1c (z0t N) z16 [.tmp 6] [[.bool]] [(Md.V m),(Qy.V q),(Vd.V v)]=(cond (!z6x m q) (some ((.bool false),[])) (cond (Vd.kind v==1) (cond (Option.isSome (psF (zda q) (Vd.proof v))) (lpE (z0t N) (z0p z16 [1,1,1,0,1,0,1,0,1,0,1,0,0]) ⟨[3,4,6,9,29,30,31],[3,4],[]⟩ N (z2s m q false true (Option.getD (psF (zda q) (Vd.proof v)) []) (ic (List.length (Option.getD (psF (zda q) (Vd.proof v)) []))) 0) (z04 1 (kSq (z0t N) (z0p z16 [1,1,1,0,1,0,1,0,1,1]) (z04 0 (kSq (z0t N) (z0p z16 [1,1,1,1]) (z3f (z0t N) none [(ResultVar.tmp 6)] [[.bool]])))))) (lpE (z0t N) (z0p z16 [1,1,1,0,1,0,1,0,1,0,1,0,0]) ⟨[3,4,6,9,29,30,31],[3,4],[]⟩ N (z2s m q false false [] (ic 0) 0) (z04 1 (kSq (z0t N) (z0p z16 [1,1,1,0,1,0,1,0,1,1]) (z04 0 (kSq (z0t N) (z0p z16 [1,1,1,1]) (z3f (z0t N) none [(ResultVar.tmp 6)] [[.bool]]))))))) (cond (Vd.kind v==2) (cond (Bx.has (zda q) {p0:=Vd.w0 v,p1:=Vd.w1 v,p2:=Vd.w2 v,p3:=Vd.w3 v} (Vd.twin v)) (some ((.bool (zhf m q {p0:=Vd.w0 v,p1:=Vd.w1 v,p2:=Vd.w2 v,p3:=Vd.w3 v} (Vd.twin v))),[])) (some ((.bool false),[]))) (some ((.bool false),[]))))):=by kernel_rfl
theorem z9k (N:Nat) (m:Md) (q:Qy) (b6 b9:Bool) (l29:List IV) (x30 x31:Int) (again:St→Res) (k:Out→St→Res):rnd (z0t N) (z0p z16 [1,1,1,0,1,0,1,0,1,0,1,0,0]) (z2s m q b6 b9 l29 x30 x31) (z4t again ⟨[3,4,6,9,29,30,31],[3,4],[]⟩ k)=(cond (decide (x31 < x30)) (cond (decide (0≤x31)&&decide (x31 < ic (List.length l29))) (cond (z6x m q&&(Bx.emp (bxI (List.getD l29 (Int.toNat x31) default))||z4u (bxI (List.getD l29 (Int.toNat x31) default)))) (cond (!zdn m q (bxI (List.getD l29 (Int.toNat x31) default))) (k .ret (z2s m q false b9 l29 x30 x31)) (again (z2s m q b6 b9 l29 x30 (IntKind.wrap IntKind.i64 (x31+1))))) none) none) (k (.exit 1) (z2s m q b6 b9 l29 x30 x31))):=by kernel_rfl
theorem zc9 (N:Nat) (m:Md) (q:Qy) (b6 b9:Bool) (l29:List IV) (x30 x31:Int):(z04 1 (kSq (z0t N) (z0p z16 [1,1,1,0,1,0,1,0,1,1]) (z04 0 (kSq (z0t N) (z0p z16 [1,1,1,1]) (z3f (z0t N) none [(ResultVar.tmp 6)] [[.bool]]))))) (.exit 1) (z2s m q b6 b9 l29 x30 x31)=(some ((.bool b9),[])):=by kernel_rfl
theorem zju (N:Nat) (m:Md) (q:Qy) (b6 b9:Bool) (l29:List IV) (x30 x31:Int):(z04 1 (kSq (z0t N) (z0p z16 [1,1,1,0,1,0,1,0,1,1]) (z04 0 (kSq (z0t N) (z0p z16 [1,1,1,1]) (z3f (z0t N) none [(ResultVar.tmp 6)] [[.bool]]))))) .ret (z2s m q b6 b9 l29 x30 x31)=(some ((.bool b6),[])):=by kernel_rfl
open Go Go.Proofs
set_option maxRecDepth 100000 in
theorem zsb:z3c PR B0 192 z8i:=by
 refine z0m [] [] z8i [[.bool]] Tryz.func192 zwz trivial ?_;intro vs r hwf h;unfold z8i at h
 split at h
 ·rename_i s p a
  rw [R.get_ok] at h;refine ⟨0,(ztl 0 s p a).trans ?_⟩;rw [← h];unfold zcd;show _=some (V.bool (cond s (p==0&&a==0) (decide (0≤p)&&decide (p≤4))),[]);cases s with
  | true=>
   simp only [cond_true,Bool.and_true]
   rfl
  | false=>
   simp only [cond_false]
   by_cases hp:0≤p
   ·rw [decide_eq_true (show p≥0 from hp)]; rfl
   ·rw [decide_eq_false (show ¬ p≥0 from hp)]; rfl
 ·simp [R.get] at h
def yfd (o:Option (Int × Int)):Int:=match o with
 | some st=>cond (!(st.1==0)||decide (st.2 > 200)) 0 st.2
 | none=>0
theorem zx6 (N:Nat) (l:List IV) (K:Out→St→Res) (hl:l.length≤65536)
  (hx:∀ x2 x3 x4 x11 x12,K (.exit 0) ⟨[(2,(.int .i64 x2)),(3,(.int .i64 x3)),(4,(.int .i64 x4)),(10,(.list true z4v l)),(11,(.int .i64 x11)),(12,(.int .i64 x12))],[]⟩=cond (x3 != 0) (some ((.int .i64 0),[])) (cond (decide (x4 > 200)) (some ((.int .i64 0),[])) (some ((.int .i64 x4),[]))))
  (hr:∀ x2 x3 x4 x11 x12,K .ret ⟨[(2,(.int .i64 x2)),(3,(.int .i64 x3)),(4,(.int .i64 x4)),(10,(.list true z4v l)),(11,(.int .i64 x11)),(12,(.int .i64 x12))],[]⟩=some (.int .i64 x2,[])) :
  ∀ (d i n:Nat) (left most:Int),i+d=l.length→d < n→0≤left→left≤i+1 →
   lpE (z3s N) (z0p z57 [1,1,1,0,1,0,0]) ⟨[2,3,4,10,11,12],[],[]⟩ n ⟨[(2,(.int .i64 0)),(3,(.int .i64 left)),(4,(.int .i64 most)),(10,(.list true z4v l)),(11,(.int .i64 (ic l.length))),(12,(.int .i64 (i:Int)))],[]⟩ K=some (.int .i64 (yfd (yb5 (l.drop i) (left,most))),[])
 | d,i,0,_,_,_,h,_,_=>absurd h (by omega)
 | 0,i,n+1,left,most,hd,_,_,_=>by
  rw [z05,zgp,zgi (by omega),z02,hx,List.drop_of_length_le (by omega)]
  show _=some (V.int .i64 (cond (!(left==0)||decide (most > 200)) 0 most),[])
  have:(left != 0)=!(left==0):=rfl
  rw [this];cases left==0 <;> cases decide (most > 200) <;> rfl
 | d+1,i,n+1,left,most,hd,hn,h0,h1=>by
  have hi:i < l.length:=by omega
  rw [z05,zgp,zfr hi,z00,zs1,Bool.and_self,z00,zdi (by omega),zgx hi,List.drop_eq_getElem_cons hi,yb5]
  unfold zql;have er:zcd (stI (IV.toBool (IV.cell l[i] 0)) (IV.toInt (IV.cell l[i] 1)) (IV.toInt (IV.cell l[i] 2)))=zcd l[i]:=rfl;have es:IV.toBool (IV.cell l[i] 0)=zc1 l[i]:=rfl;rw [er,es];generalize l[i]=x;cases hz:(left==0) with
  | true=>rw [z00,hr]; rfl
  | false=>
   have hne:left≠0:=by simpa using hz
   rw [z02];cases zcd x with
   | false=>rw [Bool.not_false,z00,hr]; rfl
   | true=>
    rw [Bool.not_true,z02,Bool.or_false,z02];cases zc1 x with
    | true=>
     rw [z00,z00,show IntKind.wrap IntKind.i64 (left - 1)=left - 1 from z1d (by omega) (by omega)]
     exact zx6 N l K hl hx hr d (i+1) n (left - 1) most (by omega) (by omega) (by omega) (by omega)
    | false=>
     rw [z02,z02,show IntKind.wrap IntKind.i64 (left+1)=left+1 from z1d (by omega) (by omega)]
     exact zx6 N l K hl hx hr d (i+1) n (left+1) _ (by omega) (by omega) (by omega) (by omega)
set_option maxRecDepth 100000 in
theorem zsm:z3c PR B0 156 zas:=by
 refine z0m [(192,z8i)] [(5,⟨[2,3,4,10,11,12],[],[]⟩)] zas [[.int .i64]] Tryz.func156 y0b ⟨zsb,trivial⟩ ?_;intro vs r hwf h;unfold zas at h
 split at h
 ·rename_i l
  rw [R.get_ok] at h;refine ⟨l.length+1,(zwt (l.length+1) l).trans ?_⟩;rw [← h];unfold zm7
  by_cases hl:l.length≤65536
  ·rw [decide_eq_false (show ¬ ic l.length > 65536 by simp only [ic]; omega),z02,z02]
   have:=zx6 (l.length+1) l _ hl (fun x2 x3 x4 x11 x12=>zn6 (l.length+1) x2 x3 x4 l x11 x12) (fun x2 x3 x4 x11 x12=>zn4 (l.length+1) x2 x3 x4 l x11 x12) l.length 0 (l.length+1) 1 1 (by omega) (by omega) (by omega) (by omega)
   rw [List.drop_zero] at this;exact this
  ·rw [decide_eq_true (show ic l.length > 65536 by simp only [ic]; omega)]
   rfl
 ·simp [R.get] at h
set_option maxRecDepth 100000 in
theorem zry:z3c PR B0 110 z8r:=by
 refine z0m [(156,zas)] [] z8r [[.bool]] Tryz.func110 zwg ⟨zsm,trivial⟩ ?_;intro vs r hwf h;unfold z8r at h
 split at h
 ·rename_i l
  rw [R.get_ok] at h;exact ⟨0,(zt0 0 l).trans h⟩
 ·simp [R.get] at h
set_option maxRecDepth 100000 in
theorem yg2 (b:Bx) (p:Pt) (t:Int):z1c (y8h 6) y0v [.tmp 6] [[.bool]] [b.V,p.V,.int .i64 t] =
 cond (!b.s0.has p.p0) (some (.bool false,[])) (cond (!b.s1.has p.p1) (some (.bool false,[])) (cond (!b.s2.has p.p2) (some (.bool false,[])) (cond (!b.s3.has p.p3) (some (.bool false,[])) (some (.bool (b.s4.has t),[]))))):=by kernel_rfl
set_option maxRecDepth 100000 in
theorem y41:z3c PR B0 69 zgq:=by
 refine z0m [(114,z9p)] [(2,⟨[2,3,6,9,10],[3],[]⟩)] zgq [[.bool]] Tryz.func69 yax ⟨zo4,trivial⟩ ?_;intro vs r hwf h;unfold zgq at h
 split at h
 ·rename_i b p t
  replace h:=zam h;obtain ⟨b,rfl,h⟩:=h;replace h:=zc3 h;obtain ⟨p,rfl,h⟩:=h;rw [R.get_ok] at h;refine ⟨6,(yg2 b p t).trans ?_⟩;rw [← h];unfold Bx.has;cases b.s0.has p.p0 <;> cases b.s1.has p.p1 <;> cases b.s2.has p.p2 <;> cases b.s3.has p.p3 <;> rfl
 ·simp [R.get] at h
open Go
theorem zj2 {s:Sp} {n:Int}:s.has n=true↔s.lo≤n∧n≤s.hi:=by
 unfold Sp.has;rw [Bool.and_eq_true,decide_eq_true_eq,decide_eq_true_eq]
theorem yfr {s:Sp}:s.emp=false↔s.lo≤s.hi:=by
 unfold Sp.emp;rw [decide_eq_false_iff_not];omega
theorem y60 {lo hi n:Int}:(y7v lo hi).has n=true↔lo≤n∧n≤hi:=by
 unfold y7v;cases hd:decide (lo > hi) with
 | true=>
  have:=of_decide_eq_true hd
  rw [z00,zj2];show (1:Int)≤n∧n≤0↔_;omega
 | false=>rw [z02,zj2]
theorem zwf {s:Sp} {a n:Int}:(s.cutL a).has n=true↔s.has n=true∧n≤a:=by
 unfold Sp.cutL;rw [y60,zj2];omega
theorem zwd {s:Sp} {a n:Int} (ha : -9223372036854775808≤a) (hs:s.hi≤9223372036854775807):(s.cutH a).has n=true↔s.has n=true∧a < n:=by
 unfold Sp.cutH;cases hd:decide (a≥s.hi) with
 | true=>
  have:=of_decide_eq_true hd
  rw [z00,zj2,zj2];show (1:Int)≤n∧n≤0↔_;omega
 | false=>
  have:=of_decide_eq_false hd
  have e:zcj (a+1)=a+1:=z1d (by omega) (by omega)
  rw [z02,y60,zj2,e];omega
def co (p:Pt) (t:Int):Nat→Int
 | 0=>p.p0
 | 1=>p.p1
 | 2=>p.p2
 | 3=>p.p3
 | _=>t
theorem zul {b:Bx} {p:Pt} {t:Int}:b.has p t=true↔∀ i,i < 5→(b.g i).has (co p t i)=true:=by
 unfold Bx.has;simp only [Bool.and_eq_true];constructor
 ·rintro ⟨h0,h1,h2,h3,h4⟩ i hi
  match i,hi with
  | 0,_=>exact h0
  | 1,_=>exact h1
  | 2,_=>exact h2
  | 3,_=>exact h3
  | 4,_=>exact h4
  | i+5,h=>exact absurd h (by omega)
 ·intro h
  exact ⟨h 0 (by omega),h 1 (by omega),h 2 (by omega),h 3 (by omega),h 4 (by omega)⟩
theorem yb2 {b:Bx}:b.emp=false↔∀ i,i < 5→(b.g i).lo≤(b.g i).hi:=by
 unfold Bx.emp;simp only [Bool.or_eq_false_iff,yfr];constructor
 ·rintro ⟨h0,h1,h2,h3,h4⟩ i hi
  match i,hi with
  | 0,_=>exact h0
  | 1,_=>exact h1
  | 2,_=>exact h2
  | 3,_=>exact h3
  | 4,_=>exact h4
  | i+5,h=>exact absurd h (by omega)
 ·intro h
  exact ⟨h 0 (by omega),h 1 (by omega),h 2 (by omega),h 3 (by omega),h 4 (by omega)⟩
theorem zns (b:Bx) (s:Sp):∀ {i j:Nat},i < 5→j < 5→(b.p s i).g j=if j=i then s else b.g j
 | 0,0,_,_=>rfl
 | 0,1,_,_=>rfl
 | 0,2,_,_=>rfl
 | 0,3,_,_=>rfl
 | 0,4,_,_=>rfl
 | 1,0,_,_=>rfl
 | 1,1,_,_=>rfl
 | 1,2,_,_=>rfl
 | 1,3,_,_=>rfl
 | 1,4,_,_=>rfl
 | 2,0,_,_=>rfl
 | 2,1,_,_=>rfl
 | 2,2,_,_=>rfl
 | 2,3,_,_=>rfl
 | 2,4,_,_=>rfl
 | 3,0,_,_=>rfl
 | 3,1,_,_=>rfl
 | 3,2,_,_=>rfl
 | 3,3,_,_=>rfl
 | 3,4,_,_=>rfl
 | 4,0,_,_=>rfl
 | 4,1,_,_=>rfl
 | 4,2,_,_=>rfl
 | 4,3,_,_=>rfl
 | 4,4,_,_=>rfl
 | i+5,_,h,_=>absurd h (by omega)
 | _,j+5,_,h=>absurd h (by omega)
def Bx.ok (b:Bx):Prop:=∀ i,i < 5→(b.g i).hi≤2147483647
theorem y5f (b:Bx) (h:b.emp=false):b.has b.low b.s4.hi=true:=by
 rw [yb2] at h;rw [zul];intro i hi;rw [zj2]
 have:=h i hi
 match i,hi with
 | 0,_=>exact ⟨Int.le_refl _,this⟩
 | 1,_=>exact ⟨Int.le_refl _,this⟩
 | 2,_=>exact ⟨Int.le_refl _,this⟩
 | 3,_=>exact ⟨Int.le_refl _,this⟩
 | 4,_=>exact ⟨this,Int.le_refl _⟩
 | i+5,h=>exact absurd h (by omega)
theorem yah {b:Bx} {p:Pt} {t:Int} (h:b.has p t=true):b.emp=false:=by
 rw [zul] at h;rw [yb2];intro i hi
 have:=zj2.1 (h i hi)
 omega
theorem y8k {b:Bx} {i:Nat} (hi:i < 5) {a:Int} {p:Pt} {t:Int}:(b.cutL (i:Int) a).has p t=true↔b.has p t=true∧co p t i≤a:=by
 unfold Bx.cutL;rw [Int.toNat_natCast,zul,zul];constructor
 ·intro h
  refine ⟨fun j hj=>?_,?_⟩
  ·have:=h j hj
   rw [zns b _ hi hj] at this
   by_cases e:j=i
   ·rw [if_pos e,zwf] at this
    rw [e] at this ⊢
    exact this.1
   ·rw [if_neg e] at this
    exact this
  ·have:=h i hi
   rw [zns b _ hi hi,if_pos rfl,zwf] at this;exact this.2
 ·rintro ⟨h,ha⟩ j hj
  rw [zns b _ hi hj]
  by_cases e:j=i
  ·rw [if_pos e,zwf,e]
   exact ⟨h i hi,ha⟩
  ·rw [if_neg e]
   exact h j hj
theorem yaj {b:Bx} (hb:b.ok) {i:Nat} (hi:i < 5) {a:Int} (ha : -2147483648≤a) {p:Pt} {t:Int}:(b.cutH (i:Int) a).has p t=true↔b.has p t=true∧a < co p t i:=by
 have hs:=hb i hi;unfold Bx.cutH;rw [Int.toNat_natCast,zul,zul];constructor
 ·intro h
  refine ⟨fun j hj=>?_,?_⟩
  ·have:=h j hj
   rw [zns b _ hi hj] at this
   by_cases e:j=i
   ·rw [if_pos e,zwd (by omega) (by omega)] at this
    rw [e] at this ⊢
    exact this.1
   ·rw [if_neg e] at this
    exact this
  ·have:=h i hi
   rw [zns b _ hi hi,if_pos rfl,zwd (by omega) (by omega)] at this
   exact this.2
 ·rintro ⟨h,ha'⟩ j hj
  rw [zns b _ hi hj]
  by_cases e:j=i
  ·rw [if_pos e,zwd (by omega) (by omega),e]
   exact ⟨h i hi,ha'⟩
  ·rw [if_neg e]
   exact h j hj
theorem y85 {lo hi:Int} (h:hi≤2147483647):(y7v lo hi).hi≤2147483647:=by
 unfold y7v;cases decide (lo > hi) with
 | true=>rw [z00]; show (0:Int)≤_; omega
 | false=>exact h
theorem yid {b:Bx} (hb:b.ok) {s:Sp} (hs:s.hi≤2147483647) {i:Nat} (hi:i < 5):(b.p s i).ok:=by
 intro j hj;rw [zns b _ hi hj]
 split
 ·exact hs
 ·exact hb j hj
theorem y88 {b:Bx} (hb:b.ok) {i:Nat} (hi:i < 5) (a:Int):(b.cutL (i:Int) a).ok:=by
 unfold Bx.cutL;rw [Int.toNat_natCast];refine yid hb ?_ hi;unfold Sp.cutL;exact y85 (by have:=hb i hi; omega)
theorem ya7 {b:Bx} (hb:b.ok) {i:Nat} (hi:i < 5) (a:Int):(b.cutH (i:Int) a).ok:=by
 unfold Bx.cutH;rw [Int.toNat_natCast];refine yid hb ?_ hi;unfold Sp.cutH;cases decide (a≥(b.g i).hi) with
 | true=>rw [z00]; show (0:Int)≤_; omega
 | false=>exact y85 (hb i hi)
theorem y6x (b:Bx):bxI b.I=b:=rfl
theorem y4e (p:Pt) (t:Int):∀ {i:Nat},i < 4→co p t i=p.g i
 | 0,_=>rfl
 | 1,_=>rfl
 | 2,_=>rfl
 | 3,_=>rfl
 | i+4,h=>absurd h (by omega)
abbrev nd (l:List IV) (i:Nat):Nd:=z08 (l.getD i default).toInt
def y3d (l:List IV) (k j:Nat):Prop:=(nd l k).lf=false∧((nd l k).l=(j:Int)∨(nd l k).r=(j:Int))
structure TreeOK (l:List IV):Prop where
 len:1≤l.length∧l.length≤31
 node:∀ k,k < l.length→zb6 (l.getD k default).toInt=true
 fork:∀ k,k < l.length→(nd l k).lf=false→(0≤(nd l k).f∧(nd l k).f < 4)∧z1n (nd l k).a=true∧((k:Int) < (nd l k).l∧(nd l k).l < ic l.length)∧((k:Int) < (nd l k).r∧(nd l k).r < ic l.length)∧(nd l k).l≠(nd l k).r
 parent:∀ j,1≤j→j < l.length→∃ k,k < l.length∧y3d l k j
 alone:∀ j k k',1≤j→j < l.length→k < l.length→k' < l.length→y3d l k j→y3d l k' j→k=k'
theorem ygg {l:List Nat}:∀ {k a:Nat},l[k]?=some a→a≤l.sum:=by
 induction l with
 | nil=>intro k a h; simp at h
 | cons x r ih=>
  intro k a h;cases k with
  | zero=>simp at h; simp; omega
  | succ k=>have:=ih (k:=k) (a:=a) (by simpa using h); simp; omega
theorem y86 {l:List Nat}:∀ {k k' a b:Nat},k < k'→l[k]?=some a→l[k']?=some b→a+b≤l.sum:=by
 induction l with
 | nil=>intro k k' a b _ h; simp at h
 | cons x r ih=>
  intro k k' a b hk h h';cases k with
  | zero=>
   cases k' with
   | zero=>omega
   | succ k'=>
    have:=ygg (l:=r) (k:=k') (a:=b) (by simpa using h')
    simp at h;simp;omega
  | succ k=>
   cases k' with
   | zero=>omega
   | succ k'=>
    have:=ih (k:=k) (k':=k') (a:=a) (b:=b) (by omega) (by simpa using h) (by simpa using h')
    simp;omega
theorem yeq {l:List Nat}:0 < l.sum→∃ (k a:Nat),l[k]?=some a∧0 < a:=by
 induction l with
 | nil=>intro h; simp at h
 | cons x r ih=>
  intro h
  by_cases hx:0 < x
  ·exact ⟨0,x,rfl,hx⟩
  ·obtain ⟨k,a,hk,ha⟩:=ih (by simp at h; omega)
   exact ⟨k+1,a,by simpa using hk,ha⟩
theorem zno {x:Nd} {j:Nat}:0 < zcw x j↔x.lf=false∧(x.l=(j:Int)∨x.r=(j:Int)):=by
 unfold zcw;cases x.lf with
 | true=>simp
 | false=>
  rw [z02]
  by_cases h1:x.l=(j:Int) <;> by_cases h2:x.r=(j:Int) <;> simp [h1,h2]
theorem zy1 {l:List IV} {k:Nat} (h:k < l.length):l.getD k default=l[k]:=by simp [h]
theorem zqg {l:List IV} (h:zb8 l 4=true):TreeOK l:=by
 have key:∀ {dim n:Int} {l:List IV} {i k:Nat} (hk:k < l.length),zfp dim n i l=true→zb6 (l[k]).toInt=true∧y8l dim n (i+k) (z08 (l[k]).toInt)=true:=by
  intro dim n l
  induction l with
  | nil=>intro i k hk; exact absurd hk (Nat.not_lt_zero k)
  | cons w r ih=>
   intro i k hk h;rw [zfp] at h;simp only [Bool.and_eq_true] at h;cases k with
   | zero=>exact h.1
   | succ k=>
    have:=ih (k:=k) (by simpa using hk) h.2
    rw [show i+1+k=i+(k+1) by omega] at this
    exact this
 unfold zb8 at h;simp only [Bool.and_eq_true] at h;obtain ⟨⟨h1,h31⟩,hn,ho⟩:=h;have hlen:=Nat.le_of_ble_eq_true h1;have once:∀ j,1≤j→j < l.length→z4m l j=1:=fun j hj hjl=>by
  unfold ybo at ho;rw [List.all_eq_true] at ho
  have:=ho (j - 1) (List.mem_range.2 (by omega))
  rw [show j - 1+1=j by omega] at this
  simpa using this
 have at_:∀ k (hk:k < l.length) j,(l.map fun w=>zcw (z08 w.toInt) j)[k]?=some (zcw (nd l k) j):=fun k hk j=>by
  rw [List.getElem?_map,List.getElem?_eq_getElem hk];unfold nd;rw [zy1 hk]
  rfl
 refine ⟨⟨hlen,Nat.le_of_ble_eq_true h31⟩,fun k hk=>by rw [zy1 hk]; exact (key hk hn).1,fun k hk hl=>?_,fun j hj hjl=>?_,fun j k k' hj hjl hk hk' hn1 hn2=>?_⟩
 ·have h2:=(key hk hn).2
  have h3:=(key hk hn).1;rw [Nat.zero_add] at h2;unfold nd at hl ⊢
  rw [zy1 hk] at hl ⊢
  unfold y8l at h2;rw [hl,z02] at h2;simp only [Bool.and_eq_true,Bool.not_eq_true',decide_eq_false_iff_not,beq_eq_false_iff_ne] at h2;obtain ⟨q1,q2,q3,q4⟩:=h2;have hr:=(zsi h3).2;unfold z9o zl2 at hr;rw [hl,z02] at hr;simp only [Bool.and_eq_true,decide_eq_true_eq] at hr;exact ⟨⟨hr.2.1,hr.2.2.1⟩,hr.2.2.2.1,⟨by omega,by simp only [ic] at q4 ⊢; omega⟩,⟨by omega,by simp only [ic] at q4 ⊢; omega⟩,q2⟩
 ·have h2:=once j hj hjl
  unfold z4m at h2;obtain ⟨k,a,hk,ha⟩:=yeq (l:=l.map fun w=>zcw (z08 w.toInt) j) (by omega)
  have hkl:k < l.length:=by
   have:=(List.getElem?_eq_some_iff.1 hk).1
   simpa using this
  rw [at_ k hkl j] at hk;simp only [Option.some.injEq] at hk;subst hk;exact ⟨k,hkl,zno.1 ha⟩
 ·have h2:=once j hj hjl
  unfold z4m at h2;have p1:0 < zcw (nd l k) j:=zno.2 hn1;have p2:0 < zcw (nd l k') j:=zno.2 hn2;rcases Nat.lt_trichotomy k k' with hlt | heq | hlt
  ·have:=y86 hlt (at_ k hk j) (at_ k' hk' j)
   omega
  ·exact heq
  ·have:=y86 hlt (at_ k' hk' j) (at_ k hk j)
   omega
def y97 (l:List IV) (p:Pt) (i:Nat):Int:=(zvl l p 31 (i:Int)).2.v
theorem zwk {l:List IV} (h:TreeOK l) (p:Pt) {i:Nat} (hi:i < l.length) (n:Nat):zvl l p (n+1) (i:Int) =
  cond (nd l i).lf ((i:Int),nd l i) (cond (decide (p.g (nd l i).f.toNat≤(nd l i).a)) (zvl l p n (nd l i).l) (zvl l p n (nd l i).r)):=by
 rw [zvl,decide_eq_false (show ¬ (i:Int)≥ic l.length by simp only [ic]; omega),z02,Int.toNat_natCast,h.node i hi,Bool.not_true,z02]
theorem zl4 {l:List IV} (h:TreeOK l) (p:Pt):∀ (n n' i:Nat),i < l.length→l.length - i≤n→l.length - i≤n'→zvl l p n (i:Int)=zvl l p n' (i:Int)
 | 0,_,i,hi,h1,_=>absurd h1 (by omega)
 | _+1,0,i,hi,_,h2=>absurd h2 (by omega)
 | n+1,n'+1,i,hi,h1,h2=>by
  rw [zwk h p hi,zwk h p hi];cases hl:(nd l i).lf with
  | true=>rfl
  | false=>
   obtain ⟨_,_,⟨a1,a2⟩,⟨b1,b2⟩,_⟩:=h.fork i hi hl;simp only [ic] at a2 b2;rw [z02,z02];cases decide (p.g (nd l i).f.toNat≤(nd l i).a) with
   | true=>
    have e:(nd l i).l=(((nd l i).l.toNat:Nat):Int):=by omega
    rw [z00,z00,e];exact zl4 h p n n' _ (by omega) (by omega) (by omega)
   | false=>
    have e:(nd l i).r=(((nd l i).r.toNat:Nat):Int):=by omega
    rw [z02,z02,e];exact zl4 h p n n' _ (by omega) (by omega) (by omega)
theorem y4s {l:List IV} (h:TreeOK l) (p:Pt) {i:Nat} (hi:i < l.length) (hl:(nd l i).lf=true):y97 l p i=(nd l i).v:=by
 unfold y97;rw [zwk h p hi,hl,z00]
theorem y4n {l:List IV} (h:TreeOK l) (p:Pt) {i:Nat} (hi:i < l.length) (hl:(nd l i).lf=false):y97 l p i=y97 l p (cond (decide (p.g (nd l i).f.toNat≤(nd l i).a)) (nd l i).l.toNat (nd l i).r.toNat):=by
 obtain ⟨_,_,⟨a1,a2⟩,⟨b1,b2⟩,_⟩:=h.fork i hi hl;have h31:=h.len.2;simp only [ic] at a2 b2;unfold y97;rw [zwk h p hi,hl,z02];cases decide (p.g (nd l i).f.toNat≤(nd l i).a) with
 | true=>
  rw [z00,z00];have e:(nd l i).l=(((nd l i).l.toNat:Nat):Int):=by omega
  rw [e,Int.toNat_natCast];rw [zl4 h p 30 31 _ (by omega) (by omega) (by omega)]
 | false=>
  rw [z02,z02];have e:(nd l i).r=(((nd l i).r.toNat:Nat):Int):=by omega
  rw [e,Int.toNat_natCast];rw [zl4 h p 30 31 _ (by omega) (by omega) (by omega)]
theorem ygt (l:List IV) (p:Pt):zp4 l p=y97 l p 0:=rfl
abbrev zqv (own:List IV) (j:Nat):Bx:=bxI (own.getD j default)
def fr (l:List IV) (i j:Nat):Prop:=i≤j∧j < l.length∧(j=0∨∃ k,k < i∧y3d l k j)
structure PInv (l:List IV) (b:Bx) (i:Nat) (own out:List IV):Prop where
 len:own.length=l.length
 val:∀ j,fr l i j→∀ p t,(zqv own j).has p t=true→b.has p t=true∧y97 l p 0=y97 l p j
 ok:∀ j,fr l i j→(zqv own j).ok
 all:∀ p t,b.has p t=true→(∃ x∈out,(bxI x).has p t=true)∨∃ j,fr l i j∧(zqv own j).has p t=true
 out:∀ x∈out,(bxI x).emp=false∧(bxI x).ok∧∀ p t,(bxI x).has p t=true→b.has p t=true∧zp4 l p=pcV x
theorem ya6 {l:List IV} (h:TreeOK l) {i:Nat} (hi:i < l.length):fr l i i:=by
 refine ⟨Nat.le_refl _,hi,?_⟩
 by_cases h0:i=0
 ·exact .inl h0
 ·obtain ⟨k,hk,hn⟩:=h.parent i (by omega) hi
  refine .inr ⟨k,?_,hn⟩;obtain ⟨_,_,a,b,_⟩:=h.fork k hk hn.1;rcases hn.2 with e | e <;> omega
theorem y9j {own:List IV} {a j:Nat} {x:IV} (ha:a < own.length):(own.set a x).getD j default=if j=a then x else own.getD j default:=by
 rw [List.getD_eq_getElem?_getD,List.getElem?_set]
 by_cases e:a=j
 ·subst e
  rw [if_pos rfl,if_pos ha,if_pos rfl]
  rfl
 ·rw [if_neg e,if_neg (fun h=>e h.symm),← List.getD_eq_getElem?_getD]
theorem y8v {l:List IV} (h:TreeOK l) {b:Bx} {i:Nat} (hi:i < l.length) {own out:List IV} (hp:PInv l b i own out) :
  PInv l b (i+1) (zpy (nd l i) i own) (cond ((nd l i).lf&&!(zqv own i).emp) (out++[pcI (zqv own i) (nd l i).v]) out):=by
 have hfi:=ya6 h hi;cases hl:(nd l i).lf with
 | true=>
  have e1:zpy (nd l i) i own=own:=by unfold zpy; rw [hl,z00]
  have hfr:∀ j,fr l (i+1) j→fr l i j:=fun j hj=>by
   refine ⟨by have:=hj.1; omega,hj.2.1,hj.2.2.imp_right ?_⟩
   rintro ⟨k,hk,hn⟩
   refine ⟨k,?_,hn⟩;rcases Nat.lt_succ_iff_lt_or_eq.1 hk with h1 | h1
   ·exact h1
   ·subst h1
    rw [hn.1] at hl;cases hl
  have hrf:∀ j,fr l i j→j=i∨fr l (i+1) j:=fun j hj=>by
   by_cases e:j=i
   ·exact .inl e
   ·refine .inr ⟨by have:=hj.1; omega,hj.2.1,hj.2.2.imp_right ?_⟩
    rintro ⟨k,hk,hn⟩
    exact ⟨k,by omega,hn⟩
  rw [e1,Bool.true_and];have hv:=fun p=>y4s h p hi hl
  cases he:(zqv own i).emp with
  | true=>
   rw [Bool.not_true,z02];refine ⟨hp.len,fun j hj=>hp.val j (hfr j hj),fun j hj=>hp.ok j (hfr j hj),fun p t hb=>?_,hp.out⟩
   rcases hp.all p t hb with h1 | ⟨j,hj,hh⟩
   ·exact .inl h1
   ·rcases hrf j hj with rfl | hj'
    ·rw [yah hh] at he
     cases he
    ·exact .inr ⟨j,hj',hh⟩
  | false=>
   rw [Bool.not_false,z00];refine ⟨hp.len,fun j hj=>hp.val j (hfr j hj),fun j hj=>hp.ok j (hfr j hj),fun p t hb=>?_,fun x hx=>?_⟩
   ·rcases hp.all p t hb with ⟨x,hx,hh⟩ | ⟨j,hj,hh⟩
    ·exact .inl ⟨x,List.mem_append.2 (.inl hx),hh⟩
    ·rcases hrf j hj with rfl | hj'
     ·exact .inl ⟨_,List.mem_append.2 (.inr (List.mem_singleton.2 rfl)),hh⟩
     ·exact .inr ⟨j,hj',hh⟩
   ·rcases List.mem_append.1 hx with hx | hx
    ·exact hp.out x hx
    ·obtain rfl:=List.mem_singleton.1 hx
     refine ⟨he,hp.ok i hfi,fun p t hh=>?_⟩
     obtain ⟨q1,q2⟩:=hp.val i hfi p t hh;refine ⟨q1,?_⟩;rw [ygt,q2,hv p]
     rfl
 | false=>
  obtain ⟨⟨f0,f4⟩,ha,⟨a1,a2⟩,⟨b1,b2⟩,hne⟩:=h.fork i hi hl;simp only [ic] at a2 b2;have ef:(nd l i).f=(((nd l i).f.toNat:Nat):Int):=by omega
  have hf5:(nd l i).f.toNat < 5:=by omega
  have e1:zpy (nd l i) i own=(own.set (nd l i).l.toNat ((zqv own i).cutL (nd l i).f (nd l i).a).I).set (nd l i).r.toNat ((zqv own i).cutH (nd l i).f (nd l i).a).I:=by unfold zpy; rw [hl,z02]
  have hlen:=hp.len;have at_:∀ j,(zpy (nd l i) i own).getD j default=if j=(nd l i).r.toNat then ((zqv own i).cutH (nd l i).f (nd l i).a).I else if j=(nd l i).l.toNat then ((zqv own i).cutL (nd l i).f (nd l i).a).I else own.getD j default:=fun j=>by
   rw [e1,y9j (by rw [List.length_set]; omega)]
   congr 1
   rw [y9j (by omega)]
  have fits : -2147483648≤(nd l i).a∧(nd l i).a≤2147483647:=by
   unfold z1n at ha
   simpa only [Bool.and_eq_true,decide_eq_true_eq] using ha
  have hok:=hp.ok i hfi;have cl:∀ p t,((zqv own i).cutL (nd l i).f (nd l i).a).has p t=true↔(zqv own i).has p t=true∧p.g (nd l i).f.toNat≤(nd l i).a:=fun p t=>by
   have:=y8k (b:=zqv own i) hf5 (a:=(nd l i).a) (p:=p) (t:=t)
   rw [← ef,y4e p t (by omega)] at this
   exact this
  have ch:∀ p t,((zqv own i).cutH (nd l i).f (nd l i).a).has p t=true↔(zqv own i).has p t=true∧(nd l i).a < p.g (nd l i).f.toNat:=fun p t=>by
   have:=yaj hok hf5 (a:=(nd l i).a) fits.1 (p:=p) (t:=t)
   rw [← ef,y4e p t (by omega)] at this
   exact this
  have nl:y3d l i (nd l i).l.toNat:=⟨hl,.inl (by omega)⟩
  have nr:y3d l i (nd l i).r.toNat:=⟨hl,.inr (by omega)⟩
  have hfr:∀ j,fr l (i+1) j→j≠(nd l i).l.toNat→j≠(nd l i).r.toNat→fr l i j:=fun j hj h1 h2=>by
   refine ⟨by have:=hj.1; omega,hj.2.1,hj.2.2.imp_right ?_⟩
   rintro ⟨k,hk,hn⟩
   refine ⟨k,?_,hn⟩;rcases Nat.lt_succ_iff_lt_or_eq.1 hk with h3 | h3
   ·exact h3
   ·subst h3
    rcases hn.2 with e | e
    ·exact absurd (by omega) h1
    ·exact absurd (by omega) h2
  have hnot:∀ j,y3d l i j→¬ fr l i j:=fun j hn hj=>by
   obtain ⟨h1,h2,h3⟩:=hj;have hj0:1≤j:=by rcases hn.2 with e | e <;> omega
   rcases h3 with h3 | ⟨k,hk,hk2⟩
   ·omega
   ·have:=h.alone j k i hj0 h2 (by omega) hi hk2 hn
    omega
  have fl:fr l (i+1) (nd l i).l.toNat:=⟨by omega,by omega,.inr ⟨i,by omega,nl⟩⟩
  have frr:fr l (i+1) (nd l i).r.toNat:=⟨by omega,by omega,.inr ⟨i,by omega,nr⟩⟩
  have hup:∀ j,fr l i j→j≠i→fr l (i+1) j:=fun j hj e=>by
   refine ⟨by have:=hj.1; omega,hj.2.1,hj.2.2.imp_right ?_⟩
   rintro ⟨k,hk,hn⟩
   exact ⟨k,by omega,hn⟩
  have hvf:=fun p=>y4n h p hi hl
  rw [Bool.false_and,z02];refine ⟨by rw [e1,List.length_set,List.length_set]; exact hp.len,fun j hj p t hh=>?_,fun j hj=>?_,fun p t hb=>?_,hp.out⟩
  ·unfold zqv at hh
   rw [at_] at hh
   by_cases hr:j=(nd l i).r.toNat
   ·rw [if_pos hr,y6x,ch] at hh
    obtain ⟨q1,q2⟩:=hp.val i hfi p t hh.1;refine ⟨q1,?_⟩;rw [q2,hvf p,decide_eq_false (by omega),z02,hr]
   ·rw [if_neg hr] at hh
    by_cases hlj:j=(nd l i).l.toNat
    ·rw [if_pos hlj,y6x,cl] at hh
     obtain ⟨q1,q2⟩:=hp.val i hfi p t hh.1;refine ⟨q1,?_⟩;rw [q2,hvf p,decide_eq_true hh.2,z00,hlj]
    ·rw [if_neg hlj] at hh
     exact hp.val j (hfr j hj hlj hr) p t hh
  ·unfold zqv
   rw [at_]
   by_cases hr:j=(nd l i).r.toNat
   ·rw [if_pos hr,y6x,ef]
    exact ya7 hok hf5 _
   ·rw [if_neg hr]
    by_cases hlj:j=(nd l i).l.toNat
    ·rw [if_pos hlj,y6x,ef]
     exact y88 hok hf5 _
    ·rw [if_neg hlj]
     exact hp.ok j (hfr j hj hlj hr)
  ·rcases hp.all p t hb with h1 | ⟨j,hj,hh⟩
   ·exact .inl h1
   ·refine .inr ?_
    by_cases e:j=i
    ·subst e
     by_cases hd:p.g (nd l j).f.toNat≤(nd l j).a
     ·refine ⟨_,fl,?_⟩
      unfold zqv;rw [at_,if_neg (by omega),if_pos rfl,y6x,cl]
      exact ⟨hh,hd⟩
     ·refine ⟨_,frr,?_⟩
      unfold zqv;rw [at_,if_pos rfl,y6x,ch];exact ⟨hh,by omega⟩
    ·refine ⟨j,hup j hj e,?_⟩
     unfold zqv;rw [at_,if_neg (fun (er:j=(nd l i).r.toNat)=>hnot j (er ▸ nr) hj),if_neg (fun (er:j=(nd l i).l.toNat)=>hnot j (er ▸ nl) hj)]
     exact hh
theorem y4o {l:List IV} (h:TreeOK l) {b:Bx}:∀ (m i:Nat) (own out:List IV),i+m=l.length→PInv l b i own out→∃ own',PInv l b l.length own' (y10 (l.drop i) i own out)
 | 0,i,own,out,hd,hp=>by
  have hi:i=l.length:=by omega
  subst hi;rw [List.drop_length,y10];exact ⟨own,hp⟩
 | m+1,i,own,out,hd,hp=>by
  have hi:i < l.length:=by omega
  rw [List.drop_eq_getElem_cons hi,y10];have hs:=y8v h hi hp;have e:nd l i=z08 (l[i]).toInt:=by unfold nd; rw [zy1 hi]
  rw [e] at hs;exact y4o h m (i+1) _ _ (by omega) hs
theorem y6c {l:List IV} (ht:zb8 l 4=true) {b:Bx} (hb:b.emp=false) (hok:b.ok) :
  (∀ x∈zaz l b,(bxI x).emp=false∧(bxI x).ok∧∀ p t,(bxI x).has p t=true→b.has p t=true∧zp4 l p=pcV x) ∧
   ∀ p t,b.has p t=true→∃ x∈zaz l b,(bxI x).has p t=true:=by
 have h:=zqg ht;have h1:=h.len.1;have hz:((List.replicate l.length bx0.I).set 0 b.I).getD 0 default=b.I:=by rw [y9j (by simp; omega),if_pos rfl]
 have f0:∀ j,fr l 0 j→j=0:=fun j hj=>by
  rcases hj.2.2 with e | ⟨k,hk,_⟩
  ·exact e
  ·omega
 have h0:PInv l b 0 ((List.replicate l.length bx0.I).set 0 b.I) []:=by
  refine ⟨by simp,fun j hj p t hh=>?_,fun j hj=>?_,fun p t hh=>.inr ⟨0,ya6 h (by omega),?_⟩,fun x hx=>by cases hx⟩
  ·obtain rfl:=f0 j hj
   unfold zqv at hh;rw [hz,y6x] at hh;exact ⟨hh,rfl⟩
  ·obtain rfl:=f0 j hj
   unfold zqv;rw [hz,y6x];exact hok
  ·unfold zqv
   rw [hz,y6x];exact hh
 obtain ⟨own',hp⟩:=y4o h l.length 0 _ _ (by omega) h0
 have e:zaz l b=y10 (l.drop 0) 0 ((List.replicate l.length bx0.I).set 0 b.I) []:=by unfold zaz; rw [ht,hb]; rfl
 rw [e];refine ⟨hp.out,fun p t hh=>?_⟩
 rcases hp.all p t hh with h1 | ⟨j,hj,_⟩
 ·exact h1
 ·have:=hj.1
  have:=hj.2.1
  omega
theorem ya0:∀ {l:List IV} {a:Int},yba l a≤a∧∀ x∈l,yba l a≤pcV x
 | [],a=>⟨Int.le_refl _,fun x hx=>by cases hx⟩
 | y :: r,a=>by
  rw [yba];obtain ⟨h1,h2⟩:=ya0 (l:=r) (a:=min a (pcV y));refine ⟨by omega,fun x hx=>?_⟩
  rcases List.mem_cons.1 hx with rfl | hx
  ·omega
  ·exact h2 x hx
theorem yb0:∀ {l:List IV} {a:Int},a≤yb6 l a∧∀ x∈l,pcV x≤yb6 l a
 | [],a=>⟨Int.le_refl _,fun x hx=>by cases hx⟩
 | y :: r,a=>by
  rw [yb6];obtain ⟨h1,h2⟩:=yb0 (l:=r) (a:=max a (pcV y));refine ⟨by omega,fun x hx=>?_⟩
  rcases List.mem_cons.1 hx with rfl | hx
  ·omega
  ·exact h2 x hx
theorem yad:∀ {l:List IV} {a:Int},yba l a=a∨∃ x∈l,yba l a=pcV x
 | [],a=>.inl rfl
 | y :: r,a=>by
  rw [yba];rcases yad (l:=r) (a:=min a (pcV y)) with h | ⟨x,hx,h⟩
  ·rw [h]
   by_cases hd:a≤pcV y
   ·exact .inl (by omega)
   ·exact .inr ⟨y,List.mem_cons_self ..,by omega⟩
  ·exact .inr ⟨x,List.mem_cons_of_mem _ hx,h⟩
theorem yat:∀ {l:List IV} {a:Int},yb6 l a=a∨∃ x∈l,yb6 l a=pcV x
 | [],a=>.inl rfl
 | y :: r,a=>by
  rw [yb6];rcases yat (l:=r) (a:=max a (pcV y)) with h | ⟨x,hx,h⟩
  ·rw [h]
   by_cases hd:pcV y≤a
   ·exact .inl (by omega)
   ·exact .inr ⟨y,List.mem_cons_self ..,by omega⟩
  ·exact .inr ⟨x,List.mem_cons_of_mem _ hx,h⟩
theorem yg5 {ps:List IV} (hp:ps≠[]):(∀ x∈ps,yh1 ps≤pcV x∧pcV x≤yh5 ps)∧(∃ x∈ps,pcV x=yh1 ps)∧∃ x∈ps,pcV x=yh5 ps:=by
 unfold yh1 yh5;cases ps with
 | nil=>exact absurd rfl hp
 | cons y r=>
  have e:(y :: r).getD 0 default=y:=rfl;rw [e];refine ⟨fun x hx=>⟨ya0.2 x hx,yb0.2 x hx⟩,?_,?_⟩
  ·rcases yad (l:=y :: r) (a:=pcV y) with h | ⟨x,hx,h⟩
   ·exact ⟨y,List.mem_cons_self ..,h.symm⟩
   ·exact ⟨x,hx,h.symm⟩
  ·rcases yat (l:=y :: r) (a:=pcV y) with h | ⟨x,hx,h⟩
   ·exact ⟨y,List.mem_cons_self ..,h.symm⟩
   ·exact ⟨x,hx,h.symm⟩
theorem ydz {l:List IV} (ht:zb8 l 4=true) {b:Bx} (hb:b.emp=false) (hok:b.ok) :
  (∀ p t,b.has p t=true→tLo l b≤zp4 l p∧zp4 l p≤tHi l b)∧(∃ p t,b.has p t=true∧zp4 l p=tLo l b)∧∃ p t,b.has p t=true∧zp4 l p=tHi l b:=by
 obtain ⟨h1,h2⟩:=y6c ht hb hok;have hne:zaz l b≠[]:=fun e=>by
  obtain ⟨x,hx,_⟩:=h2 b.low b.s4.hi (y5f b hb);rw [e] at hx;cases hx
 obtain ⟨q1,⟨x,hx,q2⟩,⟨y,hy,q3⟩⟩:=yg5 hne;have hT:tOK l b=true:=by
  unfold tOK;cases he:zaz l b with
  | nil=>exact absurd he hne
  | cons _ _=>rfl
 unfold tLo tHi;rw [hT,z00,z00];refine ⟨fun p t hh=>?_,⟨(bxI x).low,(bxI x).s4.hi,?_⟩,⟨(bxI y).low,(bxI y).s4.hi,?_⟩⟩
 ·obtain ⟨z,hz,hzh⟩:=h2 p t hh
  rw [((h1 z hz).2.2 p t hzh).2];exact q1 z hz
 ·obtain ⟨r1,r2⟩:=(h1 x hx).2.2 _ _ (y5f _ (h1 x hx).1)
  exact ⟨r1,r2.trans q2⟩
 ·obtain ⟨r1,r2⟩:=(h1 y hy).2.2 _ _ (y5f _ (h1 y hy).1)
  exact ⟨r1,r2.trans q3⟩
open Go
theorem ya8 {m:Md} (hm:z3z m=true) {t:IV} (ht:t∈m.ts):zb8 (zqu t) 4=true:=by
 have h:=z3q hm;exact y7z (y02 (List.all_eq_true.1 h.2.2.2.2 t ht)).2 h.1.2
theorem yai {m:Md} {k:Int} {b:Bx} (h:sOK m k b=true):z3z m=true∧zej m k=true∧b.emp=false:=by
 unfold sOK at h;simp only [Bool.and_eq_true,Bool.not_eq_true'] at h;exact h
theorem zse {m:Md} {c lo:Int} {b:Bx}:∀ (d:Nat) (i a:Int) (z:Bool),(0 < zym m c lo b d i a z↔(z=true∨∃ j:Nat,j < d∧i+j≠c)∧(z=true→0 < a)∧∀ j:Nat,j < d→i+j≠c→sHi m (i+j) b < lo)∨(z=false∧∀ j:Nat,j < d→i+j=c)
 | 0,i,a,z=>by
  cases z with
  | false=>exact .inr ⟨rfl,fun j hj=>absurd hj (Nat.not_lt_zero j)⟩
  | true=>
   refine .inl ?_;rw [zym];exact ⟨fun h=>⟨.inl rfl,fun _=>h,fun j hj=>absurd hj (Nat.not_lt_zero j)⟩,fun h=>h.2.1 rfl⟩
 | d+1,i,a,z=>by
  rw [zym];have sh:∀ j:Nat,i+1+(j:Int)=i+((j+1:Nat):Int):=fun j=>by omega
  cases hc:(i==c) with
  | true=>
   have hc:=beq_iff_eq.1 hc;rw [z00];rcases zse (m:=m) (c:=c) (lo:=lo) (b:=b) d (i+1) a z with h | ⟨h1,h2⟩
   ·refine .inl (h.trans ?_)
    constructor
    ·rintro ⟨q1,q2,q3⟩
     refine ⟨q1.imp_right ?_,q2,fun j hj hne=>?_⟩
     ·rintro ⟨j,hj,hne⟩; exact ⟨j+1,by omega,by rw [← sh j]; exact hne⟩
     ·cases j with
      | zero=>exact absurd (by simpa using hc) hne
      | succ j=>rw [← sh j] at hne ⊢; exact q3 j (by omega) hne
    ·rintro ⟨q1,q2,q3⟩
     refine ⟨q1.imp_right ?_,q2,fun j hj hne=>?_⟩
     ·rintro ⟨j,hj,hne⟩
      cases j with
      | zero=>exact absurd (by simpa using hc) hne
      | succ j=>exact ⟨j,by omega,by rw [sh j]; exact hne⟩
     ·rw [sh j] at hne ⊢; exact q3 (j+1) (by omega) hne
   ·refine .inr ⟨h1,fun j hj=>?_⟩
    cases j with
    | zero=>simpa using hc
    | succ j=>rw [← sh j]; exact h2 j (by omega)
  | false=>
   have hc:i≠c:=fun e=>by rw [e,beq_self_eq_true] at hc; cases hc
   rw [z02];refine .inl ?_;have key:∀ (a':Int),(0 < a'↔(z=true→0 < a)∧sHi m i b < lo)→(0 < zym m c lo b d (i+1) a' true↔(z=true∨∃ j:Nat,j < d+1∧i+(j:Int)≠c)∧(z=true→0 < a)∧∀ j:Nat,j < d+1→i+(j:Int)≠c→sHi m (i+j) b < lo):=fun a' ha'=>by
    rcases zse (m:=m) (c:=c) (lo:=lo) (b:=b) d (i+1) a' true with h | ⟨h1,_⟩
    ·rw [h]
     constructor
     ·rintro ⟨_,q2,q3⟩
      obtain ⟨r1,r2⟩:=ha'.1 (q2 rfl);refine ⟨.inr ⟨0,by omega,by simpa using hc⟩,r1,fun j hj hne=>?_⟩
      cases j with
      | zero=>simpa using r2
      | succ j=>rw [← sh j] at hne ⊢; exact q3 j (by omega) hne
     ·rintro ⟨_,q2,q3⟩
      have r2:=q3 0 (by omega) (by simpa using hc)
      refine ⟨.inl rfl,fun _=>ha'.2 ⟨q2,by simpa using r2⟩,fun j hj hne=>?_⟩
      rw [sh j] at hne ⊢
      exact q3 (j+1) (by omega) hne
    ·cases h1
   cases z with
   | false=>
    rw [Bool.not_false,Bool.true_or,z00];exact key _ ⟨fun h=>⟨fun h=>(by cases h),by omega⟩,fun h=>by have:=h.2; omega⟩
   | true=>
    rw [Bool.not_true,Bool.false_or];cases hd:decide (lo - sHi m i b < a) with
    | true=>
     have hd:=of_decide_eq_true hd;rw [z00];exact key _ ⟨fun h=>⟨fun _=>by omega,by omega⟩,fun h=>by have:=h.2; omega⟩
    | false=>
     have hd:=of_decide_eq_false hd;rw [z02];exact key _ ⟨fun h=>⟨fun _=>h,by omega⟩,fun h=>h.1 rfl⟩
theorem yc0 {m:Md} {c:Int} {b:Bx} (h:yfb m c b=true):0 < ygz m c b↔∀ j:Nat,(j:Int) < m.c→(j:Int)≠c→sHi m (j:Int) b < sLo m c b:=by
 have h0:=h;unfold yfb at h0;rw [Bool.and_eq_true,decide_eq_true_eq] at h0;obtain ⟨hs,h2⟩:=h0;have hc:=y5d (yai hs).2.1;unfold ygz;rw [h,z00];rcases zse (m:=m) (c:=c) (lo:=sLo m c b) (b:=b) m.c.toNat 0 0 false with h1 | ⟨_,h1⟩
 ·rw [h1]
  simp only [Int.zero_add];constructor
  ·rintro ⟨_,_,q⟩ j hj hne
   exact q j (by omega) hne
  ·intro q
   refine ⟨.inr ?_,fun h=>(by cases h),fun j hj hne=>q j (by omega) hne⟩
   by_cases e:c=0
   ·exact ⟨1,by omega,by omega⟩
   ·exact ⟨0,by omega,by omega⟩
 ·have q0:=h1 0 (by omega)
  have q1:=h1 1 (by omega)
  omega
theorem ybm {m:Md} {k:Int} (h0:0≤k) (h1:k < m.c):zej m k=true:=by
 unfold zej;rw [decide_eq_true h0,decide_eq_true h1]
 rfl
theorem yap {m:Md} {k:Int} {b:Bx} (hm:z3z m=true) (hk:zej m k=true) (hb:b.emp=false):sOK m k b=true:=by
 unfold sOK;rw [hm,hk,hb]
 rfl
theorem zz4 {m:Md} {q:Qy} (hm:z3z m=true) (hk:q.k=3) (hf:0≤q.ft∧q.ft < m.d):z9h q=true:=by
 have:=(z3q hm).1
 unfold z9h;rw [hk,decide_eq_true (show q.ft≥0 by omega),decide_eq_true (show q.ft < 4 by omega)]
 rfl
open Go
abbrev kFt:List Kd:=[.int .i64,.list false [.int .i64],.list false [.int .i64],.list false [.int .i64],.list false [.int .i64]]
structure Ft where
 d:Int
 c:Int
 bias:List IV
 ts:List IV
def Ft.cs (f:Ft):List FM.V:=[.int .i64 f.d,.int .i64 f.c,.list false [.int .i64] f.bias,.list true kFt f.ts]
def Ft.V (f:Ft):FM.V:=.agg f.cs
def Ft.M (f:Ft):Md:=ygq f.d f.c f.bias f.ts
open Go
def Bx.good (b:Bx):Prop:=∀ i,i < 5 → -2147483648≤(b.g i).lo∧(b.g i).lo≤(b.g i).hi∧(b.g i).hi≤2147483647
theorem Bx.good.emp {b:Bx} (h:b.good):b.emp=false:=yb2.2 fun i hi=>(h i hi).2.1
theorem Bx.good.ok {b:Bx} (h:b.good):b.ok:=fun i hi=>(h i hi).2.2
def Sp.good (s:Sp):Prop := -2147483648≤s.lo∧s.lo≤s.hi∧s.hi≤2147483647
theorem zny {b:Bx} (hb:b.good) {s:Sp} (hs:s.good) {i:Nat} (hi:i < 5):(b.p s i).good:=by
 intro j hj;rw [zns b s hi hj]
 by_cases h:j=i
 ·rw [if_pos h]; exact hs
 ·rw [if_neg h]; exact hb j hj
theorem y11 {lo hi:Int} (h0 : -2147483648≤lo) (h1:lo≤hi) (h2:hi≤2147483647):(y7v lo hi).good:=by
 unfold y7v;rw [decide_eq_false (by omega),z02]
 exact ⟨h0,h1,h2⟩
theorem yaf {b:Bx} (hb:b.good) {i:Nat} (hi:i < 5) {a:Int} (h1:(b.g i).lo≤a) (h2:a < (b.g i).hi):(b.cutL (i:Int) a).good:=by
 unfold Bx.cutL;rw [Int.toNat_natCast];have h:=hb i hi;refine zny hb (y11 h.1 ?_ ?_) hi <;> omega
theorem yar {b:Bx} (hb:b.good) {i:Nat} (hi:i < 5) {a:Int} (h1:(b.g i).lo≤a) (h2:a < (b.g i).hi):(b.cutH (i:Int) a).good:=by
 unfold Bx.cutH;rw [Int.toNat_natCast];have h:=hb i hi;have e:zcj (a+1)=a+1:=z1d (by omega) (by omega)
 refine zny hb ?_ hi;unfold Sp.cutH;rw [decide_eq_false (by omega),z02,e]
 exact y11 (by omega) (by omega) h.2.2
theorem zgt {d i:Int} {s:Sp} (h:y64 d i s=true):s.good:=by
 unfold y64 at h;simp only [Bool.and_eq_true,Bool.not_eq_true',z1n,Sp.emp,decide_eq_true_eq,decide_eq_false_iff_not] at h;obtain ⟨_,h1,h2,h3⟩:=h;exact ⟨h2.1,by omega,h3.2⟩
theorem zho {m:Md} {q:Qy} (h:z6x m q=true):z3z m=true∧(0≤q.c∧q.c < m.c)∧(0≤q.bu∧q.bu≤65536)∧zw7 q.bx m.d=true∧y0r m q=true:=by
 unfold z6x at h;simp only [Bool.and_eq_true,decide_eq_true_eq] at h;exact ⟨h.1,⟨h.2.1,h.2.2.1⟩,⟨h.2.2.2.1,h.2.2.2.2.1⟩,h.2.2.2.2.2.1,h.2.2.2.2.2.2⟩
theorem yc3 {b:Bx} {d:Int} (h:zw7 b d=true):b.good:=by
 unfold zw7 at h;simp only [Bool.and_eq_true] at h;intro i hi
 match i,hi with
 | 0,_=>exact zgt h.1
 | 1,_=>exact zgt h.2.1
 | 2,_=>exact zgt h.2.2.1
 | 3,_=>exact zgt h.2.2.2.1
 | 4,_=>exact zgt h.2.2.2.2
 | n+5,hi=>omega
theorem y6g {m:Md} {q:Qy} (h:z6x m q=true):(zda q).good:=by
 have hb:=yc3 (zho h).2.2.2.1;unfold zda;refine zny hb ?_ (by omega)
 cases hp:z9h q with
 | false=>rw [z02]; exact ⟨by decide,by decide,by decide⟩
 | true=>
  rw [z00];unfold z9h at hp;simp only [Bool.and_eq_true,decide_eq_true_eq] at hp;exact hb q.ft.toNat (by omega)
theorem y2b {l:List IV} {x:IV} (h:x∈zjz l):x∈l:=List.mem_of_mem_take h
open Go
abbrev yh8:List Kd:=[.int .i64,.int .i64,.int .i64,.int .i64,.int .i64,.int .i64,.int .i64,.int .i64,.int .i64,.int .i64,.int .i64]
def y9f (a:Int) (b:Bx):IV:=.agg [.int a,.int b.s0.lo,.int b.s0.hi,.int b.s1.lo,.int b.s1.hi,.int b.s2.lo,.int b.s2.hi,.int b.s3.lo,.int b.s3.hi,.int b.s4.lo,.int b.s4.hi]
abbrev zlz (x:IV):Int:=cI x 0
def zt4 (x:IV):Bx:=⟨⟨cI x 1,cI x 2⟩,⟨cI x 3,cI x 4⟩,⟨cI x 5,cI x 6⟩,⟨cI x 7,cI x 8⟩,⟨cI x 9,cI x 10⟩⟩
theorem y34 (a:Int) (b:Bx):zlz (y9f a b)=a:=rfl
theorem zws (a:Int) (b:Bx):zt4 (y9f a b)=b:=rfl
structure En where
 todo:List IV
 lo:Int
 hi:Int
 any:Bool
def z2v (l:List IV):IV:=l.getD (l.length - 1) default
def z8h (l:List IV) (e:En):Nd:=z08 (l.getD (zlz (z2v e.todo)).toNat default).toInt
def y08 (l:List IV) (e:En):En:=
 cond (!(zb6 (l.getD (zlz (z2v e.todo)).toNat default).toInt)||(zt4 (z2v e.todo)).emp) ⟨zjz e.todo,e.lo,e.hi,e.any⟩
  (cond (!(z8h l e).lf)
   ⟨zjz e.todo++[y9f (z8h l e).l ((zt4 (z2v e.todo)).cutL (z8h l e).f (z8h l e).a),y9f (z8h l e).r ((zt4 (z2v e.todo)).cutH (z8h l e).f (z8h l e).a)],e.lo,e.hi,e.any⟩
   ⟨zjz e.todo,min (cond e.any e.lo (z8h l e).v) (z8h l e).v,max (cond e.any e.hi (z8h l e).v) (z8h l e).v,true⟩)
def en0 (b:Bx):En:=⟨[y9f 0 b],0,0,false⟩
structure EnI (l:List IV) (b:Bx) (e:En):Prop where
 at_:∀ (j:Nat) (x:IV),e.todo[j]?=some x→(j:Int)≤zlz x∧zlz x < ic l.length
 ok:∀ x∈e.todo,(zt4 x).ok
 val:∀ x∈e.todo,∀ p t,(zt4 x).has p t=true→b.has p t=true∧zp4 l p=y97 l p (zlz x).toNat
 all:∀ p t,b.has p t=true→(∃ x∈e.todo,(zt4 x).has p t=true)∨(e.any=true∧e.lo≤zp4 l p∧zp4 l p≤e.hi)
 lo:e.any=true→∃ p t,b.has p t=true∧zp4 l p=e.lo
 hi:e.any=true→∃ p t,b.has p t=true∧zp4 l p=e.hi
theorem y3l {l:List IV} {j:Nat} {x:IV} (h:(zjz l)[j]?=some x):l[j]?=some x:=by
 unfold zjz at h;rw [List.getElem?_take] at h
 split at h
 ·exact h
 ·cases h
theorem zm9 {l:List IV} {x:IV} (hl:0 < l.length) (h:x∈l):x∈zjz l∨x=z2v l:=by
 obtain ⟨j,hj⟩:=List.getElem?_of_mem h;have hjl:=(List.getElem?_eq_some_iff.1 hj).1
 by_cases hc:j < l.length - 1
 ·refine .inl (List.mem_of_getElem? (i:=j) ?_)
  unfold zjz;rw [List.getElem?_take,if_pos hc];exact hj
 ·have:j=l.length - 1:=by omega
  subst this;refine .inr ?_;unfold z2v;rw [List.getD_eq_getElem?_getD,hj]
  rfl
theorem zru {l:List IV} (hl:0 < l.length):z2v l∈l∧l[l.length - 1]?=some (z2v l):=by
 unfold z2v;rw [List.getD_eq_getElem?_getD,List.getElem?_eq_getElem (by omega)]
 exact ⟨List.getElem_mem _,rfl⟩
theorem zjv (l:List IV):(zjz l).length=l.length - 1:=by
 unfold zjz;rw [List.length_take]; omega
theorem ye7 {l:List IV} (ht:TreeOK l) {b:Bx} {e:En} (h:EnI l b e) (hl:0 < e.todo.length):EnI l b (y08 l e):=by
 obtain ⟨hm,hg⟩:=zru hl;have ha:=h.at_ _ _ hg;have h31:=ht.len.2;have hpm:∀ x∈zjz e.todo,x∈e.todo:=fun x hx=>y2b hx
 have e0:((zlz (z2v e.todo)).toNat:Int)=zlz (z2v e.todo):=by omega
 have hlt:(zlz (z2v e.todo)).toNat < l.length:=by have:=ha.2; simp only [ic] at this; omega
 have hn:=ht.node _ hlt;have hv:=h.val _ hm;have hok:=h.ok _ hm;unfold y08;rw [hn,Bool.not_true,Bool.false_or];cases he:(zt4 (z2v e.todo)).emp with
 | true=>
  rw [z00];refine ⟨fun j x hj=>h.at_ j x (y3l hj),fun x hx=>h.ok x (hpm x hx),fun x hx=>h.val x (hpm x hx),fun p t hh=>?_,h.lo,h.hi⟩
  rcases h.all p t hh with ⟨x,hx,hxh⟩ | hr
  ·rcases zm9 hl hx with hx | rfl
   ·exact .inl ⟨x,hx,hxh⟩
   ·have:=yah hxh
    rw [he] at this; cases this
  ·exact .inr hr
 | false=>
  rw [z02];cases hlf:(z8h l e).lf with
  | true=>
   rw [Bool.not_true,z02];have hvl:∀ p t,(zt4 (z2v e.todo)).has p t=true→b.has p t=true∧zp4 l p=(z8h l e).v:=fun p t hh=>by
    obtain ⟨h1,h2⟩:=hv p t hh;exact ⟨h1,h2.trans (y4s ht p hlt hlf)⟩
   have hlow:=hvl _ _ (y5f _ he);refine ⟨fun j x hj=>h.at_ j x (y3l hj),fun x hx=>h.ok x (hpm x hx),fun x hx=>h.val x (hpm x hx),fun p t hh=>?_,fun _=>?_,fun _=>?_⟩
   ·rcases h.all p t hh with ⟨x,hx,hxh⟩ | ⟨h1,h2,h3⟩
    ·rcases zm9 hl hx with hx | rfl
     ·exact .inl ⟨x,hx,hxh⟩
     ·refine .inr ⟨rfl,?_,?_⟩
      ·rw [(hvl p t hxh).2]; show min _ _≤_; omega
      ·rw [(hvl p t hxh).2]; show _≤max _ _; omega
    ·refine .inr ⟨rfl,?_,?_⟩
     ·show min (cond e.any e.lo _) _≤_
      rw [h1,z00]; omega
     ·show _≤max (cond e.any e.hi _) _
      rw [h1,z00]; omega
   ·show ∃ p t,b.has p t=true∧zp4 l p=min (cond e.any e.lo (z8h l e).v) (z8h l e).v
    cases hany:e.any with
    | false=>exact ⟨_,_,hlow.1,by rw [hlow.2,z02]; omega⟩
    | true=>
     rw [z00]
     by_cases hc:e.lo≤(z8h l e).v
     ·obtain ⟨p,t,h1,h2⟩:=h.lo hany
      exact ⟨p,t,h1,by omega⟩
     ·exact ⟨_,_,hlow.1,by rw [hlow.2]; omega⟩
   ·show ∃ p t,b.has p t=true∧zp4 l p=max (cond e.any e.hi (z8h l e).v) (z8h l e).v
    cases hany:e.any with
    | false=>exact ⟨_,_,hlow.1,by rw [hlow.2,z02]; omega⟩
    | true=>
     rw [z00]
     by_cases hc:(z8h l e).v≤e.hi
     ·obtain ⟨p,t,h1,h2⟩:=h.hi hany
      exact ⟨p,t,h1,by omega⟩
     ·exact ⟨_,_,hlow.1,by rw [hlow.2]; omega⟩
  | false=>
   rw [Bool.not_false,z00];obtain ⟨⟨f0,f4⟩,fa,⟨l1,l2⟩,⟨r1,r2⟩,_⟩:=ht.fork _ hlt hlf;replace f0:0≤(z8h l e).f:=f0;replace f4:(z8h l e).f < 4:=f4;replace l1:((zlz (z2v e.todo)).toNat:Int) < (z8h l e).l:=l1;replace l2:(z8h l e).l < ic l.length:=l2;replace r1:((zlz (z2v e.todo)).toNat:Int) < (z8h l e).r:=r1;replace r2:(z8h l e).r < ic l.length:=r2;have ef:(z8h l e).f=(((z8h l e).f.toNat:Nat):Int):=by omega
   have hfl:(z8h l e).f.toNat < 5:=by omega
   have fa' : -2147483648≤(z8h l e).a:=by
    have:z1n (z8h l e).a=true:=fa
    unfold z1n at this;simp only [Bool.and_eq_true,decide_eq_true_eq] at this;exact this.1
   have vf:∀ p:Pt,y97 l p (zlz (z2v e.todo)).toNat=y97 l p (cond (decide (p.g (z8h l e).f.toNat≤(z8h l e).a)) (z8h l e).l.toNat (z8h l e).r.toNat):=fun p=>y4n ht p hlt hlf
   have hL:∀ p t,((zt4 (z2v e.todo)).cutL (z8h l e).f (z8h l e).a).has p t=true↔(zt4 (z2v e.todo)).has p t=true∧co p t (z8h l e).f.toNat≤(z8h l e).a:=fun p t=>by
    have:=y8k (b:=zt4 (z2v e.todo)) hfl (a:=(z8h l e).a) (p:=p) (t:=t)
    rwa [← ef] at this
   have hH:∀ p t,((zt4 (z2v e.todo)).cutH (z8h l e).f (z8h l e).a).has p t=true↔(zt4 (z2v e.todo)).has p t=true∧(z8h l e).a < co p t (z8h l e).f.toNat:=fun p t=>by
    have:=yaj hok hfl fa' (p:=p) (t:=t)
    rwa [← ef] at this
   have okL:((zt4 (z2v e.todo)).cutL (z8h l e).f (z8h l e).a).ok:=by
    have:=y88 hok hfl (z8h l e).a
    rwa [← ef] at this
   have okH:((zt4 (z2v e.todo)).cutH (z8h l e).f (z8h l e).a).ok:=by
    have:=ya7 hok hfl (z8h l e).a
    rwa [← ef] at this
   have hco:∀ p t,co p t (z8h l e).f.toNat=p.g (z8h l e).f.toNat:=fun p t=>y4e p t (by omega)
   refine ⟨fun j x hj=>?_,fun x hx=>?_,fun x hx=>?_,fun p t hh=>?_,h.lo,h.hi⟩
   ·rw [List.getElem?_append,zjv] at hj
    split at hj
    ·exact h.at_ j x (y3l hj)
    ·rename_i hc
     have h1:=ha.1;rcases Nat.lt_or_ge (j - (e.todo.length - 1)) 1 with h0 | h0
     ·have:j - (e.todo.length - 1)=0:=by omega
      rw [this] at hj;simp only [List.getElem?_cons_zero,Option.some.injEq] at hj;subst hj;rw [y34];omega
     ·rcases Nat.lt_or_ge (j - (e.todo.length - 1)) 2 with h2 | h2
      ·have:j - (e.todo.length - 1)=1:=by omega
       rw [this] at hj;simp only [List.getElem?_cons_succ,List.getElem?_cons_zero,Option.some.injEq] at hj;subst hj;rw [y34];omega
      ·rw [List.getElem?_eq_none (by simpa using h2)] at hj
       cases hj
   ·rcases List.mem_append.1 hx with hx | hx
    ·exact h.ok x (hpm x hx)
    ·rcases List.mem_cons.1 hx with rfl | hx
     ·rw [zws]; exact okL
     ·obtain rfl:=List.mem_singleton.1 hx
      rw [zws]; exact okH
   ·rcases List.mem_append.1 hx with hx | hx
    ·exact h.val x (hpm x hx)
    ·rcases List.mem_cons.1 hx with rfl | hx
     ·intro p t hh
      rw [zws] at hh;obtain ⟨h1,h2⟩:=(hL p t).1 hh;obtain ⟨h3,h4⟩:=hv p t h1;rw [hco] at h2;rw [y34];exact ⟨h3,by rw [h4,vf,decide_eq_true h2,z00]⟩
     ·obtain rfl:=List.mem_singleton.1 hx
      intro p t hh;rw [zws] at hh;obtain ⟨h1,h2⟩:=(hH p t).1 hh;obtain ⟨h3,h4⟩:=hv p t h1;rw [hco] at h2;rw [y34];exact ⟨h3,by rw [h4,vf,decide_eq_false (by omega),z02]⟩
   ·rcases h.all p t hh with ⟨x,hx,hxh⟩ | hr
    ·rcases zm9 hl hx with hx | rfl
     ·exact .inl ⟨x,List.mem_append.2 (.inl hx),hxh⟩
     ·by_cases hc:co p t (z8h l e).f.toNat≤(z8h l e).a
      ·exact .inl ⟨_,List.mem_append.2 (.inr (List.mem_cons_self ..)),by rw [zws]; exact (hL p t).2 ⟨hxh,hc⟩⟩
      ·exact .inl ⟨_,List.mem_append.2 (.inr (List.mem_cons_of_mem _ (List.mem_cons_self ..))),by rw [zws]; exact (hH p t).2 ⟨hxh,by omega⟩⟩
    ·exact .inr hr
theorem yg4 {l:List IV} (ht:TreeOK l) {b:Bx} (hb:b.ok):EnI l b (en0 b):=by
 have h1:=ht.len.1;refine ⟨fun j x hj=>?_,fun x hx=>?_,fun x hx=>?_,fun p t hh=>.inl ⟨_,List.mem_cons_self ..,by rw [zws]; exact hh⟩,(fun h=>by cases h),(fun h=>by cases h)⟩
 ·match j,hj with
  | 0,hj=>
   obtain rfl:y9f 0 b=x:=by simpa [en0] using hj
   rw [y34];simp only [ic];omega
  | j+1,hj=>simp [en0] at hj
 ·obtain rfl:=List.mem_singleton.1 hx
  rw [zws]; exact hb
 ·obtain rfl:=List.mem_singleton.1 hx
  intro p t hh;rw [zws] at hh;exact ⟨hh,rfl⟩
def enW (l:List IV):Nat:=(l.map fun x=>3 ^ (31 - (zlz x).toNat)).sum
theorem EnI.depth {l:List IV} (ht:TreeOK l) {b:Bx} {e:En} (h:EnI l b e):e.todo.length≤31:=by
 by_cases hc:e.todo.length≤31
 ·exact hc
 ·obtain ⟨x,hx⟩:∃ x,e.todo[31]?=some x:=⟨_,List.getElem?_eq_getElem (by omega)⟩
  have:=h.at_ 31 x hx
  have h2:=ht.len.2;simp only [ic] at this;omega
theorem ydn {l:List IV} (hl:0 < l.length):enW l=enW (zjz l)+3 ^ (31 - (zlz (z2v l)).toNat):=by
 have e:l=zjz l++[z2v l]:=by
  have h2:=(zru hl).2;have h3:l[l.length - 1]=z2v l:=Option.some.inj ((List.getElem?_eq_getElem (by omega)).symm.trans h2)
  unfold zjz;rw [← h3,List.take_append_getElem,List.take_of_length_le (by omega)]
 unfold enW
 conv=>lhs; rw [e]
 rw [List.map_append,List.sum_append];simp
theorem y93 {a b c:Nat} (h1:a < b) (h2:a < c) (ha:a < 31):3 ^ (31 - b)+3 ^ (31 - c)+1≤3 ^ (31 - a):=by
 have e:3 ^ (31 - a)=3*3 ^ (30 - a):=by
  rw [show 31 - a=(30 - a)+1 by omega,Nat.pow_succ]; omega
 have e1:3 ^ (31 - b)≤3 ^ (30 - a):=Nat.pow_le_pow_right (by omega) (by omega)
 have e2:3 ^ (31 - c)≤3 ^ (30 - a):=Nat.pow_le_pow_right (by omega) (by omega)
 have e3:0 < 3 ^ (30 - a):=Nat.pow_pos (by omega)
 omega
theorem yeg {l:List IV} (ht:TreeOK l) {b:Bx} {e:En} (h:EnI l b e) (hl:0 < e.todo.length):enW (y08 l e).todo+1≤enW e.todo:=by
 obtain ⟨hm,hg⟩:=zru hl;have ha:=h.at_ _ _ hg;have h31:=ht.len.2;have hlt:(zlz (z2v e.todo)).toNat < l.length:=by have:=ha.2; simp only [ic] at this; omega
 have hpos:0 < 3 ^ (31 - (zlz (z2v e.todo)).toNat):=Nat.pow_pos (by omega)
 rw [ydn hl];unfold y08;cases !zb6 (l.getD (zlz (z2v e.todo)).toNat default).toInt||(zt4 (z2v e.todo)).emp with
 | true=>rw [z00]; show enW (zjz e.todo)+1≤_; omega
 | false=>
  rw [z02];cases hlf:(z8h l e).lf with
  | true=>rw [Bool.not_true,z02]; show enW (zjz e.todo)+1≤_; omega
  | false=>
   rw [Bool.not_false,z00];obtain ⟨_,_,⟨l1,l2⟩,⟨r1,r2⟩,_⟩:=ht.fork _ hlt hlf;replace l1:((zlz (z2v e.todo)).toNat:Int) < (z8h l e).l:=l1;replace r1:((zlz (z2v e.todo)).toNat:Int) < (z8h l e).r:=r1
   have:=y93 (a:=(zlz (z2v e.todo)).toNat) (b:=(z8h l e).l.toNat) (c:=(z8h l e).r.toNat) (by omega) (by omega) (by omega)
   unfold enW at *;rw [List.map_append,List.sum_append];simp only [List.map_cons,List.map_nil,List.sum_cons,List.sum_nil,y34];omega
theorem ygu {l:List IV} (hT:zb8 l 4=true) {b:Bx} (hb:b.emp=false) (hok:b.ok) {e:En} (h:EnI l b e) (hl:e.todo=[]):e.lo=tLo l b∧e.hi=tHi l b:=by
 obtain ⟨t1,⟨p1,u1,q1,q2⟩,⟨p2,u2,q3,q4⟩⟩:=ydz hT hb hok;have hall:∀ p t,b.has p t=true→e.any=true∧e.lo≤zp4 l p∧zp4 l p≤e.hi:=fun p t hh=>by
  rcases h.all p t hh with ⟨x,hx,_⟩ | hr
  ·rw [hl] at hx; cases hx
  ·exact hr
 have hany:=(hall _ _ q1).1;obtain ⟨p3,u3,q5,q6⟩:=h.lo hany;obtain ⟨p4,u4,q7,q8⟩:=h.hi hany;have a1:=hall _ _ q1;have a2:=hall _ _ q3;have a3:=t1 _ _ q5;have a4:=t1 _ _ q7;omega
theorem ygl {l:List IV} (hT:zb8 l 4=true) {b c:Bx} (hb:b.emp=false) (hok:b.ok) (hc:c.emp=false) (hokc:c.ok) (h:∀ p,(∃ t,b.has p t=true)↔∃ t,c.has p t=true):tLo l b=tLo l c∧tHi l b=tHi l c:=by
 obtain ⟨t1,⟨p1,u1,q1,q2⟩,⟨p2,u2,q3,q4⟩⟩:=ydz hT hb hok;obtain ⟨s1,⟨p3,u3,q5,q6⟩,⟨p4,u4,q7,q8⟩⟩:=ydz hT hc hokc;obtain ⟨v1,w1⟩:=(h p1).1 ⟨u1,q1⟩;obtain ⟨v2,w2⟩:=(h p2).1 ⟨u2,q3⟩;obtain ⟨v3,w3⟩:=(h p3).2 ⟨u3,q5⟩;obtain ⟨v4,w4⟩:=(h p4).2 ⟨u4,q7⟩;have a1:=s1 _ _ w1;have a2:=s1 _ _ w2;have a3:=t1 _ _ w3;have a4:=t1 _ _ w4;omega
open Go
open Go
open Go
open Go
theorem y7n {s:Sp}:zqb s=true↔s.good:=by
 unfold zqb Sp.good;simp only [Bool.and_eq_true,decide_eq_true_eq]
theorem zea {b:Bx}:z4u b=true↔b.good:=by
 unfold z4u;simp only [Bool.and_eq_true,y7n];constructor
 ·rintro ⟨h0,h1,h2,h3,h4⟩ i hi
  match i,hi with
  | 0,_=>exact h0
  | 1,_=>exact h1
  | 2,_=>exact h2
  | 3,_=>exact h3
  | 4,_=>exact h4
  | n+5,hi=>omega
 ·intro h
  exact ⟨h 0 (by omega),h 1 (by omega),h 2 (by omega),h 3 (by omega),h 4 (by omega)⟩
theorem yc2 {b:Bx} (h4:b.s4.lo≤b.s4.hi) (p:Pt):(∃ t,(b.p ⟨0,0⟩ 4).has p t=true)↔∃ t,b.has p t=true:=by
 constructor
 ·rintro ⟨t,h⟩
  refine ⟨b.s4.lo,?_⟩;unfold Bx.has at h ⊢
  simp only [Bool.and_eq_true] at h ⊢
  exact ⟨h.1,h.2.1,h.2.2.1,h.2.2.2.1,zj2.2 ⟨Int.le_refl _,h4⟩⟩
 ·rintro ⟨t,h⟩
  refine ⟨0,?_⟩;unfold Bx.has at h ⊢
  simp only [Bool.and_eq_true] at h ⊢
  exact ⟨h.1,h.2.1,h.2.2.1,h.2.2.2.1,zj2.2 ⟨Int.le_refl _,Int.le_refl _⟩⟩
theorem y3v {g g':List IV→Int} (k:Int):∀ (ts:List IV) (s:Int),(∀ t∈ts,g (zqu t)=g' (zqu t))→y9t g k ts s=y9t g' k ts s
 | [],_,_=>rfl
 | t :: ts,s,h=>by
  rw [y9t,y9t,h t (List.mem_cons_self ..)];exact y3v k ts _ fun u hu=>h u (List.mem_cons_of_mem _ hu)
theorem yda {m:Md} (hm:z3z m=true) (k:Int) {b:Bx} (hb:b.good):sLo m k (b.p ⟨0,0⟩ 4)=sLo m k b∧sHi m k (b.p ⟨0,0⟩ 4)=sHi m k b:=by
 have hg:(b.p ⟨0,0⟩ 4).good:=zny hb ⟨by decide,by decide,by decide⟩ (by omega)
 have ht:∀ t∈m.ts,tLo (zqu t) (b.p ⟨0,0⟩ 4)=tLo (zqu t) b∧tHi (zqu t) (b.p ⟨0,0⟩ 4)=tHi (zqu t) b:=fun t ht=>
  ygl (ya8 hm ht) hg.emp hg.ok hb.emp hb.ok (yc2 (hb 4 (by omega)).2.1)
 have es:sOK m k (b.p ⟨0,0⟩ 4)=sOK m k b:=by unfold sOK; rw [hg.emp,hb.emp]
 unfold sLo sHi;rw [es];cases sOK m k b with
 | false=>exact ⟨rfl,rfl⟩
 | true=>
  rw [z00,z00,z00,z00];exact ⟨y3v k m.ts _ fun t h=>(ht t h).1,y3v k m.ts _ fun t h=>(ht t h).2⟩
def y2s (m:Md) (q:Qy) (b:Bx):Nat→Nat→Bool
 | 0,_=>true
 | d+1,i=>cond (!((i:Int)==q.c)&&decide (sHi m (i:Int) b≥sLo m q.c b)) false (y2s m q b d (i+1))
def zye (q:Qy) (b:Bx):Bx:=b.p b.s4 q.ft.toNat
def y8w (m:Md) (q:Qy) (b:Bx):Bool:=
 cond b.emp true
  (cond (q.k==1) (decide (q.lo≤sLo m q.c b)&&decide (sHi m q.c b≤q.hi))
   (cond (q.k==2) (y2s m q b m.c.toNat 0)
    (cond (decide ((b.g q.ft.toNat).lo≥b.s4.hi)) true
     (cond q.fl (decide (sHi m q.c (zye q b)≤sLo m q.c b)) (decide (sLo m q.c (zye q b)≥sHi m q.c b))))))
theorem y0o {m:Md} {q:Qy} {b:Bx}:∀ (d i:Nat),y2s m q b d i=true↔∀ j:Nat,i≤j→j < i+d→(j:Int)≠q.c→sHi m (j:Int) b < sLo m q.c b
 | 0,i=>⟨fun _ j h1 h2=>by omega,fun _=>rfl⟩
 | d+1,i=>by
  rw [y2s];cases hc:(!((i:Int)==q.c)&&decide (sHi m (i:Int) b≥sLo m q.c b)) with
  | true=>
   rw [z00];simp only [Bool.and_eq_true,Bool.not_eq_true',beq_eq_false_iff_ne,decide_eq_true_eq] at hc;refine ⟨(fun h=>by cases h),fun h=>?_⟩
   have:=h i (Nat.le_refl _) (by omega) hc.1
   omega
  | false=>
   rw [z02,y0o d (i+1)];rw [Bool.and_eq_false_iff,Bool.not_eq_false',beq_iff_eq,decide_eq_false_iff_not] at hc;constructor
   ·intro h j h1 h2 hn
    rcases Nat.lt_or_ge i j with h3 | h3
    ·exact h j h3 (by omega) hn
    ·have:j=i:=by omega
     subst this;rcases hc with hc | hc
     ·exact absurd hc hn
     ·omega
   ·intro h j h1 h2 hn
    exact h j (by omega) (by omega) hn
theorem y1a {m:Md} {q:Qy} {b:Bx} (hr:z6x m q=true) (hb:b.emp=true∨b.good):y8w m q b=zdn m q b:=by
 unfold y8w zdn;rw [hr,Bool.true_and];cases he:b.emp with
 | true=>rfl
 | false=>
  rw [z02,z02];have hg:b.good:=by
   rcases hb with h | h
   ·rw [he] at h; cases h
   ·exact h
  obtain ⟨hm,⟨c0,c1⟩,_,_,hk⟩:=zho hr;have hcl:=ybm c0 c1;have hs:=yap hm hcl he;rcases zmf hk with ⟨e,_⟩ | ⟨e,h2,_⟩ | ⟨e,hf,_⟩
  ·rw [e]
   show (decide (q.lo≤sLo m q.c b)&&decide (sHi m q.c b≤q.hi))=(sOK m q.c b&&(decide (q.lo≤sLo m q.c b)&&decide (sHi m q.c b≤q.hi)));rw [hs,Bool.true_and]
  ·rw [e]
   show y2s m q b m.c.toNat 0=(yfb m q.c b&&decide (ygz m q.c b > 0));have hmg:yfb m q.c b=true:=by unfold yfb; rw [hs,decide_eq_true (by omega)]; rfl
   rw [hmg,Bool.true_and,Bool.eq_iff_iff,y0o,decide_eq_true_eq]
   have:=yc0 hmg
   constructor
   ·intro h
    exact this.2 fun j hj hn=>h j (Nat.zero_le _) (by omega) hn
   ·intro h j _ h2 hn
    exact this.1 h j (by omega) hn
  ·rw [e]
   have hp:=zz4 hm e hf;have h44:=hg 4 (by omega)
   have hg2:(zye q b).good:=zny hg h44 (by have:=hf; have:=(zho hr).1; rcases zgd hp with e | e | e | e <;> rw [e] <;> decide)
   have s1:=yda hm q.c hg;have s2:=yda hm q.c hg2;have f1:zyt q b=b.p ⟨0,0⟩ 4:=by unfold zyt; rw [hp,z00]
   have f2:zpp q b=(zye q b).p ⟨0,0⟩ 4:=by unfold zpp; rw [hp,z00]; rfl
   have hch:ydf m q b=true:=by
    unfold ydf;rw [hp,f1,f2,yap hm hcl (zny hg ⟨by decide,by decide,by decide⟩ (by omega)).emp,yap hm hcl (zny hg2 ⟨by decide,by decide,by decide⟩ (by omega)).emp]
    rfl
   have e1:yh6 m q b=sHi m q.c (zye q b) - sLo m q.c b:=by unfold yh6; rw [hch,z00,f1,f2,s1.1,s2.2]
   have e2:yhc m q b=sLo m q.c (zye q b) - sHi m q.c b:=by unfold yhc; rw [hch,z00,f1,f2,s1.2,s2.1]
   have eo:zy3 q b=!decide ((b.g q.ft.toNat).lo≥b.s4.hi):=by
    unfold zy3;rw [hp,he]
    by_cases h:(b.g q.ft.toNat).lo < b.s4.hi
    ·rw [decide_eq_true h,decide_eq_false (by omega)]; rfl
    ·rw [decide_eq_false h,decide_eq_true (by omega)]; rfl
   show cond (decide ((b.g q.ft.toNat).lo≥b.s4.hi)) true _=cond (!(zy3 q b)) true (cond q.fl (ydf m q b&&decide (yh6 m q b≤0)) (ydf m q b&&decide (yhc m q b≥0)));rw [eo,Bool.not_not,hch,Bool.true_and,Bool.true_and,e1,e2];have d1:decide (sHi m q.c (zye q b) - sLo m q.c b≤0)=decide (sHi m q.c (zye q b)≤sLo m q.c b):=by
    rw [Bool.eq_iff_iff,decide_eq_true_eq,decide_eq_true_eq]; omega
   have d2:decide (sLo m q.c (zye q b) - sHi m q.c b≥0)=decide (sLo m q.c (zye q b)≥sHi m q.c b):=by
    rw [Bool.eq_iff_iff,decide_eq_true_eq,decide_eq_true_eq]; omega
   rw [d1,d2]
open Go
theorem y5q {x:IV} {left most:Int} {st:Int × Int} (h:zql (left,most) x=some st):left≠0∧zcd x=true∧((zc1 x=true∧st=(left - 1,most))∨(zc1 x=false∧st=(left+1,max most (left+1)))):=by
 unfold zql at h;cases hz:(left==0) with
 | true=>simp only [hz,Bool.true_or,cond_true] at h; cases h
 | false=>
  have hne:left≠0:=by simpa using hz
  simp only [hz,Bool.false_or] at h;cases hr:zcd x with
  | false=>rw [hr] at h; cases h
  | true=>
   rw [hr] at h;simp only [Bool.not_true,cond_false] at h;cases hs:zc1 x with
   | true=>rw [hs] at h; exact ⟨hne,rfl,.inl ⟨rfl,(Option.some.inj h).symm⟩⟩
   | false=>rw [hs] at h; exact ⟨hne,rfl,.inr ⟨rfl,(Option.some.inj h).symm⟩⟩
theorem zqp {x:IV} (h:zcd x=true) (hs:zc1 x=false):0≤z1q x∧z1q x≤4:=by
 unfold zcd at h;rw [hs,z02,Bool.and_eq_true,decide_eq_true_eq,decide_eq_true_eq] at h;exact h
theorem y0m {x:IV} {left out:List IV} {most:Int} {st:Int × Int} {lo:List IV × List IV} (hl:∀ y∈left,(bxI y).good) (ho:∀ y∈out,(bxI y).good) (hd:zql (ic left.length,most) x=some st) (hp:zqw (left,out) x=some lo) :
  (∀ y∈lo.1,(bxI y).good)∧(∀ y∈lo.2,(bxI y).good)∧st.1=ic lo.1.length:=by
 obtain ⟨hne,hr,hd⟩:=y5q hd;have hlen:0 < left.length:=by simp only [ic] at hne; omega
 have ht:(zie left).good:=hl _ (zru hlen).1;unfold zqw at hp;rcases hd with ⟨hs,rfl⟩ | ⟨hs,rfl⟩
 ·rw [hs] at hp
  obtain rfl:=Option.some.inj hp;refine ⟨fun y hy=>hl y (y2b hy),fun y hy=>?_,?_⟩
  ·rcases List.mem_append.1 hy with hy | hy
   ·exact ho y hy
   ·obtain rfl:=List.mem_singleton.1 hy
    rw [y6x]; exact ht
  ·show ic left.length - 1=ic (zjz left).length
   rw [zjv]; simp only [ic]; omega
 ·rw [hs] at hp
  have hpl:=zqp hr hs;have ej:z1q x=(((z1q x).toNat:Nat):Int):=by omega
  cases hc:(decide (ziz x < ((zie left).g (z1q x).toNat).lo)||decide (ziz x≥((zie left).g (z1q x).toNat).hi)) with
  | true=>simp only [hc,cond_false,cond_true] at hp; cases hp
  | false=>
   simp only [hc,cond_false] at hp;obtain rfl:=Option.some.inj hp;simp only [Bool.or_eq_false_iff,decide_eq_false_iff_not] at hc;refine ⟨fun y hy=>?_,ho,?_⟩
   ·rcases List.mem_append.1 hy with hy | hy
    ·exact hl y (y2b hy)
    ·rcases List.mem_cons.1 hy with rfl | hy
     ·rw [y6x,ej]; exact yar ht (by omega) (by omega) (by omega)
     ·obtain rfl:=List.mem_singleton.1 hy
      rw [y6x,ej]; exact yaf ht (by omega) (by omega) (by omega)
   ·show ic left.length+1=ic (zjz left++[_,_]).length
    rw [List.length_append,zjv];simp only [ic,List.length_cons,List.length_nil]; omega
theorem yan:∀ {l:List IV} {left out:List IV} {most:Int} {st:Int × Int} {lo:List IV × List IV},(∀ y∈left,(bxI y).good)→(∀ y∈out,(bxI y).good)→yb5 l (ic left.length,most)=some st→y5p l (left,out)=some lo→∀ y∈lo.2,(bxI y).good
 | [],left,out,most,st,lo,_,ho,_,hp=>by
  obtain rfl:=Option.some.inj hp;exact ho
 | x :: l,left,out,most,st,lo,hl,ho,hd,hp=>by
  rw [yb5] at hd;rw [y5p] at hp;cases h1:zql (ic left.length,most) x with
  | none=>rw [h1] at hd; cases hd
  | some s1=>
   cases h2:zqw (left,out) x with
   | none=>rw [h2] at hp; cases hp
   | some l1=>
    rw [h1] at hd;rw [h2] at hp;obtain ⟨g1,g2,g3⟩:=y0m hl ho h1 h2;obtain ⟨a,b⟩:=l1;obtain ⟨c,d⟩:=s1;obtain rfl:c=ic a.length:=g3;exact yan g1 g2 hd hp
theorem y05 {l:List IV} (h:zm7 l > 0):∃ st,yb5 l (1,1)=some st:=by
 unfold zm7 at h;cases hc:decide (ic l.length > 65536) with
 | true=>rw [hc,z00] at h; omega
 | false=>
  rw [hc,z02] at h;cases hd:yb5 l (1,1) with
  | none=>rw [hd] at h; exact absurd h (by decide)
  | some st=>exact ⟨st,rfl⟩
theorem ybj {b:Bx} (hb:b.good) {l outs:List IV} (h:psF b l=some outs):∀ y∈outs,(bxI y).good:=by
 unfold psF at h;cases hd:decide (zm7 l > 0) with
 | false=>rw [hd,z02] at h; cases h
 | true=>
  rw [hd,z00] at h;obtain ⟨st,hst⟩:=y05 (of_decide_eq_true hd);cases hp:y5p l ([b.I],[]) with
  | none=>rw [hp] at h; cases h
  | some lo=>
   rw [hp] at h;obtain rfl:=Option.some.inj h;refine yan (left:=[b.I]) (out:=[]) (most:=1) (fun y hy=>?_) (fun y hy=>by cases hy) hst hp
   obtain rfl:=List.mem_singleton.1 hy;rw [y6x]; exact hb
open Go Go.Proofs
def z8c (N:Nat):Env:=mkE [(111,zbs),(112,z5g),(55,z2n)] [(3,⟨[0,4,5,6,7,8,9],[500],[⟨.tmp 9,500,252,true,yh8⟩]⟩)] 88 N
open Go Go.Proofs
set_option maxRecDepth 100000
def ztc (l O:List IV) (n:Nat) (lo hi:Int) (any:Bool):St:=⟨[(0,.list false [.int .u64] l),(4,.int .i64 0),(5,.int .i64 0),(6,.int .i64 lo),(7,.int .i64 hi),(8,.bool any),(9,.row 500 0 n)],[(500,some (.row true 252 true yh8 O))]⟩
abbrev yhp:KP:=⟨[0,4,5,6,7,8,9],[500],[⟨.tmp 9,500,252,true,yh8⟩]⟩
noncomputable abbrev yhw (N:Nat):Out→St→Res:=z04 0 (kSq (z8c N) (z0p z88 [1,1,1,1]) (z3f (z8c N) none [.tmp 4,.tmp 5] [[.int .i64],[.int .i64]]))
def eW (n:Nat):Int:=IntKind.wrap IntKind.i64 (ic (n - 0) - 1)
def eX (O:List IV) (n:Nat):IV:=O.getD (0+(eW n).toNat) default
def eWd (l:List IV) (x:IV):Int:=(l.getD (zlz x).toNat default).toInt
theorem ye1 (N:Nat) (l:List IV) (b:Bx):z1c (z8c N) z88 [.tmp 4,.tmp 5] [[.int .i64],[.int .i64]] [.list false [.int .u64] l,b.V] =
 lpE (z8c N) (z0p z88 [1,1,1,0,0,0]) yhp N (ztc l [y9f 0 b] 1 0 0 false) (yhw N):=by kernel_rfl
theorem y8f (N:Nat) (l O:List IV) (n:Nat) (lo hi:Int) (any:Bool) (again:St→Res) (k:Out→St→Res):rnd (z8c N) (z0p z88 [1,1,1,0,0,0]) (ztc l O n lo hi any) (z4t again yhp k) =
 cond (decide (ic (n - 0) > 0)) (cond (decide (0≤eW n)&&decide (eW n < ic (n - 0))) (cond (decide (0≤eW n)&&decide (eW n≤ic (n - 0)))
 (cond (decide (0≤zlz (eX O n))&&decide (zlz (eX O n) < ic l.length))
 (cond (!(zb6 (eWd l (eX O n)))) (again (ztc l O (0+(eW n).toNat) lo hi any))
 (cond (zt4 (eX O n)).emp (again (ztc l O (0+(eW n).toNat) lo hi any))
 (cond (!(z08 (eWd l (eX O n))).lf)
 (cond (yb7 (z08 (eWd l (eX O n))).f) (cond (decide ((0+(eW n).toNat+2)*88≤z0e))
 (again (ztc l (O.take (0+(eW n).toNat)++[y9f (z08 (eWd l (eX O n))).l ((zt4 (eX O n)).cutL (z08 (eWd l (eX O n))).f (z08 (eWd l (eX O n))).a),y9f (z08 (eWd l (eX O n))).r ((zt4 (eX O n)).cutH (z08 (eWd l (eX O n))).f (z08 (eWd l (eX O n))).a)]) (0+(eW n).toNat+2) lo hi any)) none) none)
 (cond (!any) (again (ztc l O (0+(eW n).toNat) (min (z08 (eWd l (eX O n))).v (z08 (eWd l (eX O n))).v) (max (z08 (eWd l (eX O n))).v (z08 (eWd l (eX O n))).v) true))
 (again (ztc l O (0+(eW n).toNat) (min lo (z08 (eWd l (eX O n))).v) (max hi (z08 (eWd l (eX O n))).v) any)))))) none) none) none)
 (k (.exit 0) (ztc l O n lo hi any)):=by kernel_rfl
theorem ydv (N:Nat) (l O:List IV) (n:Nat) (lo hi:Int) (any:Bool):yhw N (.exit 0) (ztc l O n lo hi any)=some (.tup [.int .i64 lo,.int .i64 hi],[]):=by kernel_rfl
theorem zi3 (N:Nat) {l:List IV} (hT:zb8 l 4=true) {b:Bx} (hb:b.good):∀ (c:Nat) (O:List IV) (n:Nat) (lo hi:Int) (any:Bool),n≤O.length→EnI l b ⟨O.take n,lo,hi,any⟩→enW (O.take n) < c →
  lpE (z8c N) (z0p z88 [1,1,1,0,0,0]) yhp c (ztc l O n lo hi any) (yhw N)=some (.tup [.int .i64 (tLo l b),.int .i64 (tHi l b)],[])
 | 0,_,_,_,_,_,_,_,h=>absurd h (by omega)
 | c+1,O,0,lo,hi,any,hn,h,hc=>by
  obtain ⟨e1,e2⟩:=ygu hT hb.emp hb.ok h rfl;replace e1:lo=tLo l b:=e1;replace e2:hi=tHi l b:=e2;rw [z05,y8f,show decide (ic (0 - 0) > 0)=false from rfl,z02,ydv,e1,e2]
 | c+1,O,j+1,lo,hi,any,hn,h,hc=>by
  have ht:=zqg hT;have hlen:(O.take (j+1)).length=j+1:=by rw [List.length_take]; omega
  have hl:0 < (En.mk (O.take (j+1)) lo hi any).todo.length:=by show 0 < (O.take (j+1)).length; omega
  have hd:=h.depth ht;replace hd:(O.take (j+1)).length≤31:=hd;have hs:=ye7 ht h hl;have hw:=yeg ht h hl;have htop:z2v (O.take (j+1))=O.getD j default:=by
   unfold z2v;rw [hlen,List.getD_eq_getElem?_getD,List.getD_eq_getElem?_getD,List.getElem?_take,if_pos (by omega)]
   rfl
  have hpop:zjz (O.take (j+1))=O.take j:=by
   unfold zjz;rw [hlen,List.take_take]
   congr 1
   omega
  have ew:eW (j+1)=(j:Int):=by
   unfold eW;rw [show ic (j+1 - 0) - 1=(j:Int) by simp only [ic]; omega]
   exact z1d (by omega) (by omega)
  have ej:0+(eW (j+1)).toNat=j:=by rw [ew]; omega
  have ex:eX O (j+1)=z2v (O.take (j+1)):=by unfold eX; rw [ej,htop]
  have ha:=h.at_ _ _ (zru hl).2;replace ha:((((O.take (j+1)).length - 1:Nat)):Int)≤zlz (z2v (O.take (j+1)))∧zlz (z2v (O.take (j+1))) < ic l.length:=ha;have i1:decide (ic (j+1 - 0) > 0)=true:=decide_eq_true (by simp only [ic]; omega)
  have i2:(decide (0≤eW (j+1))&&decide (eW (j+1) < ic (j+1 - 0)))=true:=by rw [ew,decide_eq_true (by omega),decide_eq_true (by simp only [ic]; omega)]; rfl
  have i3:(decide (0≤eW (j+1))&&decide (eW (j+1)≤ic (j+1 - 0)))=true:=by rw [ew,decide_eq_true (by omega),decide_eq_true (by simp only [ic]; omega)]; rfl
  rw [z05,y8f,i1,z00,i2,z00,i3,z00,ej,ex,decide_eq_true (show 0≤zlz (z2v (O.take (j+1))) by omega),decide_eq_true ha.2,Bool.and_self,z00]
  unfold y08 at hs hw;simp only [z8h,hpop] at hs hw;have eWdef:eWd l (z2v (O.take (j+1)))=(l.getD (zlz (z2v (O.take (j+1)))).toNat default).toInt:=rfl;rw [← eWdef] at hs hw;have hfk:(z08 (eWd l (z2v (O.take (j+1))))).lf=false→yb7 (z08 (eWd l (z2v (O.take (j+1))))).f=true:=fun hf=>by
   have hk:(zlz (z2v (O.take (j+1)))).toNat < l.length:=by have:=ha.2; simp only [ic] at this; omega
   have:=(ht.fork _ hk hf).1
   replace this:0≤(z08 (eWd l (z2v (O.take (j+1))))).f∧(z08 (eWd l (z2v (O.take (j+1))))).f < 4:=this;unfold yb7;rw [decide_eq_true this.1,decide_eq_true (by omega)]
   rfl
  generalize eWd l (z2v (O.take (j+1)))=wd at hs hw hfk ⊢
  generalize zt4 (z2v (O.take (j+1)))=vb at hs hw ⊢
  cases hnb:zb6 wd with
  | false=>
   rw [Bool.not_false,z00];simp only [hnb,Bool.not_false,Bool.true_or,cond_true] at hs hw;exact zi3 N hT hb c O j lo hi any (by omega) hs (by omega)
  | true=>
   rw [Bool.not_true,z02];simp only [hnb,Bool.not_true,Bool.false_or] at hs hw;cases he:vb.emp with
   | true=>
    rw [z00];simp only [he,cond_true] at hs hw;exact zi3 N hT hb c O j lo hi any (by omega) hs (by omega)
   | false=>
    rw [z02];simp only [he,cond_false] at hs hw;cases hlf:(z08 wd).lf with
    | true=>
     rw [Bool.not_true,z02];simp only [hlf,Bool.not_true,cond_false] at hs hw;cases any with
     | false=>
      rw [Bool.not_false,z00];exact zi3 N hT hb c O j _ _ true (by omega) hs (by omega)
     | true=>
      rw [Bool.not_true,z02];exact zi3 N hT hb c O j _ _ true (by omega) hs (by omega)
    | false=>
     rw [Bool.not_false,z00];simp only [hlf,Bool.not_false,cond_true] at hs hw;have e2:∀ v1 v2:IV,(O.take j++[v1,v2]).take (j+2)=O.take j++[v1,v2]:=fun v1 v2=>List.take_of_length_le (by simp only [List.length_append,List.length_take,List.length_cons,List.length_nil]; omega)
     rw [hfk hlf,z00,decide_eq_true (show (j+2)*88≤z0e by unfold z0e; omega),z00]
     refine zi3 N hT hb c _ (j+2) lo hi any (by simp only [List.length_append,List.length_take,List.length_cons,List.length_nil]; omega) ?_ ?_
     ·rw [e2]; exact hs
     ·rw [e2]; omega
set_option maxRecDepth 100000 in
theorem ztz:z3c PR B0 158 zab:=by
 refine z0m [(111,zbs),(112,z5g),(55,z2n)] [(3,⟨[0,4,5,6,7,8,9],[500],[⟨.tmp 9,500,252,true,yh8⟩]⟩)] zab [[.int .i64],[.int .i64]] Tryz.func158 y0l ⟨zpz,zet,z8m,trivial⟩ ?_;intro vs r hwf h;unfold zab at h
 split at h
 ·rename_i l b
  replace h:=zam h;obtain ⟨b,rfl,h⟩:=h;cases hg:(zb8 l 4&&z4u b) with
  | false=>rw [hg] at h; simp [R.get] at h
  | true=>
  rw [hg,R.get_br,z00,R.get_ok] at h;rw [Bool.and_eq_true] at hg;refine ⟨3 ^ 31+1,(ye1 (3 ^ 31+1) l b).trans ?_⟩;rw [← h];have hgd:=zea.1 hg.2;refine zi3 (3 ^ 31+1) hg.1 hgd (3 ^ 31+1) [y9f 0 b] 1 0 0 false (Nat.le_refl _) (yg4 (zqg hg.1) hgd.ok) ?_;show enW [y9f 0 b] < 3 ^ 31+1;unfold enW;simp only [List.map_cons,List.map_nil,List.sum_cons,List.sum_nil,y34];show 3 ^ 31+0 < 3 ^ 31+1;omega
 ·simp [R.get] at h
open Go Go.Proofs
def z8b (N:Nat):Env:=mkE [(111,zbs),(110,z8r)] [(6,⟨[4,5,6,7,19,20,21],[500,501],[⟨.tmp 6,500,36,true,zxa⟩,⟨.tmp 7,501,36,true,zxa⟩]⟩)] 75 N
open Go Go.Proofs
set_option maxRecDepth 100000
def yb8 (l L:List IV) (n:Nat) (out:List IV) (m:Nat) (i:Int):St:=⟨[(4,.zs),(5,.bool false),(6,.row 500 0 n),(7,.row 501 0 m),(19,.list true z4v l),(20,.int .i64 (ic l.length)),(21,.int .i64 i)],[(500,some (.row true 36 true zxa L)),(501,some (.row true 36 true zxa out))]⟩
abbrev yhk:KP:=⟨[4,5,6,7,19,20,21],[500,501],[⟨.tmp 6,500,36,true,zxa⟩,⟨.tmp 7,501,36,true,zxa⟩]⟩
def plK (p:Int) (f:Nat→Res):Res:=cond (decide (p=ic 0)) (f 0) (cond (decide (p=ic 1)) (f 1) (cond (decide (p=ic 2)) (f 2) (cond (decide (p=ic 3)) (f 3) (cond (decide (p=ic 4)) (f 4) none))))
def eW' (n:Nat):Int:=IntKind.wrap IntKind.i64 (ic (n - 0) - 1)
def pX (L:List IV) (n:Nat):IV:=L.getD (0+(eW' n).toNat) default
noncomputable abbrev kPs (N:Nat):Out→St→Res:=z04 0 (kSq (z8b N) (z0p z8d [1,1,1,1,1]) (z3f (z8b N) none [.tmp 4,.tmp 5] [[.list true zxa],[.bool]]))
theorem yi6 (N:Nat) (l:List IV) (b:Bx):z1c (z8b N) z8d [.tmp 4,.tmp 5] [[.list true zxa],[.bool]] [b.V,.list true z4v l] =
 cond (!decide (zm7 l > 0)) (some (.tup [.list true zxa [],.bool false],[])) (lpE (z8b N) (z0p z8d [1,1,1,1,0,1,0,0]) yhk N (yb8 l [b.I] 1 [] 0 0) (kPs N)):=by kernel_rfl
theorem yi4 (N:Nat) (l L out:List IV) (n m:Nat) (i:Int):kPs N (.exit 0) (yb8 l L n out m i)=some (.tup [.list true zxa (List.take m out),.bool true],[]):=by kernel_rfl
theorem ycy (N:Nat) (l L out:List IV) (n m:Nat) (i:Int):kPs N .ret (yb8 l L n out m i)=some (.tup [.list true zxa [],.bool false],[]):=by kernel_rfl
theorem yg3 (N:Nat) (l L out:List IV) (n m:Nat) (i:Int) (again:St→Res) (k:Out→St→Res):rnd (z8b N) (z0p z8d [1,1,1,1,0,1,0,0]) (yb8 l L n out m i) (z4t again yhk k) =
 cond (decide (i < ic l.length)) (cond (decide (0≤i)&&decide (i < ic l.length)) (cond (decide (0≤eW' n)&&decide (eW' n < ic (n - 0))) (cond (decide (0≤eW' n)&&decide (eW' n≤ic (n - 0)))
 (cond (zc1 (l.getD i.toNat default)) (cond (decide ((m+1)*80≤z0e)) (again (yb8 l L (0+(eW' n).toNat) (out.take m++[(bxI (pX L n)).I]) (m+1) (zcj (i+1)))) none)
 (plK (z1q (l.getD i.toNat default)) fun j=>cond (decide (ziz (l.getD i.toNat default) < cI (pX L n) (2*j))) (k .ret (yb8 l L (0+(eW' n).toNat) out m i))
 (plK (z1q (l.getD i.toNat default)) fun j=>cond (decide (ziz (l.getD i.toNat default)≥cI (pX L n) (2*j+1))) (k .ret (yb8 l L (0+(eW' n).toNat) out m i))
 (cond (yb7 (z1q (l.getD i.toNat default))) (cond (decide ((0+(eW' n).toNat+2)*80≤z0e))
 (again (yb8 l (L.take (0+(eW' n).toNat)++[((bxI (pX L n)).cutH (z1q (l.getD i.toNat default)) (ziz (l.getD i.toNat default))).I,((bxI (pX L n)).cutL (z1q (l.getD i.toNat default)) (ziz (l.getD i.toNat default))).I]) (0+(eW' n).toNat+2) out m (zcj (i+1)))) none) none)))) none) none) none)
 (k (.exit 0) (yb8 l L n out m i)):=by kernel_rfl
theorem yd7 {p:Int} {a:Nat} (h:p=(a:Int)) (ha:a < 5) (f:Nat→Res):plK p f=f a:=by
 subst h
 match a,ha with
 | 0,_=>rfl
 | 1,_=>rfl
 | 2,_=>rfl
 | 3,_=>rfl
 | 4,_=>rfl
 | n+5,h=>omega
theorem yi1 (x:IV):∀ {a:Nat},a < 5→(bxI x).g a=⟨cI x (2*a),cI x (2*a+1)⟩
 | 0,_=>rfl
 | 1,_=>rfl
 | 2,_=>rfl
 | 3,_=>rfl
 | 4,_=>rfl
 | n+5,h=>by omega
def ydr (o:Option (List IV × List IV)):Res:=match o with
 | some lo=>some (.tup [.list true zxa lo.2,.bool true],[])
 | none=>some (.tup [.list true zxa [],.bool false],[])
theorem y8y (N:Nat) (l:List IV) (hl:l.length≤65536):∀ (d c i:Nat) (L:List IV) (n:Nat) (out:List IV) (most:Int) (st:Int × Int),i+d=l.length→d < c→n≤L.length→n≤i+1→out.length≤i→yb5 (l.drop i) (ic n,most)=some st →
  lpE (z8b N) (z0p z8d [1,1,1,1,0,1,0,0]) yhk c (yb8 l L n out out.length (i:Int)) (kPs N)=ydr (y5p (l.drop i) (L.take n,out))
 | d,0,_,_,_,_,_,_,_,h,_,_,_,_=>absurd h (by omega)
 | 0,c+1,i,L,n,out,most,st,hd,_,_,_,_,_=>by
  rw [z05,yg3,zgi (by omega),z02,List.drop_of_length_le (by omega),yi4,List.take_length]
  rfl
 | d+1,c+1,i,L,n,out,most,st,hd,hc,hn,hn2,ho,hdp=>by
  have hi:i < l.length:=by omega
  rw [List.drop_eq_getElem_cons hi,yb5] at hdp;rw [z05,yg3,zfr hi,z00,zs1,Bool.and_self,z00,zgx hi,List.drop_eq_getElem_cons hi,y5p];have ei:zcj ((i:Int)+1)=((i+1:Nat):Int):=zdi (by omega)
  rw [ei];generalize l[i]=x at hdp ⊢
  cases h1:zql (ic n,most) x with
  | none=>rw [h1] at hdp; cases hdp
  | some s1=>
   rw [h1] at hdp;obtain ⟨hne,hr,hcase⟩:=y5q h1;obtain ⟨j,rfl⟩:∃ j,n=j+1:=⟨n - 1,by simp only [ic] at hne; omega⟩
   have hlen:(L.take (j+1)).length=j+1:=by rw [List.length_take]; omega
   have htop:z2v (L.take (j+1))=L.getD j default:=by
    unfold z2v;rw [hlen,List.getD_eq_getElem?_getD,List.getD_eq_getElem?_getD,List.getElem?_take,if_pos (by omega)]
    rfl
   have hpop:zjz (L.take (j+1))=L.take j:=by
    unfold zjz;rw [hlen,List.take_take]
    congr 1
    omega
   have ew:eW' (j+1)=(j:Int):=by
    unfold eW';rw [show ic (j+1 - 0) - 1=(j:Int) by simp only [ic]; omega]
    exact z1d (by omega) (by omega)
   have ej:0+(eW' (j+1)).toNat=j:=by rw [ew]; omega
   have ex:pX L (j+1)=z2v (L.take (j+1)):=by unfold pX; rw [ej,htop]
   have i2:(decide (0≤eW' (j+1))&&decide (eW' (j+1) < ic (j+1 - 0)))=true:=by rw [ew,decide_eq_true (by omega),decide_eq_true (by simp only [ic]; omega)]; rfl
   have i3:(decide (0≤eW' (j+1))&&decide (eW' (j+1)≤ic (j+1 - 0)))=true:=by rw [ew,decide_eq_true (by omega),decide_eq_true (by simp only [ic]; omega)]; rfl
   have et:zie (L.take (j+1))=bxI (z2v (L.take (j+1))):=rfl;rw [i2,z00,i3,z00,ej,ex];unfold zqw;simp only [hpop,et];generalize z2v (L.take (j+1))=y;rcases hcase with ⟨hs,rfl⟩ | ⟨hs,rfl⟩
   ·rw [hs,z00,z00,decide_eq_true (show (out.length+1)*80≤z0e by unfold z0e; omega),z00,List.take_length]
    have:=y8y N l hl d c (i+1) L j (out++[(bxI y).I]) most st (by omega) (by omega) (by omega) (by omega) (by simp only [List.length_append,List.length_cons,List.length_nil]; omega) (by rw [show ic j=ic (j+1) - 1 by simp only [ic]; omega]; exact hdp)
    rw [show (out++[(bxI y).I]).length=out.length+1 by simp] at this
    exact this
   ·have hpl:=zqp hr hs
    obtain ⟨a,ha⟩:∃ a:Nat,z1q x=(a:Int):=⟨(z1q x).toNat,by omega⟩
    have ha5:a < 5:=by omega
    rw [hs,z02,z02,yd7 ha ha5,yd7 ha ha5];have eg:=yi1 y ha5;rw [show (z1q x).toNat=a by omega,eg]
    show cond (decide (ziz x < cI y (2*a))) _ _=ydr (match cond (decide (ziz x < cI y (2*a))||decide (ziz x≥cI y (2*a+1))) none _ with | some st'=>y5p (l.drop (i+1)) st' | none=>none)
    cases decide (ziz x < cI y (2*a)) with
    | true=>rw [z00,ycy,Bool.true_or,z00]; rfl
    | false=>
     rw [z02,Bool.false_or];cases decide (ziz x≥cI y (2*a+1)) with
     | true=>rw [z00,ycy,z00]; rfl
     | false=>
      have hin:yb7 (z1q x)=true:=by unfold yb7; rw [decide_eq_true hpl.1,decide_eq_true (by omega)]; rfl
      rw [z02,z02,hin,z00,decide_eq_true (show (j+2)*80≤z0e by unfold z0e; omega),z00]
      have e2:∀ v1 v2:IV,(L.take j++[v1,v2]).take (j+2)=L.take j++[v1,v2]:=fun v1 v2=>List.take_of_length_le (by simp only [List.length_append,List.length_take,List.length_cons,List.length_nil]; omega)
      have:=y8y N l hl d c (i+1) (L.take j++[((bxI y).cutH (z1q x) (ziz x)).I,((bxI y).cutL (z1q x) (ziz x)).I]) (j+2) out (max most (ic (j+1)+1)) st (by omega) (by omega) (by simp only [List.length_append,List.length_take,List.length_cons,List.length_nil]; omega) (by omega) (by omega) (by rw [show ic (j+2)=ic (j+1)+1 by simp only [ic]; omega]; exact hdp)
      rw [e2] at this;exact this
set_option maxRecDepth 100000 in
theorem zth:z3c PR B0 67 zac:=by
 refine z0m [(111,zbs),(110,z8r)] [(6,⟨[4,5,6,7,19,20,21],[500,501],[⟨.tmp 6,500,36,true,zxa⟩,⟨.tmp 7,501,36,true,zxa⟩]⟩)] zac [[.list true [.int .i64,.int .i64,.int .i64,.int .i64,.int .i64,.int .i64,.int .i64,.int .i64,.int .i64,.int .i64]],[.bool]] Tryz.func67 zyx ⟨zpz,zry,trivial⟩ ?_;intro vs r hwf h;unfold zac at h
 split at h
 ·rename_i b l
  replace h:=zam h;obtain ⟨b,rfl,h⟩:=h;rw [R.get_br] at h;refine ⟨l.length+1,(yi6 (l.length+1) l b).trans ?_⟩;cases hd:decide (zm7 l > 0) with
  | false=>
   have e:psF b l=none:=by unfold psF; rw [hd,z02]
   rw [e] at h;rw [Bool.not_false,z00];exact h
  | true=>
   obtain ⟨st,hst⟩:=y05 (of_decide_eq_true hd);have hl:l.length≤65536:=by
    have:=of_decide_eq_true hd
    unfold zm7 at this
    by_cases hc:ic l.length > 65536
    ·rw [decide_eq_true hc,z00] at this; omega
    ·simp only [ic] at hc; omega
   have run:=y8y (l.length+1) l hl l.length (l.length+1) 0 [b.I] 1 [] 1 st (by omega) (by omega) (Nat.le_refl _) (by omega) (Nat.le_refl _) hst
   rw [List.drop_zero] at run;have e:psF b l=(y5p l ([b.I],[])).map (·.2):=by unfold psF; rw [hd,z00]
   rw [Bool.not_true,z02];refine Eq.trans run ?_;show ydr (y5p l ([b.I],[]))=_;rw [e] at h;cases hp:y5p l ([b.I],[]) with
   | none=>rw [hp] at h; exact h
   | some lo=>rw [hp] at h; exact h
 ·simp [R.get] at h
open Go Go.Proofs
theorem y37 (N:Nat) (ts:List IV) (b:Bx) (k:Int) (hts:ts.length≤8) (hT:∀ t∈ts,zb8 (zqu t) 4=true) (hb:z4u b=true):∀ (m i n:Nat) (lo hi:Int),i+m=ts.length→m < n→(-2147483648*(i+1)≤lo∧lo≤2147483648*(i+1))→(-2147483648*(i+1)≤hi∧hi≤2147483648*(i+1)) →
  lpE (z0c N) (z0p z0v [1,1,1,0,1,0,0]) ⟨[1,5,6,7,8,9,40,41,42],[5],[]⟩ n ⟨[(1,(.int .i64 k)),(5,(.ptr 5 0 0)),(6,(.int .i64 0)),(7,(.int .i64 0)),(8,(.int .i64 lo)),(9,(.int .i64 hi)),(40,(.list true zwi ts)),(41,(.int .i64 (ic ts.length))),(42,(.int .i64 (i:Int)))],[(5,(some (.box (Bx.cs b))))]⟩ (z04 0 (kSq (z0c N) (z0p z0v [1,1,1,1]) (z3f (z0c N) none [(ResultVar.tmp 6),(ResultVar.tmp 7)] [[(.int .i64)],[(.int .i64)]]))) =
   some (.tup [.int .i64 (y9t (fun l=>tLo l b) k (ts.drop i) lo),.int .i64 (y9t (fun l=>tHi l b) k (ts.drop i) hi)],[])
 | m,i,0,_,_,_,h,_,_=>absurd h (by omega)
 | 0,i,n+1,lo,hi,hd,_,_,_=>by
  have hlt:i=ts.length:=by omega
  subst hlt;rw [z05,zgv,zgi (Nat.le_refl _),z02,List.drop_length];exact zmd N b _ _ _ _ _ _ _ _
 | m+1,i,n+1,lo,hi,hd,hn,h1,h2=>by
  have hlt:i < ts.length:=by omega
  have ei:IntKind.wrap IntKind.i64 ((i:Int)+1)=((i+1:Nat):Int):=zdi (by omega)
  rw [z05,zgv,ei,zfr hlt,z00,zs1,Bool.and_self,z00,zgx hlt,List.drop_eq_getElem_cons hlt,y9t,y9t];obtain ⟨q1,q2⟩:=yih (zqu ts[i]) b;have q1:=z7f q1;have q2:=z7f q2;have hti:zb8 (IV.toList (IV.cell ts[i] 1)) 4=true:=hT _ (List.getElem_mem hlt);cases ((ts[i].cell 0).toInt==k) with
  | true=>
   rw [z00,z00,z00,hti,hb,Bool.and_self,z00];have ew:IntKind.wrap IntKind.i64 (lo+tLo (zqu ts[i]) b)=lo+tLo (zqu ts[i]) b:=z1d (by omega) (by omega)
   have ew2:IntKind.wrap IntKind.i64 (hi+tHi (zqu ts[i]) b)=hi+tHi (zqu ts[i]) b:=z1d (by omega) (by omega)
   have ih:=y37 N ts b k hts hT hb m (i+1) n (lo+tLo (zqu ts[i]) b) (hi+tHi (zqu ts[i]) b) (by omega) (by omega) (by omega) (by omega)
   rw [← ew,← ew2] at ih;refine Eq.trans ih ?_;rw [ew,ew2]
  | false=>
   rw [z02,z02,z02];exact y37 N ts b k hts hT hb m (i+1) n lo hi (by omega) (by omega) (by omega) (by omega)
set_option maxRecDepth 100000 in
theorem ztt:z3c PR B0 113 za7:=by
 refine z0m [(112,z5g),(158,zab),(53,z2p)] [(5,⟨[1,5,6,7,8,9,40,41,42],[5],[]⟩)] za7 [[.int .i64],[.int .i64]] Tryz.func113 zzc ⟨zet,ztz,z8o,trivial⟩ ?_;intro vs r hwf h;unfold za7 at h
 split at h
 ·rename_i m k b
  replace h:=z97 h;obtain ⟨m,rfl,h⟩:=h;replace h:=zam h;obtain ⟨b,rfl,h⟩:=h;cases hg:(b.emp||z4u b) with
  | false=>rw [hg] at h; simp [R.get] at h
  | true=>
  rw [hg,R.get_br,z00,R.get_ok] at h;refine ⟨10,?_⟩;rw [← h];refine (zwp 10 m k b).trans ?_;unfold sLo sHi sOK;cases hm:z3z m with
  | false=>rfl
  | true=>
   rw [Bool.not_true,z02];cases h0:decide (k < 0) with
   | true=>
    have:zej m k=false:=by unfold zej; rw [decide_eq_false (show ¬ 0≤k by have:=of_decide_eq_true h0; omega)]; rfl
    rw [this]
    rfl
   | false=>
    rw [z02];cases h1:decide (k≥m.c) with
    | true=>
     have:zej m k=false:=by unfold zej; rw [decide_eq_false (show ¬ k < m.c by have:=of_decide_eq_true h1; omega),Bool.and_false]
     rw [this]
     rfl
    | false=>
     have hc:zej m k=true:=by unfold zej; rw [decide_eq_true (show 0≤k by have:=of_decide_eq_false h0; omega),decide_eq_true (show k < m.c by have:=of_decide_eq_false h1; omega)]; rfl
     rw [z02,hc];cases he:b.emp with
     | true=>rfl
     | false=>
      rw [he,Bool.false_or] at hg;have hb:=y8q hm k;have run:=y37 10 m.ts b k (z3q hm).2.2.1 (fun t ht=>ya8 hm ht) hg m.ts.length 0 10 (zhi m k) (zhi m k) (by omega) (by have:=(z3q hm).2.2.1; omega) (by omega) (by omega)
      rw [z02];rcases zyi hm hc with rfl | rfl | rfl <;> exact run
 ·simp [R.get] at h
theorem zr6 (N:Nat) (m:Md) (q:Qy) (b:Bx) (hb:(b.emp||z4u b)=true):∀ (d i n:Nat),((i+d:Nat):Int)=m.c→d < n→m.c < 1000 →
  lpE (z1h N) (z0p z2a [1,1,1,0,1,0,1,1,1,0,0,1,0,0]) ⟨[3,4,5,6,7,42,43],[3,4,5],[]⟩ n ⟨[(3,(.ptr 3 0 0)),(4,(.ptr 4 0 0)),(5,(.ptr 5 0 0)),(6,(.bool false)),(7,(.int .i64 (sLo m q.c b))),(42,(.int .i64 m.c)),(43,(.int .i64 (i:Int)))],[(3,(some (.box (Md.cs m)))),(4,(some (.box (Qy.cs q)))),(5,(some (.box (Bx.cs b))))]⟩ (z04 1 (kSq (z1h N) (z0p z2a [1,1,1,0,1,0,1,1,1,0,1]) (z04 0 (kSq (z1h N) (z0p z2a [1,1,1,1]) (z3f (z1h N) none [(ResultVar.tmp 6)] [[.bool]])))))=some (.bool (y2s m q b d i),[])
 | d,i,0,_,h,_=>absurd h (by omega)
 | 0,i,n+1,hd,_,_=>by
  rw [z05,zfv,decide_eq_false (show ¬ (i:Int) < m.c by omega),z02]
  exact zle N m q b _ _ _ _
 | d+1,i,n+1,hd,hn,hc=>by
  have ei:IntKind.wrap IntKind.i64 ((i:Int)+1)=((i+1:Nat):Int):=zdi (by omega)
  rw [z05,zfv,ei,decide_eq_true (show (i:Int) < m.c by omega),z00,hb,z00,y2s]
  have en:((i:Int) != q.c)=!((i:Int)==q.c):=rfl;rw [en];cases ((i:Int)==q.c) with
  | true=>
   rw [Bool.not_true,z02,Bool.false_and,z02];exact zr6 N m q b hb d (i+1) n (by omega) (by omega) hc
  | false=>
   rw [Bool.not_false,z00,Bool.true_and];cases decide (sHi m (i:Int) b≥sLo m q.c b) with
   | true=>
    rw [z00,z00];exact zls N m q b _ _ _ _
   | false=>
    rw [z02,z02];exact zr6 N m q b hb d (i+1) n (by omega) (by omega) hc
set_option maxRecDepth 100000 in
theorem zq3:z3c PR B0 68 z93:=by
 refine z0m [(112,z5g),(113,za7)] [(9,⟨[3,4,5,6,7,42,43],[3,4,5],[]⟩)] z93 [[.bool]] Tryz.func68 zvo ⟨zet,ztt,trivial⟩ ?_;intro vs r hwf h;unfold z93 at h
 split at h
 ·rename_i m q b
  replace h:=z97 h;obtain ⟨m,rfl,h⟩:=h;replace h:=zal h;obtain ⟨q,rfl,h⟩:=h;replace h:=zam h;obtain ⟨b,rfl,h⟩:=h;cases hg:(z6x m q&&(b.emp||z4u b)) with
  | false=>rw [hg] at h; simp [R.get] at h
  | true=>
  rw [hg,R.get_br,z00,R.get_ok] at h;rw [Bool.and_eq_true] at hg;obtain ⟨hr,hb⟩:=hg;have hb':b.emp=true∨b.good:=by
   rw [Bool.or_eq_true] at hb;exact hb.imp id zea.1
  refine ⟨1000,?_⟩;rw [← h,← y1a hr hb'];refine (zu1 1000 m q b).trans ?_;obtain ⟨hm,_,_,_,hk⟩:=zho hr;unfold y8w;cases he:b.emp with
  | true=>rfl
  | false=>
   have hgd:z4u b=true:=by rw [he,Bool.false_or] at hb; exact hb
   rw [z02,z02,hgd,Bool.false_or,z00];rcases zmf hk with ⟨e,_⟩ | ⟨e,h2,_⟩ | ⟨e,hf,_⟩
   ·rw [e]
    show cond (decide (q.lo≤sLo m q.c b)) (some (V.bool (decide (sHi m q.c b≤q.hi)),[])) (some (V.bool false,[]))=some (V.bool (decide (q.lo≤sLo m q.c b)&&decide (sHi m q.c b≤q.hi)),[]);cases decide (q.lo≤sLo m q.c b) <;> rfl
   ·rw [e]
    have hc:=(z3q hm).2.1;exact zr6 1000 m q b (by rw [he,hgd]; rfl) m.c.toNat 0 1000 (by omega) (by omega) (by omega)
   ·rw [e]
    have hp:=zz4 hm e hf;have hg2:z4u (zye q b)=true:=zea.2 (zny (zea.1 hgd) ((zea.1 hgd) 4 (by omega)) (by rcases zgd hp with e | e | e | e <;> rw [e] <;> decide))
    have fin:(cond (decide ((b.g q.ft.toNat).lo≥b.s4.hi)) (some (V.bool true,[])) (cond ((zye q b).emp||z4u (zye q b)) (cond q.fl (some (V.bool (decide (sHi m q.c (zye q b)≤sLo m q.c b)),[])) (some (V.bool (decide (sLo m q.c (zye q b)≥sHi m q.c b)),[]))) none):Res) =
      some (V.bool (cond (decide ((b.g q.ft.toNat).lo≥b.s4.hi)) true (cond q.fl (decide (sHi m q.c (zye q b)≤sLo m q.c b)) (decide (sLo m q.c (zye q b)≥sHi m q.c b)))),[]):=by
     rw [hg2,Bool.or_true,z00];cases decide ((b.g q.ft.toNat).lo≥b.s4.hi) <;> cases q.fl <;> rfl
    refine Eq.trans ?_ fin;unfold zye;rcases zgd hp with e | e | e | e <;> rw [e] <;> rfl
 ·simp [R.get] at h
theorem zub (N:Nat) (m:Md) (q:Qy) (hr:z6x m q=true) (l:List IV) (hl:l.length < 100000) (hg:∀ y∈l,(bxI y).good):∀ (d i n:Nat),i+d=l.length→d < n →
  lpE (z0t N) (z0p z16 [1,1,1,0,1,0,1,0,1,0,1,0,0]) ⟨[3,4,6,9,29,30,31],[3,4],[]⟩ n ⟨[(3,(.ptr 3 0 0)),(4,(.ptr 4 0 0)),(6,(.bool false)),(9,(.bool true)),(29,(.list true zxa l)),(30,(.int .i64 (ic l.length))),(31,(.int .i64 (i:Int)))],[(3,(some (.box (Md.cs m)))),(4,(some (.box (Qy.cs q))))]⟩ (z04 1 (kSq (z0t N) (z0p z16 [1,1,1,0,1,0,1,0,1,1]) (z04 0 (kSq (z0t N) (z0p z16 [1,1,1,1]) (z3f (z0t N) none [(ResultVar.tmp 6)] [[.bool]]))))) =
   some (.bool ((l.drop i).all fun x=>zdn m q (bxI x)),[])
 | d,i,0,_,h=>absurd h (by omega)
 | 0,i,n+1,hd,_=>by
  rw [z05,z9k,zgi (by omega),z02,List.drop_of_length_le (by omega)]
  exact zc9 N m q _ _ l _ _
 | d+1,i,n+1,hd,hn=>by
  have hi:i < l.length:=by omega
  have hgi:=hg _ (List.getElem_mem hi);rw [z05,z9k,zfr hi,z00,zs1,Bool.and_self,z00,zdi (by omega),zgx hi,List.drop_eq_getElem_cons hi,List.all_cons,hr,zea.2 hgi,Bool.or_true,Bool.and_self,z00]
  cases zdn m q (bxI l[i]) with
  | false=>
   rw [Bool.not_false,z00];exact zju N m q _ _ l _ _
  | true=>
   rw [Bool.not_true,z02,Bool.true_and];exact zub N m q hr l hl hg d (i+1) n (by omega) (by omega)
theorem yf4 {b:Bx} {l outs:List IV} (h:psF b l=some outs):outs.length≤65536:=by
 have key:∀ {l:List IV} {st lo:List IV × List IV},y5p l st=some lo→lo.2.length≤st.2.length+l.length:=by
  intro l
  induction l with
  | nil=>intro st lo h; obtain rfl:=Option.some.inj h; exact Nat.le_refl _
  | cons x l ih=>
   intro st lo h;rw [y5p] at h;cases h1:zqw st x with
   | none=>rw [h1] at h; cases h
   | some s1=>
    rw [h1] at h
    have:=ih h
    have h2:s1.2.length≤st.2.length+1:=by
     unfold zqw at h1;cases hs:zc1 x with
     | true=>rw [hs] at h1; obtain rfl:=Option.some.inj h1; simp
     | false=>
      rw [hs,z02] at h1;cases hc:(decide (ziz x < ((zie st.1).g (z1q x).toNat).lo)||decide (ziz x≥((zie st.1).g (z1q x).toNat).hi)) with
      | true=>rw [hc] at h1; cases h1
      | false=>rw [hc] at h1; obtain rfl:=Option.some.inj h1; exact Nat.le_succ _
    simp only [List.length_cons];omega
 unfold psF at h;cases hd:decide (zm7 l > 0) with
 | false=>rw [hd,z02] at h; cases h
 | true=>
  rw [hd,z00] at h;have hl:l.length≤65536:=by
   have:=of_decide_eq_true hd
   unfold zm7 at this
   by_cases hc:ic l.length > 65536
   ·rw [decide_eq_true hc,z00] at this; omega
   ·simp only [ic] at hc; omega
  cases hp:y5p l ([b.I],[]) with
  | none=>rw [hp] at h; cases h
  | some lo=>
   rw [hp] at h;obtain rfl:=Option.some.inj h
   have:=key hp
   simp only [List.length_nil] at this;show lo.2.length≤65536;omega
set_option maxRecDepth 100000 in
theorem zp5:z3c PR B0 26 z79:=by
 refine z0m [(69,zgq),(68,z93),(67,zac),(70,z7j),(65,z3k),(66,z8u)] [(8,⟨[3,4,6,9,29,30,31],[3,4],[]⟩)] z79 [[.bool]] Tryz.func26 zst ⟨y41,zq3,zth,zpg,zbx,zs8,trivial⟩ ?_;intro vs r hwf h;unfold z79 at h
 split at h
 ·rename_i m q v
  replace h:=z97 h;obtain ⟨m,rfl,h⟩:=h;replace h:=zal h;obtain ⟨q,rfl,h⟩:=h;replace h:=zzi h;obtain ⟨v,rfl,h⟩:=h;rw [R.get_ok] at h;refine ⟨70000,?_⟩;rw [← h];refine (zsa 70000 m q v).trans ?_;unfold zrk;cases hr:z6x m q with
  | false=>rfl
  | true=>
   rw [Bool.not_true,z02,Bool.true_and];cases v.kind==1 with
   | true=>
    rw [z00,z00];cases hp:psF (zda q) v.proof with
    | none=>
     show cond false _ _=_;rw [z02,z05,z9k];exact zc9 70000 m q _ _ [] _ _
    | some l=>
     show cond true _ _=_;rw [z00];have hl:=yf4 hp
     have:=zub 70000 m q hr l (by omega) (ybj (y6g hr) hp) l.length 0 70000 (by omega) (by omega)
     rw [List.drop_zero] at this;exact this
   | false=>
    rw [z02,z02];cases v.kind==2 with
    | false=>rfl
    | true=>
     rw [z00,z00];show cond ((zda q).has v.p v.twin) (some (V.bool (zhf m q v.p v.twin),[])) (some (V.bool false,[]))=some (V.bool ((zda q).has v.p v.twin&&zhf m q v.p v.twin),[]);cases (zda q).has v.p v.twin <;> rfl
 ·simp [R.get] at h
open Go Go.Proofs
def z3t (N:Nat):Env:=mkE [] [(4,⟨[2,13,14,15],[],[]⟩)] 37 N
abbrev z29 (b2:Bool) (l13:List IV) (x14 x15:Int):St:=⟨[(2,(.bool b2)),(13,(.list true [.bool,(.int .i64),(.int .i64)] l13)),(14,(.int .i64 x14)),(15,(.int .i64 x15))],[]⟩
theorem zxb (N:Nat) (l:List IV):z1c (z3t N) z5a [.tmp 2] [[.bool]] [(.list true [.bool,.int .i64,.int .i64] l)]=(cond (decide (ic (List.length l) < 1)) (some ((.bool false),[])) (cond (decide (ic (List.length l) > 65536)) (some ((.bool false),[])) (lpE (z3t N) (z0p z5a [1,1,0,1,0,0]) ⟨[2,13,14,15],[],[]⟩ N (z29 false l (ic (List.length l)) 0) (z04 0 (kSq (z3t N) (z0p z5a [1,1,1]) (z3f (z3t N) none [(ResultVar.tmp 2)] [[.bool]])))))):=by kernel_rfl
theorem zh6 (N:Nat) (b2:Bool) (l13:List IV) (x14 x15:Int) (again:St→Res) (k:Out→St→Res):rnd (z3t N) (z0p z5a [1,1,0,1,0,0]) (z29 b2 l13 x14 x15) (z4t again ⟨[2,13,14,15],[],[]⟩ k)=(cond (decide (x15 < x14)) (cond (decide (0≤x15)&&decide (x15 < ic (List.length l13))) (cond (IV.toBool (IV.cell (List.getD l13 (Int.toNat x15) default) 0)) (cond (! (IV.toBool (IV.cell (List.getD l13 (Int.toNat x15) default) 0)==true&&(IV.toInt (IV.cell (List.getD l13 (Int.toNat x15) default) 1)==0&&(IV.toInt (IV.cell (List.getD l13 (Int.toNat x15) default) 2)==0&&true)))) (k .ret (z29 false l13 x14 x15)) (cond (decide (IV.toInt (IV.cell (List.getD l13 (Int.toNat x15) default) 1) < 0)) (k .ret (z29 false l13 x14 x15)) (cond (decide (IV.toInt (IV.cell (List.getD l13 (Int.toNat x15) default) 1) > 4)) (k .ret (z29 false l13 x14 x15)) (again (z29 b2 l13 x14 (IntKind.wrap IntKind.i64 (x15+1))))))) (cond (decide (IV.toInt (IV.cell (List.getD l13 (Int.toNat x15) default) 1) < 0)) (k .ret (z29 false l13 x14 x15)) (cond (decide (IV.toInt (IV.cell (List.getD l13 (Int.toNat x15) default) 1) > 4)) (k .ret (z29 false l13 x14 x15)) (again (z29 b2 l13 x14 (IntKind.wrap IntKind.i64 (x15+1))))))) none) (k (.exit 0) (z29 b2 l13 x14 x15))):=by kernel_rfl
theorem zna (N:Nat) (b2:Bool) (l13:List IV) (x14 x15:Int):(z04 0 (kSq (z3t N) (z0p z5a [1,1,1]) (z3f (z3t N) none [(ResultVar.tmp 2)] [[.bool]]))) (.exit 0) (z29 b2 l13 x14 x15)=(some ((.bool true),[])):=by kernel_rfl
theorem znb (N:Nat) (b2:Bool) (l13:List IV) (x14 x15:Int):(z04 0 (kSq (z3t N) (z0p z5a [1,1,1]) (z3f (z3t N) none [(ResultVar.tmp 2)] [[.bool]]))) .ret (z29 b2 l13 x14 x15)=(some ((.bool b2),[])):=by kernel_rfl
def zzr (N:Nat):Env:=mkE [(106,za6)] [] 47 N
theorem zxc (N:Nat) (v_Kind:Int) (v_Proof:List IV) (v_Witness_0 v_Witness_1 v_Witness_2 v_Witness_3 v_Twin v_Spent:Int):z1c (zzr N) zo9 [.tmp 2] [[.bool]] [(.agg [(.int .i64 v_Kind),(.list true [.bool,.int .i64,.int .i64] v_Proof),(.int .i64 v_Witness_0),(.int .i64 v_Witness_1),(.int .i64 v_Witness_2),(.int .i64 v_Witness_3),(.int .i64 v_Twin),(.int .i64 v_Spent)])]=(cond (decide (v_Spent < 0)) (some ((.bool false),[])) (cond (decide (v_Spent > 65536)) (some ((.bool false),[])) (cond (v_Witness_0==0&&(v_Witness_1==0&&(v_Witness_2==0&&(v_Witness_3==0&&true)))) (cond (v_Kind==1) (cond (v_Twin==0) (some ((.bool (zsf v_Proof)),[])) (some ((.bool false),[]))) (cond (v_Kind==2) (some ((.bool (ic (List.length v_Proof)==0)),[])) (cond (v_Kind==3) (cond (v_Twin==0) (some ((.bool (ic (List.length v_Proof)==0)),[])) (some ((.bool false),[]))) (cond (v_Kind==4) (cond (v_Twin==0) (some ((.bool (ic (List.length v_Proof)==0)),[])) (some ((.bool false),[]))) (some ((.bool false),[])))))) (cond (v_Kind==1) (some ((.bool false),[])) (cond (v_Kind==2) (some ((.bool (ic (List.length v_Proof)==0)),[])) (cond (v_Kind==3) (some ((.bool false),[])) (cond (v_Kind==4) (some ((.bool false),[])) (some ((.bool false),[]))))))))):=by kernel_rfl
def z6p (N:Nat):Env:=mkE [(43,z2j),(97,z1m),(60,z18)] [(2,⟨[0,11,12,13],[900000],[]⟩)] 26 N
abbrev z8k (l11:List IV) (x12 x13:Int) (so900000:ByteArray):St:=⟨[(0,(.ptr 900000 0 0)),(11,(.list false [(.int .i64)] l11)),(12,(.int .i64 x12)),(13,(.int .i64 x13))],[(900000,(some (.bld so900000)))]⟩
theorem zz5 (N:Nat) (b word:ByteArray) (l:List IV):z1c (z6p N) z86 [] [] [(.bor [.bld b]),(.str word),(.list false [.int .i64] l)]=(cond (decide (ByteArray.size b+ByteArray.size word≤strMax)) (lpE (z6p N) (z0p z86 [1,0,1,0,0]) ⟨[0,11,12,13],[900000],[]⟩ N (z8k l (ic (List.length l)) 0 (b++word)) (z04 0 (kSq (z6p N) (z0p z86 [1,1]) (z3f (z6p N) (some [(.bld b)]) [] [])))) none):=by kernel_rfl
theorem ziw (N:Nat) (l11:List IV) (x12 x13:Int) (so900000:ByteArray) (again:St→Res) (k:Out→St→Res):rnd (z6p N) (z0p z86 [1,0,1,0,0]) (z8k l11 x12 x13 so900000) (z4t again ⟨[0,11,12,13],[900000],[]⟩ k)=(cond (decide (x13 < x12)) (cond (decide (0≤x13)&&decide (x13 < ic (List.length l11))) (cond (decide (ByteArray.size so900000+1≤strMax)) (cond (decide (ByteArray.size (ByteArray.push so900000 (zdk 32))+ByteArray.size (z0i (IV.toInt (List.getD l11 (Int.toNat x13) default)))≤strMax)) (again (z8k l11 x12 (IntKind.wrap IntKind.i64 (x13+1)) (ByteArray.push so900000 (zdk 32)++z0i (IV.toInt (List.getD l11 (Int.toNat x13) default))))) none) none) none) (k (.exit 0) (z8k l11 x12 x13 so900000))):=by kernel_rfl
theorem zor (N:Nat) (b:ByteArray) (l11:List IV) (x12 x13:Int) (so900000:ByteArray):(z04 0 (kSq (z6p N) (z0p z86 [1,1]) (z3f (z6p N) (some [(.bld b)]) [] []))) (.exit 0) (z8k l11 x12 x13 so900000)=(cond (decide (ByteArray.size so900000+1≤strMax)) (some ((.tup []),[[(.bld (ByteArray.push so900000 (zdk 10)))]])) none):=by kernel_rfl
def zwx (N:Nat):Env:=mkE [(90,z2k)] [] 20 N
theorem zu3 (N:Nat) (l:List IV) (i:Int):z1c (zwx N) zlr [.tmp 4] [[.int .i64]] [(.list false [.str] l),(.int .i64 i)]=(cond (decide (i≥ic (List.length l))) (some ((.int .i64 0),[])) (cond (decide (0≤i)&&decide (i < ic (List.length l))) (some ((.int .i64 (z3w (IV.toStr (List.getD l (Int.toNat i) default)))),[])) none)):=by kernel_rfl
open Go Go.Proofs
theorem zzs (N:Nat) (l:List IV) (K:Out→St→Res) (hl:l.length≤65536)
  (hx:∀ b2 x14 x15,K (.exit 0) ⟨[(2,(.bool b2)),(13,(.list true [.bool,(.int .i64),(.int .i64)] l)),(14,(.int .i64 x14)),(15,(.int .i64 x15))],[]⟩=some (.bool true,[]))
  (hr:∀ b2 x14 x15,K .ret ⟨[(2,(.bool b2)),(13,(.list true [.bool,(.int .i64),(.int .i64)] l)),(14,(.int .i64 x14)),(15,(.int .i64 x15))],[]⟩=some (.bool b2,[])) :
  ∀ (d i n:Nat),i+d=l.length→d < n→lpE (z3t N) (z0p z5a [1,1,0,1,0,0]) ⟨[2,13,14,15],[],[]⟩ n ⟨[(2,(.bool false)),(13,(.list true [.bool,(.int .i64),(.int .i64)] l)),(14,(.int .i64 (ic l.length))),(15,(.int .i64 (i:Int)))],[]⟩ K=some (.bool ((l.drop i).all y5o),[])
 | 0,i,n+1,hd,_=>by
  rw [z05,zh6];rw [zgi (by omega),List.drop_of_length_le (by omega)]
  simp only [cond_false,List.all_nil];exact hx ..
 | d+1,i,n+1,hd,hn=>by
  rw [z05,zh6];have hi:i < l.length:=by omega
  rw [zfr hi,zs1,zdi (by omega),zgx hi,List.drop_eq_getElem_cons hi,List.all_cons]
  generalize l[i]=x;have ih:=zzs N l K hl hx hr d (i+1) n (by omega) (by omega)
  rw [ih];generalize (List.drop (i+1) l).all y5o=rest;unfold y5o zc1 z1q ziz;simp only [cond_true,Bool.and_true,y9e,zn1,zj7];cases hs:IV.toBool (IV.cell x 0) <;> cases hp0:decide (IV.toInt (IV.cell x 1) < 0) <;> cases hp4:decide (4 < IV.toInt (IV.cell x 1)) <;> cases hz:decide (IV.toInt (IV.cell x 1)=0) <;> cases ha:decide (IV.toInt (IV.cell x 2)=0) <;>
   (simp only [cond_true,cond_false,Bool.not_true,Bool.not_false,Bool.and_true,Bool.and_false,Bool.true_and,Bool.false_and,beq_self_eq_true,hr]
    try rfl)
 | 0,_,0,_,h=>by omega
 | _+1,_,0,_,h=>by omega
set_option maxRecDepth 100000 in
theorem ztx:z3c PR B0 106 za6:=by
 refine z0m [] [(4,⟨[2,13,14,15],[],[]⟩)] za6 [[.bool]] Tryz.func106 zze trivial ?_;intro vs r hwf h;unfold za6 at h
 split at h
 ·rename_i l
  refine ⟨l.length+1,?_⟩;rw [← h];refine (zxb (l.length+1) l).trans ?_;simp only [R.get_ok];unfold zsf
  by_cases h1:l.length < 1
  ·have e1:decide (ic l.length < 1)=true:=decide_eq_true (by show ((l.length:Nat):Int) < 1; omega)
   have e2:decide (1≤l.length)=false:=decide_eq_false (by omega)
   rw [e1,e2]; rfl
  ·have e1:decide (ic l.length < 1)=false:=decide_eq_false (by show ¬ ((l.length:Nat):Int) < 1; omega)
   have e2:decide (1≤l.length)=true:=decide_eq_true (by omega)
   rw [e1,e2];simp only [cond_false,Bool.true_and]
   by_cases h3:l.length≤65536
   ·have e3:decide (ic l.length > 65536)=false:=decide_eq_false (by show ¬ ((l.length:Nat):Int) > 65536; omega)
    have e4:decide (l.length≤65536)=true:=decide_eq_true h3;rw [e3,e4];simp only [cond_false,Bool.true_and]
    have:=zzs (l.length+1) l _ h3 (fun b2 x14 x15=>zna (l.length+1) b2 l x14 x15) (fun b2 x14 x15=>znb (l.length+1) b2 l x14 x15) l.length 0 (l.length+1) (by omega) (by omega)
    rw [List.drop_zero] at this;exact this
   ·have e3:decide (ic l.length > 65536)=true:=decide_eq_true (by show ((l.length:Nat):Int) > 65536; omega)
    have e4:decide (l.length≤65536)=false:=decide_eq_false h3;rw [e3,e4]; rfl
 ·simp [R.get] at h
theorem y9a (l:List IV):(ic l.length==0)=l.isEmpty:=by
 cases l with
 | nil=>rfl
 | cons a l=>
  simp only [ic,List.isEmpty_cons,List.length_cons];rw [beq_eq_false_iff_ne];omega
set_option maxRecDepth 100000 in
theorem zts:z3c PR B0 62 zap:=by
 refine z0m [(106,za6)] [] zap [[.bool]] Tryz.func62 zzq ⟨ztx,trivial⟩ ?_;intro vs r hwf h;unfold zap at h
 split at h
 ·rename_i k p a b c d t s
  refine ⟨0,?_⟩;rw [← h];refine (zxc 0 k p a b c d t s).trans ?_;simp only [R.get_ok,y9a];unfold Vd.right Vd.bare;simp only [y9e,zn1,Bool.and_true];generalize zsf p=sp;generalize p.isEmpty=pe;cases decide (s < 0) <;> cases decide (65536 < s) <;> simp only [cond_true,cond_false,Bool.not_true,Bool.not_false,Bool.true_and,Bool.false_and]
  by_cases k1:k=1
  ·subst k1
   cases a==0 <;> cases b==0 <;> cases c==0 <;> cases d==0 <;> cases t==0 <;> cases sp <;> cases pe <;> rfl
  by_cases k2:k=2
  ·subst k2
   cases a==0 <;> cases b==0 <;> cases c==0 <;> cases d==0 <;> cases t==0 <;> cases sp <;> cases pe <;> rfl
  by_cases k3:k=3
  ·subst k3
   cases a==0 <;> cases b==0 <;> cases c==0 <;> cases d==0 <;> cases t==0 <;> cases sp <;> cases pe <;> rfl
  by_cases k4:k=4
  ·subst k4
   cases a==0 <;> cases b==0 <;> cases c==0 <;> cases d==0 <;> cases t==0 <;> cases sp <;> cases pe <;> rfl
  simp only [beq_eq_false_iff_ne.2 k1,beq_eq_false_iff_ne.2 k2,beq_eq_false_iff_ne.2 k3,beq_eq_false_iff_ne.2 k4,cond_false,Bool.false_and,Bool.or_false,Bool.cond_self]
 ·simp [R.get] at h
theorem zhz:∀ (l:List IV) (s:ByteArray),s.size≤(zpa s l).size
 | [],s=>Nat.le_refl _
 | x :: l,s=>by
  simp only [zpa];refine Nat.le_trans ?_ (zhz l _);simp only [ByteArray.size_append,ByteArray.size_push];omega
theorem y5r (N:Nat) (l:List IV) (K:Out→St→Res) (hl:l.length≤strMax) (z:Res)
  (hx:∀ s x12 x13,s=zpa s []→K (.exit 0) ⟨[(0,(.ptr 900000 0 0)),(11,(.list false [(.int .i64)] l)),(12,(.int .i64 x12)),(13,(.int .i64 x13))],[(900000,(some (.bld s)))]⟩=cond (decide (s.size+1≤strMax)) (some (.tup [],[[.bld (s.push (zdk 10))]])) none) :
  ∀ (d i n:Nat) (s:ByteArray),i+d=l.length→d < n→(zpa s (l.drop i)).size≤strMax→lpE (z6p N) (z0p z86 [1,0,1,0,0]) ⟨[0,11,12,13],[900000],[]⟩ n ⟨[(0,(.ptr 900000 0 0)),(11,(.list false [(.int .i64)] l)),(12,(.int .i64 (ic l.length))),(13,(.int .i64 (i:Int)))],[(900000,(some (.bld s)))]⟩ K =
   cond (decide ((zpa s (l.drop i)).size+1≤strMax)) (some (.tup [],[[.bld ((zpa s (l.drop i)).push (zdk 10))]])) none
 | 0,i,n+1,s,hd,_,_=>by
  rw [z05,ziw,zgi (by omega),List.drop_of_length_le (by omega)]
  simp only [cond_false,zpa];exact hx s _ _ rfl
 | d+1,i,n+1,s,hd,hn,hs=>by
  have hi:i < l.length:=by omega
  unfold strMax at hl;rw [z05,ziw,zfr hi,zs1,zdi (by omega),zgx hi]
  rw [List.drop_eq_getElem_cons hi] at hs ⊢
  simp only [zpa] at hs ⊢
  have e32:zdk 32=32:=rfl;rw [e32];have hsz:=zhz (l.drop (i+1)) (s.push 32++z0i l[i].toInt);have h1:decide (s.size+1≤strMax)=true:=decide_eq_true (by
   simp only [ByteArray.size_append,ByteArray.size_push] at hsz;omega)
  have h2:decide ((s.push 32).size+(z0i l[i].toInt).size≤strMax)=true:=decide_eq_true (by
   simp only [ByteArray.size_append] at hsz;omega)
  rw [h1,h2];simp only [cond_true,Bool.and_true];exact y5r N l K (by unfold strMax; omega) z hx d (i+1) n _ (by omega) (by omega) hs
 | 0,_,0,_,_,h,_=>by omega
 | _+1,_,0,_,_,h,_=>by omega
set_option maxRecDepth 100000 in
theorem zwh:z3c PR B0 63 zbt:=by
 refine z0m [(43,z2j),(97,z1m),(60,z18)] [(2,⟨[0,11,12,13],[900000],[]⟩)] zbt [] Tryz.func63 y2w ⟨z7u,z5s,z4y,trivial⟩ ?_;intro vs r hwf h;unfold zbt at h
 split at h
 ·rename_i s w l
  refine ⟨l.length+1,?_⟩;rw [← h];refine (zz5 (l.length+1) s w l).trans ?_;simp only [R.get_br,R.get_ok,R.get_no];have hwf:=hwf (by simp [zcl,z5r])
  simp only [yd5,wfV,wfLs,wfL] at hwf;rw [R.get_br,R.get_ok,R.get_no] at h;cases hc:decide ((z3g s w l).size≤strMax) with
  | false=>rw [hc] at h; cases h
  | true=>
   have hle:=of_decide_eq_true hc;unfold z3g at hle ⊢
   rw [ByteArray.size_push] at hle;have h1:=zhz l (s++w);have e1:decide (s.size+w.size≤strMax)=true:=decide_eq_true (by rw [ByteArray.size_append] at h1; omega)
   rw [e1];simp only [cond_true]
   have:=y5r (l.length+1) l _ hwf.2.2.1.1 none (fun s' x12 x13 _=>zor (l.length+1) s l x12 x13 s') l.length 0 (l.length+1) (s++w) (by omega) (by omega) (by rw [List.drop_zero]; omega)
   rw [List.drop_zero] at this;refine this.trans ?_;rw [decide_eq_true hle]
   rfl
 ·simp [R.get] at h
set_option maxRecDepth 100000 in
theorem zrl:z3c PR B0 105 z90:=by
 refine z0m [(90,z2k)] [] z90 [[.int .i64]] Tryz.func105 zvz ⟨z7o,trivial⟩ ?_;intro vs r hwf h;unfold z90 at h
 split at h
 ·rename_i l i
  refine ⟨0,?_⟩;rw [← h];refine (zu3 0 l i).trans ?_;simp only [R.get_br,R.get_ok,R.get_no];unfold z1r;rw [R.get_br,R.get_ok,R.get_no] at h;cases hc:decide (0≤i) with
  | false=>rw [hc] at h; cases h
  | true=>
   have h0:=of_decide_eq_true hc;simp only [cond_true,Bool.true_and];have e:decide (i≥ic l.length)=decide (ic l.length≤i):=rfl;rw [e];cases h2:decide (ic l.length≤i) with
   | true=>rfl
   | false=>
    have h3:=of_decide_eq_false h2;rw [decide_eq_true (show i < ic l.length by omega)]
    rfl
 ·simp [R.get] at h
open Go Go.Proofs
def z0k (N:Nat):Env:=mkE [(105,z90),(104,z4e),(46,z1a)] [(7,⟨[2,4,7],[2,7,51],[⟨.cell 7 1,51,127,true,[.bool,.int .i64,.int .i64]⟩]⟩),(16,⟨[2,6,7,66],[2,7],[]⟩)] 87 N
abbrev z5l (s4:ByteArray) (xo2_0 xo2_2 xo2_3 xo2_4 xo2_5 xo2_6 xo2_7 xo7_0:Int) (no7_1:Nat) (xo7_2 xo7_3 xo7_4 xo7_5 xo7_6 xo7_7:Int) (lo51:List IV):St:=⟨[(2,(.ptr 2 0 0)),(4,(.str s4)),(7,(.ptr 7 0 0))],[(2,(some (.box [(.int .i64 xo2_0),.zs,(.int .i64 xo2_2),(.int .i64 xo2_3),(.int .i64 xo2_4),(.int .i64 xo2_5),(.int .i64 xo2_6),(.int .i64 xo2_7)]))),(7,(some (.box [(.int .i64 xo7_0),(.row 51 0 no7_1),(.int .i64 xo7_2),(.int .i64 xo7_3),(.int .i64 xo7_4),(.int .i64 xo7_5),(.int .i64 xo7_6),(.int .i64 xo7_7)]))),(51,(some (.row true 127 true z4v lo51)))]⟩
abbrev z4d (l6:List IV) (x66 xo2_0 xo2_2 xo2_3 xo2_4 xo2_5 xo2_6 xo2_7 xo7_0 xo7_2 xo7_3 xo7_4 xo7_5 xo7_6 xo7_7:Int):St:=⟨[(2,(.ptr 2 0 0)),(6,(.list false [.str] l6)),(7,(.ptr 7 0 0)),(66,(.int .i64 x66))],[(2,(some (.box [(.int .i64 xo2_0),.zs,(.int .i64 xo2_2),(.int .i64 xo2_3),(.int .i64 xo2_4),(.int .i64 xo2_5),(.int .i64 xo2_6),(.int .i64 xo2_7)]))),(7,(some (.box [(.int .i64 xo7_0),.zs,(.int .i64 xo7_2),(.int .i64 xo7_3),(.int .i64 xo7_4),(.int .i64 xo7_5),(.int .i64 xo7_6),(.int .i64 xo7_7)])))]⟩
theorem y1v (N:Nat) (s:ByteArray):z1c (z0k N) z0w [.cell 2 55] [[.int .i64,.list true [.bool,.int .i64,.int .i64],.int .i64,.int .i64,.int .i64,.int .i64,.int .i64,.int .i64]] [(.str s)]=(cond (decide (ByteArray.size s < 4294967281)) (cond (decide (ByteArray.size (cutL s {data:=#[10]}) < 4294967281)&&decide (1≤ByteArray.size {data:=#[32]})) (cond (decide (0≤0)&&decide (0 < ic (List.length (List.map IV.str (z09 (cutL s {data:=#[10]}) {data:=#[32]}))))) (cond (ByteArray.toList (IV.toStr (List.getD (List.map IV.str (z09 (cutL s {data:=#[10]}) {data:=#[32]})) (Int.toNat 0) default))==ByteArray.toList {data:=#[104,111,108,100,115]}) (lpE (z0k N) (z0p z0w [1,1,1,1,0,1,0,1,0,1,0,0]) ⟨[2,4,7],[2,7,51],[⟨(.cell 7 1),51,127,true,z4v⟩]⟩ N (z5l (zed s {data:=#[10]}) 0 0 0 0 0 0 0 1 0 0 0 0 0 0 (z1r (List.map IV.str (z09 (cutL s {data:=#[10]}) {data:=#[32]})) 1) []) (z04 1 (z04 0 (kSq (z0k N) (z0p z0w [1,1,1,1,1]) (z3f (z0k N) none [(ResultVar.cell 2 55)] [[(.int .i64),(.list true z4v),(.int .i64),(.int .i64),(.int .i64),(.int .i64),(.int .i64),(.int .i64)]]))))) (cond (ByteArray.toList (IV.toStr (List.getD (List.map IV.str (z09 (cutL s {data:=#[10]}) {data:=#[32]})) (Int.toNat 0) default))==ByteArray.toList {data:=#[102,97,105,108,115]}) (lpE (z0k N) (z0p z0w [1,1,1,1,0,1,0,1,1,1,0,1,0,1,0,0]) ⟨[2,6,7,66],[2,7],[]⟩ N (z4d (List.map IV.str (z09 (cutL s {data:=#[10]}) {data:=#[32]})) 0 0 0 0 0 0 0 0 2 0 0 0 0 0 (z1r (List.map IV.str (z09 (cutL s {data:=#[10]}) {data:=#[32]})) 1)) (z04 3 (kSq (z0k N) (z0p z0w [1,1,1,1,0,1,0,1,1,1,0,1,1]) (z04 0 (kSq (z0k N) (z0p z0w [1,1,1,1,1]) (z3f (z0k N) none [(ResultVar.cell 2 55)] [[(.int .i64),(.list true z4v),(.int .i64),(.int .i64),(.int .i64),(.int .i64),(.int .i64),(.int .i64)]])))))) (cond (ByteArray.toList (IV.toStr (List.getD (List.map IV.str (z09 (cutL s {data:=#[10]}) {data:=#[32]})) (Int.toNat 0) default))==ByteArray.toList {data:=#[117,110,107,110,111,119,110]}) (some ((.agg [(.int .i64 3),(.list true z4v []),(.int .i64 0),(.int .i64 0),(.int .i64 0),(.int .i64 0),(.int .i64 0),(.int .i64 (z1r (List.map IV.str (z09 (cutL s {data:=#[10]}) {data:=#[32]})) 1))]),[])) (cond (ByteArray.toList (IV.toStr (List.getD (List.map IV.str (z09 (cutL s {data:=#[10]}) {data:=#[32]})) (Int.toNat 0) default))==ByteArray.toList {data:=#[119,114,111,110,103]}) (some ((.agg [(.int .i64 4),(.list true z4v []),(.int .i64 0),(.int .i64 0),(.int .i64 0),(.int .i64 0),(.int .i64 0),(.int .i64 (z1r (List.map IV.str (z09 (cutL s {data:=#[10]}) {data:=#[32]})) 1))]),[])) (some ((.agg [(.int .i64 0),(.list true z4v []),(.int .i64 0),(.int .i64 0),(.int .i64 0),(.int .i64 0),(.int .i64 0),(.int .i64 (z1r (List.map IV.str (z09 (cutL s {data:=#[10]}) {data:=#[32]})) 1))]),[])))))) none) none) none):=by kernel_rfl
theorem ztj (N:Nat) (s4:ByteArray) (xo2_0 xo2_2 xo2_3 xo2_4 xo2_5 xo2_6 xo2_7 xo7_0:Int) (no7_1:Nat) (xo7_2 xo7_3 xo7_4 xo7_5 xo7_6 xo7_7:Int) (lo51:List IV) (again:St→Res) (k:Out→St→Res):rnd (z0k N) (z0p z0w [1,1,1,1,0,1,0,1,0,1,0,0]) (z5l s4 xo2_0 xo2_2 xo2_3 xo2_4 xo2_5 xo2_6 xo2_7 xo7_0 no7_1 xo7_2 xo7_3 xo7_4 xo7_5 xo7_6 xo7_7 lo51) (z4t again ⟨[2,4,7],[2,7,51],[⟨(.cell 7 1),51,127,true,z4v⟩]⟩ k)=(cond (!ByteArray.toList s4==ByteArray.toList {data:=#[]}) (cond (decide (ic (no7_1 - 0)≤65536)) (cond (decide (ByteArray.size s4 < 4294967281)) (cond (decide (ByteArray.size (cutL s4 {data:=#[10]}) < 4294967281)&&decide (1≤ByteArray.size {data:=#[32]})) (cond (decide (0≤0)&&decide (0 < ic (List.length (List.map IV.str (z09 (cutL s4 {data:=#[10]}) {data:=#[32]}))))) (cond (ByteArray.toList (IV.toStr (List.getD (List.map IV.str (z09 (cutL s4 {data:=#[10]}) {data:=#[32]})) (Int.toNat 0) default))==ByteArray.toList {data:=#[115,117,109]}) (cond (decide ((no7_1+1)*24≤z0e)) (again (z5l (zed s4 {data:=#[10]}) xo2_0 xo2_2 xo2_3 xo2_4 xo2_5 xo2_6 xo2_7 xo7_0 (no7_1+1) xo7_2 xo7_3 xo7_4 xo7_5 xo7_6 xo7_7 (List.take no7_1 lo51++[IV.agg [IV.bool true,IV.int 0,IV.int 0]]))) none) (cond (decide ((no7_1+1)*24≤z0e)) (again (z5l (zed s4 {data:=#[10]}) xo2_0 xo2_2 xo2_3 xo2_4 xo2_5 xo2_6 xo2_7 xo7_0 (no7_1+1) xo7_2 xo7_3 xo7_4 xo7_5 xo7_6 xo7_7 (List.take no7_1 lo51++[IV.agg [IV.bool false,IV.int (z1r (List.map IV.str (z09 (cutL s4 {data:=#[10]}) {data:=#[32]})) 1),IV.int (z1r (List.map IV.str (z09 (cutL s4 {data:=#[10]}) {data:=#[32]})) 2)]]))) none)) none) none) none) (k (.exit 1) (z5l s4 xo2_0 xo2_2 xo2_3 xo2_4 xo2_5 xo2_6 xo2_7 xo7_0 no7_1 xo7_2 xo7_3 xo7_4 xo7_5 xo7_6 xo7_7 lo51))) (k (.exit 1) (z5l s4 xo2_0 xo2_2 xo2_3 xo2_4 xo2_5 xo2_6 xo2_7 xo7_0 no7_1 xo7_2 xo7_3 xo7_4 xo7_5 xo7_6 xo7_7 lo51))):=by kernel_rfl
theorem z7m (N:Nat) (l6:List IV) (x66 xo2_0 xo2_2 xo2_3 xo2_4 xo2_5 xo2_6 xo2_7 xo7_0 xo7_2 xo7_3 xo7_4 xo7_5 xo7_6 xo7_7:Int) (again:St→Res) (k:Out→St→Res):rnd (z0k N) (z0p z0w [1,1,1,1,0,1,0,1,1,1,0,1,0,1,0,0]) (z4d l6 x66 xo2_0 xo2_2 xo2_3 xo2_4 xo2_5 xo2_6 xo2_7 xo7_0 xo7_2 xo7_3 xo7_4 xo7_5 xo7_6 xo7_7) (z4t again ⟨[2,6,7,66],[2,7],[]⟩ k)=(cond (decide (x66 < 4)) (cond (decide (0≤IntKind.wrap IntKind.i64 (2+x66))) (cond (decide (x66=ic 0)) (again (z4d l6 (IntKind.wrap IntKind.i64 (x66+1)) xo2_0 xo2_2 xo2_3 xo2_4 xo2_5 xo2_6 xo2_7 xo7_0 (z1r l6 (IntKind.wrap IntKind.i64 (2+x66))) xo7_3 xo7_4 xo7_5 xo7_6 xo7_7)) (cond (decide (x66=ic 1)) (again (z4d l6 (IntKind.wrap IntKind.i64 (x66+1)) xo2_0 xo2_2 xo2_3 xo2_4 xo2_5 xo2_6 xo2_7 xo7_0 xo7_2 (z1r l6 (IntKind.wrap IntKind.i64 (2+x66))) xo7_4 xo7_5 xo7_6 xo7_7)) (cond (decide (x66=ic 2)) (again (z4d l6 (IntKind.wrap IntKind.i64 (x66+1)) xo2_0 xo2_2 xo2_3 xo2_4 xo2_5 xo2_6 xo2_7 xo7_0 xo7_2 xo7_3 (z1r l6 (IntKind.wrap IntKind.i64 (2+x66))) xo7_5 xo7_6 xo7_7)) (cond (decide (x66=ic 3)) (again (z4d l6 (IntKind.wrap IntKind.i64 (x66+1)) xo2_0 xo2_2 xo2_3 xo2_4 xo2_5 xo2_6 xo2_7 xo7_0 xo7_2 xo7_3 xo7_4 (z1r l6 (IntKind.wrap IntKind.i64 (2+x66))) xo7_6 xo7_7)) none)))) none) (k (.exit 3) (z4d l6 x66 xo2_0 xo2_2 xo2_3 xo2_4 xo2_5 xo2_6 xo2_7 xo7_0 xo7_2 xo7_3 xo7_4 xo7_5 xo7_6 xo7_7))):=by kernel_rfl
theorem zoz (N:Nat) (s4:ByteArray) (xo2_0 xo2_2 xo2_3 xo2_4 xo2_5 xo2_6 xo2_7 xo7_0:Int) (no7_1:Nat) (xo7_2 xo7_3 xo7_4 xo7_5 xo7_6 xo7_7:Int) (lo51:List IV):(z04 1 (z04 0 (kSq (z0k N) (z0p z0w [1,1,1,1,1]) (z3f (z0k N) none [(ResultVar.cell 2 55)] [[(.int .i64),(.list true z4v),(.int .i64),(.int .i64),(.int .i64),(.int .i64),(.int .i64),(.int .i64)]])))) (.exit 1) (z5l s4 xo2_0 xo2_2 xo2_3 xo2_4 xo2_5 xo2_6 xo2_7 xo7_0 no7_1 xo7_2 xo7_3 xo7_4 xo7_5 xo7_6 xo7_7 lo51)=(some ((.agg [(.int .i64 xo7_0),(.list true z4v (List.drop 0 (List.take no7_1 lo51))),(.int .i64 xo7_2),(.int .i64 xo7_3),(.int .i64 xo7_4),(.int .i64 xo7_5),(.int .i64 xo7_6),(.int .i64 xo7_7)]),[])):=by kernel_rfl
theorem zph (N:Nat) (l6:List IV) (x66 xo2_0 xo2_2 xo2_3 xo2_4 xo2_5 xo2_6 xo2_7 xo7_0 xo7_2 xo7_3 xo7_4 xo7_5 xo7_6 xo7_7:Int):(z04 3 (kSq (z0k N) (z0p z0w [1,1,1,1,0,1,0,1,1,1,0,1,1]) (z04 0 (kSq (z0k N) (z0p z0w [1,1,1,1,1]) (z3f (z0k N) none [(ResultVar.cell 2 55)] [[(.int .i64),(.list true z4v),(.int .i64),(.int .i64),(.int .i64),(.int .i64),(.int .i64),(.int .i64)]]))))) (.exit 3) (z4d l6 x66 xo2_0 xo2_2 xo2_3 xo2_4 xo2_5 xo2_6 xo2_7 xo7_0 xo7_2 xo7_3 xo7_4 xo7_5 xo7_6 xo7_7)=(some ((.agg [(.int .i64 xo7_0),(.list true z4v []),(.int .i64 xo7_2),(.int .i64 xo7_3),(.int .i64 xo7_4),(.int .i64 xo7_5),(.int .i64 (z1r l6 6)),(.int .i64 xo7_7)]),[])):=by kernel_rfl
def z58 (N:Nat):Env:=mkE [(62,zap),(63,zbt),(56,z1y)] [(9,⟨[2,3,25,26,27],[3],[]⟩)] 61 N
abbrev z5y (s2:ByteArray) (l25:List IV) (x26 x27:Int) (so3:ByteArray):St:=⟨[(2,(.str s2)),(3,(.ptr 3 0 0)),(25,(.list true z4v l25)),(26,(.int .i64 x26)),(27,(.int .i64 x27))],[(3,(some (.bld so3)))]⟩
theorem zwl (N:Nat) (v:Vd):z1c (z58 N) z6o [.tmp 2] [[.str]] [(Vd.V v)]=(cond (!Vd.right v) (some ((.str ({data:=#[]})),[])) (cond (Vd.kind v==1) (cond (decide (ByteArray.size (z3g ByteArray.empty {data:=#[104,111,108,100,115]} [IV.int (Vd.spent v),IV.int (ic (List.length (Vd.proof v)))])≤strMax)) (lpE (z58 N) (z0p z6o [1,1,1,0,1,0,1,0,1,1,0,0]) ⟨[2,3,25,26,27],[3],[]⟩ N (z5y ({data:=#[]}) (Vd.proof v) (ic (List.length (Vd.proof v))) 0 (z3g ByteArray.empty {data:=#[104,111,108,100,115]} [IV.int (Vd.spent v),IV.int (ic (List.length (Vd.proof v)))])) (z04 1 (z04 0 (kSq (z58 N) (z0p z6o [1,1,1,1]) (z3f (z58 N) none [(ResultVar.tmp 2)] [[.str]]))))) none) (cond (Vd.kind v==2) (cond (decide (ByteArray.size (z3g ByteArray.empty {data:=#[102,97,105,108,115]} (List.drop 0 (List.take (1+4+1) (List.take (1+4) (List.take 1 [IV.int (Vd.spent v)]++[IV.int (Vd.w0 v),IV.int (Vd.w1 v),IV.int (Vd.w2 v),IV.int (Vd.w3 v)])++[IV.int (Vd.twin v)]))))≤strMax)) (some ((.str (z3g ByteArray.empty {data:=#[102,97,105,108,115]} (List.drop 0 (List.take (1+4+1) (List.take (1+4) (List.take 1 [IV.int (Vd.spent v)]++[IV.int (Vd.w0 v),IV.int (Vd.w1 v),IV.int (Vd.w2 v),IV.int (Vd.w3 v)])++[IV.int (Vd.twin v)]))))),[])) none) (cond (Vd.kind v==3) (cond (decide (ByteArray.size (z3g ByteArray.empty {data:=#[117,110,107,110,111,119,110]} [IV.int (Vd.spent v)])≤strMax)) (some ((.str (z3g ByteArray.empty {data:=#[117,110,107,110,111,119,110]} [IV.int (Vd.spent v)])),[])) none) (cond (decide (ByteArray.size (z3g ByteArray.empty {data:=#[119,114,111,110,103]} [IV.int (Vd.spent v)])≤strMax)) (some ((.str (z3g ByteArray.empty {data:=#[119,114,111,110,103]} [IV.int (Vd.spent v)])),[])) none))))):=by kernel_rfl
theorem zh2 (N:Nat) (s2:ByteArray) (l25:List IV) (x26 x27:Int) (so3:ByteArray) (again:St→Res) (k:Out→St→Res):rnd (z58 N) (z0p z6o [1,1,1,0,1,0,1,0,1,1,0,0]) (z5y s2 l25 x26 x27 so3) (z4t again ⟨[2,3,25,26,27],[3],[]⟩ k)=(cond (decide (x27 < x26)) (cond (decide (0≤x27)&&decide (x27 < ic (List.length l25))) (cond (IV.toBool (IV.cell (List.getD l25 (Int.toNat x27) default) 0)) (cond (decide (ByteArray.size (z3g so3 {data:=#[115,117,109]} [])≤strMax)) (again (z5y s2 l25 x26 (IntKind.wrap IntKind.i64 (x27+1)) (z3g so3 {data:=#[115,117,109]} []))) none) (cond (decide (ByteArray.size (z3g so3 {data:=#[99,117,116]} [IV.int (IV.toInt (IV.cell (List.getD l25 (Int.toNat x27) default) 1)),IV.int (IV.toInt (IV.cell (List.getD l25 (Int.toNat x27) default) 2))])≤strMax)) (again (z5y s2 l25 x26 (IntKind.wrap IntKind.i64 (x27+1)) (z3g so3 {data:=#[99,117,116]} [IV.int (IV.toInt (IV.cell (List.getD l25 (Int.toNat x27) default) 1)),IV.int (IV.toInt (IV.cell (List.getD l25 (Int.toNat x27) default) 2))]))) none)) none) (k (.exit 1) (z5y s2 l25 x26 x27 so3))):=by kernel_rfl
theorem znn (N:Nat) (s2:ByteArray) (l25:List IV) (x26 x27:Int) (so3:ByteArray):(z04 1 (z04 0 (kSq (z58 N) (z0p z6o [1,1,1,1]) (z3f (z58 N) none [(ResultVar.tmp 2)] [[.str]])))) (.exit 1) (z5y s2 l25 x26 x27 so3)=(some ((.str so3),[])):=by kernel_rfl
def y1z (N:Nat):Env:=mkE [(24,zad),(61,zbw)] [] 17 N
theorem zxs (N:Nat) (s:ByteArray):z1c (y1z N) zoh [.cell 2 55,.tmp 3] [[.int .i64,.list true [.bool,.int .i64,.int .i64],.int .i64,.int .i64,.int .i64,.int .i64,.int .i64,.int .i64],[.bool]] [(.str s)]=(cond (decide (ByteArray.size s < 4294967281)) (cond (ByteArray.toList s==ByteArray.toList {data:=#[]}) (some ((.tup [(.agg [(.int .i64 0),(.list true z4v []),(.int .i64 0),(.int .i64 0),(.int .i64 0),(.int .i64 0),(.int .i64 0),(.int .i64 0)]),(.bool false)]),[])) (cond (decide (ByteArray.size (z8w (zdo s))≤strMax)) (cond (!ByteArray.toList (z8w (zdo s))==ByteArray.toList s) (some ((.tup [(.agg [(.int .i64 0),(.list true z4v []),(.int .i64 0),(.int .i64 0),(.int .i64 0),(.int .i64 0),(.int .i64 0),(.int .i64 0)]),(.bool false)]),[])) (some ((.tup [(Vd.V (zdo s)),(.bool true)]),[]))) none)) none):=by kernel_rfl
end Go.FM
