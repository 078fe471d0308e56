/-
  copselaw23.DriverRun: it returns true, whatever the arguments; they read as they did: the row and its card (the row's listed variables tied to the program's text).
-/
import Derived.Test.YtihliihljmfhlaaGreatDoorRe
import Derived.Test.YtihliihljmfhlaaGreatDoorRf
set_option linter.all false
namespace Go.Proofs.YtihliihljmfhlaaGreatDoor
open Go Go.ChangeShapes Go.WideShapes Go.ChangeAt Go.RowKit Go.FM
set_option maxRecDepth 100000 in
theorem driverRun_lifted (os:Os) (started:os.Started) (H:Type) (enc:TypeId × Value→H) :
  ReturnsInHanded {} Tryz.checked os 5 .any ((OpenSpec.ofChange Rows.driverRunSpec).preRow enc Tryz.prog Tryz.f5 [] false jC) (Rows.driverRunSpec.post enc Tryz.prog Tryz.f5 false true false false):=by
 refine ul started zdO Tryz.func5 (by kernel_rfl) (by kernel_rfl) (by kernel_rfl) (by kernel_rfl) rfl (fun ds hds=>?_) (by kernel_rfl) (fun W hL hsh=>zdd hL hsh)
  (ChangeSpec.witness_shaped (enc:=enc) (C:=Tryz.checked) (os:=os) (X:=fun w _=>laidMetH Tryz.prog jC w) false (Ox os) #[.agg #[.int .i64 0,.int .i64 0,.slice none 0 0,.slice none 0 0],.slice none 0 0,.int .i64 0,.int .i64 0,.int .u8 0,.bool false] 8 rfl (World.shaped_of_RefB (by kernel_rfl) (by kernel_rfl)) (by kernel_rfl) (by kernel_rfl) (by kernel_rfl) (zde os _)) ?_
 ·rw [Tryz.params5] at hds
  match ds,hds with
  | [d0,d1,d2,d3,d4,d5],_=>rfl
 intro W base vs ds p hA hval hwt;have hps:Tryz.f5.params.toList=[25,26,3,3,5,4]:=by rw [Tryz.params5]
 rw [hps] at hA;obtain ⟨v0,vs0,d0,ds0,q0,u0,rfl,rfl,rfl,h0,hA⟩:=trodAll_cons hA;obtain ⟨v1,vs1,d1,ds1,q1,u1,rfl,rfl,rfl,h1,hA⟩:=trodAll_cons hA;obtain ⟨v2,vs2,d2,ds2,q2,u2,rfl,rfl,rfl,h2,hA⟩:=trodAll_cons hA;obtain ⟨v3,vs3,d3,ds3,q3,u3,rfl,rfl,rfl,h3,hA⟩:=trodAll_cons hA;obtain ⟨v4,vs4,d4,ds4,q4,u4,rfl,rfl,rfl,h4,hA⟩:=trodAll_cons hA;obtain ⟨v5,vs5,d5,ds5,q5,u5,rfl,rfl,rfl,h5,hA⟩:=trodAll_cons hA;obtain ⟨rfl,rfl,rfl⟩:=trodAll_nil hA;obtain ⟨g0,hg0,r0⟩:=Zz (n:=8) (t:=25) (ks:=[.z,.z,.list false [.z],.list true [.z,.list false [.z],.list false [.z],.list false [.z],.list false [.z]]]) (by kernel_rfl) (by kernel_rfl) (hval 0 25 v0 (by rw [hps]; rfl) rfl) h0 (hwt 0 25 d0 (by rw [hps]; rfl) rfl);obtain ⟨x0_0,x0_1,x0_2,x0_3,rfl⟩:∃ x0_0 x0_1 x0_2 x0_3,g0=[x0_0,x0_1,x0_2,x0_3]:=by
  match g0,hg0 with
  | [x0_0,x0_1,x0_2,x0_3],_=>exact ⟨_,_,_,_,rfl⟩
 obtain ⟨x1,r1⟩:=fX (n:=8) (t:=26) (k:=(.list true [.z,.z,.z,.z,.z,.z,.bool,.list false [.z]])) (by kernel_rfl) (by kernel_rfl) (hval 1 26 v1 (by rw [hps]; rfl) rfl) h1 (hwt 1 26 d1 (by rw [hps]; rfl) rfl);obtain ⟨x2,r2⟩:=fX (n:=8) (t:=3) (k:=.z) (by kernel_rfl) (by kernel_rfl) (hval 2 3 v2 (by rw [hps]; rfl) rfl) h2 (hwt 2 3 d2 (by rw [hps]; rfl) rfl);obtain ⟨x3,r3⟩:=fX (n:=8) (t:=3) (k:=.z) (by kernel_rfl) (by kernel_rfl) (hval 3 3 v3 (by rw [hps]; rfl) rfl) h3 (hwt 3 3 d3 (by rw [hps]; rfl) rfl);obtain ⟨x4,r4⟩:=fX (n:=8) (t:=5) (k:=(.int .u8)) (by kernel_rfl) (by kernel_rfl) (hval 4 5 v4 (by rw [hps]; rfl) rfl) h4 (hwt 4 5 d4 (by rw [hps]; rfl) rfl);obtain ⟨x5,r5⟩:=fX (n:=8) (t:=4) (k:=(.bool)) (by kernel_rfl) (by kernel_rfl) (hval 5 4 v5 (by rw [hps]; rfl) rfl) h5 (hwt 5 4 d5 (by rw [hps]; rfl) rfl);refine ⟨[.agg [.int .i64 x0_0.toInt,.int .i64 x0_1.toInt,.list false [.z] x0_2.toList,.list true [.z,.list false [.z],.list false [.z],.list false [.z],.list false [.z]] x0_3.toList],.list true [.z,.z,.z,.z,.z,.z,.bool,.list false [.z]] x1.toList,.int .i64 x2.toInt,.int .i64 x3.toInt,.int .u8 x4.toInt,.bool x5.toBool],rfl,rfl,?_⟩;simp only [List.map_cons,List.map_nil,EW,VRels];exact ⟨r0,r1,r2,r3,r4,r5,trivial⟩
theorem driverRun_k1:(Rows.driverRunRow.inPlace==Tryz.prog.inPlace 5)=true:=by kernel_rfl
theorem driverRun_k2:(Rows.driverRunRow.unfollowed==Tryz.prog.unfollowed 5)=true:=by kernel_rfl
theorem driverRun_k3:(Rows.driverRunRow.recurses==Tryz.prog.recurses 5)=true:=by kernel_rfl
theorem driverRun_k4:(Rows.driverRunRow.named==Tryz.prog.varsNamed 5)=true:=by kernel_rfl
theorem driverRun_facts:joinedFacts Tryz.prog 5 Tryz.f5 Rows.driverRunSpec Rows.driverRunRow=true:=by
 unfold joinedFacts;rw [driverRun_k1,driverRun_k2,driverRun_k3,driverRun_k4]
 kernel_rfl
theorem driverRun_holds:Rows.DriverRunSaid:=
 OpenClaim.holds_of_wide 5 Tryz.f5 rfl rfl rfl rfl rfl rfl rfl ⟨rfl,rfl,rfl,rfl,rfl⟩ rfl rfl rfl rfl rfl (by kernel_rfl) Tryz.func5 driverRun_facts
  (of_decide_eq_true (by kernel_rfl)) (by unfold Func.isWrapper; first | (rw [if_pos (by decide +kernel)]; kernel_rfl) | (rw [if_neg (by decide +kernel)]; exact ⟨rfl,rfl⟩))
  (fun os started H enc _=>by rw [OpenClaim.pre_eq_preRow]; exact driverRun_lifted os started H enc)
theorem driverRun_card:Rows.DriverRunCardSaid:=
 Claim7.holds_tied_plain_at .later [] [.data,.data,.data,.data,.sentinel,.sentinel,.pinned] true (true, "8e53b71a13cef9058ebf53c8874d59fd933e31707c89aa95380fcd28242c182b") true
  driverRun_holds (fun _ h=>by cases h) (by kernel_rfl) (fun _ h=>by cases h) driverRun_row_tie rfl ⟨rfl,rfl⟩ (by kernel_rfl) rfl
  (fun f fn hf hfn=>by
   obtain rfl:f=5:=Option.some.inj ((show Tryz.prog.funcNamed "copse/copselaw23.DriverRun" = some 5 by kernel_rfl).symm.trans hf) |>.symm
   obtain rfl:fn=Tryz.f5:=(Option.some.inj (Tryz.func5.symm.trans hfn)).symm;exact ⟨by kernel_rfl,fun j t ht=>by
    rw [Tryz.params5] at ht;have hm:t∈[25,26,3,3,5,4]:=by simpa using Array.mem_of_getElem? ht
    have hall:([25,26,3,3,5,4].all fun u=>!Tryz.prog.wantsStandIn u)=true:=by kernel_rfl
    exact (show Tryz.prog.wantsStandIn t=false by simpa using List.all_eq_true.1 hall t hm)⟩)
  (by kernel_rfl)
end Go.Proofs.YtihliihljmfhlaaGreatDoor
