/-
  copselaw23.DriverAny: it returns true, whatever the arguments; they read as they did: the row and its card (the row's listed variables tied to the program's text).
-/
import Derived.Test.YtehhekmihbaghaaGreatDoorWe
set_option linter.all false
namespace Go.Proofs.YtehhekmihbaghaaGreatDoor
open Go Go.ChangeShapes Go.WideShapes Go.ChangeAt Go.RowKit Go.FM
set_option maxRecDepth 100000 in
theorem driverAny_lifted (os:Os) (started:os.Started) (H:Type) (enc:TypeId × Value→H) :
  ReturnsInHanded {} Tryz.checked os 8 .any ((OpenSpec.ofChange Rows.driverAnySpec).preRow enc Tryz.prog Tryz.f8 [] false bB) (Rows.driverAnySpec.post enc Tryz.prog Tryz.f8 false true false false):=by
 refine Uo started zck Tryz.func8 (by kernel_rfl) (by kernel_rfl) (by kernel_rfl) (by kernel_rfl) rfl (fun ds hds=>?_) (by kernel_rfl) (fun W hL hsh=>zbL hL hsh)
  (ChangeSpec.witness_shaped (enc:=enc) (C:=Tryz.checked) (os:=os) (X:=fun w _=>laidMetH Tryz.prog bB w) false (zP os) #[.agg #[.int .i64 0,.int .i64 0,.slice none 0 0,.slice none 0 0],.string ⟨#[]⟩,.string ⟨#[]⟩,.bool false] 8 rfl (World.shaped_of_RefB (by kernel_rfl) (by kernel_rfl)) (by kernel_rfl) (by kernel_rfl) (by kernel_rfl) (zbM os _)) ?_
 ·rw [Tryz.params8] at hds
  match ds,hds with
  | [d0,d1,d2,d3],_=>rfl
 intro W base vs ds p hA hval hwt;have hps:Tryz.f8.params.toList=[25,9,9,4]:=by rw [Tryz.params8]
 rw [hps] at hA;obtain ⟨v0,vs0,d0,ds0,q0,u0,rfl,rfl,rfl,h0,hA⟩:=trodAll_cons hA;obtain ⟨v1,vs1,d1,ds1,q1,u1,rfl,rfl,rfl,h1,hA⟩:=trodAll_cons hA;obtain ⟨v2,vs2,d2,ds2,q2,u2,rfl,rfl,rfl,h2,hA⟩:=trodAll_cons hA;obtain ⟨v3,vs3,d3,ds3,q3,u3,rfl,rfl,rfl,h3,hA⟩:=trodAll_cons hA;obtain ⟨rfl,rfl,rfl⟩:=trodAll_nil hA;obtain ⟨g0,hg0,r0⟩:=Jg (n:=8) (t:=25) (ks:=[.z,.z,.list false [.z],.list true [.z,.list false [.z],.list false [.z],.list false [.z],.list false [.z]]]) (by kernel_rfl) (by kernel_rfl) (hval 0 25 v0 (by rw [hps]; rfl) rfl) h0 (hwt 0 25 d0 (by rw [hps]; rfl) rfl);obtain ⟨x0_0,x0_1,x0_2,x0_3,rfl⟩:∃ x0_0 x0_1 x0_2 x0_3,g0=[x0_0,x0_1,x0_2,x0_3]:=by
  match g0,hg0 with
  | [x0_0,x0_1,x0_2,x0_3],_=>exact ⟨_,_,_,_,rfl⟩
 obtain ⟨x1,r1⟩:=gY (n:=8) (t:=9) (k:=(.str)) (by kernel_rfl) (by kernel_rfl) (hval 1 9 v1 (by rw [hps]; rfl) rfl) h1 (hwt 1 9 d1 (by rw [hps]; rfl) rfl);obtain ⟨x2,r2⟩:=gY (n:=8) (t:=9) (k:=(.str)) (by kernel_rfl) (by kernel_rfl) (hval 2 9 v2 (by rw [hps]; rfl) rfl) h2 (hwt 2 9 d2 (by rw [hps]; rfl) rfl);obtain ⟨x3,r3⟩:=gY (n:=8) (t:=4) (k:=(.bool)) (by kernel_rfl) (by kernel_rfl) (hval 3 4 v3 (by rw [hps]; rfl) rfl) h3 (hwt 3 4 d3 (by rw [hps]; rfl) rfl);refine ⟨[.agg [.int .i64 x0_0.toInt,.int .i64 x0_1.toInt,.list false [.z] x0_2.toList,.list true [.z,.list false [.z],.list false [.z],.list false [.z],.list false [.z]] x0_3.toList],.str x1.toStr,.str x2.toStr,.bool x3.toBool],rfl,rfl,?_⟩;simp only [List.map_cons,List.map_nil,EE,VRels];exact ⟨r0,r1,r2,r3,trivial⟩
theorem driverAny_k1:(Rows.driverAnyRow.inPlace==Tryz.prog.inPlace 8)=true:=by kernel_rfl
theorem driverAny_k2:(Rows.driverAnyRow.unfollowed==Tryz.prog.unfollowed 8)=true:=by kernel_rfl
theorem driverAny_k3:(Rows.driverAnyRow.recurses==Tryz.prog.recurses 8)=true:=by kernel_rfl
theorem driverAny_k4:(Rows.driverAnyRow.named==Tryz.prog.varsNamed 8)=true:=by kernel_rfl
theorem driverAny_facts:joinedFacts Tryz.prog 8 Tryz.f8 Rows.driverAnySpec Rows.driverAnyRow=true:=by
 unfold joinedFacts;rw [driverAny_k1,driverAny_k2,driverAny_k3,driverAny_k4]
 kernel_rfl
theorem driverAny_holds:Rows.DriverAnySaid:=
 OpenClaim.holds_of_wide 8 Tryz.f8 rfl rfl rfl rfl rfl rfl rfl ⟨rfl,rfl,rfl,rfl,rfl⟩ rfl rfl rfl rfl rfl (by kernel_rfl) Tryz.func8 driverAny_facts
  (of_decide_eq_true (by kernel_rfl)) (by unfold Func.isWrapper; first | (rw [if_pos (by decide +kernel)]; kernel_rfl) | (rw [if_neg (by decide +kernel)]; exact ⟨rfl,rfl⟩))
  (fun os started H enc _=>by rw [OpenClaim.pre_eq_preRow]; exact driverAny_lifted os started H enc)
theorem driverAny_card:Rows.DriverAnyCardSaid:=
 Claim7.holds_tied_plain_at .later [] [.data,.data,.data,.data,.sentinel,.sentinel,.pinned] true (true, "cbc2a0dabea9ce766bff7559522a03ff18b95308167b89218391d9d832ba0382") true
  driverAny_holds (fun _ h=>by cases h) (by kernel_rfl) (fun _ h=>by cases h) driverAny_row_tie rfl ⟨rfl,rfl⟩ (by kernel_rfl) rfl
  (fun f fn hf hfn=>by
   obtain rfl:f=8:=Option.some.inj ((show Tryz.prog.funcNamed "copse/copselaw23.DriverAny" = some 8 by kernel_rfl).symm.trans hf) |>.symm
   obtain rfl:fn=Tryz.f8:=(Option.some.inj (Tryz.func8.symm.trans hfn)).symm;exact ⟨by kernel_rfl,fun j t ht=>by
    rw [Tryz.params8] at ht;have hm:t∈[25,9,9,4]:=by simpa using Array.mem_of_getElem? ht
    have hall:([25,9,9,4].all fun u=>!Tryz.prog.wantsStandIn u)=true:=by kernel_rfl
    exact (show Tryz.prog.wantsStandIn t=false by simpa using List.all_eq_true.1 hall t hm)⟩)
  (by kernel_rfl)
end Go.Proofs.YtehhekmihbaghaaGreatDoor
