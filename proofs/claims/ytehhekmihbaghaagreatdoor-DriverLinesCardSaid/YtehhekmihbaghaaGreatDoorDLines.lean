/-
  copselaw23.DriverLines: it returns true, whatever the arguments; they read as they did: the row and its card (the row's listed variables tied to the program's text).
-/
import Derived.Test.YtehhekmihbaghaaGreatDoorSe
namespace Go.Proofs.YtehhekmihbaghaaGreatDoor
open Go Go.ChangeShapes Go.WideShapes Go.ChangeAt Go.RowKit Go.FM
set_option maxRecDepth 100000 in
theorem driverLines_lifted (os:Os) (started:os.Started) (H:Type) (enc:TypeId × Value→H) :
  ReturnsInHanded {} Tryz.checked os 7 .any ((OpenSpec.ofChange Rows.driverLinesSpec).preRow enc Tryz.prog Tryz.f7 [] false zl5) (Rows.driverLinesSpec.post enc Tryz.prog Tryz.f7 false true false false):=by
 refine y94 started zdf Tryz.func7 (by kernel_rfl) (by kernel_rfl) (by kernel_rfl) (by kernel_rfl) rfl (fun ds hds=>?_) (by kernel_rfl) (fun W hL hsh=>yd3 hL hsh)
  (ChangeSpec.witness_shaped (enc:=enc) (C:=Tryz.checked) (os:=os) (X:=fun w _=>laidMetH Tryz.prog zl5 w) false (y4g os) #[.slice none 0 0,.bool false] 8 rfl (World.shaped_of_RefB (by kernel_rfl) (by kernel_rfl)) (by kernel_rfl) (by kernel_rfl) (by kernel_rfl) (yg7 os _)) ?_
 ·rw [Tryz.params7] at hds
  match ds,hds with
  | [d0,d1],_=>rfl
 intro W base vs ds p hA hval hwt;have hps:Tryz.f7.params.toList=[66,4]:=by rw [Tryz.params7]
 rw [hps] at hA;obtain ⟨v0,vs0,d0,ds0,q0,u0,rfl,rfl,rfl,h0,hA⟩:=trodAll_cons hA;obtain ⟨v1,vs1,d1,ds1,q1,u1,rfl,rfl,rfl,h1,hA⟩:=trodAll_cons hA;obtain ⟨rfl,rfl,rfl⟩:=trodAll_nil hA;obtain ⟨x0,r0⟩:=ydw (n:=8) (t:=66) (k:=(.list false [.str])) (by kernel_rfl) (by kernel_rfl) (hval 0 66 v0 (by rw [hps]; rfl) rfl) h0 (hwt 0 66 d0 (by rw [hps]; rfl) rfl)
 obtain ⟨x1,r1⟩:=ydw (n:=8) (t:=4) (k:=(.bool)) (by kernel_rfl) (by kernel_rfl) (hval 1 4 v1 (by rw [hps]; rfl) rfl) h1 (hwt 1 4 d1 (by rw [hps]; rfl) rfl)
 refine ⟨[.list false [.str] x0.toList,.bool x1.toBool],rfl,rfl,?_⟩;simp only [List.map_cons,List.map_nil,z8s,VRels];exact ⟨r0,r1,trivial⟩
theorem driverLines_k1:(Rows.driverLinesRow.inPlace==Tryz.prog.inPlace 7)=true:=by kernel_rfl
theorem driverLines_k2:(Rows.driverLinesRow.unfollowed==Tryz.prog.unfollowed 7)=true:=by kernel_rfl
theorem driverLines_k3:(Rows.driverLinesRow.recurses==Tryz.prog.recurses 7)=true:=by kernel_rfl
theorem driverLines_k4:(Rows.driverLinesRow.named==Tryz.prog.varsNamed 7)=true:=by kernel_rfl
theorem driverLines_facts:joinedFacts Tryz.prog 7 Tryz.f7 Rows.driverLinesSpec Rows.driverLinesRow=true:=by
 unfold joinedFacts;rw [driverLines_k1,driverLines_k2,driverLines_k3,driverLines_k4]
 kernel_rfl
theorem driverLines_holds:Rows.DriverLinesSaid:=
 OpenClaim.holds_of_wide 7 Tryz.f7 rfl rfl rfl rfl rfl rfl rfl ⟨rfl,rfl,rfl,rfl,rfl⟩ rfl rfl rfl rfl rfl (by kernel_rfl) Tryz.func7 driverLines_facts
  (of_decide_eq_true (by kernel_rfl)) (by unfold Func.isWrapper; first | (rw [if_pos (by decide +kernel)]; kernel_rfl) | (rw [if_neg (by decide +kernel)]; exact ⟨rfl,rfl⟩))
  (fun os started H enc _=>by rw [OpenClaim.pre_eq_preRow]; exact driverLines_lifted os started H enc)
theorem driverLines_card:Rows.DriverLinesCardSaid:=
 Claim7.holds_tied_plain_at .later [] [.data,.data,.data,.data,.sentinel,.sentinel,.pinned] true (true, "cbc2a0dabea9ce766bff7559522a03ff18b95308167b89218391d9d832ba0382") true
  driverLines_holds (fun _ h=>by cases h) (by kernel_rfl) (fun _ h=>by cases h) driverLines_row_tie rfl ⟨rfl,rfl⟩ (by kernel_rfl) rfl
  (fun f fn hf hfn=>by
   obtain rfl:f=7:=Option.some.inj ((show Tryz.prog.funcNamed "copse/copselaw23.DriverLines" = some 7 by kernel_rfl).symm.trans hf) |>.symm
   obtain rfl:fn=Tryz.f7:=(Option.some.inj (Tryz.func7.symm.trans hfn)).symm;exact ⟨by kernel_rfl,fun j t ht=>by
    rw [Tryz.params7] at ht;have hm:t∈[66,4]:=by simpa using Array.mem_of_getElem? ht
    have hall:([66,4].all fun u=>!Tryz.prog.wantsStandIn u)=true:=by kernel_rfl
    exact (show Tryz.prog.wantsStandIn t=false by simpa using List.all_eq_true.1 hall t hm)⟩)
  (by kernel_rfl)
end Go.Proofs.YtehhekmihbaghaaGreatDoor
