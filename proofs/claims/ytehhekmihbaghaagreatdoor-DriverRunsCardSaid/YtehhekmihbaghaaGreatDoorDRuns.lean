/-
  copselaw23.DriverRuns: it returns true, whatever the arguments; they read as they did: the row and its card (the row's listed variables tied to the program's text).
-/
import Derived.Test.YtehhekmihbaghaaGreatDoorRe
namespace Go.Proofs.YtehhekmihbaghaaGreatDoor
open Go Go.ChangeShapes Go.WideShapes Go.ChangeAt Go.RowKit Go.FM
set_option maxRecDepth 100000 in
theorem driverRuns_lifted (os:Os) (started:os.Started) (H:Type) (enc:TypeId × Value→H) :
  ReturnsInHanded {} Tryz.checked os 6 .any ((OpenSpec.ofChange Rows.driverRunsSpec).preRow enc Tryz.prog Tryz.f6 [] false zk1) (Rows.driverRunsSpec.post enc Tryz.prog Tryz.f6 false true false false):=by
 refine y7y started zdo Tryz.func6 (by kernel_rfl) (by kernel_rfl) (by kernel_rfl) (by kernel_rfl) rfl (fun ds hds=>?_) (by kernel_rfl) (fun W hL hsh=>yb7 hL hsh)
  (ChangeSpec.witness_shaped (enc:=enc) (C:=Tryz.checked) (os:=os) (X:=fun w _=>laidMetH Tryz.prog zk1 w) false (y01 os) #[] 8 rfl (World.shaped_of_RefB (by kernel_rfl) (by kernel_rfl)) (by kernel_rfl) (by kernel_rfl) (by kernel_rfl) (yei os _)) ?_
 ·rw [Tryz.params6] at hds
  match ds,hds with
  | [],_=>rfl
 intro W base vs ds p hA hval hwt;have hps:Tryz.f6.params.toList=[]:=by rw [Tryz.params6]
 rw [hps] at hA;obtain ⟨rfl,rfl,rfl⟩:=trodAll_nil hA;refine ⟨[],rfl,rfl,?_⟩;simp only [List.map_nil,VRels]
theorem driverRuns_k1:(Rows.driverRunsRow.inPlace==Tryz.prog.inPlace 6)=true:=by kernel_rfl
theorem driverRuns_k2:(Rows.driverRunsRow.unfollowed==Tryz.prog.unfollowed 6)=true:=by kernel_rfl
theorem driverRuns_k3:(Rows.driverRunsRow.recurses==Tryz.prog.recurses 6)=true:=by kernel_rfl
theorem driverRuns_k4:(Rows.driverRunsRow.named==Tryz.prog.varsNamed 6)=true:=by kernel_rfl
theorem driverRuns_facts:joinedFacts Tryz.prog 6 Tryz.f6 Rows.driverRunsSpec Rows.driverRunsRow=true:=by
 unfold joinedFacts;rw [driverRuns_k1,driverRuns_k2,driverRuns_k3,driverRuns_k4]
 kernel_rfl
theorem driverRuns_holds:Rows.DriverRunsSaid:=
 OpenClaim.holds_of_wide 6 Tryz.f6 rfl rfl rfl rfl rfl rfl rfl ⟨rfl,rfl,rfl,rfl,rfl⟩ rfl rfl rfl rfl rfl (by kernel_rfl) Tryz.func6 driverRuns_facts
  (of_decide_eq_true (by kernel_rfl)) (by unfold Func.isWrapper; first | (rw [if_pos (by decide +kernel)]; kernel_rfl) | (rw [if_neg (by decide +kernel)]; exact ⟨rfl,rfl⟩))
  (fun os started H enc _=>by rw [OpenClaim.pre_eq_preRow]; exact driverRuns_lifted os started H enc)
theorem driverRuns_card:Rows.DriverRunsCardSaid:=
 Claim7.holds_tied_plain_at .later [] [.data,.data,.data,.data,.sentinel,.sentinel,.pinned] true (true, "cbc2a0dabea9ce766bff7559522a03ff18b95308167b89218391d9d832ba0382") true
  driverRuns_holds (fun _ h=>by cases h) (by kernel_rfl) (fun _ h=>by cases h) driverRuns_row_tie rfl ⟨rfl,rfl⟩ (by kernel_rfl) rfl
  (fun f fn hf hfn=>by
   obtain rfl:f=6:=Option.some.inj ((show Tryz.prog.funcNamed "copse/copselaw23.DriverRuns" = some 6 by kernel_rfl).symm.trans hf) |>.symm
   obtain rfl:fn=Tryz.f6:=(Option.some.inj (Tryz.func6.symm.trans hfn)).symm;exact ⟨by kernel_rfl,fun j t ht=>by
    rw [Tryz.params6] at ht;simp at ht⟩)
  (by kernel_rfl)
end Go.Proofs.YtehhekmihbaghaaGreatDoor
