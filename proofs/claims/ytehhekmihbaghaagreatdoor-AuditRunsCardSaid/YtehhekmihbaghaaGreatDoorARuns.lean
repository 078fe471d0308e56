/-
  copselaw24.AuditRuns: it returns true, whatever the arguments; they read as they did: the row and its card (the row's listed variables tied to the program's text).
-/
import Derived.Test.YtehhekmihbaghaaGreatDoorQe

namespace Go.Proofs.YtehhekmihbaghaaGreatDoor
open Go Go.ChangeShapes Go.WideShapes Go.ChangeAt Go.RowKit Go.FM
set_option maxRecDepth 100000 in
theorem auditRuns_lifted (os:Os) (started:os.Started) (H:Type) (enc:TypeId × Value→H) :
  ReturnsInHanded {} Tryz.checked os 5 .any ((OpenSpec.ofChange Rows.auditRunsSpec).preRow enc Tryz.prog Tryz.f5 [] false zlq) (Rows.auditRunsSpec.post enc Tryz.prog Tryz.f5 false true false false):=by
 refine y7t started zdu Tryz.func5 (by kernel_rfl) (by kernel_rfl) (by kernel_rfl) (by kernel_rfl) rfl (fun ds hds=>?_) (by kernel_rfl) (fun W hL hsh=>y8d hL hsh)
  (ChangeSpec.witness_shaped (enc:=enc) (C:=Tryz.checked) (os:=os) (X:=fun w _=>laidMetH Tryz.prog zlq w) false (zys os) #[] 8 rfl (World.shaped_of_RefB (by kernel_rfl) (by kernel_rfl)) (by kernel_rfl) (by kernel_rfl) (by kernel_rfl) (ycb os _)) ?_
 ·rw [Tryz.params5] at hds
  match ds,hds with
  | [],_=>rfl
 intro W base vs ds p hA hval hwt;have hps:Tryz.f5.params.toList=[]:=by rw [Tryz.params5]
 rw [hps] at hA;obtain ⟨rfl,rfl,rfl⟩:=trodAll_nil hA;refine ⟨[],rfl,rfl,?_⟩;simp only [List.map_cons,List.map_nil,z7t,VRels]
theorem auditRuns_k1:(Rows.auditRunsRow.inPlace==Tryz.prog.inPlace 5)=true:=by kernel_rfl
theorem auditRuns_k2:(Rows.auditRunsRow.unfollowed==Tryz.prog.unfollowed 5)=true:=by kernel_rfl
theorem auditRuns_k3:(Rows.auditRunsRow.recurses==Tryz.prog.recurses 5)=true:=by kernel_rfl
theorem auditRuns_k4:(Rows.auditRunsRow.named==Tryz.prog.varsNamed 5)=true:=by kernel_rfl
theorem auditRuns_facts:joinedFacts Tryz.prog 5 Tryz.f5 Rows.auditRunsSpec Rows.auditRunsRow=true:=by
 unfold joinedFacts;rw [auditRuns_k1,auditRuns_k2,auditRuns_k3,auditRuns_k4]
 kernel_rfl
theorem auditRuns_holds:Rows.AuditRunsSaid:=
 OpenClaim.holds_of_wide 5 Tryz.f5 rfl rfl rfl rfl rfl rfl rfl ⟨rfl,rfl,rfl,rfl,rfl⟩ rfl rfl rfl rfl rfl (by kernel_rfl) Tryz.func5 auditRuns_facts
  (of_decide_eq_true (by kernel_rfl)) (by unfold Func.isWrapper; first | (rw [if_pos (by decide +kernel)]; kernel_rfl) | (rw [if_neg (by decide +kernel)]; exact ⟨rfl,rfl⟩))
  (fun os started H enc _=>by rw [OpenClaim.pre_eq_preRow]; exact auditRuns_lifted os started H enc)
theorem auditRuns_card:Rows.AuditRunsCardSaid:=
 Claim7.holds_tied_plain_at .later [] [.data,.data,.data,.data,.sentinel,.sentinel,.pinned] true (true, "cbc2a0dabea9ce766bff7559522a03ff18b95308167b89218391d9d832ba0382") true
  auditRuns_holds (fun _ h=>by cases h) (by kernel_rfl) (fun _ h=>by cases h) auditRuns_row_tie rfl ⟨rfl,rfl⟩ (by kernel_rfl) rfl
  (fun f fn hf hfn=>by
   obtain rfl:f=5:=Option.some.inj ((show Tryz.prog.funcNamed "copse/copselaw24.AuditRuns" = some 5 by kernel_rfl).symm.trans hf) |>.symm
   obtain rfl:fn=Tryz.f5:=(Option.some.inj (Tryz.func5.symm.trans hfn)).symm;exact ⟨by kernel_rfl,fun j t ht=>by
    rw [Tryz.params5] at ht;simp at ht⟩)
  (by kernel_rfl)
end Go.Proofs.YtehhekmihbaghaaGreatDoor
