/-
  copsetop.TopHostile: it returns true, whatever the arguments; they read as they did: the row and its card (the row's listed variables tied to the program's text).
-/
import Derived.Test.YtehhekmihbaghaaGreatDoorTe
import Derived.Test.YtehhekmihbaghaaGreatDoorTf
namespace Go.Proofs.YtehhekmihbaghaaGreatDoor
open Go Go.ChangeShapes Go.WideShapes Go.ChangeAt Go.RowKit Go.FM
set_option maxRecDepth 100000 in
theorem topHostile_lifted (os:Os) (started:os.Started) (H:Type) (enc:TypeId × Value→H) :
  ReturnsInHanded {} Tryz.checked os 13 .any ((OpenSpec.ofChange Rows.topHostileSpec).preRow enc Tryz.prog Tryz.f13 [] false zpc) (Rows.topHostileSpec.post enc Tryz.prog Tryz.f13 false true false false):=by
 refine yhe started zig Tryz.func13 (by kernel_rfl) (by kernel_rfl) (by kernel_rfl) (by kernel_rfl) rfl (fun ds hds=>?_) (by kernel_rfl) (fun W hL hsh=>yj6 hL hsh)
  (ChangeSpec.witness_shaped (enc:=enc) (C:=Tryz.checked) (os:=os) (X:=fun w _=>laidMetH Tryz.prog zpc w) false (y9f os) #[.string ⟨#[]⟩,.string ⟨#[]⟩,.string ⟨#[]⟩] 8 rfl (World.shaped_of_RefB (by kernel_rfl) (by kernel_rfl)) (by kernel_rfl) (by kernel_rfl) (by kernel_rfl) (yob os _)) ?_
 ·rw [Tryz.params13] at hds
  match ds,hds with
  | [d0,d1,d2],_=>rfl
 intro W base vs ds p hA hval hwt;have hps:Tryz.f13.params.toList=[9,9,9]:=by rw [Tryz.params13]
 rw [hps] at hA;obtain ⟨v0,vs0,d0,ds0,q0,u0,rfl,rfl,rfl,h0,hA⟩:=trodAll_cons hA;obtain ⟨v1,vs1,d1,ds1,q1,u1,rfl,rfl,rfl,h1,hA⟩:=trodAll_cons hA;obtain ⟨v2,vs2,d2,ds2,q2,u2,rfl,rfl,rfl,h2,hA⟩:=trodAll_cons hA;obtain ⟨rfl,rfl,rfl⟩:=trodAll_nil hA;obtain ⟨x0,r0⟩:=yde (n:=8) (t:=9) (k:=(.str)) (by kernel_rfl) (by kernel_rfl) (hval 0 9 v0 (by rw [hps]; rfl) rfl) h0 (hwt 0 9 d0 (by rw [hps]; rfl) rfl)
 obtain ⟨x1,r1⟩:=yde (n:=8) (t:=9) (k:=(.str)) (by kernel_rfl) (by kernel_rfl) (hval 1 9 v1 (by rw [hps]; rfl) rfl) h1 (hwt 1 9 d1 (by rw [hps]; rfl) rfl)
 obtain ⟨x2,r2⟩:=yde (n:=8) (t:=9) (k:=(.str)) (by kernel_rfl) (by kernel_rfl) (hval 2 9 v2 (by rw [hps]; rfl) rfl) h2 (hwt 2 9 d2 (by rw [hps]; rfl) rfl)
 refine ⟨[.str x0.toStr,.str x1.toStr,.str x2.toStr],rfl,rfl,?_⟩;simp only [List.map_cons,List.map_nil,zab,VRels];exact ⟨r0,r1,r2,trivial⟩
theorem topHostile_k1:(Rows.topHostileRow.inPlace==Tryz.prog.inPlace 13)=true:=by kernel_rfl
theorem topHostile_k2:(Rows.topHostileRow.unfollowed==Tryz.prog.unfollowed 13)=true:=by kernel_rfl
theorem topHostile_k3:(Rows.topHostileRow.recurses==Tryz.prog.recurses 13)=true:=by kernel_rfl
theorem topHostile_k4:(Rows.topHostileRow.named==Tryz.prog.varsNamed 13)=true:=by kernel_rfl
theorem topHostile_facts:joinedFacts Tryz.prog 13 Tryz.f13 Rows.topHostileSpec Rows.topHostileRow=true:=by
 unfold joinedFacts;rw [topHostile_k1,topHostile_k2,topHostile_k3,topHostile_k4]
 kernel_rfl
theorem topHostile_holds:Rows.TopHostileSaid:=
 OpenClaim.holds_of_wide 13 Tryz.f13 rfl rfl rfl rfl rfl rfl rfl ⟨rfl,rfl,rfl,rfl,rfl⟩ rfl rfl rfl rfl rfl (by kernel_rfl) Tryz.func13 topHostile_facts
  (of_decide_eq_true (by kernel_rfl)) (by unfold Func.isWrapper; first | (rw [if_pos (by decide +kernel)]; kernel_rfl) | (rw [if_neg (by decide +kernel)]; exact ⟨rfl,rfl⟩))
  (fun os started H enc _=>by rw [OpenClaim.pre_eq_preRow]; exact topHostile_lifted os started H enc)
theorem topHostile_card:Rows.TopHostileCardSaid:=
 Claim7.holds_tied_plain_at .later [] [.data,.data,.data,.data,.sentinel,.sentinel,.pinned] true (true, "cbc2a0dabea9ce766bff7559522a03ff18b95308167b89218391d9d832ba0382") true
  topHostile_holds (fun _ h=>by cases h) (by kernel_rfl) (fun _ h=>by cases h) topHostile_row_tie rfl ⟨rfl,rfl⟩ (by kernel_rfl) rfl
  (fun f fn hf hfn=>by
   obtain rfl:f=13:=Option.some.inj ((show Tryz.prog.funcNamed "copse/copsetop.TopHostile" = some 13 by kernel_rfl).symm.trans hf) |>.symm
   obtain rfl:fn=Tryz.f13:=(Option.some.inj (Tryz.func13.symm.trans hfn)).symm;exact ⟨by kernel_rfl,fun j t ht=>by
    rw [Tryz.params13] at ht;have hm:t∈[9,9,9]:=by simpa using Array.mem_of_getElem? ht
    have hall:([9,9,9].all fun u=>!Tryz.prog.wantsStandIn u)=true:=by kernel_rfl
    exact (show Tryz.prog.wantsStandIn t=false by simpa using List.all_eq_true.1 hall t hm)⟩)
  (by kernel_rfl)
end Go.Proofs.YtehhekmihbaghaaGreatDoor
