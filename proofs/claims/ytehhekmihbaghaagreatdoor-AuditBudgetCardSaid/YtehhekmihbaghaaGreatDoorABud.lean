/-
  copselaw24.AuditBudget: it returns true, whatever the arguments; they read as they did: the row and its card (the row's listed variables tied to the program's text).
-/
import Derived.Test.YtehhekmihbaghaaGreatDoorYe
set_option linter.all false
namespace Go.Proofs.YtehhekmihbaghaaGreatDoor
open Go Go.ChangeShapes Go.WideShapes Go.ChangeAt Go.RowKit Go.FM
set_option maxRecDepth 100000 in
theorem auditBudget_lifted (os:Os) (started:os.Started) (H:Type) (enc:TypeId × Value→H) :
  ReturnsInHanded {} Tryz.checked os 11 .any ((OpenSpec.ofChange Rows.auditBudgetSpec).preRow enc Tryz.prog Tryz.f11 [] false XY) (Rows.auditBudgetSpec.post enc Tryz.prog Tryz.f11 false true false false):=by
 refine Ch started zhk Tryz.func11 (by kernel_rfl) (by kernel_rfl) (by kernel_rfl) (by kernel_rfl) rfl (fun ds hds=>?_) (by kernel_rfl) (fun W hL hsh=>Iy hL hsh)
  (ChangeSpec.witness_shaped (enc:=enc) (C:=Tryz.checked) (os:=os) (X:=fun w _=>laidMetH Tryz.prog XY w) false (r7 os) #[.agg #[.int .i64 0,.int .i64 0,.slice none 0 0,.slice none 0 0],.agg #[.int .i64 0,.int .i64 0,.int .i64 0,.int .i64 0,.int .i64 0,.int .i64 0,.bool false,.slice none 0 0],.int .i64 0,.int .i64 0] 8 rfl (World.shaped_of_RefB (by kernel_rfl) (by kernel_rfl)) (by kernel_rfl) (by kernel_rfl) (by kernel_rfl) (Iz os _)) ?_
 ·rw [Tryz.params11] at hds
  match ds,hds with
  | [d0,d1,d2,d3],_=>rfl
 intro W base vs ds p hA hval hwt;have hps:Tryz.f11.params.toList=[25,40,3,3]:=by rw [Tryz.params11]
 rw [hps] at hA;obtain ⟨v0,vs0,d0,ds0,q0,u0,rfl,rfl,rfl,h0,hA⟩:=trodAll_cons hA;obtain ⟨v1,vs1,d1,ds1,q1,u1,rfl,rfl,rfl,h1,hA⟩:=trodAll_cons hA;obtain ⟨v2,vs2,d2,ds2,q2,u2,rfl,rfl,rfl,h2,hA⟩:=trodAll_cons hA;obtain ⟨v3,vs3,d3,ds3,q3,u3,rfl,rfl,rfl,h3,hA⟩:=trodAll_cons hA;obtain ⟨rfl,rfl,rfl⟩:=trodAll_nil hA;obtain ⟨g0,hg0,r0⟩:=mO (n:=8) (t:=25) (ks:=[.z,.z,.list false [.z],.list true [.z,.list false [.z],.list false [.z],.list false [.z],.list false [.z]]]) (by kernel_rfl) (by kernel_rfl) (hval 0 25 v0 (by rw [hps]; rfl) rfl) h0 (hwt 0 25 d0 (by rw [hps]; rfl) rfl);obtain ⟨x0_0,x0_1,x0_2,x0_3,rfl⟩:∃ x0_0 x0_1 x0_2 x0_3,g0=[x0_0,x0_1,x0_2,x0_3]:=by
  match g0,hg0 with
  | [x0_0,x0_1,x0_2,x0_3],_=>exact ⟨_,_,_,_,rfl⟩
 obtain ⟨g1,hg1,r1⟩:=mO (n:=8) (t:=40) (ks:=[.z,.z,.z,.z,.z,.z,.bool,.list false [.z]]) (by kernel_rfl) (by kernel_rfl) (hval 1 40 v1 (by rw [hps]; rfl) rfl) h1 (hwt 1 40 d1 (by rw [hps]; rfl) rfl);obtain ⟨x1_0,x1_1,x1_2,x1_3,x1_4,x1_5,x1_6,x1_7,rfl⟩:∃ x1_0 x1_1 x1_2 x1_3 x1_4 x1_5 x1_6 x1_7,g1=[x1_0,x1_1,x1_2,x1_3,x1_4,x1_5,x1_6,x1_7]:=by
  match g1,hg1 with
  | [x1_0,x1_1,x1_2,x1_3,x1_4,x1_5,x1_6,x1_7],_=>exact ⟨_,_,_,_,_,_,_,_,rfl⟩
 obtain ⟨x2,r2⟩:=dS (n:=8) (t:=3) (k:=.z) (by kernel_rfl) (by kernel_rfl) (hval 2 3 v2 (by rw [hps]; rfl) rfl) h2 (hwt 2 3 d2 (by rw [hps]; rfl) rfl);obtain ⟨x3,r3⟩:=dS (n:=8) (t:=3) (k:=.z) (by kernel_rfl) (by kernel_rfl) (hval 3 3 v3 (by rw [hps]; rfl) rfl) h3 (hwt 3 3 d3 (by rw [hps]; rfl) rfl);refine ⟨[.agg [.int .i64 x0_0.toInt,.int .i64 x0_1.toInt,.list false [.z] x0_2.toList,.list true [.z,.list false [.z],.list false [.z],.list false [.z],.list false [.z]] x0_3.toList],.agg [.int .i64 x1_0.toInt,.int .i64 x1_1.toInt,.int .i64 x1_2.toInt,.int .i64 x1_3.toInt,.int .i64 x1_4.toInt,.int .i64 x1_5.toInt,.bool x1_6.toBool,.list false [.z] x1_7.toList],.int .i64 x2.toInt,.int .i64 x3.toInt],rfl,rfl,?_⟩;simp only [List.map_cons,List.map_nil,ER,VRels];exact ⟨r0,r1,r2,r3,trivial⟩
theorem auditBudget_k1:(Rows.auditBudgetRow.inPlace==Tryz.prog.inPlace 11)=true:=by kernel_rfl
theorem auditBudget_k2:(Rows.auditBudgetRow.unfollowed==Tryz.prog.unfollowed 11)=true:=by kernel_rfl
theorem auditBudget_k3:(Rows.auditBudgetRow.recurses==Tryz.prog.recurses 11)=true:=by kernel_rfl
theorem auditBudget_k4:(Rows.auditBudgetRow.named==Tryz.prog.varsNamed 11)=true:=by kernel_rfl
theorem auditBudget_facts:joinedFacts Tryz.prog 11 Tryz.f11 Rows.auditBudgetSpec Rows.auditBudgetRow=true:=by
 unfold joinedFacts;rw [auditBudget_k1,auditBudget_k2,auditBudget_k3,auditBudget_k4]
 kernel_rfl
theorem auditBudget_holds:Rows.AuditBudgetSaid:=
 OpenClaim.holds_of_wide 11 Tryz.f11 rfl rfl rfl rfl rfl rfl rfl ⟨rfl,rfl,rfl,rfl,rfl⟩ rfl rfl rfl rfl rfl (by kernel_rfl) Tryz.func11 auditBudget_facts
  (of_decide_eq_true (by kernel_rfl)) (by unfold Func.isWrapper; first | (rw [if_pos (by decide +kernel)]; kernel_rfl) | (rw [if_neg (by decide +kernel)]; exact ⟨rfl,rfl⟩))
  (fun os started H enc _=>by rw [OpenClaim.pre_eq_preRow]; exact auditBudget_lifted os started H enc)
theorem auditBudget_card:Rows.AuditBudgetCardSaid:=
 Claim7.holds_tied_plain_at .later [] [.data,.data,.data,.data,.sentinel,.sentinel,.pinned] true (true, "cbc2a0dabea9ce766bff7559522a03ff18b95308167b89218391d9d832ba0382") true
  auditBudget_holds (fun _ h=>by cases h) (by kernel_rfl) (fun _ h=>by cases h) auditBudget_row_tie rfl ⟨rfl,rfl⟩ (by kernel_rfl) rfl
  (fun f fn hf hfn=>by
   obtain rfl:f=11:=Option.some.inj ((show Tryz.prog.funcNamed "copse/copselaw24.AuditBudget" = some 11 by kernel_rfl).symm.trans hf) |>.symm
   obtain rfl:fn=Tryz.f11:=(Option.some.inj (Tryz.func11.symm.trans hfn)).symm;exact ⟨by kernel_rfl,fun j t ht=>by
    rw [Tryz.params11] at ht;have hm:t∈[25,40,3,3]:=by simpa using Array.mem_of_getElem? ht
    have hall:([25,40,3,3].all fun u=>!Tryz.prog.wantsStandIn u)=true:=by kernel_rfl
    exact (show Tryz.prog.wantsStandIn t=false by simpa using List.all_eq_true.1 hall t hm)⟩)
  (by kernel_rfl)
end Go.Proofs.YtehhekmihbaghaaGreatDoor
