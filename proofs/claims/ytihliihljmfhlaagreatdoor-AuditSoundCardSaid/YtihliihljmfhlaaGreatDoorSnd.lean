/-
  copselaw24.AuditSound: it returns true, whatever the arguments; they read as they did: the row and its card (the row's listed variables tied to the program's text).
-/
import Derived.Test.YtihliihljmfhlaaGreatDoorAe
import Derived.Test.YtihliihljmfhlaaGreatDoorAf
set_option linter.all false
namespace Go.Proofs.YtihliihljmfhlaaGreatDoor
open Go Go.ChangeShapes Go.WideShapes Go.ChangeAt Go.RowKit Go.FM
set_option maxRecDepth 100000 in
theorem auditSound_lifted (os:Os) (started:os.Started) (H:Type) (enc:TypeId × Value→H) :
  ReturnsInHanded {} Tryz.checked os 6 .any ((OpenSpec.ofChange Rows.auditSoundSpec).preRow enc Tryz.prog Tryz.f6 [] false jR) (Rows.auditSoundSpec.post enc Tryz.prog Tryz.f6 false true false false):=by
 refine un started zdT Tryz.func6 (by kernel_rfl) (by kernel_rfl) (by kernel_rfl) (by kernel_rfl) rfl (fun ds hds=>?_) (by kernel_rfl) (fun W hL hsh=>zdk hL hsh)
  (ChangeSpec.witness_shaped (enc:=enc) (C:=Tryz.checked) (os:=os) (X:=fun w _=>laidMetH Tryz.prog jR w) false (Ow os) #[.agg #[.int .i64 0,.int .i64 0,.slice none 0 0,.slice none 0 0],.agg #[.int .i64 0,.int .i64 0,.slice none 0 0,.slice none 0 0],.slice none 0 0,.int .i64 0,.int .i64 0,.int .u8 0,.int .i64 0] 8 rfl (World.shaped_of_RefB (by kernel_rfl) (by kernel_rfl)) (by kernel_rfl) (by kernel_rfl) (by kernel_rfl) (zdl os _)) ?_
 ·rw [Tryz.params6] at hds
  match ds,hds with
  | [d0,d1,d2,d3,d4,d5,d6],_=>rfl
 intro W base vs ds p hA hval hwt;have hps:Tryz.f6.params.toList=[25,25,26,3,3,5,3]:=by rw [Tryz.params6]
 rw [hps] at hA;obtain ⟨v0,vs0,d0,ds0,q0,u0,rfl,rfl,rfl,h0,hA⟩:=trodAll_cons hA;obtain ⟨v1,vs1,d1,ds1,q1,u1,rfl,rfl,rfl,h1,hA⟩:=trodAll_cons hA;obtain ⟨v2,vs2,d2,ds2,q2,u2,rfl,rfl,rfl,h2,hA⟩:=trodAll_cons hA;obtain ⟨v3,vs3,d3,ds3,q3,u3,rfl,rfl,rfl,h3,hA⟩:=trodAll_cons hA;obtain ⟨v4,vs4,d4,ds4,q4,u4,rfl,rfl,rfl,h4,hA⟩:=trodAll_cons hA;obtain ⟨v5,vs5,d5,ds5,q5,u5,rfl,rfl,rfl,h5,hA⟩:=trodAll_cons hA;obtain ⟨v6,vs6,d6,ds6,q6,u6,rfl,rfl,rfl,h6,hA⟩:=trodAll_cons hA;obtain ⟨rfl,rfl,rfl⟩:=trodAll_nil hA;obtain ⟨g0,hg0,r0⟩:=zC (n:=8) (t:=25) (ks:=[.z,.z,.list false [.z],.list true [.z,.list false [.z],.list false [.z],.list false [.z],.list false [.z]]]) (by kernel_rfl) (by kernel_rfl) (hval 0 25 v0 (by rw [hps]; rfl) rfl) h0 (hwt 0 25 d0 (by rw [hps]; rfl) rfl);obtain ⟨x0_0,x0_1,x0_2,x0_3,rfl⟩:∃ x0_0 x0_1 x0_2 x0_3,g0=[x0_0,x0_1,x0_2,x0_3]:=by
  match g0,hg0 with
  | [x0_0,x0_1,x0_2,x0_3],_=>exact ⟨_,_,_,_,rfl⟩
 obtain ⟨g1,hg1,r1⟩:=zC (n:=8) (t:=25) (ks:=[.z,.z,.list false [.z],.list true [.z,.list false [.z],.list false [.z],.list false [.z],.list false [.z]]]) (by kernel_rfl) (by kernel_rfl) (hval 1 25 v1 (by rw [hps]; rfl) rfl) h1 (hwt 1 25 d1 (by rw [hps]; rfl) rfl);obtain ⟨x1_0,x1_1,x1_2,x1_3,rfl⟩:∃ x1_0 x1_1 x1_2 x1_3,g1=[x1_0,x1_1,x1_2,x1_3]:=by
  match g1,hg1 with
  | [x1_0,x1_1,x1_2,x1_3],_=>exact ⟨_,_,_,_,rfl⟩
 obtain ⟨x2,r2⟩:=gL (n:=8) (t:=26) (k:=(.list true [.z,.z,.z,.z,.z,.z,.bool,.list false [.z]])) (by kernel_rfl) (by kernel_rfl) (hval 2 26 v2 (by rw [hps]; rfl) rfl) h2 (hwt 2 26 d2 (by rw [hps]; rfl) rfl);obtain ⟨x3,r3⟩:=gL (n:=8) (t:=3) (k:=.z) (by kernel_rfl) (by kernel_rfl) (hval 3 3 v3 (by rw [hps]; rfl) rfl) h3 (hwt 3 3 d3 (by rw [hps]; rfl) rfl);obtain ⟨x4,r4⟩:=gL (n:=8) (t:=3) (k:=.z) (by kernel_rfl) (by kernel_rfl) (hval 4 3 v4 (by rw [hps]; rfl) rfl) h4 (hwt 4 3 d4 (by rw [hps]; rfl) rfl);obtain ⟨x5,r5⟩:=gL (n:=8) (t:=5) (k:=(.int .u8)) (by kernel_rfl) (by kernel_rfl) (hval 5 5 v5 (by rw [hps]; rfl) rfl) h5 (hwt 5 5 d5 (by rw [hps]; rfl) rfl);obtain ⟨x6,r6⟩:=gL (n:=8) (t:=3) (k:=.z) (by kernel_rfl) (by kernel_rfl) (hval 6 3 v6 (by rw [hps]; rfl) rfl) h6 (hwt 6 3 d6 (by rw [hps]; rfl) rfl);refine ⟨[.agg [.int .i64 x0_0.toInt,.int .i64 x0_1.toInt,.list false [.z] x0_2.toList,.list true [.z,.list false [.z],.list false [.z],.list false [.z],.list false [.z]] x0_3.toList],.agg [.int .i64 x1_0.toInt,.int .i64 x1_1.toInt,.list false [.z] x1_2.toList,.list true [.z,.list false [.z],.list false [.z],.list false [.z],.list false [.z]] x1_3.toList],.list true [.z,.z,.z,.z,.z,.z,.bool,.list false [.z]] x2.toList,.int .i64 x3.toInt,.int .i64 x4.toInt,.int .u8 x5.toInt,.int .i64 x6.toInt],rfl,rfl,?_⟩;simp only [List.map_cons,List.map_nil,EV,VRels];exact ⟨r0,r1,r2,r3,r4,r5,r6,trivial⟩
theorem auditSound_k1:(Rows.auditSoundRow.inPlace==Tryz.prog.inPlace 6)=true:=by kernel_rfl
theorem auditSound_k2:(Rows.auditSoundRow.unfollowed==Tryz.prog.unfollowed 6)=true:=by kernel_rfl
theorem auditSound_k3:(Rows.auditSoundRow.recurses==Tryz.prog.recurses 6)=true:=by kernel_rfl
theorem auditSound_k4:(Rows.auditSoundRow.named==Tryz.prog.varsNamed 6)=true:=by kernel_rfl
theorem auditSound_facts:joinedFacts Tryz.prog 6 Tryz.f6 Rows.auditSoundSpec Rows.auditSoundRow=true:=by
 unfold joinedFacts;rw [auditSound_k1,auditSound_k2,auditSound_k3,auditSound_k4]
 kernel_rfl
theorem auditSound_holds:Rows.AuditSoundSaid:=
 OpenClaim.holds_of_wide 6 Tryz.f6 rfl rfl rfl rfl rfl rfl rfl ⟨rfl,rfl,rfl,rfl,rfl⟩ rfl rfl rfl rfl rfl (by kernel_rfl) Tryz.func6 auditSound_facts
  (of_decide_eq_true (by kernel_rfl)) (by unfold Func.isWrapper; first | (rw [if_pos (by decide +kernel)]; kernel_rfl) | (rw [if_neg (by decide +kernel)]; exact ⟨rfl,rfl⟩))
  (fun os started H enc _=>by rw [OpenClaim.pre_eq_preRow]; exact auditSound_lifted os started H enc)
theorem auditSound_card:Rows.AuditSoundCardSaid:=
 Claim7.holds_tied_plain_at .later [] [.data,.data,.data,.data,.sentinel,.sentinel,.pinned] true (true, "8e53b71a13cef9058ebf53c8874d59fd933e31707c89aa95380fcd28242c182b") true
  auditSound_holds (fun _ h=>by cases h) (by kernel_rfl) (fun _ h=>by cases h) auditSound_row_tie rfl ⟨rfl,rfl⟩ (by kernel_rfl) rfl
  (fun f fn hf hfn=>by
   obtain rfl:f=6:=Option.some.inj ((show Tryz.prog.funcNamed "copse/copselaw24.AuditSound" = some 6 by kernel_rfl).symm.trans hf) |>.symm
   obtain rfl:fn=Tryz.f6:=(Option.some.inj (Tryz.func6.symm.trans hfn)).symm;exact ⟨by kernel_rfl,fun j t ht=>by
    rw [Tryz.params6] at ht;have hm:t∈[25,25,26,3,3,5,3]:=by simpa using Array.mem_of_getElem? ht
    have hall:([25,25,26,3,3,5,3].all fun u=>!Tryz.prog.wantsStandIn u)=true:=by kernel_rfl
    exact (show Tryz.prog.wantsStandIn t=false by simpa using List.all_eq_true.1 hall t hm)⟩)
  (by kernel_rfl)
end Go.Proofs.YtihliihljmfhlaaGreatDoor
