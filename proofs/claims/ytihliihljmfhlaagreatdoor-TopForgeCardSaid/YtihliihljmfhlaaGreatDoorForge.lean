/-
  copsetop.TopForge: it returns true, whatever the arguments; they read as they did: the row and its card (the row's listed variables tied to the program's text).
-/
import Derived.Test.YtihliihljmfhlaaGreatDoorUf
set_option linter.all false
namespace Go.Proofs.YtihliihljmfhlaaGreatDoor
open Go Go.ChangeShapes Go.WideShapes Go.ChangeAt Go.RowKit Go.FM
set_option maxRecDepth 100000 in
theorem topForge_lifted (os:Os) (started:os.Started) (H:Type) (enc:TypeId × Value→H) :
  ReturnsInHanded {} Tryz.checked os 3 .any ((OpenSpec.ofChange Rows.topForgeSpec).preRow enc Tryz.prog Tryz.f3 [] false gC) (Rows.topForgeSpec.post enc Tryz.prog Tryz.f3 false true false false):=by
 refine zcG started zhN Tryz.func3 (by kernel_rfl) (by kernel_rfl) (by kernel_rfl) (by kernel_rfl) rfl (fun ds hds=>?_) (by kernel_rfl) (fun W hL hsh=>zhb hL hsh)
  (ChangeSpec.witness_shaped (enc:=enc) (C:=Tryz.checked) (os:=os) (X:=fun w _=>laidMetH Tryz.prog gC w) false (Ji os) #[.agg #[.int .i64 0,.int .i64 0,.slice none 0 0,.slice none 0 0],.slice none 0 0,.slice none 0 0,.string ⟨#[]⟩,.bool false] 8 rfl (World.shaped_of_RefB (by kernel_rfl) (by kernel_rfl)) (by kernel_rfl) (by kernel_rfl) (by kernel_rfl) (zhc os _)) ?_
 ·rw [Tryz.params3] at hds
  match ds,hds with
  | [d0,d1,d2,d3,d4],_=>rfl
 intro W base vs ds p hA hval hwt;have hps:Tryz.f3.params.toList=[25,26,27,9,4]:=by rw [Tryz.params3]
 rw [hps] at hA;obtain ⟨v0,vs0,d0,ds0,q0,u0,rfl,rfl,rfl,h0,hA⟩:=trodAll_cons hA;obtain ⟨v1,vs1,d1,ds1,q1,u1,rfl,rfl,rfl,h1,hA⟩:=trodAll_cons hA;obtain ⟨v2,vs2,d2,ds2,q2,u2,rfl,rfl,rfl,h2,hA⟩:=trodAll_cons hA;obtain ⟨v3,vs3,d3,ds3,q3,u3,rfl,rfl,rfl,h3,hA⟩:=trodAll_cons hA;obtain ⟨v4,vs4,d4,ds4,q4,u4,rfl,rfl,rfl,h4,hA⟩:=trodAll_cons hA;obtain ⟨rfl,rfl,rfl⟩:=trodAll_nil hA;obtain ⟨g0,hg0,r0⟩:=Tl (n:=8) (t:=25) (ks:=[.z,.z,.list false [.z],.list true [.z,.list false [.z],.list false [.z],.list false [.z],.list false [.z]]]) (by kernel_rfl) (by kernel_rfl) (hval 0 25 v0 (by rw [hps]; rfl) rfl) h0 (hwt 0 25 d0 (by rw [hps]; rfl) rfl);obtain ⟨x0_0,x0_1,x0_2,x0_3,rfl⟩:∃ x0_0 x0_1 x0_2 x0_3,g0=[x0_0,x0_1,x0_2,x0_3]:=by
  match g0,hg0 with
  | [x0_0,x0_1,x0_2,x0_3],_=>exact ⟨_,_,_,_,rfl⟩
 obtain ⟨x1,r1⟩:=iN (n:=8) (t:=26) (k:=(.list true [.z,.z,.z,.z,.z,.z,.bool,.list false [.z]])) (by kernel_rfl) (by kernel_rfl) (hval 1 26 v1 (by rw [hps]; rfl) rfl) h1 (hwt 1 26 d1 (by rw [hps]; rfl) rfl);obtain ⟨x2,r2⟩:=iN (n:=8) (t:=27) (k:=(.list true [.z,.list true [.bool,.z,.z],.z,.z,.z,.z,.z,.z])) (by kernel_rfl) (by kernel_rfl) (hval 2 27 v2 (by rw [hps]; rfl) rfl) h2 (hwt 2 27 d2 (by rw [hps]; rfl) rfl);obtain ⟨x3,r3⟩:=iN (n:=8) (t:=9) (k:=(.str)) (by kernel_rfl) (by kernel_rfl) (hval 3 9 v3 (by rw [hps]; rfl) rfl) h3 (hwt 3 9 d3 (by rw [hps]; rfl) rfl);obtain ⟨x4,r4⟩:=iN (n:=8) (t:=4) (k:=(.bool)) (by kernel_rfl) (by kernel_rfl) (hval 4 4 v4 (by rw [hps]; rfl) rfl) h4 (hwt 4 4 d4 (by rw [hps]; rfl) rfl);refine ⟨[.agg [.int .i64 x0_0.toInt,.int .i64 x0_1.toInt,.list false [.z] x0_2.toList,.list true [.z,.list false [.z],.list false [.z],.list false [.z],.list false [.z]] x0_3.toList],.list true [.z,.z,.z,.z,.z,.z,.bool,.list false [.z]] x1.toList,.list true [.z,.list true [.bool,.z,.z],.z,.z,.z,.z,.z,.z] x2.toList,.str x3.toStr,.bool x4.toBool],rfl,rfl,?_⟩;simp only [List.map_cons,List.map_nil,EC,VRels];exact ⟨r0,r1,r2,r3,r4,trivial⟩
theorem topForge_k1:(Rows.topForgeRow.inPlace==Tryz.prog.inPlace 3)=true:=by kernel_rfl
theorem topForge_k2:(Rows.topForgeRow.unfollowed==Tryz.prog.unfollowed 3)=true:=by kernel_rfl
theorem topForge_k3:(Rows.topForgeRow.recurses==Tryz.prog.recurses 3)=true:=by kernel_rfl
theorem topForge_k4:(Rows.topForgeRow.named==Tryz.prog.varsNamed 3)=true:=by kernel_rfl
theorem topForge_facts:joinedFacts Tryz.prog 3 Tryz.f3 Rows.topForgeSpec Rows.topForgeRow=true:=by
 unfold joinedFacts;rw [topForge_k1,topForge_k2,topForge_k3,topForge_k4]
 kernel_rfl
theorem topForge_holds:Rows.TopForgeSaid:=
 OpenClaim.holds_of_wide 3 Tryz.f3 rfl rfl rfl rfl rfl rfl rfl ⟨rfl,rfl,rfl,rfl,rfl⟩ rfl rfl rfl rfl rfl (by kernel_rfl) Tryz.func3 topForge_facts
  (of_decide_eq_true (by kernel_rfl)) (by unfold Func.isWrapper; first | (rw [if_pos (by decide +kernel)]; kernel_rfl) | (rw [if_neg (by decide +kernel)]; exact ⟨rfl,rfl⟩))
  (fun os started H enc _=>by rw [OpenClaim.pre_eq_preRow]; exact topForge_lifted os started H enc)
theorem topForge_card:Rows.TopForgeCardSaid:=
 Claim7.holds_tied_plain_at .later [] [.data,.data,.data,.data,.sentinel,.sentinel,.pinned] true (true, "8e53b71a13cef9058ebf53c8874d59fd933e31707c89aa95380fcd28242c182b") true
  topForge_holds (fun _ h=>by cases h) (by kernel_rfl) (fun _ h=>by cases h) topForge_row_tie rfl ⟨rfl,rfl⟩ (by kernel_rfl) rfl
  (fun f fn hf hfn=>by
   obtain rfl:f=3:=Option.some.inj ((show Tryz.prog.funcNamed "copse/copsetop.TopForge" = some 3 by kernel_rfl).symm.trans hf) |>.symm
   obtain rfl:fn=Tryz.f3:=(Option.some.inj (Tryz.func3.symm.trans hfn)).symm;exact ⟨by kernel_rfl,fun j t ht=>by
    rw [Tryz.params3] at ht;have hm:t∈[25,26,27,9,4]:=by simpa using Array.mem_of_getElem? ht
    have hall:([25,26,27,9,4].all fun u=>!Tryz.prog.wantsStandIn u)=true:=by kernel_rfl
    exact (show Tryz.prog.wantsStandIn t=false by simpa using List.all_eq_true.1 hall t hm)⟩)
  (by kernel_rfl)
end Go.Proofs.YtihliihljmfhlaaGreatDoor
