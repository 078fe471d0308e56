/-
  copselaw20.CertLines: it returns true, whatever the arguments; they read as they did: the row and its card (the row's listed variables tied to the program's text).
-/
import Derived.Test.YtddhdnbgagcfjaaDoorCc
namespace Go.Proofs.YtddhdnbgagcfjaaDoor
open Go Go.ChangeShapes Go.WideShapes Go.ChangeAt Go.RowKit Go.FM
set_option maxRecDepth 100000 in
theorem certLines_lifted (os:Os) (started:os.Started) (H:Type) (enc:TypeId × Value→H) :
    ReturnsInHanded {} Tryd.checked os 3 .any ((OpenSpec.ofChange Rows.certLinesSpec).preRow enc Tryd.prog Tryd.f3 [] false z8p) (Rows.certLinesSpec.post enc Tryd.prog Tryd.f3 false true false false):=by
  refine zji started z4x Tryd.func3 (by kernel_rfl) (by kernel_rfl) (by kernel_rfl) (by kernel_rfl) rfl (fun ds hds=>?_) (by kernel_rfl) (fun W hL hsh=>zl7 hL hsh)
    (ChangeSpec.witness_shaped (enc:=enc) (C:=Tryd.checked) (os:=os) (X:=fun w _=>laidMetH Tryd.prog z8p w) false (zgp os) #[.agg #[.int .i64 0,.slice none 0 0,.int .i64 0,.int .i64 0,.int .i64 0,.int .i64 0,.int .i64 0,.int .i64 0]] 8 rfl (World.shaped_of_RefB (by kernel_rfl) (by kernel_rfl)) (by kernel_rfl) (by kernel_rfl) (by kernel_rfl) (zmo os _)) ?_
  · rw [Tryd.params3] at hds
    match ds,hds with
    | [d0],_=>rfl
  intro W base vs ds p hA hval hwt
  have hps:Tryd.f3.params.toList=[26]:=by rw [Tryd.params3]
  rw [hps] at hA
  obtain ⟨v0,vs0,d0,ds0,q0,u0,rfl,rfl,rfl,h0,hA⟩:=trodAll_cons hA
  obtain ⟨rfl,rfl,rfl⟩:=trodAll_nil hA
  obtain ⟨g0,hg0,r0⟩:=zn7 (n:=8) (t:=26) (ks:=[.int .i64,.list true [.bool,.int .i64,.int .i64],.int .i64,.int .i64,.int .i64,.int .i64,.int .i64,.int .i64]) (by kernel_rfl) (by kernel_rfl) (hval 0 26 v0 (by rw [hps]; rfl) rfl) h0 (hwt 0 26 d0 (by rw [hps]; rfl) rfl)
  obtain ⟨x0_0,x0_1,x0_2,x0_3,x0_4,x0_5,x0_6,x0_7,rfl⟩:∃ x0_0 x0_1 x0_2 x0_3 x0_4 x0_5 x0_6 x0_7,g0=[x0_0,x0_1,x0_2,x0_3,x0_4,x0_5,x0_6,x0_7]:=by
    match g0,hg0 with
    | [x0_0,x0_1,x0_2,x0_3,x0_4,x0_5,x0_6,x0_7],_=>exact ⟨_,_,_,_,_,_,_,_,rfl⟩
  refine ⟨[.agg [.int .i64 x0_0.toInt,.list true [.bool,.int .i64,.int .i64] x0_1.toList,.int .i64 x0_2.toInt,.int .i64 x0_3.toInt,.int .i64 x0_4.toInt,.int .i64 x0_5.toInt,.int .i64 x0_6.toInt,.int .i64 x0_7.toInt]],rfl,rfl,?_⟩
  simp only [List.map_cons,List.map_nil,z25,VRels]
  exact ⟨r0,trivial⟩
theorem certLines_k1:(Rows.certLinesRow.inPlace==Tryd.prog.inPlace 3)=true:=by kernel_rfl
theorem certLines_k2:(Rows.certLinesRow.unfollowed==Tryd.prog.unfollowed 3)=true:=by kernel_rfl
theorem certLines_k3:(Rows.certLinesRow.recurses==Tryd.prog.recurses 3)=true:=by kernel_rfl
theorem certLines_k4:(Rows.certLinesRow.named==Tryd.prog.varsNamed 3)=true:=by kernel_rfl
theorem certLines_facts:joinedFacts Tryd.prog 3 Tryd.f3 Rows.certLinesSpec Rows.certLinesRow=true:=by
 unfold joinedFacts
 rw [certLines_k1,certLines_k2,certLines_k3,certLines_k4]
 kernel_rfl
theorem certLines_holds:Rows.CertLinesSaid:=
  OpenClaim.holds_of_wide 3 Tryd.f3 rfl rfl rfl rfl rfl rfl rfl ⟨rfl,rfl,rfl,rfl,rfl⟩ rfl rfl rfl rfl rfl (by kernel_rfl) Tryd.func3 certLines_facts
    (of_decide_eq_true (by kernel_rfl)) (by unfold Func.isWrapper; first | (rw [if_pos (by decide +kernel)]; kernel_rfl) | (rw [if_neg (by decide +kernel)]; exact ⟨rfl,rfl⟩))
    (fun os started H enc _=>by rw [OpenClaim.pre_eq_preRow]; exact certLines_lifted os started H enc)
theorem certLines_card:Rows.CertLinesCardSaid:=
  Claim7.holds_tied_plain_at .later [] [.data,.data,.data,.data,.sentinel,.sentinel,.pinned] true (true, "0d722516a96829e7dd9f9c8a6ab62004f4b58c90c24ccdb75a3b7907b32b04f7") true
    certLines_holds (fun _ h=>by cases h) (by kernel_rfl) (fun _ h=>by cases h) certLines_row_tie rfl ⟨rfl,rfl⟩ (by kernel_rfl) rfl
    (fun f fn hf hfn=>by
      obtain rfl:f=3:=Option.some.inj ((show Tryd.prog.funcNamed "copse/copselaw20.CertLines" = some 3 by kernel_rfl).symm.trans hf) |>.symm
      obtain rfl:fn=Tryd.f3:=(Option.some.inj (Tryd.func3.symm.trans hfn)).symm
      exact ⟨by kernel_rfl,fun j t ht=>by
        rw [Tryd.params3] at ht
        have hm:t∈[26]:=by simpa using Array.mem_of_getElem? ht
        have hall:([26].all fun u=>!Tryd.prog.wantsStandIn u)=true:=by kernel_rfl
        exact (show Tryd.prog.wantsStandIn t=false by simpa using List.all_eq_true.1 hall t hm)⟩)
    (by kernel_rfl)
end Go.Proofs.YtddhdnbgagcfjaaDoor
