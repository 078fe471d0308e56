/-
  copselaw22.SearchProves: it returns true, whatever the arguments; they read as they did: the row and its card (the row's listed variables tied to the program's text).
-/
import Derived.Test.YteobmdbbmamadaaGreatDoorPe

namespace Go.Proofs.YteobmdbbmamadaaGreatDoor
open Go Go.ChangeShapes Go.WideShapes Go.ChangeAt Go.RowKit Go.FM
set_option maxRecDepth 100000 in
theorem searchProves_lifted (os:Os) (started:os.Started) (H:Type) (enc:TypeId × Value→H) :
    ReturnsInHanded {} Tryz.checked os 3 .any ((OpenSpec.ofChange Rows.searchProvesSpec).preRow enc Tryz.prog Tryz.f3 [] false zlg) (Rows.searchProvesSpec.post enc Tryz.prog Tryz.f3 false true false false):=by
  refine y83 started zc2 Tryz.func3 (by kernel_rfl) (by kernel_rfl) (by kernel_rfl) (by kernel_rfl) rfl (fun ds hds=>?_) (by kernel_rfl) (fun W hL hsh=>yav hL hsh)
    (ChangeSpec.witness_shaped (enc:=enc) (C:=Tryz.checked) (os:=os) (X:=fun w _=>laidMetH Tryz.prog zlg w) false (y0u os) #[.agg #[.int .i64 0,.int .i64 0,.slice none 0 0,.slice none 0 0],.agg #[.int .i64 0,.int .i64 0,.int .i64 0,.int .i64 0,.int .i64 0,.int .i64 0,.bool false,.slice none 0 0],.int .i64 0] 8 rfl (World.shaped_of_RefB (by kernel_rfl) (by kernel_rfl)) (by kernel_rfl) (by kernel_rfl) (by kernel_rfl) (ycw os _)) ?_
  · rw [Tryz.params3] at hds
    match ds,hds with
    | [d0,d1,d2],_=>rfl
  intro W base vs ds p hA hval hwt
  have hps:Tryz.f3.params.toList=[25,27,3]:=by rw [Tryz.params3]
  rw [hps] at hA
  obtain ⟨v0,vs0,d0,ds0,q0,u0,rfl,rfl,rfl,h0,hA⟩:=trodAll_cons hA
  obtain ⟨v1,vs1,d1,ds1,q1,u1,rfl,rfl,rfl,h1,hA⟩:=trodAll_cons hA
  obtain ⟨v2,vs2,d2,ds2,q2,u2,rfl,rfl,rfl,h2,hA⟩:=trodAll_cons hA
  obtain ⟨rfl,rfl,rfl⟩:=trodAll_nil hA
  obtain ⟨g0,hg0,r0⟩:=yb8 (n:=8) (t:=25) (ks:=[.int .i64,.int .i64,.list false [.int .i64],.list true [.int .i64,.list false [.int .i64],.list false [.int .i64],.list false [.int .i64],.list false [.int .i64]]]) (by kernel_rfl) (by kernel_rfl) (hval 0 25 v0 (by rw [hps]; rfl) rfl) h0 (hwt 0 25 d0 (by rw [hps]; rfl) rfl)
  obtain ⟨x0_0,x0_1,x0_2,x0_3,rfl⟩:∃ x0_0 x0_1 x0_2 x0_3,g0=[x0_0,x0_1,x0_2,x0_3]:=by
    match g0,hg0 with
    | [x0_0,x0_1,x0_2,x0_3],_=>exact ⟨_,_,_,_,rfl⟩
  obtain ⟨g1,hg1,r1⟩:=yb8 (n:=8) (t:=27) (ks:=[.int .i64,.int .i64,.int .i64,.int .i64,.int .i64,.int .i64,.bool,.list false [.int .i64]]) (by kernel_rfl) (by kernel_rfl) (hval 1 27 v1 (by rw [hps]; rfl) rfl) h1 (hwt 1 27 d1 (by rw [hps]; rfl) rfl)
  obtain ⟨x1_0,x1_1,x1_2,x1_3,x1_4,x1_5,x1_6,x1_7,rfl⟩:∃ x1_0 x1_1 x1_2 x1_3 x1_4 x1_5 x1_6 x1_7,g1=[x1_0,x1_1,x1_2,x1_3,x1_4,x1_5,x1_6,x1_7]:=by
    match g1,hg1 with
    | [x1_0,x1_1,x1_2,x1_3,x1_4,x1_5,x1_6,x1_7],_=>exact ⟨_,_,_,_,_,_,_,_,rfl⟩
  obtain ⟨x2,r2⟩:=yf1 (n:=8) (t:=3) (k:=.int .i64) (by kernel_rfl) (by kernel_rfl) (hval 2 3 v2 (by rw [hps]; rfl) rfl) h2 (hwt 2 3 d2 (by rw [hps]; rfl) rfl)
  refine ⟨[.agg [.int .i64 x0_0.toInt,.int .i64 x0_1.toInt,.list false [.int .i64] x0_2.toList,.list true [.int .i64,.list false [.int .i64],.list false [.int .i64],.list false [.int .i64],.list false [.int .i64]] x0_3.toList],.agg [.int .i64 x1_0.toInt,.int .i64 x1_1.toInt,.int .i64 x1_2.toInt,.int .i64 x1_3.toInt,.int .i64 x1_4.toInt,.int .i64 x1_5.toInt,.bool x1_6.toBool,.list false [.int .i64] x1_7.toList],.int .i64 x2.toInt],rfl,rfl,?_⟩
  simp only [List.map_cons,List.map_nil,z95,VRels]
  exact ⟨r0,r1,r2,trivial⟩
theorem searchProves_holds:Rows.SearchProvesSaid:=
  OpenClaim.holds_of_wide 3 Tryz.f3 rfl rfl rfl rfl rfl rfl rfl ⟨rfl,rfl,rfl,rfl,rfl⟩ rfl rfl rfl rfl rfl (by kernel_rfl) Tryz.func3 (by kernel_rfl)
    (of_decide_eq_true (by kernel_rfl)) (by unfold Func.isWrapper; first | (rw [if_pos (by decide +kernel)]; kernel_rfl) | (rw [if_neg (by decide +kernel)]; exact ⟨rfl,rfl⟩))
    (fun os started H enc _=>by rw [OpenClaim.pre_eq_preRow]; exact searchProves_lifted os started H enc)
theorem searchProves_card:Rows.SearchProvesCardSaid:=
  Claim7.holds_tied_plain_at .later [] [.data,.data,.data,.data,.sentinel,.sentinel,.pinned] true (true, "53279c289ea831602b223efe7ea1d8274a881365a7bab580e84b367af5219e3a") true
    searchProves_holds (fun _ h=>by cases h) (by kernel_rfl) (fun _ h=>by cases h) searchProves_row_tie rfl ⟨rfl,rfl⟩ (by kernel_rfl) rfl
    (fun f fn hf hfn=>by
      obtain rfl:f=3:=Option.some.inj ((show Tryz.prog.funcNamed "copse/copselaw22.SearchProves" = some 3 by kernel_rfl).symm.trans hf) |>.symm
      obtain rfl:fn=Tryz.f3:=(Option.some.inj (Tryz.func3.symm.trans hfn)).symm
      exact ⟨by kernel_rfl,fun j t ht=>by
        rw [Tryz.params3] at ht
        have hm:t∈[25,27,3]:=by simpa using Array.mem_of_getElem? ht
        have hall:([25,27,3].all fun u=>!Tryz.prog.wantsStandIn u)=true:=by kernel_rfl
        exact (show Tryz.prog.wantsStandIn t=false by simpa using List.all_eq_true.1 hall t hm)⟩)
    (by kernel_rfl)
end Go.Proofs.YteobmdbbmamadaaGreatDoor
