/-
  copselaw22.SearchTells: it returns true, whatever the arguments; they read as they did: the row.
-/
import Derived.Test.YtihliihljmfhlaaGreatTd
set_option linter.all false
namespace Go.Proofs.YtihliihljmfhlaaGreat
open Go Go.ChangeShapes Go.WideShapes Go.ChangeAt Go.RowKit Go.FM
set_option maxRecDepth 100000 in
theorem searchTells_lifted (os:Os) (started:os.Started) (H:Type) (enc:TypeId × Value→H) :
  ReturnsInHanded {} Tryz.checked os 3 .any ((OpenSpec.ofChange Rows.searchTellsSpec).preRow enc Tryz.prog Tryz.f3 [] false []) (Rows.searchTellsSpec.post enc Tryz.prog Tryz.f3 false true false false):=by
 refine Bn started Ka Tryz.func3 (by kernel_rfl) (by kernel_rfl) (by kernel_rfl) (by kernel_rfl) rfl (fun ds hds=>?_) (by kernel_rfl) (fun W hL hsh=>Jg hL hsh)
  (ChangeSpec.witness_shaped (enc:=enc) (C:=Tryz.checked) (os:=os) (X:=fun w _=>laidMetH Tryz.prog [] w) false (oR os) #[.agg #[.int .i64 0,.int .i64 0,.slice none 0 0,.slice none 0 0],.agg #[.int .i64 0,.int .i64 0,.int .i64 0,.int .i64 0,.int .i64 0,.int .i64 0,.bool false,.slice none 0 0],.agg #[.int .i64 0,.int .i64 0,.int .i64 0,.int .i64 0,.int .i64 0,.int .i64 0,.int .i64 0,.int .i64 0,.int .i64 0,.int .i64 0,.int .i64 0,.int .i64 0,.int .i64 0,.int .i64 0,.int .i64 0,.bool false,.int .i64 0],.bool false,.int .i64 0] 8 rfl (World.shaped_of_RefB (by kernel_rfl) (by kernel_rfl)) (by kernel_rfl) (by kernel_rfl) (by kernel_rfl) (Jh os _)) ?_
 ·rw [Tryz.params3] at hds
  match ds,hds with
  | [d0,d1,d2,d3,d4],_=>rfl
 intro W base vs ds p hA hval hwt;have hps:Tryz.f3.params.toList=[25,27,33,4,3]:=by rw [Tryz.params3]
 rw [hps] at hA;obtain ⟨v0,vs0,d0,ds0,q0,u0,rfl,rfl,rfl,h0,hA⟩:=trodAll_cons hA;obtain ⟨v1,vs1,d1,ds1,q1,u1,rfl,rfl,rfl,h1,hA⟩:=trodAll_cons hA;obtain ⟨v2,vs2,d2,ds2,q2,u2,rfl,rfl,rfl,h2,hA⟩:=trodAll_cons hA;obtain ⟨v3,vs3,d3,ds3,q3,u3,rfl,rfl,rfl,h3,hA⟩:=trodAll_cons hA;obtain ⟨v4,vs4,d4,ds4,q4,u4,rfl,rfl,rfl,h4,hA⟩:=trodAll_cons hA;obtain ⟨rfl,rfl,rfl⟩:=trodAll_nil hA;obtain ⟨g0,hg0,r0⟩:=ZI (n:=8) (t:=25) (ks:=[.z,.z,.list false [.z],.list true [.z,.list false [.z],.list false [.z],.list false [.z],.list false [.z]]]) (by kernel_rfl) (by kernel_rfl) (hval 0 25 v0 (by rw [hps]; rfl) rfl) h0 (hwt 0 25 d0 (by rw [hps]; rfl) rfl);obtain ⟨x0_0,x0_1,x0_2,x0_3,rfl⟩:∃ x0_0 x0_1 x0_2 x0_3,g0=[x0_0,x0_1,x0_2,x0_3]:=by
  match g0,hg0 with
  | [x0_0,x0_1,x0_2,x0_3],_=>exact ⟨_,_,_,_,rfl⟩
 obtain ⟨g1,hg1,r1⟩:=ZI (n:=8) (t:=27) (ks:=[.z,.z,.z,.z,.z,.z,.bool,.list false [.z]]) (by kernel_rfl) (by kernel_rfl) (hval 1 27 v1 (by rw [hps]; rfl) rfl) h1 (hwt 1 27 d1 (by rw [hps]; rfl) rfl);obtain ⟨x1_0,x1_1,x1_2,x1_3,x1_4,x1_5,x1_6,x1_7,rfl⟩:∃ x1_0 x1_1 x1_2 x1_3 x1_4 x1_5 x1_6 x1_7,g1=[x1_0,x1_1,x1_2,x1_3,x1_4,x1_5,x1_6,x1_7]:=by
  match g1,hg1 with
  | [x1_0,x1_1,x1_2,x1_3,x1_4,x1_5,x1_6,x1_7],_=>exact ⟨_,_,_,_,_,_,_,_,rfl⟩
 obtain ⟨g2,hg2,r2⟩:=ZI (n:=8) (t:=33) (ks:=[.z,.z,.z,.z,.z,.z,.z,.z,.z,.z,.z,.z,.z,.z,.z,.bool,.z]) (by kernel_rfl) (by kernel_rfl) (hval 2 33 v2 (by rw [hps]; rfl) rfl) h2 (hwt 2 33 d2 (by rw [hps]; rfl) rfl);obtain ⟨x2_0,x2_1,x2_2,x2_3,x2_4,x2_5,x2_6,x2_7,x2_8,x2_9,x2_10,x2_11,x2_12,x2_13,x2_14,x2_15,x2_16,rfl⟩:∃ x2_0 x2_1 x2_2 x2_3 x2_4 x2_5 x2_6 x2_7 x2_8 x2_9 x2_10 x2_11 x2_12 x2_13 x2_14 x2_15 x2_16,g2=[x2_0,x2_1,x2_2,x2_3,x2_4,x2_5,x2_6,x2_7,x2_8,x2_9,x2_10,x2_11,x2_12,x2_13,x2_14,x2_15,x2_16]:=by
  match g2,hg2 with
  | [x2_0,x2_1,x2_2,x2_3,x2_4,x2_5,x2_6,x2_7,x2_8,x2_9,x2_10,x2_11,x2_12,x2_13,x2_14,x2_15,x2_16],_=>exact ⟨_,_,_,_,_,_,_,_,_,_,_,_,_,_,_,_,_,rfl⟩
 obtain ⟨x3,r3⟩:=fN (n:=8) (t:=4) (k:=(.bool)) (by kernel_rfl) (by kernel_rfl) (hval 3 4 v3 (by rw [hps]; rfl) rfl) h3 (hwt 3 4 d3 (by rw [hps]; rfl) rfl);obtain ⟨x4,r4⟩:=fN (n:=8) (t:=3) (k:=.z) (by kernel_rfl) (by kernel_rfl) (hval 4 3 v4 (by rw [hps]; rfl) rfl) h4 (hwt 4 3 d4 (by rw [hps]; rfl) rfl);refine ⟨[.agg [.int .i64 x0_0.toInt,.int .i64 x0_1.toInt,.list false [.z] x0_2.toList,.list true [.z,.list false [.z],.list false [.z],.list false [.z],.list false [.z]] x0_3.toList],.agg [.int .i64 x1_0.toInt,.int .i64 x1_1.toInt,.int .i64 x1_2.toInt,.int .i64 x1_3.toInt,.int .i64 x1_4.toInt,.int .i64 x1_5.toInt,.bool x1_6.toBool,.list false [.z] x1_7.toList],.agg [.int .i64 x2_0.toInt,.int .i64 x2_1.toInt,.int .i64 x2_2.toInt,.int .i64 x2_3.toInt,.int .i64 x2_4.toInt,.int .i64 x2_5.toInt,.int .i64 x2_6.toInt,.int .i64 x2_7.toInt,.int .i64 x2_8.toInt,.int .i64 x2_9.toInt,.int .i64 x2_10.toInt,.int .i64 x2_11.toInt,.int .i64 x2_12.toInt,.int .i64 x2_13.toInt,.int .i64 x2_14.toInt,.bool x2_15.toBool,.int .i64 x2_16.toInt],.bool x3.toBool,.int .i64 x4.toInt],rfl,rfl,?_⟩;simp only [List.map_cons,List.map_nil,DS,VRels];exact ⟨r0,r1,r2,r3,r4,trivial⟩
theorem searchTells_holds:Rows.SearchTellsSaid:=
 OpenClaim.holds_of_wide 3 Tryz.f3 rfl rfl rfl rfl rfl rfl rfl ⟨rfl,rfl,rfl,rfl,rfl⟩ rfl rfl rfl rfl rfl (by kernel_rfl) Tryz.func3 (by kernel_rfl)
  (of_decide_eq_true (by kernel_rfl)) (by unfold Func.isWrapper; first | (rw [if_pos (by decide +kernel)]; kernel_rfl) | (rw [if_neg (by decide +kernel)]; exact ⟨rfl,rfl⟩))
  (fun os started H enc _=>by rw [OpenClaim.pre_eq_preRow]; exact searchTells_lifted os started H enc)
end Go.Proofs.YtihliihljmfhlaaGreat
