/-
  copselaw22.SearchDecides: it returns true, whatever the arguments; they read as they did: the row.
-/
import Derived.Test.YtihliihljmfhlaaGreatDd
set_option linter.all false
namespace Go.Proofs.YtihliihljmfhlaaGreat
open Go Go.ChangeShapes Go.WideShapes Go.ChangeAt Go.RowKit Go.FM
set_option maxRecDepth 100000 in
theorem searchDecides_lifted (os:Os) (started:os.Started) (H:Type) (enc:TypeId × Value→H) :
  ReturnsInHanded {} Tryz.checked os 4 .any ((OpenSpec.ofChange Rows.searchDecidesSpec).preRow enc Tryz.prog Tryz.f4 [] false []) (Rows.searchDecidesSpec.post enc Tryz.prog Tryz.f4 false true false false):=by
 refine Gc started Pg Tryz.func4 (by kernel_rfl) (by kernel_rfl) (by kernel_rfl) (by kernel_rfl) rfl (fun ds hds=>?_) (by kernel_rfl) (fun W hL hsh=>Ol hL hsh)
  (ChangeSpec.witness_shaped (enc:=enc) (C:=Tryz.checked) (os:=os) (X:=fun w _=>laidMetH Tryz.prog [] w) false (rZ os) #[.agg #[.int .i64 0,.int .i64 0,.slice none 0 0,.slice none 0 0],.agg #[.int .i64 0,.int .i64 0,.int .i64 0,.int .i64 0,.int .i64 0,.int .i64 0,.bool false,.slice none 0 0],.int .i64 0,.int .i64 0] 8 rfl (World.shaped_of_RefB (by kernel_rfl) (by kernel_rfl)) (by kernel_rfl) (by kernel_rfl) (by kernel_rfl) (Om os _)) ?_
 ·rw [Tryz.params4] at hds
  match ds,hds with
  | [d0,d1,d2,d3],_=>rfl
 intro W base vs ds p hA hval hwt;have hps:Tryz.f4.params.toList=[25,27,3,3]:=by rw [Tryz.params4]
 rw [hps] at hA;obtain ⟨v0,vs0,d0,ds0,q0,u0,rfl,rfl,rfl,h0,hA⟩:=trodAll_cons hA;obtain ⟨v1,vs1,d1,ds1,q1,u1,rfl,rfl,rfl,h1,hA⟩:=trodAll_cons hA;obtain ⟨v2,vs2,d2,ds2,q2,u2,rfl,rfl,rfl,h2,hA⟩:=trodAll_cons hA;obtain ⟨v3,vs3,d3,ds3,q3,u3,rfl,rfl,rfl,h3,hA⟩:=trodAll_cons hA;obtain ⟨rfl,rfl,rfl⟩:=trodAll_nil hA;obtain ⟨g0,hg0,r0⟩:=iU (n:=8) (t:=25) (ks:=[.z,.z,.list false [.z],.list true [.z,.list false [.z],.list false [.z],.list false [.z],.list false [.z]]]) (by kernel_rfl) (by kernel_rfl) (hval 0 25 v0 (by rw [hps]; rfl) rfl) h0 (hwt 0 25 d0 (by rw [hps]; rfl) rfl);obtain ⟨x0_0,x0_1,x0_2,x0_3,rfl⟩:∃ x0_0 x0_1 x0_2 x0_3,g0=[x0_0,x0_1,x0_2,x0_3]:=by
  match g0,hg0 with
  | [x0_0,x0_1,x0_2,x0_3],_=>exact ⟨_,_,_,_,rfl⟩
 obtain ⟨g1,hg1,r1⟩:=iU (n:=8) (t:=27) (ks:=[.z,.z,.z,.z,.z,.z,.bool,.list false [.z]]) (by kernel_rfl) (by kernel_rfl) (hval 1 27 v1 (by rw [hps]; rfl) rfl) h1 (hwt 1 27 d1 (by rw [hps]; rfl) rfl);obtain ⟨x1_0,x1_1,x1_2,x1_3,x1_4,x1_5,x1_6,x1_7,rfl⟩:∃ x1_0 x1_1 x1_2 x1_3 x1_4 x1_5 x1_6 x1_7,g1=[x1_0,x1_1,x1_2,x1_3,x1_4,x1_5,x1_6,x1_7]:=by
  match g1,hg1 with
  | [x1_0,x1_1,x1_2,x1_3,x1_4,x1_5,x1_6,x1_7],_=>exact ⟨_,_,_,_,_,_,_,_,rfl⟩
 obtain ⟨x2,r2⟩:=iV (n:=8) (t:=3) (k:=.z) (by kernel_rfl) (by kernel_rfl) (hval 2 3 v2 (by rw [hps]; rfl) rfl) h2 (hwt 2 3 d2 (by rw [hps]; rfl) rfl);obtain ⟨x3,r3⟩:=iV (n:=8) (t:=3) (k:=.z) (by kernel_rfl) (by kernel_rfl) (hval 3 3 v3 (by rw [hps]; rfl) rfl) h3 (hwt 3 3 d3 (by rw [hps]; rfl) rfl);refine ⟨[.agg [.int .i64 x0_0.toInt,.int .i64 x0_1.toInt,.list false [.z] x0_2.toList,.list true [.z,.list false [.z],.list false [.z],.list false [.z],.list false [.z]] x0_3.toList],.agg [.int .i64 x1_0.toInt,.int .i64 x1_1.toInt,.int .i64 x1_2.toInt,.int .i64 x1_3.toInt,.int .i64 x1_4.toInt,.int .i64 x1_5.toInt,.bool x1_6.toBool,.list false [.z] x1_7.toList],.int .i64 x2.toInt,.int .i64 x3.toInt],rfl,rfl,?_⟩;simp only [List.map_cons,List.map_nil,D4,VRels];exact ⟨r0,r1,r2,r3,trivial⟩
theorem searchDecides_holds:Rows.SearchDecidesSaid:=
 OpenClaim.holds_of_wide 4 Tryz.f4 rfl rfl rfl rfl rfl rfl rfl ⟨rfl,rfl,rfl,rfl,rfl⟩ rfl rfl rfl rfl rfl (by kernel_rfl) Tryz.func4 (by kernel_rfl)
  (of_decide_eq_true (by kernel_rfl)) (by unfold Func.isWrapper; first | (rw [if_pos (by decide +kernel)]; kernel_rfl) | (rw [if_neg (by decide +kernel)]; exact ⟨rfl,rfl⟩))
  (fun os started H enc _=>by rw [OpenClaim.pre_eq_preRow]; exact searchDecides_lifted os started H enc)
end Go.Proofs.YtihliihljmfhlaaGreat
