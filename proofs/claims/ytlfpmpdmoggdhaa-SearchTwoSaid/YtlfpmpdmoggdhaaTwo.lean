/-
  copselaw22.SearchTwo: it returns true, whatever the arguments; they read as they did: the row.

-/
import Derived.Test.YtlfpmpdmoggdhaaLad

/-
  copselaw22.SearchTwo: it returns true, whatever the arguments; they read as they did: the row.
-/
namespace Go.Proofs.Ytlfpmpdmoggdhaa
open Go Go.ChangeShapes Go.WideShapes Go.ChangeAt Go.RowKit Go.FM

set_option maxRecDepth 100000 in
theorem searchTwo_lifted (os : Os) (started : os.Started) (H : Type) (enc : TypeId × Value → H) :
    ReturnsInHanded {} Try.checked os 5 .any ((OpenSpec.ofChange Rows.searchTwoSpec).preRow enc Try.prog Try.f5 [] false []) (Rows.searchTwoSpec.post enc Try.prog Try.f5 false true false false) := by
  refine law_lifted started snd_copselaw22_SearchTwo Try.func5 (by kernel_rfl) (by kernel_rfl) (by kernel_rfl) (by kernel_rfl) rfl (fun ds hds => ?_) (by kernel_rfl) (fun W hL hsh => seat_glob hL hsh)
    (ChangeSpec.witness_shaped (enc := enc) (C := Try.checked) (os := os) (X := fun w _ => laidMetH Try.prog [] w) false (seatWorld os) #[.agg #[.int .i64 0, .int .i64 0, .slice none 0 0, .slice none 0 0], .agg #[.int .i64 0, .int .i64 0, .slice none 0 0, .slice none 0 0], .agg #[.int .i64 0, .int .i64 0, .int .i64 0, .int .i64 0, .int .i64 0, .int .i64 0, .bool false, .slice none 0 0], .agg #[.int .i64 0, .int .i64 0, .int .i64 0, .int .i64 0, .int .i64 0, .int .i64 0, .bool false, .slice none 0 0], .slice none 0 0] 8 rfl (World.shaped_of_RefB (by kernel_rfl) (by kernel_rfl)) (by kernel_rfl) (by kernel_rfl) (by kernel_rfl) (seat_met os _)) ?_
  · rw [Try.params5] at hds
    match ds, hds with
    | [d0, d1, d2, d3, d4], _ => rfl
  intro W base vs ds p hA hval hwt
  have hps : Try.f5.params.toList = [43, 43, 45, 45, 51] := by rw [Try.params5]
  rw [hps] at hA
  obtain ⟨v0, vs0, d0, ds0, q0, u0, rfl, rfl, rfl, h0, hA⟩ := trodAll_cons hA
  obtain ⟨v1, vs1, d1, ds1, q1, u1, rfl, rfl, rfl, h1, hA⟩ := trodAll_cons hA
  obtain ⟨v2, vs2, d2, ds2, q2, u2, rfl, rfl, rfl, h2, hA⟩ := trodAll_cons hA
  obtain ⟨v3, vs3, d3, ds3, q3, u3, rfl, rfl, rfl, h3, hA⟩ := trodAll_cons hA
  obtain ⟨v4, vs4, d4, ds4, q4, u4, rfl, rfl, rfl, h4, hA⟩ := trodAll_cons hA
  obtain ⟨rfl, rfl, rfl⟩ := trodAll_nil hA
  obtain ⟨g0, hg0, r0⟩ := arg_agg (n := 8) (t := 43) (ks := [.int .i64, .int .i64, .list false [.int .i64], .list true [.int .i64, .list false [.int .i64], .list false [.int .i64], .list false [.int .i64], .list false [.int .i64]]]) (by kernel_rfl) (by kernel_rfl) (hval 0 43 v0 (by rw [hps]; rfl) rfl) h0 (hwt 0 43 d0 (by rw [hps]; rfl) rfl)
  obtain ⟨x0_0, x0_1, x0_2, x0_3, rfl⟩ : ∃ x0_0 x0_1 x0_2 x0_3, g0 = [x0_0, x0_1, x0_2, x0_3] := by
    match g0, hg0 with
    | [x0_0, x0_1, x0_2, x0_3], _ => exact ⟨_, _, _, _, rfl⟩
  obtain ⟨g1, hg1, r1⟩ := arg_agg (n := 8) (t := 43) (ks := [.int .i64, .int .i64, .list false [.int .i64], .list true [.int .i64, .list false [.int .i64], .list false [.int .i64], .list false [.int .i64], .list false [.int .i64]]]) (by kernel_rfl) (by kernel_rfl) (hval 1 43 v1 (by rw [hps]; rfl) rfl) h1 (hwt 1 43 d1 (by rw [hps]; rfl) rfl)
  obtain ⟨x1_0, x1_1, x1_2, x1_3, rfl⟩ : ∃ x1_0 x1_1 x1_2 x1_3, g1 = [x1_0, x1_1, x1_2, x1_3] := by
    match g1, hg1 with
    | [x1_0, x1_1, x1_2, x1_3], _ => exact ⟨_, _, _, _, rfl⟩
  obtain ⟨g2, hg2, r2⟩ := arg_agg (n := 8) (t := 45) (ks := [.int .i64, .int .i64, .int .i64, .int .i64, .int .i64, .int .i64, .bool, .list false [.int .i64]]) (by kernel_rfl) (by kernel_rfl) (hval 2 45 v2 (by rw [hps]; rfl) rfl) h2 (hwt 2 45 d2 (by rw [hps]; rfl) rfl)
  obtain ⟨x2_0, x2_1, x2_2, x2_3, x2_4, x2_5, x2_6, x2_7, rfl⟩ : ∃ x2_0 x2_1 x2_2 x2_3 x2_4 x2_5 x2_6 x2_7, g2 = [x2_0, x2_1, x2_2, x2_3, x2_4, x2_5, x2_6, x2_7] := by
    match g2, hg2 with
    | [x2_0, x2_1, x2_2, x2_3, x2_4, x2_5, x2_6, x2_7], _ => exact ⟨_, _, _, _, _, _, _, _, rfl⟩
  obtain ⟨g3, hg3, r3⟩ := arg_agg (n := 8) (t := 45) (ks := [.int .i64, .int .i64, .int .i64, .int .i64, .int .i64, .int .i64, .bool, .list false [.int .i64]]) (by kernel_rfl) (by kernel_rfl) (hval 3 45 v3 (by rw [hps]; rfl) rfl) h3 (hwt 3 45 d3 (by rw [hps]; rfl) rfl)
  obtain ⟨x3_0, x3_1, x3_2, x3_3, x3_4, x3_5, x3_6, x3_7, rfl⟩ : ∃ x3_0 x3_1 x3_2 x3_3 x3_4 x3_5 x3_6 x3_7, g3 = [x3_0, x3_1, x3_2, x3_3, x3_4, x3_5, x3_6, x3_7] := by
    match g3, hg3 with
    | [x3_0, x3_1, x3_2, x3_3, x3_4, x3_5, x3_6, x3_7], _ => exact ⟨_, _, _, _, _, _, _, _, rfl⟩
  obtain ⟨x4, r4⟩ := arg_one (n := 8) (t := 51) (k := (.list false [.bool])) (by kernel_rfl) (by kernel_rfl) (hval 4 51 v4 (by rw [hps]; rfl) rfl) h4 (hwt 4 51 d4 (by rw [hps]; rfl) rfl)
  refine ⟨[.agg [.int .i64 x0_0.toInt, .int .i64 x0_1.toInt, .list false [.int .i64] x0_2.toList, .list true [.int .i64, .list false [.int .i64], .list false [.int .i64], .list false [.int .i64], .list false [.int .i64]] x0_3.toList], .agg [.int .i64 x1_0.toInt, .int .i64 x1_1.toInt, .list false [.int .i64] x1_2.toList, .list true [.int .i64, .list false [.int .i64], .list false [.int .i64], .list false [.int .i64], .list false [.int .i64]] x1_3.toList], .agg [.int .i64 x2_0.toInt, .int .i64 x2_1.toInt, .int .i64 x2_2.toInt, .int .i64 x2_3.toInt, .int .i64 x2_4.toInt, .int .i64 x2_5.toInt, .bool x2_6.toBool, .list false [.int .i64] x2_7.toList], .agg [.int .i64 x3_0.toInt, .int .i64 x3_1.toInt, .int .i64 x3_2.toInt, .int .i64 x3_3.toInt, .int .i64 x3_4.toInt, .int .i64 x3_5.toInt, .bool x3_6.toBool, .list false [.int .i64] x3_7.toList], .list false [.bool] x4.toList], rfl, rfl, ?_⟩
  simp only [List.map_cons, List.map_nil, entV, VRels]
  exact ⟨r0, r1, r2, r3, r4, trivial⟩

theorem searchTwo_holds : Rows.SearchTwoSaid :=
  OpenClaim.holds_of_wide 5 Try.f5 rfl rfl rfl rfl rfl rfl rfl ⟨rfl, rfl, rfl, rfl, rfl⟩ rfl rfl rfl rfl rfl (by kernel_rfl) Try.func5 (by kernel_rfl)
    (of_decide_eq_true (by kernel_rfl)) (by unfold Func.isWrapper; first | (rw [if_pos (by decide +kernel)]; kernel_rfl) | (rw [if_neg (by decide +kernel)]; exact ⟨rfl, rfl⟩))
    (fun os started H enc _ => by rw [OpenClaim.pre_eq_preRow]; exact searchTwo_lifted os started H enc)

#print axioms searchTwo_holds
end Go.Proofs.Ytlfpmpdmoggdhaa
