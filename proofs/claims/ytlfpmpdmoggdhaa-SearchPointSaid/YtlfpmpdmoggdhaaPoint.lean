/-
  copselaw22.SearchPoint: it returns true, whatever the arguments; they read as they did: the row.

-/
import Derived.Test.YtlfpmpdmoggdhaaLad

/-
  copselaw22.SearchPoint: it returns true, whatever the arguments; they read as they did: the row.
-/
namespace Go.Proofs.Ytlfpmpdmoggdhaa
open Go Go.ChangeShapes Go.WideShapes Go.ChangeAt Go.RowKit Go.FM

set_option maxRecDepth 100000 in
theorem searchPoint_lifted (os : Os) (started : os.Started) (H : Type) (enc : TypeId × Value → H) :
    ReturnsInHanded {} Try.checked os 4 .any ((OpenSpec.ofChange Rows.searchPointSpec).preRow enc Try.prog Try.f4 [] false []) (Rows.searchPointSpec.post enc Try.prog Try.f4 false true false false) := by
  refine law_lifted started snd_copselaw22_SearchPoint Try.func4 (by kernel_rfl) (by kernel_rfl) (by kernel_rfl) (by kernel_rfl) rfl (fun ds hds => ?_) (by kernel_rfl) (fun W hL hsh => seat_glob hL hsh)
    (ChangeSpec.witness_shaped (enc := enc) (C := Try.checked) (os := os) (X := fun w _ => laidMetH Try.prog [] w) false (seatWorld os) #[.agg #[.int .i64 0, .int .i64 0, .slice none 0 0, .slice none 0 0], .agg #[.int .i64 0, .int .i64 0, .int .i64 0, .int .i64 0, .int .i64 0, .int .i64 0, .bool false, .slice none 0 0], .slice none 0 0] 8 rfl (World.shaped_of_RefB (by kernel_rfl) (by kernel_rfl)) (by kernel_rfl) (by kernel_rfl) (by kernel_rfl) (seat_met os _)) ?_
  · rw [Try.params4] at hds
    match ds, hds with
    | [d0, d1, d2], _ => rfl
  intro W base vs ds p hA hval hwt
  have hps : Try.f4.params.toList = [43, 45, 40] := by rw [Try.params4]
  rw [hps] at hA
  obtain ⟨v0, vs0, d0, ds0, q0, u0, rfl, rfl, rfl, h0, hA⟩ := trodAll_cons hA
  obtain ⟨v1, vs1, d1, ds1, q1, u1, rfl, rfl, rfl, h1, hA⟩ := trodAll_cons hA
  obtain ⟨v2, vs2, d2, ds2, q2, u2, rfl, rfl, rfl, h2, hA⟩ := trodAll_cons hA
  obtain ⟨rfl, rfl, rfl⟩ := trodAll_nil hA
  obtain ⟨g0, hg0, r0⟩ := arg_agg (n := 8) (t := 43) (ks := [.int .i64, .int .i64, .list false [.int .i64], .list true [.int .i64, .list false [.int .i64], .list false [.int .i64], .list false [.int .i64], .list false [.int .i64]]]) (by kernel_rfl) (by kernel_rfl) (hval 0 43 v0 (by rw [hps]; rfl) rfl) h0 (hwt 0 43 d0 (by rw [hps]; rfl) rfl)
  obtain ⟨x0_0, x0_1, x0_2, x0_3, rfl⟩ : ∃ x0_0 x0_1 x0_2 x0_3, g0 = [x0_0, x0_1, x0_2, x0_3] := by
    match g0, hg0 with
    | [x0_0, x0_1, x0_2, x0_3], _ => exact ⟨_, _, _, _, rfl⟩
  obtain ⟨g1, hg1, r1⟩ := arg_agg (n := 8) (t := 45) (ks := [.int .i64, .int .i64, .int .i64, .int .i64, .int .i64, .int .i64, .bool, .list false [.int .i64]]) (by kernel_rfl) (by kernel_rfl) (hval 1 45 v1 (by rw [hps]; rfl) rfl) h1 (hwt 1 45 d1 (by rw [hps]; rfl) rfl)
  obtain ⟨x1_0, x1_1, x1_2, x1_3, x1_4, x1_5, x1_6, x1_7, rfl⟩ : ∃ x1_0 x1_1 x1_2 x1_3 x1_4 x1_5 x1_6 x1_7, g1 = [x1_0, x1_1, x1_2, x1_3, x1_4, x1_5, x1_6, x1_7] := by
    match g1, hg1 with
    | [x1_0, x1_1, x1_2, x1_3, x1_4, x1_5, x1_6, x1_7], _ => exact ⟨_, _, _, _, _, _, _, _, rfl⟩
  obtain ⟨x2, r2⟩ := arg_one (n := 8) (t := 40) (k := (.list false [.int .i64])) (by kernel_rfl) (by kernel_rfl) (hval 2 40 v2 (by rw [hps]; rfl) rfl) h2 (hwt 2 40 d2 (by rw [hps]; rfl) rfl)
  refine ⟨[.agg [.int .i64 x0_0.toInt, .int .i64 x0_1.toInt, .list false [.int .i64] x0_2.toList, .list true [.int .i64, .list false [.int .i64], .list false [.int .i64], .list false [.int .i64], .list false [.int .i64]] x0_3.toList], .agg [.int .i64 x1_0.toInt, .int .i64 x1_1.toInt, .int .i64 x1_2.toInt, .int .i64 x1_3.toInt, .int .i64 x1_4.toInt, .int .i64 x1_5.toInt, .bool x1_6.toBool, .list false [.int .i64] x1_7.toList], .list false [.int .i64] x2.toList], rfl, rfl, ?_⟩
  simp only [List.map_cons, List.map_nil, entV, VRels]
  exact ⟨r0, r1, r2, trivial⟩

theorem searchPoint_holds : Rows.SearchPointSaid :=
  OpenClaim.holds_of_wide 4 Try.f4 rfl rfl rfl rfl rfl rfl rfl ⟨rfl, rfl, rfl, rfl, rfl⟩ rfl rfl rfl rfl rfl (by kernel_rfl) Try.func4 (by kernel_rfl)
    (of_decide_eq_true (by kernel_rfl)) (by unfold Func.isWrapper; first | (rw [if_pos (by decide +kernel)]; kernel_rfl) | (rw [if_neg (by decide +kernel)]; exact ⟨rfl, rfl⟩))
    (fun os started H enc _ => by rw [OpenClaim.pre_eq_preRow]; exact searchPoint_lifted os started H enc)

#print axioms searchPoint_holds
end Go.Proofs.Ytlfpmpdmoggdhaa
