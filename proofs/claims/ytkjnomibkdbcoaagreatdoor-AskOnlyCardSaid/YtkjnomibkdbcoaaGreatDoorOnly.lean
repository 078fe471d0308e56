/-
  copselaw11.AskOnly: it returns true, whatever the arguments; they read as they did: the row and its card (the row's listed variables tied to the program's text).

-/
import Derived.Test.YtkjnomibkdbcoaaGreatDoorAlw
import Derived.Test.YtkjnomibkdbcoaaGreatDoorRov

/-
  copselaw11.AskOnly: it returns true, whatever the arguments; they read as they did: the row and its card (the row's listed variables tied to the program's text).
-/
namespace Go.Proofs.YtkjnomibkdbcoaaGreatDoor
open Go Go.ChangeShapes Go.WideShapes Go.ChangeAt Go.RowKit Go.FM

set_option maxRecDepth 100000 in
theorem askOnly_lifted (os : Os) (started : os.Started) (H : Type) (enc : TypeId × Value → H) :
    ReturnsInHanded {} Tryz.checked os 4 .any ((OpenSpec.ofChange Rows.askOnlySpec).preRow enc Tryz.prog Tryz.f4 [] false seatLaid) (Rows.askOnlySpec.post enc Tryz.prog Tryz.f4 false true false false) := by
  refine law_lifted started snd_copselaw11_AskOnly Tryz.func4 (by kernel_rfl) (by kernel_rfl) (by kernel_rfl) (by kernel_rfl) rfl (fun ds hds => ?_) (by kernel_rfl) (fun W hL hsh => seat_glob hL hsh)
    (ChangeSpec.witness_shaped (enc := enc) (C := Tryz.checked) (os := os) (X := fun w _ => laidMetH Tryz.prog seatLaid w) false (seatWorld os) #[.agg #[.int .i64 0, .int .i64 0, .slice none 0 0, .slice none 0 0], .agg #[.int .i64 0, .int .i64 0, .int .i64 0, .int .i64 0, .int .i64 0, .int .i64 0, .bool false, .slice none 0 0], .string ⟨#[]⟩, .int .i64 0, .int .u8 0, .int .i64 0] 8 rfl (World.shaped_of_RefB (by kernel_rfl) (by kernel_rfl)) (by kernel_rfl) (by kernel_rfl) (by kernel_rfl) (seat_met os _)) ?_
  · rw [Tryz.params4] at hds
    match ds, hds with
    | [d0, d1, d2, d3, d4, d5], _ => rfl
  intro W base vs ds p hA hval hwt
  have hps : Tryz.f4.params.toList = [25, 27, 9, 3, 5, 3] := by rw [Tryz.params4]
  rw [hps] at hA
  obtain ⟨v0, vs0, d0, ds0, q0, u0, rfl, rfl, rfl, h0, hA⟩ := trodAll_cons hA
  obtain ⟨v1, vs1, d1, ds1, q1, u1, rfl, rfl, rfl, h1, hA⟩ := trodAll_cons hA
  obtain ⟨v2, vs2, d2, ds2, q2, u2, rfl, rfl, rfl, h2, hA⟩ := trodAll_cons hA
  obtain ⟨v3, vs3, d3, ds3, q3, u3, rfl, rfl, rfl, h3, hA⟩ := trodAll_cons hA
  obtain ⟨v4, vs4, d4, ds4, q4, u4, rfl, rfl, rfl, h4, hA⟩ := trodAll_cons hA
  obtain ⟨v5, vs5, d5, ds5, q5, u5, rfl, rfl, rfl, h5, hA⟩ := trodAll_cons hA
  obtain ⟨rfl, rfl, rfl⟩ := trodAll_nil hA
  obtain ⟨g0, hg0, r0⟩ := arg_agg (n := 8) (t := 25) (ks := [.int .i64, .int .i64, .list false [.int .i64], .list true [.int .i64, .list false [.int .i64], .list false [.int .i64], .list false [.int .i64], .list false [.int .i64]]]) (by kernel_rfl) (by kernel_rfl) (hval 0 25 v0 (by rw [hps]; rfl) rfl) h0 (hwt 0 25 d0 (by rw [hps]; rfl) rfl)
  obtain ⟨x0_0, x0_1, x0_2, x0_3, rfl⟩ : ∃ x0_0 x0_1 x0_2 x0_3, g0 = [x0_0, x0_1, x0_2, x0_3] := by
    match g0, hg0 with
    | [x0_0, x0_1, x0_2, x0_3], _ => exact ⟨_, _, _, _, rfl⟩
  obtain ⟨g1, hg1, r1⟩ := arg_agg (n := 8) (t := 27) (ks := [.int .i64, .int .i64, .int .i64, .int .i64, .int .i64, .int .i64, .bool, .list false [.int .i64]]) (by kernel_rfl) (by kernel_rfl) (hval 1 27 v1 (by rw [hps]; rfl) rfl) h1 (hwt 1 27 d1 (by rw [hps]; rfl) rfl)
  obtain ⟨x1_0, x1_1, x1_2, x1_3, x1_4, x1_5, x1_6, x1_7, rfl⟩ : ∃ x1_0 x1_1 x1_2 x1_3 x1_4 x1_5 x1_6 x1_7, g1 = [x1_0, x1_1, x1_2, x1_3, x1_4, x1_5, x1_6, x1_7] := by
    match g1, hg1 with
    | [x1_0, x1_1, x1_2, x1_3, x1_4, x1_5, x1_6, x1_7], _ => exact ⟨_, _, _, _, _, _, _, _, rfl⟩
  obtain ⟨x2, r2⟩ := arg_one (n := 8) (t := 9) (k := .str) (by kernel_rfl) (by kernel_rfl) (hval 2 9 v2 (by rw [hps]; rfl) rfl) h2 (hwt 2 9 d2 (by rw [hps]; rfl) rfl)
  obtain ⟨x3, r3⟩ := arg_one (n := 8) (t := 3) (k := .int .i64) (by kernel_rfl) (by kernel_rfl) (hval 3 3 v3 (by rw [hps]; rfl) rfl) h3 (hwt 3 3 d3 (by rw [hps]; rfl) rfl)
  obtain ⟨x4, r4⟩ := arg_one (n := 8) (t := 5) (k := .int .u8) (by kernel_rfl) (by kernel_rfl) (hval 4 5 v4 (by rw [hps]; rfl) rfl) h4 (hwt 4 5 d4 (by rw [hps]; rfl) rfl)
  obtain ⟨x5, r5⟩ := arg_one (n := 8) (t := 3) (k := .int .i64) (by kernel_rfl) (by kernel_rfl) (hval 5 3 v5 (by rw [hps]; rfl) rfl) h5 (hwt 5 3 d5 (by rw [hps]; rfl) rfl)
  refine ⟨[.agg [.int .i64 x0_0.toInt, .int .i64 x0_1.toInt, .list false [.int .i64] x0_2.toList, .list true [.int .i64, .list false [.int .i64], .list false [.int .i64], .list false [.int .i64], .list false [.int .i64]] x0_3.toList], .agg [.int .i64 x1_0.toInt, .int .i64 x1_1.toInt, .int .i64 x1_2.toInt, .int .i64 x1_3.toInt, .int .i64 x1_4.toInt, .int .i64 x1_5.toInt, .bool x1_6.toBool, .list false [.int .i64] x1_7.toList], .str x2.toStr, .int .i64 x3.toInt, .int .u8 x4.toInt, .int .i64 x5.toInt], rfl, rfl, ?_⟩
  simp only [List.map_cons, List.map_nil, entV, VRels]
  exact ⟨r0, r1, r2, r3, r4, r5, trivial⟩

theorem askOnly_holds : Rows.AskOnlySaid :=
  OpenClaim.holds_of_wide 4 Tryz.f4 rfl rfl rfl rfl rfl rfl rfl ⟨rfl, rfl, rfl, rfl, rfl⟩ rfl rfl rfl rfl rfl (by kernel_rfl) Tryz.func4 (by kernel_rfl)
    (of_decide_eq_true (by kernel_rfl)) (by unfold Func.isWrapper; first | (rw [if_pos (by decide +kernel)]; kernel_rfl) | (rw [if_neg (by decide +kernel)]; exact ⟨rfl, rfl⟩))
    (fun os started H enc _ => by rw [OpenClaim.pre_eq_preRow]; exact askOnly_lifted os started H enc)

theorem askOnly_card : Rows.AskOnlyCardSaid :=
  Claim7.holds_tied_plain_at .later [] [.data, .data, .data, .data, .sentinel, .sentinel, .pinned] true (true, "23f53453403962b1b2cf77f562e973d1fd11999960c0216ba42094e91fc00ab6") true
    askOnly_holds (fun _ h => by cases h) (by kernel_rfl) (fun _ h => by cases h) askOnly_row_tie rfl ⟨rfl, rfl⟩ (by kernel_rfl) rfl
    (fun f fn hf hfn => by
      obtain rfl : f = 4 := Option.some.inj ((show Tryz.prog.funcNamed "copse/copselaw11.AskOnly" = some 4 by kernel_rfl).symm.trans hf) |>.symm
      obtain rfl : fn = Tryz.f4 := (Option.some.inj (Tryz.func4.symm.trans hfn)).symm
      exact ⟨by kernel_rfl, fun j t ht => by
        rw [Tryz.params4] at ht
        have hm : t ∈ [25, 27, 9, 3, 5, 3] := by simpa using Array.mem_of_getElem? ht
        have hall : ([25, 27, 9, 3, 5, 3].all fun u => !Tryz.prog.wantsStandIn u) = true := by kernel_rfl
        exact (show Tryz.prog.wantsStandIn t = false by simpa using List.all_eq_true.1 hall t hm)⟩)
    (by kernel_rfl)
#print axioms askOnly_card
end Go.Proofs.YtkjnomibkdbcoaaGreatDoor
