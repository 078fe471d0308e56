/-
  copselaw11.AskRaw: it returns true, whatever the arguments; they read as they did: the row and its card (the row's listed variables tied to the program's text).

-/
import Derived.Test.YtkjnomibkdbcoaaDoorAlw
import Derived.Test.YtkjnomibkdbcoaaDoorRov

/-
  copselaw11.AskRaw: it returns true, whatever the arguments; they read as they did: the row and its card (the row's listed variables tied to the program's text).
-/
namespace Go.Proofs.YtkjnomibkdbcoaaDoor
open Go Go.ChangeShapes Go.WideShapes Go.ChangeAt Go.RowKit Go.FM

set_option maxRecDepth 100000 in
theorem askRaw_lifted (os : Os) (started : os.Started) (H : Type) (enc : TypeId × Value → H) :
    ReturnsInHanded {} Tryd.checked os 4 .any ((OpenSpec.ofChange Rows.askRawSpec).preRow enc Tryd.prog Tryd.f4 [] false seatLaid) (Rows.askRawSpec.post enc Tryd.prog Tryd.f4 false true false false) := by
  refine law_lifted started snd_copselaw11_AskRaw Tryd.func4 (by kernel_rfl) (by kernel_rfl) (by kernel_rfl) (by kernel_rfl) rfl (fun ds hds => ?_) (by kernel_rfl) (fun W hL hsh => seat_glob hL hsh)
    (ChangeSpec.witness_shaped (enc := enc) (C := Tryd.checked) (os := os) (X := fun w _ => laidMetH Tryd.prog seatLaid w) false (seatWorld os) #[.agg #[.int .i64 0, .int .i64 0, .int .i64 0, .int .i64 0, .int .i64 0, .int .i64 0, .int .i64 0, .int .i64 0, .int .i64 0, .int .i64 0, .int .i64 0, .int .i64 0, .int .i64 0, .int .i64 0, .int .i64 0, .bool false, .int .i64 0], .int .i64 0] 8 rfl (World.shaped_of_RefB (by kernel_rfl) (by kernel_rfl)) (by kernel_rfl) (by kernel_rfl) (by kernel_rfl) (seat_met os _)) ?_
  · rw [Tryd.params4] at hds
    match ds, hds with
    | [d0, d1], _ => rfl
  intro W base vs ds p hA hval hwt
  have hps : Tryd.f4.params.toList = [27, 3] := by rw [Tryd.params4]
  rw [hps] at hA
  obtain ⟨v0, vs0, d0, ds0, q0, u0, rfl, rfl, rfl, h0, hA⟩ := trodAll_cons hA
  obtain ⟨v1, vs1, d1, ds1, q1, u1, rfl, rfl, rfl, h1, hA⟩ := trodAll_cons hA
  obtain ⟨rfl, rfl, rfl⟩ := trodAll_nil hA
  obtain ⟨g0, hg0, r0⟩ := arg_agg (n := 8) (t := 27) (ks := [.int .i64, .int .i64, .int .i64, .int .i64, .int .i64, .int .i64, .int .i64, .int .i64, .int .i64, .int .i64, .int .i64, .int .i64, .int .i64, .int .i64, .int .i64, .bool, .int .i64]) (by kernel_rfl) (by kernel_rfl) (hval 0 27 v0 (by rw [hps]; rfl) rfl) h0 (hwt 0 27 d0 (by rw [hps]; rfl) rfl)
  obtain ⟨x0_0, x0_1, x0_2, x0_3, x0_4, x0_5, x0_6, x0_7, x0_8, x0_9, x0_10, x0_11, x0_12, x0_13, x0_14, x0_15, x0_16, rfl⟩ : ∃ x0_0 x0_1 x0_2 x0_3 x0_4 x0_5 x0_6 x0_7 x0_8 x0_9 x0_10 x0_11 x0_12 x0_13 x0_14 x0_15 x0_16, g0 = [x0_0, x0_1, x0_2, x0_3, x0_4, x0_5, x0_6, x0_7, x0_8, x0_9, x0_10, x0_11, x0_12, x0_13, x0_14, x0_15, x0_16] := by
    match g0, hg0 with
    | [x0_0, x0_1, x0_2, x0_3, x0_4, x0_5, x0_6, x0_7, x0_8, x0_9, x0_10, x0_11, x0_12, x0_13, x0_14, x0_15, x0_16], _ => exact ⟨_, _, _, _, _, _, _, _, _, _, _, _, _, _, _, _, _, rfl⟩
  obtain ⟨x1, r1⟩ := arg_one (n := 8) (t := 3) (k := .int .i64) (by kernel_rfl) (by kernel_rfl) (hval 1 3 v1 (by rw [hps]; rfl) rfl) h1 (hwt 1 3 d1 (by rw [hps]; rfl) rfl)
  refine ⟨[.agg [.int .i64 x0_0.toInt, .int .i64 x0_1.toInt, .int .i64 x0_2.toInt, .int .i64 x0_3.toInt, .int .i64 x0_4.toInt, .int .i64 x0_5.toInt, .int .i64 x0_6.toInt, .int .i64 x0_7.toInt, .int .i64 x0_8.toInt, .int .i64 x0_9.toInt, .int .i64 x0_10.toInt, .int .i64 x0_11.toInt, .int .i64 x0_12.toInt, .int .i64 x0_13.toInt, .int .i64 x0_14.toInt, .bool x0_15.toBool, .int .i64 x0_16.toInt], .int .i64 x1.toInt], rfl, rfl, ?_⟩
  simp only [List.map_cons, List.map_nil, entV, VRels]
  exact ⟨r0, r1, trivial⟩

theorem askRaw_holds : Rows.AskRawSaid :=
  OpenClaim.holds_of_wide 4 Tryd.f4 rfl rfl rfl rfl rfl rfl rfl ⟨rfl, rfl, rfl, rfl, rfl⟩ rfl rfl rfl rfl rfl (by kernel_rfl) Tryd.func4 (by kernel_rfl)
    (of_decide_eq_true (by kernel_rfl)) (by unfold Func.isWrapper; first | (rw [if_pos (by decide +kernel)]; kernel_rfl) | (rw [if_neg (by decide +kernel)]; exact ⟨rfl, rfl⟩))
    (fun os started H enc _ => by rw [OpenClaim.pre_eq_preRow]; exact askRaw_lifted os started H enc)

theorem askRaw_card : Rows.AskRawCardSaid :=
  Claim7.holds_tied_plain_at .later [] [.data, .data, .data, .data, .sentinel, .sentinel, .pinned] true (true, "19937185d6e42056c2d18ecbc2cf57a1d17c6dd74d16786a02dfa789145a1adc") true
    askRaw_holds (fun _ h => by cases h) (by kernel_rfl) (fun _ h => by cases h) askRaw_row_tie rfl ⟨rfl, rfl⟩ (by kernel_rfl) rfl
    (fun f fn hf hfn => by
      obtain rfl : f = 4 := Option.some.inj ((show Tryd.prog.funcNamed "copse/copselaw11.AskRaw" = some 4 by kernel_rfl).symm.trans hf) |>.symm
      obtain rfl : fn = Tryd.f4 := (Option.some.inj (Tryd.func4.symm.trans hfn)).symm
      exact ⟨by kernel_rfl, fun j t ht => by
        rw [Tryd.params4] at ht
        have hm : t ∈ [27, 3] := by simpa using Array.mem_of_getElem? ht
        have hall : ([27, 3].all fun u => !Tryd.prog.wantsStandIn u) = true := by kernel_rfl
        exact (show Tryd.prog.wantsStandIn t = false by simpa using List.all_eq_true.1 hall t hm)⟩)
    (by kernel_rfl)
#print axioms askRaw_card
end Go.Proofs.YtkjnomibkdbcoaaDoor
