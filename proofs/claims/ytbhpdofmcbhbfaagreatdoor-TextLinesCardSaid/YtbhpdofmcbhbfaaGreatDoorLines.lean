/-
  copselaw9.TextLines: it returns true, whatever the arguments; they read as they did: the row and its card (the row's listed variables tied to the program's text).

-/
import Derived.Test.YtbhpdofmcbhbfaaGreatDoorXlw
import Derived.Test.YtbhpdofmcbhbfaaGreatDoorRov

/-
  copselaw9.TextLines: it returns true, whatever the arguments; they read as they did: the row and its card (the row's listed variables tied to the program's text).
-/
namespace Go.Proofs.YtbhpdofmcbhbfaaGreatDoor
open Go Go.ChangeShapes Go.WideShapes Go.ChangeAt Go.RowKit Go.FM

set_option maxRecDepth 100000 in
theorem textLines_lifted (os : Os) (started : os.Started) (H : Type) (enc : TypeId × Value → H) :
    ReturnsInHanded {} Tryz.checked os 7 .any ((OpenSpec.ofChange Rows.textLinesSpec).preRow enc Tryz.prog Tryz.f7 [] false seatLaid) (Rows.textLinesSpec.post enc Tryz.prog Tryz.f7 false true false false) := by
  refine law_lifted started snd_copselaw9_TextLines Tryz.func7 (by kernel_rfl) (by kernel_rfl) (by kernel_rfl) (by kernel_rfl) rfl (fun ds hds => ?_) (by kernel_rfl) (fun W hL hsh => seat_glob hL hsh)
    (ChangeSpec.witness_shaped (enc := enc) (C := Tryz.checked) (os := os) (X := fun w _ => laidMetH Tryz.prog seatLaid w) false (seatWorld os) #[.agg #[.int .i64 0, .int .i64 0, .slice none 0 0, .slice none 0 0], .agg #[.int .i64 0, .slice none 0 0, .slice none 0 0, .slice none 0 0, .slice none 0 0]] 8 rfl (World.shaped_of_RefB (by kernel_rfl) (by kernel_rfl)) (by kernel_rfl) (by kernel_rfl) (by kernel_rfl) (seat_met os _)) ?_
  · rw [Tryz.params7] at hds
    match ds, hds with
    | [d0, d1], _ => rfl
  intro W base vs ds p hA hval hwt
  have hps : Tryz.f7.params.toList = [41, 49] := by rw [Tryz.params7]
  rw [hps] at hA
  obtain ⟨v0, vs0, d0, ds0, q0, u0, rfl, rfl, rfl, h0, hA⟩ := trodAll_cons hA
  obtain ⟨v1, vs1, d1, ds1, q1, u1, rfl, rfl, rfl, h1, hA⟩ := trodAll_cons hA
  obtain ⟨rfl, rfl, rfl⟩ := trodAll_nil hA
  obtain ⟨g0, hg0, r0⟩ := arg_agg (n := 8) (t := 41) (ks := [.int .i64, .int .i64, .list false [.int .i64], .list true [.int .i64, .list false [.int .i64], .list false [.int .i64], .list false [.int .i64], .list false [.int .i64]]]) (by kernel_rfl) (by kernel_rfl) (hval 0 41 v0 (by rw [hps]; rfl) rfl) h0 (hwt 0 41 d0 (by rw [hps]; rfl) rfl)
  obtain ⟨x0_0, x0_1, x0_2, x0_3, rfl⟩ : ∃ x0_0 x0_1 x0_2 x0_3, g0 = [x0_0, x0_1, x0_2, x0_3] := by
    match g0, hg0 with
    | [x0_0, x0_1, x0_2, x0_3], _ => exact ⟨_, _, _, _, rfl⟩
  obtain ⟨g1, hg1, r1⟩ := arg_agg (n := 8) (t := 49) (ks := [.int .i64, .list false [.int .i64], .list false [.int .i64], .list false [.int .i64], .list false [.int .i64]]) (by kernel_rfl) (by kernel_rfl) (hval 1 49 v1 (by rw [hps]; rfl) rfl) h1 (hwt 1 49 d1 (by rw [hps]; rfl) rfl)
  obtain ⟨x1_0, x1_1, x1_2, x1_3, x1_4, rfl⟩ : ∃ x1_0 x1_1 x1_2 x1_3 x1_4, g1 = [x1_0, x1_1, x1_2, x1_3, x1_4] := by
    match g1, hg1 with
    | [x1_0, x1_1, x1_2, x1_3, x1_4], _ => exact ⟨_, _, _, _, _, rfl⟩
  refine ⟨[.agg [.int .i64 x0_0.toInt, .int .i64 x0_1.toInt, .list false [.int .i64] x0_2.toList, .list true [.int .i64, .list false [.int .i64], .list false [.int .i64], .list false [.int .i64], .list false [.int .i64]] x0_3.toList], .agg [.int .i64 x1_0.toInt, .list false [.int .i64] x1_1.toList, .list false [.int .i64] x1_2.toList, .list false [.int .i64] x1_3.toList, .list false [.int .i64] x1_4.toList]], rfl, rfl, ?_⟩
  simp only [List.map_cons, List.map_nil, entV, VRels]
  exact ⟨r0, r1, trivial⟩

theorem textLines_holds : Rows.TextLinesSaid :=
  OpenClaim.holds_of_wide 7 Tryz.f7 rfl rfl rfl rfl rfl rfl rfl ⟨rfl, rfl, rfl, rfl, rfl⟩ rfl rfl rfl rfl rfl (by kernel_rfl) Tryz.func7 (by kernel_rfl)
    (of_decide_eq_true (by kernel_rfl)) (by unfold Func.isWrapper; first | (rw [if_pos (by decide +kernel)]; kernel_rfl) | (rw [if_neg (by decide +kernel)]; exact ⟨rfl, rfl⟩))
    (fun os started H enc _ => by rw [OpenClaim.pre_eq_preRow]; exact textLines_lifted os started H enc)

theorem textLines_card : Rows.TextLinesCardSaid :=
  Claim7.holds_tied_plain_at .later [] [.data, .data, .data, .data, .sentinel, .sentinel, .pinned] true (true, "3bf0c58bf0f18b276d690fd2e20620845a768755bd9998b92bdcfd510caf9221") true
    textLines_holds (fun _ h => by cases h) (by kernel_rfl) (fun _ h => by cases h) textLines_row_tie rfl ⟨rfl, rfl⟩ (by kernel_rfl) rfl
    (fun f fn hf hfn => by
      obtain rfl : f = 7 := Option.some.inj ((show Tryz.prog.funcNamed "copse/copselaw9.TextLines" = some 7 by kernel_rfl).symm.trans hf) |>.symm
      obtain rfl : fn = Tryz.f7 := (Option.some.inj (Tryz.func7.symm.trans hfn)).symm
      exact ⟨by kernel_rfl, fun j t ht => by
        rw [Tryz.params7] at ht
        have hm : t ∈ [41, 49] := by simpa using Array.mem_of_getElem? ht
        have hall : ([41, 49].all fun u => !Tryz.prog.wantsStandIn u) = true := by kernel_rfl
        exact (show Tryz.prog.wantsStandIn t = false by simpa using List.all_eq_true.1 hall t hm)⟩)
    (by kernel_rfl)
#print axioms textLines_card
end Go.Proofs.YtbhpdofmcbhbfaaGreatDoor
