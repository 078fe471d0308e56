/-
  copselaw3.DecRuns: it returns true, whatever the arguments; they read as they did: the row and its card (the row's listed variables tied to the program's text).

-/
import Derived.Test.YtcipbjijlfkbbaaDoorDlw
import Derived.Test.YtcipbjijlfkbbaaDoorRov

/-
  copselaw3.DecRuns: it returns true, whatever the arguments; they read as they did: the row and its card (the row's listed variables tied to the program's text).
-/
namespace Go.Proofs.YtcipbjijlfkbbaaDoor
open Go Go.ChangeShapes Go.WideShapes Go.ChangeAt Go.RowKit Go.FM

set_option maxRecDepth 100000 in
theorem decRuns_lifted (os : Os) (started : os.Started) (H : Type) (enc : TypeId × Value → H) :
    ReturnsInHanded {} Tryd.checked os 3 .any ((OpenSpec.ofChange Rows.decRunsSpec).preRow enc Tryd.prog Tryd.f3 [] false seatLaid) (Rows.decRunsSpec.post enc Tryd.prog Tryd.f3 false true false false) := by
  refine law_lifted started snd_copselaw3_DecRuns Tryd.func3 (by kernel_rfl) (by kernel_rfl) (by kernel_rfl) (by kernel_rfl) rfl (fun ds hds => ?_) (by kernel_rfl) (fun W hL hsh => seat_glob hL hsh)
    (ChangeSpec.witness_shaped (enc := enc) (C := Tryd.checked) (os := os) (X := fun w _ => laidMetH Tryd.prog seatLaid w) false (seatWorld os) #[] 8 rfl (World.shaped_of_RefB (by kernel_rfl) (by kernel_rfl)) (by kernel_rfl) (by kernel_rfl) (by kernel_rfl) (seat_met os _)) ?_
  · rw [Tryd.params3] at hds
    match ds, hds with
    | [], _ => rfl
  intro W base vs ds p hA hval hwt
  have hps : Tryd.f3.params.toList = [] := by rw [Tryd.params3]
  rw [hps] at hA
  obtain ⟨rfl, rfl, rfl⟩ := trodAll_nil hA
  refine ⟨[], rfl, rfl, ?_⟩
  simp only [List.map_cons, List.map_nil, entV, VRels]

theorem decRuns_holds : Rows.DecRunsSaid :=
  OpenClaim.holds_of_wide 3 Tryd.f3 rfl rfl rfl rfl rfl rfl rfl ⟨rfl, rfl, rfl, rfl, rfl⟩ rfl rfl rfl rfl rfl (by kernel_rfl) Tryd.func3 (by kernel_rfl)
    (of_decide_eq_true (by kernel_rfl)) (by unfold Func.isWrapper; first | (rw [if_pos (by decide +kernel)]; kernel_rfl) | (rw [if_neg (by decide +kernel)]; exact ⟨rfl, rfl⟩))
    (fun os started H enc _ => by rw [OpenClaim.pre_eq_preRow]; exact decRuns_lifted os started H enc)

theorem decRuns_card : Rows.DecRunsCardSaid :=
  Claim7.holds_tied_plain_at .later [] [.data, .data, .data, .data, .sentinel, .sentinel, .pinned] true (true, "c4ff8750df2c882ad47b4d52764a436768c86be3b9f8c46d8709d5c8e100cf0c") true
    decRuns_holds (fun _ h => by cases h) (by kernel_rfl) (fun _ h => by cases h) decRuns_row_tie rfl ⟨rfl, rfl⟩ (by kernel_rfl) rfl
    (fun f fn hf hfn => by
      obtain rfl : f = 3 := Option.some.inj ((show Tryd.prog.funcNamed "copse/copselaw3.DecRuns" = some 3 by kernel_rfl).symm.trans hf) |>.symm
      obtain rfl : fn = Tryd.f3 := (Option.some.inj (Tryd.func3.symm.trans hfn)).symm
      exact ⟨by kernel_rfl, fun j t ht => by
        rw [Tryd.params3] at ht
        simp at ht⟩)
    (by kernel_rfl)
#print axioms decRuns_card
end Go.Proofs.YtcipbjijlfkbbaaDoor
