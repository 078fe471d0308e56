/-
  copselaw9.TextRuns: it returns true, whatever the arguments; they read as they did: the row and its card (the row's listed variables tied to the program's text).

-/
import Derived.Test.YtbhpdofmcbhbfaaGreatDoorXlw
import Derived.Test.YtbhpdofmcbhbfaaGreatDoorRov

/-
  copselaw9.TextRuns: it returns true, whatever the arguments; they read as they did: the row and its card (the row's listed variables tied to the program's text).
-/
namespace Go.Proofs.YtbhpdofmcbhbfaaGreatDoor
open Go Go.ChangeShapes Go.WideShapes Go.ChangeAt Go.RowKit Go.FM

set_option maxRecDepth 100000 in
theorem textRuns_lifted (os : Os) (started : os.Started) (H : Type) (enc : TypeId × Value → H) :
    ReturnsInHanded {} Tryz.checked os 3 .any ((OpenSpec.ofChange Rows.textRunsSpec).preRow enc Tryz.prog Tryz.f3 [] false seatLaid) (Rows.textRunsSpec.post enc Tryz.prog Tryz.f3 false true false false) := by
  refine law_lifted started snd_copselaw9_TextRuns Tryz.func3 (by kernel_rfl) (by kernel_rfl) (by kernel_rfl) (by kernel_rfl) rfl (fun ds hds => ?_) (by kernel_rfl) (fun W hL hsh => seat_glob hL hsh)
    (ChangeSpec.witness_shaped (enc := enc) (C := Tryz.checked) (os := os) (X := fun w _ => laidMetH Tryz.prog seatLaid w) false (seatWorld os) #[] 8 rfl (World.shaped_of_RefB (by kernel_rfl) (by kernel_rfl)) (by kernel_rfl) (by kernel_rfl) (by kernel_rfl) (seat_met os _)) ?_
  · rw [Tryz.params3] at hds
    match ds, hds with
    | [], _ => rfl
  intro W base vs ds p hA hval hwt
  have hps : Tryz.f3.params.toList = [] := by rw [Tryz.params3]
  rw [hps] at hA
  obtain ⟨rfl, rfl, rfl⟩ := trodAll_nil hA
  refine ⟨[], rfl, rfl, ?_⟩
  simp only [List.map_cons, List.map_nil, entV, VRels]

theorem textRuns_holds : Rows.TextRunsSaid :=
  OpenClaim.holds_of_wide 3 Tryz.f3 rfl rfl rfl rfl rfl rfl rfl ⟨rfl, rfl, rfl, rfl, rfl⟩ rfl rfl rfl rfl rfl (by kernel_rfl) Tryz.func3 (by kernel_rfl)
    (of_decide_eq_true (by kernel_rfl)) (by unfold Func.isWrapper; first | (rw [if_pos (by decide +kernel)]; kernel_rfl) | (rw [if_neg (by decide +kernel)]; exact ⟨rfl, rfl⟩))
    (fun os started H enc _ => by rw [OpenClaim.pre_eq_preRow]; exact textRuns_lifted os started H enc)

theorem textRuns_card : Rows.TextRunsCardSaid :=
  Claim7.holds_tied_plain_at .later [] [.data, .data, .data, .data, .sentinel, .sentinel, .pinned] true (true, "3bf0c58bf0f18b276d690fd2e20620845a768755bd9998b92bdcfd510caf9221") true
    textRuns_holds (fun _ h => by cases h) (by kernel_rfl) (fun _ h => by cases h) textRuns_row_tie rfl ⟨rfl, rfl⟩ (by kernel_rfl) rfl
    (fun f fn hf hfn => by
      obtain rfl : f = 3 := Option.some.inj ((show Tryz.prog.funcNamed "copse/copselaw9.TextRuns" = some 3 by kernel_rfl).symm.trans hf) |>.symm
      obtain rfl : fn = Tryz.f3 := (Option.some.inj (Tryz.func3.symm.trans hfn)).symm
      exact ⟨by kernel_rfl, fun j t ht => by
        rw [Tryz.params3] at ht
        simp at ht⟩)
    (by kernel_rfl)
#print axioms textRuns_card
end Go.Proofs.YtbhpdofmcbhbfaaGreatDoor
