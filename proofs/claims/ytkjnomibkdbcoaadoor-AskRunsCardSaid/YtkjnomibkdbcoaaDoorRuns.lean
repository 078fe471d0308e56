/-
  copselaw11.AskRuns: it returns true, whatever the arguments; they read as they did: the row and its card (the row's listed variables tied to the program's text).

-/
import Derived.Test.YtkjnomibkdbcoaaDoorAlw
import Derived.Test.YtkjnomibkdbcoaaDoorRov

/-
  copselaw11.AskRuns: it returns true, whatever the arguments; they read as they did: the row and its card (the row's listed variables tied to the program's text).
-/
namespace Go.Proofs.YtkjnomibkdbcoaaDoor
open Go Go.ChangeShapes Go.WideShapes Go.ChangeAt Go.RowKit Go.FM

set_option maxRecDepth 100000 in
theorem askRuns_lifted (os : Os) (started : os.Started) (H : Type) (enc : TypeId × Value → H) :
    ReturnsInHanded {} Tryd.checked os 3 .any ((OpenSpec.ofChange Rows.askRunsSpec).preRow enc Tryd.prog Tryd.f3 [] false seatLaid) (Rows.askRunsSpec.post enc Tryd.prog Tryd.f3 false true false false) := by
  refine law_lifted started snd_copselaw11_AskRuns Tryd.func3 (by kernel_rfl) (by kernel_rfl) (by kernel_rfl) (by kernel_rfl) rfl (fun ds hds => ?_) (by kernel_rfl) (fun W hL hsh => seat_glob hL hsh)
    (ChangeSpec.witness_shaped (enc := enc) (C := Tryd.checked) (os := os) (X := fun w _ => laidMetH Tryd.prog seatLaid w) false (seatWorld os) #[] 8 rfl (World.shaped_of_RefB (by kernel_rfl) (by kernel_rfl)) (by kernel_rfl) (by kernel_rfl) (by kernel_rfl) (seat_met os _)) ?_
  · rw [Tryd.params3] at hds
    match ds, hds with
    | [], _ => rfl
  intro W base vs ds p hA hval hwt
  have hps : Tryd.f3.params.toList = [] := by rw [Tryd.params3]
  rw [hps] at hA
  obtain ⟨rfl, rfl, rfl⟩ := trodAll_nil hA
  refine ⟨[], rfl, rfl, ?_⟩
  simp only [List.map_cons, List.map_nil, entV, VRels]

theorem askRuns_holds : Rows.AskRunsSaid :=
  OpenClaim.holds_of_wide 3 Tryd.f3 rfl rfl rfl rfl rfl rfl rfl ⟨rfl, rfl, rfl, rfl, rfl⟩ rfl rfl rfl rfl rfl (by kernel_rfl) Tryd.func3 (by kernel_rfl)
    (of_decide_eq_true (by kernel_rfl)) (by unfold Func.isWrapper; first | (rw [if_pos (by decide +kernel)]; kernel_rfl) | (rw [if_neg (by decide +kernel)]; exact ⟨rfl, rfl⟩))
    (fun os started H enc _ => by rw [OpenClaim.pre_eq_preRow]; exact askRuns_lifted os started H enc)

theorem askRuns_card : Rows.AskRunsCardSaid :=
  Claim7.holds_tied_plain_at .later [] [.data, .data, .data, .data, .sentinel, .sentinel, .pinned] true (true, "19937185d6e42056c2d18ecbc2cf57a1d17c6dd74d16786a02dfa789145a1adc") true
    askRuns_holds (fun _ h => by cases h) (by kernel_rfl) (fun _ h => by cases h) askRuns_row_tie rfl ⟨rfl, rfl⟩ (by kernel_rfl) rfl
    (fun f fn hf hfn => by
      obtain rfl : f = 3 := Option.some.inj ((show Tryd.prog.funcNamed "copse/copselaw11.AskRuns" = some 3 by kernel_rfl).symm.trans hf) |>.symm
      obtain rfl : fn = Tryd.f3 := (Option.some.inj (Tryd.func3.symm.trans hfn)).symm
      exact ⟨by kernel_rfl, fun j t ht => by
        rw [Tryd.params3] at ht
        simp at ht⟩)
    (by kernel_rfl)
#print axioms askRuns_card
end Go.Proofs.YtkjnomibkdbcoaaDoor
