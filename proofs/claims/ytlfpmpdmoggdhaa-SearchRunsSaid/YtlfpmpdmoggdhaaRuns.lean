/-
  copselaw22.SearchRuns: it returns true, whatever the arguments; they read as they did: the row.

-/
import Derived.Test.YtlfpmpdmoggdhaaLac

/-
  copselaw22.SearchRuns: it returns true, whatever the arguments; they read as they did: the row.
-/
namespace Go.Proofs.Ytlfpmpdmoggdhaa
open Go Go.ChangeShapes Go.WideShapes Go.ChangeAt Go.RowKit Go.FM

set_option maxRecDepth 100000 in
theorem searchRuns_lifted (os : Os) (started : os.Started) (H : Type) (enc : TypeId × Value → H) :
    ReturnsInHanded {} Try.checked os 3 .any ((OpenSpec.ofChange Rows.searchRunsSpec).preRow enc Try.prog Try.f3 [] false []) (Rows.searchRunsSpec.post enc Try.prog Try.f3 false true false false) := by
  refine law_lifted started snd_copselaw22_SearchRuns Try.func3 (by kernel_rfl) (by kernel_rfl) (by kernel_rfl) (by kernel_rfl) rfl (fun ds hds => ?_) (by kernel_rfl) (fun W hL hsh => seat_glob hL hsh)
    (ChangeSpec.witness_shaped (enc := enc) (C := Try.checked) (os := os) (X := fun w _ => laidMetH Try.prog [] w) false (seatWorld os) #[] 8 rfl (World.shaped_of_RefB (by kernel_rfl) (by kernel_rfl)) (by kernel_rfl) (by kernel_rfl) (by kernel_rfl) (seat_met os _)) ?_
  · rw [Try.params3] at hds
    match ds, hds with
    | [], _ => rfl
  intro W base vs ds p hA hval hwt
  have hps : Try.f3.params.toList = [] := by rw [Try.params3]
  rw [hps] at hA
  obtain ⟨rfl, rfl, rfl⟩ := trodAll_nil hA
  refine ⟨[], rfl, rfl, ?_⟩
  simp only [List.map_cons, List.map_nil, entV, VRels]

theorem searchRuns_holds : Rows.SearchRunsSaid :=
  OpenClaim.holds_of_wide 3 Try.f3 rfl rfl rfl rfl rfl rfl rfl ⟨rfl, rfl, rfl, rfl, rfl⟩ rfl rfl rfl rfl rfl (by kernel_rfl) Try.func3 (by kernel_rfl)
    (of_decide_eq_true (by kernel_rfl)) (by unfold Func.isWrapper; first | (rw [if_pos (by decide +kernel)]; kernel_rfl) | (rw [if_neg (by decide +kernel)]; exact ⟨rfl, rfl⟩))
    (fun os started H enc _ => by rw [OpenClaim.pre_eq_preRow]; exact searchRuns_lifted os started H enc)

#print axioms searchRuns_holds
end Go.Proofs.Ytlfpmpdmoggdhaa
