/-
  copselaw20.CertRuns: it returns true: the row and its card.

-/
import Derived.Test.YtimlijeiggcgiaaDoorFun
import Derived.Test.YtimlijeiggcgiaaDoorLib
import Derived.Test.YtimlijeiggcgiaaDoorRows
import Derived.Test.YtimlijeiggcgiaaDoorTie
import Derived.Test.YtimlijeiggcgiaaDoorCards
import Derived.ProofKit
import Derived.LaidMore
import Derived.LaidHandle
import Derived.OpenShut
import Derived.SevenTiedAt
import Derived.Deep.DeepHandedRow
import Derived.Deep.DeepWitnessRowRef
import Derived.Stop.Joined

/-
  copselaw20.CertRuns: it returns true: the row and its card.
-/
namespace Go.Proofs.YtimlijeiggcgiaaDoor
open Go.ChangeShapes Go.WideShapes Go.ChangeAt Go.RowKit Go.FM

theorem seatOwn : ownKnob Tryd.prog.godebug = none := by kernel_rfl
theorem seatLaidOut : laidOutB Tryd.prog = true := by kernel_rfl

abbrev seatLaid : List (String × DataW Unit) := Rows.certRunsRow.laid

/-- The door's own heap, the pinned table laid. -/
noncomputable def seatWorld (os : Os) : World :=
  let w0 := World.doorLaid Tryd.prog 72 os
  { w0 with heap := w0.heap.modify 4 fun
      | .cells _ t frozen => .cells (Lib.firstTab.map fun z => Value.int .u8 z).toArray t frozen
      | o => o }
theorem seat_met (os : Os) (args : Array Value) : laidMetH Tryd.prog seatLaid ((seatWorld os).forCall (fun _ _ => 0) ⟨#[], args, []⟩).memory :=
  laidMetH_of_parts3 (fuel := 8) (laidMet_of_run' 8 (by kernel_rfl) (by kernel_rfl)) (by kernel_rfl) (by kernel_rfl)


theorem seat_glob {W : World} (hL : laidMetH Tryd.prog seatLaid W) (hsh : W.ShapedOpen Tryd.prog) : Glob B0 W := by
  have hL' : laidMet Tryd.prog seatLaid W := by
    rw [MakeChecks.laidMetH_plain _ _ _ (by kernel_rfl)] at hL
    exact hL
  exact glob_row hL' hsh (n1 := "*errors.errorString") (n2 := "*errors.errorString") (.tail _ (.tail _ (.head _))) (.tail _ (.tail _ (.tail _ (.tail _ (.head _))))) (.tail _ (.tail _ (.tail _ (.tail _ (.tail _ (.head _))))))

set_option maxRecDepth 100000 in
theorem certRuns_lifted (os : Os) (started : os.Started) (H : Type) (enc : TypeId × Value → H) :
    ReturnsInHanded {} Tryd.checked os 3 .any ((OpenSpec.ofChange Rows.certRunsSpec).preRow enc Tryd.prog Tryd.f3 Rows.certRunsRow.domain false seatLaid) (Rows.certRunsSpec.post enc Tryd.prog Tryd.f3 false true false false) := by
  refine returnsInHanded_of_row (C := Tryd.checked) (s := OpenSpec.ofChange Rows.certRunsSpec) (F := fun _ _ _ => 0) seatOwn started (by kernel_rfl) Tryd.func3
    (ChangeSpec.witness_shaped (enc := enc) (C := Tryd.checked) (os := os) (X := fun w _ => laidMetH Tryd.prog seatLaid w) false (seatWorld os) #[] 8 rfl (World.shaped_of_RefB (by kernel_rfl) (by kernel_rfl)) (by kernel_rfl) (by kernel_rfl) (by kernel_rfl) (seat_met os _)) ?_
  intro W base args ds gs before hval0 hW _ _ _ hL hsh _
  have hW' := hW
  obtain ⟨p, q, hA0, hV, rfl, hfz, hnd⟩ := hW
  have hA : DataW.TrodAll enc Tryd.prog W 0 (fun _ => true) true Tryd.f3.params.toList args.toList ds p := hA0
  rw [Tryd.params3] at hA
  obtain ⟨h0, rfl, rfl⟩ := trodAll_nil hA
  obtain ⟨rfl, rfl⟩ := trodVars_none hV
  have ha : args = #[] := by
    apply Array.ext'
    exact h0
  subst ha
  refine (calls_true snd_copselaw20_CertRuns Tryd.func3 (by kernel_rfl) (by kernel_rfl) (vs := []) (xs := []) rfl rfl (seat_glob hL hsh) (by simp only [List.map_nil, VRels])).mono ?_
  rintro e W' ⟨rfl, bel⟩
  refine ⟨_, rfl, _, _, _, [], [], [], hW', ?_, ?_, ?_, bel.frame _, fun h => by cases h⟩
  · exact trodAll_mk1 (shut_bool Tryd.underlying4 _)
  · exact trodAll_mk0
  · rfl

theorem certRuns_holds : Rows.CertRunsSaid :=
  OpenClaim.holds_of_wide 3 Tryd.f3 rfl rfl rfl rfl rfl rfl rfl ⟨rfl, rfl, rfl, rfl, rfl⟩ rfl rfl rfl rfl rfl (by kernel_rfl) Tryd.func3 (by kernel_rfl)
    (of_decide_eq_true (by kernel_rfl)) (by unfold Func.isWrapper; first | (rw [if_pos (by decide +kernel)]; kernel_rfl) | (rw [if_neg (by decide +kernel)]; exact ⟨rfl, rfl⟩))
    (fun os started H enc _ => by rw [OpenClaim.pre_eq_preRow]; exact certRuns_lifted os started H enc)

end Go.Proofs.YtimlijeiggcgiaaDoor

/-
  copselaw20.CertRuns: it returns true: the card: the row, with its variables tied to the program's text.
-/
namespace Go.Proofs.YtimlijeiggcgiaaDoor
open Go

theorem certRuns_card : Rows.CertRunsCardSaid :=
  Claim7.holds_tied_plain_at .later [] [.data, .data, .data, .data, .sentinel, .sentinel, .pinned] true (true, "cbb30fb76d9842f2293fb8e94ed7602d78ddb952e99012af07bb635fced5bee7") true
    certRuns_holds (fun _ h => by cases h) (by kernel_rfl) (fun _ h => by cases h) certRuns_row_tie rfl ⟨rfl, rfl⟩ (by kernel_rfl) rfl
    (fun f fn hf hfn => by
      obtain rfl : f = 3 := Option.some.inj ((show Tryd.prog.funcNamed "copse/copselaw20.CertRuns" = some 3 by kernel_rfl).symm.trans hf) |>.symm
      obtain rfl : fn = Tryd.f3 := (Option.some.inj (Tryd.func3.symm.trans hfn)).symm
      exact ⟨by kernel_rfl, fun j t ht => by
        rw [Tryd.params3] at ht
        simp at ht⟩)
    (by kernel_rfl)
#print axioms certRuns_card
end Go.Proofs.YtimlijeiggcgiaaDoor
