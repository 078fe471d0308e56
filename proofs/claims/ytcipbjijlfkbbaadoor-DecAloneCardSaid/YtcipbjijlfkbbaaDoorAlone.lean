/-
  copselaw3.DecAlone: it returns true, whatever the arguments; they read as they did: the row and its card (the row's listed variables tied to the program's text).

-/
import Derived.Test.YtcipbjijlfkbbaaDoorDlw
import Derived.Test.YtcipbjijlfkbbaaDoorRov

/-
  copselaw3.DecAlone: it returns true, whatever the arguments; they read as they did: the row and its card (the row's listed variables tied to the program's text).
-/
namespace Go.Proofs.YtcipbjijlfkbbaaDoor
open Go Go.ChangeShapes Go.WideShapes Go.ChangeAt Go.RowKit Go.FM

set_option maxRecDepth 100000 in
theorem decAlone_lifted (os : Os) (started : os.Started) (H : Type) (enc : TypeId × Value → H) :
    ReturnsInHanded {} Tryd.checked os 7 .any ((OpenSpec.ofChange Rows.decAloneSpec).preRow enc Tryd.prog Tryd.f7 [] false seatLaid) (Rows.decAloneSpec.post enc Tryd.prog Tryd.f7 false true false false) := by
  refine law_lifted started snd_copselaw3_DecAlone Tryd.func7 (by kernel_rfl) (by kernel_rfl) (by kernel_rfl) (by kernel_rfl) rfl (fun ds hds => ?_) (by kernel_rfl) (fun W hL hsh => seat_glob hL hsh)
    (ChangeSpec.witness_shaped (enc := enc) (C := Tryd.checked) (os := os) (X := fun w _ => laidMetH Tryd.prog seatLaid w) false (seatWorld os) #[.int .i64 0, .int .i64 0] 8 rfl (World.shaped_of_RefB (by kernel_rfl) (by kernel_rfl)) (by kernel_rfl) (by kernel_rfl) (by kernel_rfl) (seat_met os _)) ?_
  · rw [Tryd.params7] at hds
    match ds, hds with
    | [d0, d1], _ => rfl
  intro W base vs ds p hA hval hwt
  have hps : Tryd.f7.params.toList = [3, 3] := by rw [Tryd.params7]
  rw [hps] at hA
  obtain ⟨v0, vs0, d0, ds0, q0, u0, rfl, rfl, rfl, h0, hA⟩ := trodAll_cons hA
  obtain ⟨v1, vs1, d1, ds1, q1, u1, rfl, rfl, rfl, h1, hA⟩ := trodAll_cons hA
  obtain ⟨rfl, rfl, rfl⟩ := trodAll_nil hA
  obtain ⟨x0, r0⟩ := arg_one (n := 8) (t := 3) (k := .int .i64) (by kernel_rfl) (by kernel_rfl) (hval 0 3 v0 (by rw [hps]; rfl) rfl) h0 (hwt 0 3 d0 (by rw [hps]; rfl) rfl)
  obtain ⟨x1, r1⟩ := arg_one (n := 8) (t := 3) (k := .int .i64) (by kernel_rfl) (by kernel_rfl) (hval 1 3 v1 (by rw [hps]; rfl) rfl) h1 (hwt 1 3 d1 (by rw [hps]; rfl) rfl)
  refine ⟨[.int .i64 x0.toInt, .int .i64 x1.toInt], rfl, rfl, ?_⟩
  simp only [List.map_cons, List.map_nil, entV, VRels]
  exact ⟨r0, r1, trivial⟩

theorem decAlone_holds : Rows.DecAloneSaid :=
  OpenClaim.holds_of_wide 7 Tryd.f7 rfl rfl rfl rfl rfl rfl rfl ⟨rfl, rfl, rfl, rfl, rfl⟩ rfl rfl rfl rfl rfl (by kernel_rfl) Tryd.func7 (by kernel_rfl)
    (of_decide_eq_true (by kernel_rfl)) (by unfold Func.isWrapper; first | (rw [if_pos (by decide +kernel)]; kernel_rfl) | (rw [if_neg (by decide +kernel)]; exact ⟨rfl, rfl⟩))
    (fun os started H enc _ => by rw [OpenClaim.pre_eq_preRow]; exact decAlone_lifted os started H enc)

theorem decAlone_card : Rows.DecAloneCardSaid :=
  Claim7.holds_tied_plain_at .later [] [.data, .data, .data, .data, .sentinel, .sentinel, .pinned] true (true, "c4ff8750df2c882ad47b4d52764a436768c86be3b9f8c46d8709d5c8e100cf0c") true
    decAlone_holds (fun _ h => by cases h) (by kernel_rfl) (fun _ h => by cases h) decAlone_row_tie rfl ⟨rfl, rfl⟩ (by kernel_rfl) rfl
    (fun f fn hf hfn => by
      obtain rfl : f = 7 := Option.some.inj ((show Tryd.prog.funcNamed "copse/copselaw3.DecAlone" = some 7 by kernel_rfl).symm.trans hf) |>.symm
      obtain rfl : fn = Tryd.f7 := (Option.some.inj (Tryd.func7.symm.trans hfn)).symm
      exact ⟨by kernel_rfl, fun j t ht => by
        rw [Tryd.params7] at ht
        have hm : t ∈ [3, 3] := by simpa using Array.mem_of_getElem? ht
        have hall : ([3, 3].all fun u => !Tryd.prog.wantsStandIn u) = true := by kernel_rfl
        exact (show Tryd.prog.wantsStandIn t = false by simpa using List.all_eq_true.1 hall t hm)⟩)
    (by kernel_rfl)
#print axioms decAlone_card
end Go.Proofs.YtcipbjijlfkbbaaDoor
