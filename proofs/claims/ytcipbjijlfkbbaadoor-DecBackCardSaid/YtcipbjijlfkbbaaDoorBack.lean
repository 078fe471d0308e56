/-
  copselaw3.DecBack: it returns true, whatever the arguments; they read as they did: the row and its card (the row's listed variables tied to the program's text).

-/
import Derived.Test.YtcipbjijlfkbbaaDoorDlw
import Derived.Test.YtcipbjijlfkbbaaDoorRov

/-
  copselaw3.DecBack: it returns true, whatever the arguments; they read as they did: the row and its card (the row's listed variables tied to the program's text).
-/
namespace Go.Proofs.YtcipbjijlfkbbaaDoor
open Go Go.ChangeShapes Go.WideShapes Go.ChangeAt Go.RowKit Go.FM

set_option maxRecDepth 100000 in
theorem decBack_lifted (os : Os) (started : os.Started) (H : Type) (enc : TypeId × Value → H) :
    ReturnsInHanded {} Tryd.checked os 5 .any ((OpenSpec.ofChange Rows.decBackSpec).preRow enc Tryd.prog Tryd.f5 [] false seatLaid) (Rows.decBackSpec.post enc Tryd.prog Tryd.f5 false true false false) := by
  refine law_lifted started snd_copselaw3_DecBack Tryd.func5 (by kernel_rfl) (by kernel_rfl) (by kernel_rfl) (by kernel_rfl) rfl (fun ds hds => ?_) (by kernel_rfl) (fun W hL hsh => seat_glob hL hsh)
    (ChangeSpec.witness_shaped (enc := enc) (C := Tryd.checked) (os := os) (X := fun w _ => laidMetH Tryd.prog seatLaid w) false (seatWorld os) #[.int .i64 0, .int .i64 0, .int .i64 0, .int .u8 0] 8 rfl (World.shaped_of_RefB (by kernel_rfl) (by kernel_rfl)) (by kernel_rfl) (by kernel_rfl) (by kernel_rfl) (seat_met os _)) ?_
  · rw [Tryd.params5] at hds
    match ds, hds with
    | [d0, d1, d2, d3], _ => rfl
  intro W base vs ds p hA hval hwt
  have hps : Tryd.f5.params.toList = [3, 3, 3, 5] := by rw [Tryd.params5]
  rw [hps] at hA
  obtain ⟨v0, vs0, d0, ds0, q0, u0, rfl, rfl, rfl, h0, hA⟩ := trodAll_cons hA
  obtain ⟨v1, vs1, d1, ds1, q1, u1, rfl, rfl, rfl, h1, hA⟩ := trodAll_cons hA
  obtain ⟨v2, vs2, d2, ds2, q2, u2, rfl, rfl, rfl, h2, hA⟩ := trodAll_cons hA
  obtain ⟨v3, vs3, d3, ds3, q3, u3, rfl, rfl, rfl, h3, hA⟩ := trodAll_cons hA
  obtain ⟨rfl, rfl, rfl⟩ := trodAll_nil hA
  obtain ⟨x0, r0⟩ := arg_one (n := 8) (t := 3) (k := .int .i64) (by kernel_rfl) (by kernel_rfl) (hval 0 3 v0 (by rw [hps]; rfl) rfl) h0 (hwt 0 3 d0 (by rw [hps]; rfl) rfl)
  obtain ⟨x1, r1⟩ := arg_one (n := 8) (t := 3) (k := .int .i64) (by kernel_rfl) (by kernel_rfl) (hval 1 3 v1 (by rw [hps]; rfl) rfl) h1 (hwt 1 3 d1 (by rw [hps]; rfl) rfl)
  obtain ⟨x2, r2⟩ := arg_one (n := 8) (t := 3) (k := .int .i64) (by kernel_rfl) (by kernel_rfl) (hval 2 3 v2 (by rw [hps]; rfl) rfl) h2 (hwt 2 3 d2 (by rw [hps]; rfl) rfl)
  obtain ⟨x3, r3⟩ := arg_one (n := 8) (t := 5) (k := .int .u8) (by kernel_rfl) (by kernel_rfl) (hval 3 5 v3 (by rw [hps]; rfl) rfl) h3 (hwt 3 5 d3 (by rw [hps]; rfl) rfl)
  refine ⟨[.int .i64 x0.toInt, .int .i64 x1.toInt, .int .i64 x2.toInt, .int .u8 x3.toInt], rfl, rfl, ?_⟩
  simp only [List.map_cons, List.map_nil, entV, VRels]
  exact ⟨r0, r1, r2, r3, trivial⟩

theorem decBack_holds : Rows.DecBackSaid :=
  OpenClaim.holds_of_wide 5 Tryd.f5 rfl rfl rfl rfl rfl rfl rfl ⟨rfl, rfl, rfl, rfl, rfl⟩ rfl rfl rfl rfl rfl (by kernel_rfl) Tryd.func5 (by kernel_rfl)
    (of_decide_eq_true (by kernel_rfl)) (by unfold Func.isWrapper; first | (rw [if_pos (by decide +kernel)]; kernel_rfl) | (rw [if_neg (by decide +kernel)]; exact ⟨rfl, rfl⟩))
    (fun os started H enc _ => by rw [OpenClaim.pre_eq_preRow]; exact decBack_lifted os started H enc)

theorem decBack_card : Rows.DecBackCardSaid :=
  Claim7.holds_tied_plain_at .later [] [.data, .data, .data, .data, .sentinel, .sentinel, .pinned] true (true, "c4ff8750df2c882ad47b4d52764a436768c86be3b9f8c46d8709d5c8e100cf0c") true
    decBack_holds (fun _ h => by cases h) (by kernel_rfl) (fun _ h => by cases h) decBack_row_tie rfl ⟨rfl, rfl⟩ (by kernel_rfl) rfl
    (fun f fn hf hfn => by
      obtain rfl : f = 5 := Option.some.inj ((show Tryd.prog.funcNamed "copse/copselaw3.DecBack" = some 5 by kernel_rfl).symm.trans hf) |>.symm
      obtain rfl : fn = Tryd.f5 := (Option.some.inj (Tryd.func5.symm.trans hfn)).symm
      exact ⟨by kernel_rfl, fun j t ht => by
        rw [Tryd.params5] at ht
        have hm : t ∈ [3, 3, 3, 5] := by simpa using Array.mem_of_getElem? ht
        have hall : ([3, 3, 3, 5].all fun u => !Tryd.prog.wantsStandIn u) = true := by kernel_rfl
        exact (show Tryd.prog.wantsStandIn t = false by simpa using List.all_eq_true.1 hall t hm)⟩)
    (by kernel_rfl)
#print axioms decBack_card
end Go.Proofs.YtcipbjijlfkbbaaDoor
