/-
  copselaw9.TextOnly: it returns true, whatever the arguments; they read as they did: the row and its card (the row's listed variables tied to the program's text).

-/
import Derived.Test.YtbhpdofmcbhbfaaGreatDoorXlw
import Derived.Test.YtbhpdofmcbhbfaaGreatDoorRov

/-
  copselaw9.TextOnly: it returns true, whatever the arguments; they read as they did: the row and its card (the row's listed variables tied to the program's text).
-/
namespace Go.Proofs.YtbhpdofmcbhbfaaGreatDoor
open Go Go.ChangeShapes Go.WideShapes Go.ChangeAt Go.RowKit Go.FM

set_option maxRecDepth 100000 in
theorem textOnly_lifted (os : Os) (started : os.Started) (H : Type) (enc : TypeId × Value → H) :
    ReturnsInHanded {} Tryz.checked os 6 .any ((OpenSpec.ofChange Rows.textOnlySpec).preRow enc Tryz.prog Tryz.f6 [] false seatLaid) (Rows.textOnlySpec.post enc Tryz.prog Tryz.f6 false true false false) := by
  refine law_lifted started snd_copselaw9_TextOnly Tryz.func6 (by kernel_rfl) (by kernel_rfl) (by kernel_rfl) (by kernel_rfl) rfl (fun ds hds => ?_) (by kernel_rfl) (fun W hL hsh => seat_glob hL hsh)
    (ChangeSpec.witness_shaped (enc := enc) (C := Tryz.checked) (os := os) (X := fun w _ => laidMetH Tryz.prog seatLaid w) false (seatWorld os) #[.agg #[.int .i64 0, .int .i64 0, .slice none 0 0, .slice none 0 0], .int .i64 0, .int .u8 0, .int .i64 0] 8 rfl (World.shaped_of_RefB (by kernel_rfl) (by kernel_rfl)) (by kernel_rfl) (by kernel_rfl) (by kernel_rfl) (seat_met os _)) ?_
  · rw [Tryz.params6] at hds
    match ds, hds with
    | [d0, d1, d2, d3], _ => rfl
  intro W base vs ds p hA hval hwt
  have hps : Tryz.f6.params.toList = [41, 3, 5, 3] := by rw [Tryz.params6]
  rw [hps] at hA
  obtain ⟨v0, vs0, d0, ds0, q0, u0, rfl, rfl, rfl, h0, hA⟩ := trodAll_cons hA
  obtain ⟨v1, vs1, d1, ds1, q1, u1, rfl, rfl, rfl, h1, hA⟩ := trodAll_cons hA
  obtain ⟨v2, vs2, d2, ds2, q2, u2, rfl, rfl, rfl, h2, hA⟩ := trodAll_cons hA
  obtain ⟨v3, vs3, d3, ds3, q3, u3, rfl, rfl, rfl, h3, hA⟩ := trodAll_cons hA
  obtain ⟨rfl, rfl, rfl⟩ := trodAll_nil hA
  obtain ⟨g0, hg0, r0⟩ := arg_agg (n := 8) (t := 41) (ks := [.int .i64, .int .i64, .list false [.int .i64], .list true [.int .i64, .list false [.int .i64], .list false [.int .i64], .list false [.int .i64], .list false [.int .i64]]]) (by kernel_rfl) (by kernel_rfl) (hval 0 41 v0 (by rw [hps]; rfl) rfl) h0 (hwt 0 41 d0 (by rw [hps]; rfl) rfl)
  obtain ⟨x0_0, x0_1, x0_2, x0_3, rfl⟩ : ∃ x0_0 x0_1 x0_2 x0_3, g0 = [x0_0, x0_1, x0_2, x0_3] := by
    match g0, hg0 with
    | [x0_0, x0_1, x0_2, x0_3], _ => exact ⟨_, _, _, _, rfl⟩
  obtain ⟨x1, r1⟩ := arg_one (n := 8) (t := 3) (k := .int .i64) (by kernel_rfl) (by kernel_rfl) (hval 1 3 v1 (by rw [hps]; rfl) rfl) h1 (hwt 1 3 d1 (by rw [hps]; rfl) rfl)
  obtain ⟨x2, r2⟩ := arg_one (n := 8) (t := 5) (k := .int .u8) (by kernel_rfl) (by kernel_rfl) (hval 2 5 v2 (by rw [hps]; rfl) rfl) h2 (hwt 2 5 d2 (by rw [hps]; rfl) rfl)
  obtain ⟨x3, r3⟩ := arg_one (n := 8) (t := 3) (k := .int .i64) (by kernel_rfl) (by kernel_rfl) (hval 3 3 v3 (by rw [hps]; rfl) rfl) h3 (hwt 3 3 d3 (by rw [hps]; rfl) rfl)
  refine ⟨[.agg [.int .i64 x0_0.toInt, .int .i64 x0_1.toInt, .list false [.int .i64] x0_2.toList, .list true [.int .i64, .list false [.int .i64], .list false [.int .i64], .list false [.int .i64], .list false [.int .i64]] x0_3.toList], .int .i64 x1.toInt, .int .u8 x2.toInt, .int .i64 x3.toInt], rfl, rfl, ?_⟩
  simp only [List.map_cons, List.map_nil, entV, VRels]
  exact ⟨r0, r1, r2, r3, trivial⟩

theorem textOnly_holds : Rows.TextOnlySaid :=
  OpenClaim.holds_of_wide 6 Tryz.f6 rfl rfl rfl rfl rfl rfl rfl ⟨rfl, rfl, rfl, rfl, rfl⟩ rfl rfl rfl rfl rfl (by kernel_rfl) Tryz.func6 (by kernel_rfl)
    (of_decide_eq_true (by kernel_rfl)) (by unfold Func.isWrapper; first | (rw [if_pos (by decide +kernel)]; kernel_rfl) | (rw [if_neg (by decide +kernel)]; exact ⟨rfl, rfl⟩))
    (fun os started H enc _ => by rw [OpenClaim.pre_eq_preRow]; exact textOnly_lifted os started H enc)

theorem textOnly_card : Rows.TextOnlyCardSaid :=
  Claim7.holds_tied_plain_at .later [] [.data, .data, .data, .data, .sentinel, .sentinel, .pinned] true (true, "3bf0c58bf0f18b276d690fd2e20620845a768755bd9998b92bdcfd510caf9221") true
    textOnly_holds (fun _ h => by cases h) (by kernel_rfl) (fun _ h => by cases h) textOnly_row_tie rfl ⟨rfl, rfl⟩ (by kernel_rfl) rfl
    (fun f fn hf hfn => by
      obtain rfl : f = 6 := Option.some.inj ((show Tryz.prog.funcNamed "copse/copselaw9.TextOnly" = some 6 by kernel_rfl).symm.trans hf) |>.symm
      obtain rfl : fn = Tryz.f6 := (Option.some.inj (Tryz.func6.symm.trans hfn)).symm
      exact ⟨by kernel_rfl, fun j t ht => by
        rw [Tryz.params6] at ht
        have hm : t ∈ [41, 3, 5, 3] := by simpa using Array.mem_of_getElem? ht
        have hall : ([41, 3, 5, 3].all fun u => !Tryz.prog.wantsStandIn u) = true := by kernel_rfl
        exact (show Tryz.prog.wantsStandIn t = false by simpa using List.all_eq_true.1 hall t hm)⟩)
    (by kernel_rfl)
#print axioms textOnly_card
end Go.Proofs.YtbhpdofmcbhbfaaGreatDoor
