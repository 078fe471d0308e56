/-
  copselaw20.CertBack: it returns true, whatever the arguments; they read as they did: the row and its card (the row's listed variables tied to the program's text).

-/
import Derived.Test.YtimlijeiggcgiaaDoorFub
import Derived.Test.YtimlijeiggcgiaaDoorRov
import Derived.Test.YtimlijeiggcgiaaDoorRuns

/-
  copselaw20.CertBack: it returns true, whatever the arguments; they read as they did: the row and its card (the row's listed variables tied to the program's text).
-/
namespace Go.Proofs.YtimlijeiggcgiaaDoor
open Go Go.ChangeShapes Go.WideShapes Go.ChangeAt Go.RowKit Go.FM

set_option maxRecDepth 100000 in
theorem certBack_lifted (os : Os) (started : os.Started) (H : Type) (enc : TypeId × Value → H) :
    ReturnsInHanded {} Tryd.checked os 4 .any ((OpenSpec.ofChange Rows.certBackSpec).preRow enc Tryd.prog Tryd.f4 [] false seatLaid) (Rows.certBackSpec.post enc Tryd.prog Tryd.f4 false true false false) := by
  refine law_lifted started snd_copselaw20_CertBack Tryd.func4 (by kernel_rfl) (by kernel_rfl) (by kernel_rfl) (by kernel_rfl) rfl (fun ds hds => ?_) (by kernel_rfl) (fun W hL hsh => seat_glob hL hsh)
    (ChangeSpec.witness_shaped (enc := enc) (C := Tryd.checked) (os := os) (X := fun w _ => laidMetH Tryd.prog seatLaid w) false (seatWorld os) #[.agg #[.int .i64 0, .slice none 0 0, .int .i64 0, .int .i64 0, .int .i64 0, .int .i64 0, .int .i64 0, .int .i64 0], .agg #[.int .i64 0, .slice none 0 0, .int .i64 0, .int .i64 0, .int .i64 0, .int .i64 0, .int .i64 0, .int .i64 0]] 8 rfl (World.shaped_of_RefB (by kernel_rfl) (by kernel_rfl)) (by kernel_rfl) (by kernel_rfl) (by kernel_rfl) (seat_met os _)) ?_
  · rw [Tryd.params4] at hds
    match ds, hds with
    | [d0, d1], _ => rfl
  intro W base vs ds p hA hval hwt
  have hps : Tryd.f4.params.toList = [28, 28] := by rw [Tryd.params4]
  rw [hps] at hA
  obtain ⟨v0, vs0, d0, ds0, q0, u0, rfl, rfl, rfl, h0, hA⟩ := trodAll_cons hA
  obtain ⟨v1, vs1, d1, ds1, q1, u1, rfl, rfl, rfl, h1, hA⟩ := trodAll_cons hA
  obtain ⟨rfl, rfl, rfl⟩ := trodAll_nil hA
  obtain ⟨k0, p0, a0, b0, c0, d0', t0, s0, r0⟩ := verdict_arg (hval 0 28 v0 (by rw [hps]; rfl) rfl) h0 (hwt 0 28 d0 (by rw [hps]; rfl) rfl)
  obtain ⟨k1, p1, a1, b1, c1, d1', t1, s1, r1⟩ := verdict_arg (hval 1 28 v1 (by rw [hps]; rfl) rfl) h1 (hwt 1 28 d1 (by rw [hps]; rfl) rfl)
  refine ⟨[.agg [.int .i64 k0, .list true [.bool, .int .i64, .int .i64] p0, .int .i64 a0, .int .i64 b0, .int .i64 c0, .int .i64 d0', .int .i64 t0, .int .i64 s0], .agg [.int .i64 k1, .list true [.bool, .int .i64, .int .i64] p1, .int .i64 a1, .int .i64 b1, .int .i64 c1, .int .i64 d1', .int .i64 t1, .int .i64 s1]], rfl, rfl, ?_⟩
  simp only [List.map_cons, List.map_nil, entV, VRels]
  exact ⟨r0, r1, trivial⟩

theorem certBack_holds : Rows.CertBackSaid :=
  OpenClaim.holds_of_wide 4 Tryd.f4 rfl rfl rfl rfl rfl rfl rfl ⟨rfl, rfl, rfl, rfl, rfl⟩ rfl rfl rfl rfl rfl (by kernel_rfl) Tryd.func4 (by kernel_rfl)
    (of_decide_eq_true (by kernel_rfl)) (by unfold Func.isWrapper; first | (rw [if_pos (by decide +kernel)]; kernel_rfl) | (rw [if_neg (by decide +kernel)]; exact ⟨rfl, rfl⟩))
    (fun os started H enc _ => by rw [OpenClaim.pre_eq_preRow]; exact certBack_lifted os started H enc)

theorem certBack_card : Rows.CertBackCardSaid :=
  Claim7.holds_tied_plain_at .later [] [.data, .data, .data, .data, .sentinel, .sentinel, .pinned] true (true, "cbb30fb76d9842f2293fb8e94ed7602d78ddb952e99012af07bb635fced5bee7") true
    certBack_holds (fun _ h => by cases h) (by kernel_rfl) (fun _ h => by cases h) certBack_row_tie rfl ⟨rfl, rfl⟩ (by kernel_rfl) rfl
    (fun f fn hf hfn => by
      obtain rfl : f = 4 := Option.some.inj ((show Tryd.prog.funcNamed "copse/copselaw20.CertBack" = some 4 by kernel_rfl).symm.trans hf) |>.symm
      obtain rfl : fn = Tryd.f4 := (Option.some.inj (Tryd.func4.symm.trans hfn)).symm
      exact ⟨by kernel_rfl, fun j t ht => by
        rw [Tryd.params4] at ht
        have hm : t ∈ [28, 28] := by simpa using Array.mem_of_getElem? ht
        have hall : ([28, 28].all fun u => !Tryd.prog.wantsStandIn u) = true := by kernel_rfl
        exact (show Tryd.prog.wantsStandIn t = false by simpa using List.all_eq_true.1 hall t hm)⟩)
    (by kernel_rfl)
#print axioms certBack_card
end Go.Proofs.YtimlijeiggcgiaaDoor
