/-
  What the functions of Go's library on the road come to (2): contracts over this program; under each contract's own premises.
-/
import Derived.Test.YtkjnomibkdbcoaaGreatDoorLib
import Derived.Lib.AppendIntMem
import Derived.Deep.LoopGhost
import Derived.Lib.Walk
import Derived.Lib.SliceRun
import Derived.Shelf.Vars
import Derived.Lib.LaidU8
import Derived.Lib.LaidTab
import Derived.Carry

/-
  THE LIBRARY's strconv.FormatUint AT BASE 10: the number's decimal numeral: a contract over this program; after the shelf's own proofs of its sisters.
-/
namespace Go.FM
open Go Go.Proofs Go.RowKit Go.Sort Go.Lib

set_option maxHeartbeats 12800000 in
set_option maxRecDepth 100000 in
theorem fmtu_int (u : Nat) (hu64 : u < 18446744073709551616) (w : World) (htab : Lib.TabIs Tryz.prog w "internal/strconv.uint64pow10" .u64 Lib.pow10Tab) :
    Calls Tryz.prog 42 #[.int .u64 u, .int .i64 10] w fun e w' => e = .returned (.string ⟨(Lib.decDigits u).toArray⟩) ∧ ∃ k os, w' = grow (w.drewN k) os := by
  by_cases hs : u < 100
  · have hwr : IntKind.i64.wrap (u : Int) = (u : Int) := by rw [IntKind.wrap_i64]; omega
    have iu : (u : Int) < 100 := by omega
    go_enter Tryz.func42, Tryz.ntmps42
    go_wp2_with (go_at_call 61; refine (Tryz.internal_strconv_small u hs _).mono ?_; rintro e w' ⟨rfl, rfl⟩)
    go_ret
    exact ⟨rfl, 0, #[], by simp [World.drewN_zero]⟩
  · have hu1 : 1 ≤ u := by omega
    have hnd20 : Lib.nDigits u ≤ 20 := by have := Lib.numDigits_eq u hu1 hu64; split at this <;> omega
    have hal : Tryz.prog.arrayLen 114 = 24 := by simp [Program.arrayLen, Tryz.underlying114]
    have hsl : ∀ W, (Instr.sliceAt 114 (.pointer (some ⟨w.heap.size, 0, none⟩)) none (some (.int .i64 (Lib.nDigits u : Int))) none).run Tryz.prog W = .ok (.slice (some ⟨w.heap.size, 0, none⟩) (Lib.nDigits u) 24) W := fun W => by
      rw [run_sliceAt_array_h W 114 ⟨w.heap.size, 0, none⟩ (by simp [Program.arrayLen, Program.elem, Tryz.underlying114]) .i64 (Lib.nDigits u : Int) (by omega) (by rw [hal]; omega)]
      go_simp
    have hH0 := Lib.holds_zero0 w 114 (Lib.nDigits u) (by omega)
    have hfmt := Tryz.internal_strconv_formatBase10 w.heap.size 0 24 u (Array.replicate (Lib.nDigits u) 0) (w.alloc (.cells Lib.zeros24 114)) hH0 (by rw [Array.size_replicate]; exact Lib.lt_pow_nDigits u) hu64 (by rw [Array.size_replicate]; omega)
    rw [Array.size_replicate] at hfmt
    have HH0 := Lib.hid hH0
    have iu : ¬ (u : Int) < 100 := by omega
    clear hH0 hal hs
    go_enter Tryz.func42, Tryz.ntmps42
    go_wp2_with (first
      | (go_at_call 62; refine (Tryz.internal_strconv_numDigits u hu1 hu64 _ (Lib.tabIs_alloc htab _)).mono ?_; rintro e w' ⟨rfl, rfl⟩))
    go_at_call 63
    refine hfmt.mono ?_
    rintro e w' ⟨rfl, k, v', dk, rfl, hF⟩
    have hcv : (convert 46 9 (.slice (some ⟨w.heap.size, 0, none⟩) (Lib.nDigits u) 24)).run Tryz.prog ((putRow (fun (b : UInt8) => Value.int .u8 (b.toNat : Int)) (w.alloc (.cells Lib.zeros24 114)) w.heap.size 0 dk).drewN k) = .ok (.string ⟨(Lib.decDigits u).toArray⟩) ((putRow (fun (b : UInt8) => Value.int .u8 (b.toNat : Int)) (w.alloc (.cells Lib.zeros24 114)) w.heap.size 0 dk).drewN k) := by
      have h := run_convert_bytes_back (P := Tryz.prog) ((putRow (fun (b : UInt8) => Value.int .u8 (b.toNat : Int)) (w.alloc (.cells Lib.zeros24 114)) w.heap.size 0 dk).drewN k) 46 9 5 ⟨w.heap.size, 0, none⟩ 24 (Lib.decDigits u) Tryz.underlying46 Tryz.underlying5 Tryz.underlying9 (fun j hj => by
        rw [Lib.row_is_numeral hF j hj, Lib.add_plain, World.cell?_drewN]
        exact cell?_putRow (fun (b : UInt8) => Value.int .u8 (b.toNat : Int)) _ w.heap.size 0 _ dk HH0.out (by rw [hF.size, Array.size_replicate]) j (by rw [hF.size]; rw [Lib.decDigits_length] at hj; exact hj))
      rw [Lib.decDigits_length] at h
      exact h
    go_wp2
    go_ret
    obtain ⟨os, eo⟩ := Lib.fin_at w (.cells Lib.zeros24 114) dk k 0
    exact ⟨rfl, k, os, eo⟩

set_option maxHeartbeats 1600000 in
set_option maxRecDepth 100000 in
theorem fmtu (u : Nat) (hu64 : u < 18446744073709551616) (w : World) (htab : Lib.TabIs Tryz.prog w "internal/strconv.uint64pow10" .u64 Lib.pow10Tab) :
    Calls Tryz.prog 28 #[.int .u64 u, .int .i64 10] w fun e w' => e = .returned (.string ⟨(Lib.decDigits u).toArray⟩) ∧ ∃ k os, w' = grow (w.drewN k) os := by
  go_enter Tryz.func28, Tryz.ntmps28
  go_wp2_with (go_at_call 42; refine (fmtu_int u hu64 _ htab).mono ?_; rintro e w' ⟨rfl, hw⟩)
  go_ret
  exact ⟨rfl, hw⟩

theorem str_info : (PR.info? 9).map (fun i => (i.zero, i.size, i.bytes)) = some (some (.string .empty), 1, 16) := by kernel_rfl

set_option maxHeartbeats 4000000 in
set_option maxRecDepth 100000 in
/-- slices.Clone of strings. -/
theorem clone_str (b : Addr) (n c : Nat) (news : List Value) (w : World) (hl : news.length = n) (hn : n ≤ maxLen) (hbig : n * 16 ≤ 140737488355328)
    (hc : ∀ j u, news[j]? = some u → w.cell? (b.add j) = some u) (h1 : ∀ u ∈ news, u.oneCell' = true) :
    Calls Tryz.prog 36 #[.slice (some b) n c] w fun e w' => ∃ v', e = .returned v' ∧ w'.ownsRow w.heap.size 9 1 v' n news ∧ Below w.heap.size w w' := by
  obtain ⟨i0, hi, hz0, hz1, hz2⟩ := info_parts str_info
  have qS : ∀ (w : World) (a : Option Addr) (n c n' c' : Nat), (binOp .eql 60 (.slice a n c) (.slice none n' c')).run Tryz.prog w = .ok (.bool a.isNone) w := fun w a n c n' c' => Lib.run_eql_slice_nil w _ _ a n c n' c' Tryz.underlying60
  have A : Aside (∀ j u, news[j]? = some u → w.cell? (b.add j) = some u) := hc
  clear hc
  go_enter Tryz.func36, Tryz.ntmps36
  go_wp2_with (at_builtin; refine wpList_append_own _ rfl _ _ 60 rfl w.heap.size 9 i0 (.string .empty) 1 16 Tryz.underlying60 hi hz0 hz1 hz2 rfl (by decide) _ _ _ rfl (World.ownsRow_made w #[] 0 (Nat.le_refl _) (Nat.zero_le _) (by simp)) b n c news rfl ?qc1 ?qc2 ?qc3 ?qc4 ?qc5 ?qc6 ?_)
  case qc1 => rw [Nat.mul_one]; exact hl
  case qc2 =>
    intro j u hj
    exact Lib.cell?_alloc_some _ (A.out j u hj)
  case qc3 => exact h1
  case qc4 => rw [Nat.zero_add]; exact hn
  case qc5 => rw [Nat.zero_add]; exact hbig
  case qc6 => simp
  intro v' w1 hown hgrow hnil
  go_wp2
  go_ret
  refine ⟨v', rfl, by simpa using hown, ?_⟩
  exact ((Below.refl _ w).alloc (Nat.le_refl _) _).grown hgrow (by simp) (by intro k hk; simp [Value.ownBlock] at hk; omega)

set_option maxHeartbeats 1000000 in
set_option maxRecDepth 100000 in
theorem clone_nil (n c : Nat) (w : World) : Calls Tryz.prog 36 #[.slice none n c] w fun e w' => e = .returned (.slice none 0 0) ∧ w' = w := by
  have qS : ∀ (w : World) (a : Option Addr) (n c n' c' : Nat), (binOp .eql 60 (.slice a n c) (.slice none n' c')).run Tryz.prog w = .ok (.bool a.isNone) w := fun w a n c n' c' => Lib.run_eql_slice_nil w _ _ a n c n' c' Tryz.underlying60
  go_enter Tryz.func36, Tryz.ntmps36
  go_wp2
  go_ret
  exact ⟨rfl, rfl⟩
end Go.FM

/-
  THE LIBRARY's FUNCTIONS AS THE SMALL MACHINE SEES THEM: strings.Builder, strconv.Itoa, strconv.Atoi, strings.Cut, strings.Split: contracts over this program, out of the shelf's.
-/
namespace Go.FM
open Go Go.Proofs Go.RowKit

/-- What the calls ask of the package-level variables. -/
structure GF (h : Nat → Option Obj) : Prop where
  unit : True
  gm : ∃ c T fr m, h 0 = some (.cells c T fr) ∧ c[0]? = some (.int .i64 m)
  gp : ∃ T fr, h 1 = some (.cells (Lib.pow10Tab.map fun z => Value.int .u64 z).toArray T fr)
  gs : ∃ c T fr te pe, h 2 = some (.cells c T fr) ∧ c[0]? = some (.iface te pe)
  gr : ∃ c T fr te pe, h 3 = some (.cells c T fr) ∧ c[0]? = some (.iface te pe)
def B0 : BT := { T := 81, e := 5, ng := 4, F := GF }

theorem glob_cell {w : World} {h : Nat → Option Obj} (hh : h = fun b => if b < B0.ng then w.heap[b]? else none) {g : Nat} (hg : g < 4) {o : Obj} (ho : h g = some o) : w.heap[g]? = some o := by
  rw [hh] at ho
  simp only at ho
  rw [if_pos (show g < B0.ng from hg)] at ho
  exact ho

theorem glob_max {w : World} (h : Glob B0 w) : ∃ m, w.cell? ⟨0, 0, none⟩ = some (.int .i64 m) := by
  obtain ⟨c, T, fr, m, h1, h2⟩ := h.2.gm
  exact ⟨m, by simp only [World.cell?, glob_cell rfl (by decide) h1]; exact h2⟩
theorem glob_pow {w : World} (h : Glob B0 w) : Lib.TabIs Tryz.prog w "internal/strconv.uint64pow10" .u64 Lib.pow10Tab := by
  obtain ⟨T, fr, h1⟩ := h.2.gp
  have hn : Tryz.prog.globalNamed "internal/strconv.uint64pow10" = some 1 := by kernel_rfl
  unfold Lib.TabIs World.var?
  rw [hn]
  simp only [Option.bind_some, glob_cell rfl (by decide) h1]
theorem glob_syn {w : World} (h : Glob B0 w) : ∃ ev, w.cell? ⟨2, 0, none⟩ = some ev ∧ (ev = .nilIface ∨ ∃ te pe, ev = .iface te pe) := by
  obtain ⟨c, T, fr, te, pe, h1, h2⟩ := h.2.gs
  exact ⟨_, by simp only [World.cell?, glob_cell rfl (by decide) h1]; exact h2, .inr ⟨te, pe, rfl⟩⟩
theorem glob_ran {w : World} (h : Glob B0 w) : ∃ ev, w.cell? ⟨3, 0, none⟩ = some ev ∧ (ev = .nilIface ∨ ∃ te pe, ev = .iface te pe) := by
  obtain ⟨c, T, fr, te, pe, h1, h2⟩ := h.2.gr
  exact ⟨_, by simp only [World.cell?, glob_cell rfl (by decide) h1]; exact h2, .inr ⟨te, pe, rfl⟩⟩
theorem Keep.below {w w' : World} (h : Below w.heap.size w w') : Keep (fun _ => False) w w' := ⟨h.os, h.tape, h.output, h.size, fun b hb _ => h.block b hb⟩
theorem Keep.drewN {O : Nat → Prop} (w : World) : ∀ n, Keep O w (w.drewN n) := fun _ => ⟨rfl, rfl, rfl, Nat.le_refl _, fun _ _ _ => rfl⟩
theorem Keep.grow (w : World) (os : Array Obj) : Keep (fun _ => False) w (Go.Sort.grow w os) := ⟨rfl, rfl, rfl, by simp [Go.Sort.grow], fun b hb _ => by simp [Go.Sort.grow, Array.getElem?_append_left hb]⟩

/-! ### strings.Builder -/

theorem byteOf_cell {c : Int} (h0 : IntKind.u8.min ≤ c) (h1 : c ≤ IntKind.u8.max) : (Value.int .u8 ((byteOf c).toNat : Int)) = .int .u8 c := by
  have e1 : IntKind.u8.min = 0 := rfl
  have e2 : IntKind.u8.max = 255 := rfl
  have : ((byteOf c).toNat : Int) = c := by
    unfold byteOf
    rw [UInt8.toNat_ofNat_of_lt' (by simp [UInt8.size]; omega)]
    omega
  rw [this]



/-! ### strconv -/
set_option maxRecDepth 100000 in
theorem snd_strconv_Itoa : SndR PR B0 17 S_strconv_Itoa := by
  intro w X γ vs xs r out hsp hg hx hR hV
  unfold S_strconv_Itoa at hsp
  simp only at hsp
  split at hsp
  · rename_i n
    simp only [R.get, Option.some.injEq, Prod.mk.injEq] at hsp
    obtain ⟨rfl, rfl⟩ := hsp
    obtain ⟨x0, rfl⟩ : ∃ x0, xs = [x0] := by
      have := hV.length
      simp at this
      match xs, this with
      | [a], _ => exact ⟨a, rfl⟩
    simp only [List.map_cons, List.map_nil, entV, VRels, VRel, and_true] at hV
    obtain ⟨rfl, h0, h1⟩ := hV
    refine snd_plain hR rfl rfl (Does.of_calls Tryz.func17 (by kernel_rfl) (by kernel_rfl) ((Tryz.strconv_Itoa n h0 h1 w (glob_pow hg)).mono ?_))
    rintro e w' ⟨rfl, k, os, rfl⟩
    exact ⟨_, rfl, ((Keep.drewN w k).trans (Keep.grow _ os) (fun _ _ h => h)), fun O _ => by
      simp only [VRel]
      exact ⟨rfl, by have := itoaB_size h0 h1; unfold strMax; omega⟩⟩
  · simp [R.get] at hsp

set_option maxRecDepth 100000 in
theorem snd_strconv_Atoi : SndR PR B0 39 S_strconv_Atoi := by
  intro w X γ vs xs r out hsp hg hx hR hV
  unfold S_strconv_Atoi at hsp
  simp only at hsp
  split at hsp
  · rename_i s
    simp only [R.get, Option.some.injEq, Prod.mk.injEq] at hsp
    obtain ⟨rfl, rfl⟩ := hsp
    obtain ⟨x0, rfl⟩ : ∃ x0, xs = [x0] := by
      have := hV.length
      simp at this
      match xs, this with
      | [a], _ => exact ⟨a, rfl⟩
    simp only [List.map_cons, List.map_nil, entV, VRels, VRel, and_true] at hV
    obtain ⟨rfl, hs⟩ := hV
    unfold strMax at hs
    have hb := atoiV_bound s
    refine snd_plain hR rfl rfl (Does.of_calls Tryz.func39 (by kernel_rfl) (by kernel_rfl) ?_)
    cases ha : Lib.atoiAll s.data.toList
    · rename_i v
      refine (Tryz.strconv_Atoi_ok s (by omega) v ha w).mono ?_
      rintro e w' ⟨rfl, hw⟩
      have e1 : atoiV s = v := by unfold atoiV; rw [ha]
      have e2 : atoiN s = true := by unfold atoiN; rw [ha]
      rw [e1] at hb ⊢
      rw [e2]
      refine ⟨_, rfl, ?_, fun O _ => ?_⟩
      · rcases hw with rfl | ⟨t, rfl⟩
        · exact Keep.refl _ _
        · unfold Lib.bytesWorld
          have h1 := Keep.alloc (fun _ => False) w.drew (.cells (Lib.bytesCells w 5 t) 5)
          refine ((Keep.drew (fun _ => False) w).trans h1 (fun _ _ h => h)).trans (Keep.freeze (O := fun k => k = w.heap.size) _ ⟨w.heap.size, _, none⟩ 1 rfl) (fun b hb h => ?_)
          subst h
          exact absurd hb (Nat.lt_irrefl _)
      · simp only [VRel]
        exact ⟨_, rfl, by simp only [VRels, VRel, and_true, true_and]; exact hb⟩
    · skip
      obtain ⟨ev, h1, h2⟩ := glob_syn hg
      refine (Tryz.strconv_Atoi_syntax s (by omega) ha ev w h1 h2).mono ?_
      rintro e w' ⟨N, rfl, _, _, hw⟩
      have e1 : atoiV s = 0 := by unfold atoiV; rw [ha]
      have e2 : atoiN s = false := by unfold atoiN; rw [ha]
      rw [e1] at hb ⊢
      rw [e2]
      refine ⟨_, rfl, Keep.below hw, fun O _ => ?_⟩
      simp only [VRel]
      exact ⟨_, rfl, by simp only [VRels, VRel, and_true]; exact ⟨⟨trivial, hb⟩, _, _, rfl⟩⟩
    · skip
      obtain ⟨ev, h1, h2⟩ := glob_ran hg
      refine (Tryz.strconv_Atoi_range s (by omega) ha ev w h1 h2).mono ?_
      rintro e w' ⟨N, rfl, _, _, hw⟩
      have e1 : atoiV s = Lib.atoiSat s.data.toList := by unfold atoiV; rw [ha]
      have e2 : atoiN s = false := by unfold atoiN; rw [ha]
      rw [e1] at hb ⊢
      rw [e2]
      refine ⟨_, rfl, Keep.below hw, fun O _ => ?_⟩
      simp only [VRel]
      exact ⟨_, rfl, by simp only [VRels, VRel, and_true]; exact ⟨⟨trivial, hb⟩, _, _, rfl⟩⟩
  · simp [R.get] at hsp

set_option maxRecDepth 100000 in
theorem snd_strconv_FormatUint : SndR PR B0 28 S_strconv_FormatUint := by
  intro w X γ vs xs r out hsp hg hx hR hV
  unfold S_strconv_FormatUint at hsp
  simp only at hsp
  split at hsp
  · rename_i n b
    cases hc : decide (b = 10) with
    | false => rw [hc] at hsp; simp [R.get] at hsp
    | true =>
      rw [hc] at hsp
      have hb := of_decide_eq_true hc
      subst hb
      simp only [R.get, Option.some.injEq, Prod.mk.injEq] at hsp
      obtain ⟨rfl, rfl⟩ := hsp
      obtain ⟨x0, x1, rfl⟩ : ∃ x0 x1, xs = [x0, x1] := by
        have := hV.length
        simp at this
        match xs, this with
        | [a, b], _ => exact ⟨a, b, rfl⟩
      simp only [List.map_cons, List.map_nil, entV, VRels, VRel, and_true] at hV
      obtain ⟨⟨rfl, h0, h1⟩, rfl, _⟩ := hV
      have e0 : IntKind.u64.min = 0 := rfl
      have e1 : IntKind.u64.max = 18446744073709551615 := rfl
      rw [e0] at h0
      rw [e1] at h1
      obtain ⟨u, rfl⟩ : ∃ u : Nat, n = u := ⟨n.toNat, by omega⟩
      refine snd_plain hR rfl rfl (Does.of_calls Tryz.func28 (by kernel_rfl) (by kernel_rfl) ((fmtu u (by omega) w (glob_pow hg)).mono ?_))
      rintro e w' ⟨rfl, k, os, rfl⟩
      refine ⟨_, rfl, ((Keep.drewN w k).trans (Keep.grow _ os) (fun _ _ h => h)), fun O _ => ?_⟩
      simp only [VRel]
      have hz := numB_size h0 h1
      exact ⟨by simp [numB], by unfold strMax; omega⟩
  · simp [R.get] at hsp

set_option maxRecDepth 100000 in
theorem snd_strconv_ParseUint : SndR PR B0 81 S_strconv_ParseUint := by
  intro w X γ vs xs r out hsp hg hx hR hV
  unfold S_strconv_ParseUint at hsp
  simp only at hsp
  split at hsp
  · rename_i s b c
    cases hc : (decide (b = 10) && decide (c = 64)) with
    | false => rw [hc] at hsp; simp [R.get] at hsp
    | true =>
      rw [hc] at hsp
      simp only [Bool.and_eq_true, decide_eq_true_eq] at hc
      obtain ⟨rfl, rfl⟩ := hc
      simp only [R.get, Option.some.injEq, Prod.mk.injEq] at hsp
      obtain ⟨rfl, rfl⟩ := hsp
      obtain ⟨x0, x1, x2, rfl⟩ : ∃ x0 x1 x2, xs = [x0, x1, x2] := by
        have := hV.length
        simp at this
        match xs, this with
        | [a, b, c], _ => exact ⟨a, b, c, rfl⟩
      simp only [List.map_cons, List.map_nil, entV, VRels, VRel, and_true] at hV
      obtain ⟨⟨rfl, hs⟩, ⟨rfl, _⟩, rfl, _⟩ := hV
      unfold strMax at hs
      have hb := puV_bound s
      refine snd_plain hR rfl rfl (Does.of_calls Tryz.func81 (by kernel_rfl) (by kernel_rfl) ?_)
      cases ha : Lib.parseMag s.data.toList
      · rename_i v
        refine (Tryz.strconv_ParseUint_10_at64_ok s (by omega) v (by rw [Lib.parseUintB_64]; exact ha) w).mono ?_
        rintro e w' ⟨rfl, hw⟩
        have e1 : puV s = v := by unfold puV; rw [ha]
        have e2 : puN s = true := by unfold puN; rw [ha]
        rw [e1] at hb ⊢
        rw [e2]
        refine ⟨_, rfl, ?_, fun O _ => ?_⟩
        · rcases hw with rfl | rfl
          · exact Keep.refl _ _
          · unfold Lib.bytesWorld
            have h1 := Keep.alloc (fun _ => False) w.drew (.cells (Lib.bytesCells w 5 s) 5)
            refine ((Keep.drew (fun _ => False) w).trans h1 (fun _ _ h => h)).trans (Keep.freeze (O := fun k => k = w.heap.size) _ ⟨w.heap.size, _, none⟩ 1 rfl) (fun b hb h => ?_)
            subst h
            exact absurd hb (Nat.lt_irrefl _)
        · simp only [VRel]
          exact ⟨_, rfl, by simp only [VRels, VRel, and_true, true_and]; exact hb⟩
      · skip
        obtain ⟨ev, h1, h2⟩ := glob_syn hg
        refine (Tryz.strconv_ParseUint_10_at64_syntax s (by omega) (by rw [Lib.parseUintB_64]; exact ha) ev w h1 h2).mono ?_
        rintro e w' ⟨N, rfl, _, _, hw⟩
        have e1 : puV s = 0 := by unfold puV; rw [ha]
        have e2 : puN s = false := by unfold puN; rw [ha]
        rw [e1] at hb ⊢
        rw [e2]
        refine ⟨_, rfl, Keep.below hw, fun O _ => ?_⟩
        simp only [VRel]
        exact ⟨_, rfl, by simp only [VRels, VRel, and_true]; exact ⟨⟨trivial, hb⟩, _, _, rfl⟩⟩
      · skip
        obtain ⟨ev, h1, h2⟩ := glob_ran hg
        refine (Tryz.strconv_ParseUint_10_at64_range s (by omega) (by rw [Lib.parseUintB_64]; exact ha) ev w h1 h2).mono ?_
        rintro e w' ⟨N, rfl, _, _, hw⟩
        have e1 : puV s = 18446744073709551615 := by unfold puV; rw [ha]
        have e2 : puN s = false := by unfold puN; rw [ha]
        rw [e1] at hb ⊢
        rw [e2]
        refine ⟨_, rfl, Keep.below hw, fun O _ => ?_⟩
        simp only [VRel]
        exact ⟨_, rfl, by simp only [VRels, VRel, and_true]; exact ⟨⟨trivial, hb⟩, _, _, rfl⟩⟩
  · simp [R.get] at hsp

/-! ### strings -/
set_option maxRecDepth 100000 in
theorem snd_strings_TrimRight : SndR PR B0 30 S_strings_TrimRight := by
  intro w X γ vs xs r out hsp hg hx hR hV
  unfold S_strings_TrimRight at hsp
  simp only at hsp
  split at hsp
  · rename_i s cs
    cases hc : (decide (cs.size = 1) && decide ((cs.data.toList.headD 0).toNat < 128)) with
    | false => rw [hc] at hsp; simp [R.get] at hsp
    | true =>
      rw [hc] at hsp
      simp only [Bool.and_eq_true, decide_eq_true_eq] at hc
      simp only [R.get, Option.some.injEq, Prod.mk.injEq] at hsp
      obtain ⟨rfl, rfl⟩ := hsp
      obtain ⟨c, rfl⟩ : ∃ c, cs = ⟨#[c]⟩ := by
        obtain ⟨⟨l⟩⟩ := cs
        have h1 : l.length = 1 := hc.1
        match l, h1 with
        | [c], _ => exact ⟨c, rfl⟩
      obtain ⟨x0, x1, rfl⟩ : ∃ x0 x1, xs = [x0, x1] := by
        have := hV.length
        simp at this
        match xs, this with
        | [a, b], _ => exact ⟨a, b, rfl⟩
      simp only [List.map_cons, List.map_nil, entV, VRels, VRel, and_true] at hV
      obtain ⟨⟨rfl, hs⟩, rfl, _⟩ := hV
      have hz := trimRB_size s ⟨#[c]⟩
      unfold strMax at hs
      refine snd_plain hR rfl rfl (Does.of_calls Tryz.func30 (by kernel_rfl) (by kernel_rfl) ((Tryz.strings_TrimRight_one s c hc.2 w (by omega)).mono ?_))
      rintro e w' ⟨rfl, rfl⟩
      refine ⟨_, rfl, Keep.refl _ _, fun O _ => ?_⟩
      simp only [VRel]
      exact ⟨rfl, by unfold strMax; omega⟩
  · simp [R.get] at hsp

set_option maxRecDepth 100000 in
theorem snd_strings_Repeat : SndR PR B0 31 S_strings_Repeat := by
  intro w X γ vs xs r out hsp hg hx hR hV
  unfold S_strings_Repeat at hsp
  simp only at hsp
  split at hsp
  · rename_i s n
    cases hc : (decide (0 ≤ n) && decide (s.size * n.toNat ≤ strMax)) with
    | false => rw [hc] at hsp; simp [R.get] at hsp
    | true =>
      rw [hc] at hsp
      simp only [Bool.and_eq_true, decide_eq_true_eq] at hc
      simp only [R.get, Option.some.injEq, Prod.mk.injEq] at hsp
      obtain ⟨rfl, rfl⟩ := hsp
      obtain ⟨x0, x1, rfl⟩ : ∃ x0 x1, xs = [x0, x1] := by
        have := hV.length
        simp at this
        match xs, this with
        | [a, b], _ => exact ⟨a, b, rfl⟩
      simp only [List.map_cons, List.map_nil, entV, VRels, VRel, and_true] at hV
      obtain ⟨⟨rfl, hs⟩, rfl, _, hn1⟩ := hV
      have e1 : IntKind.i64.max = 9223372036854775807 := rfl
      rw [e1] at hn1
      obtain ⟨c, rfl⟩ : ∃ c : Nat, n = c := ⟨n.toNat, by omega⟩
      have hz := repB_size s c
      have hle := hc.2
      simp only [Int.toNat_natCast] at hle ⊢
      unfold strMax at hle
      refine snd_plain hR rfl rfl (Does.of_calls Tryz.func31 (by kernel_rfl) (by kernel_rfl) ((Tryz.strings_Repeat s c w (by omega) (by omega)).mono ?_))
      rintro e w' ⟨rfl, hw⟩
      refine ⟨_, rfl, Keep.below hw, fun O _ => ?_⟩
      simp only [VRel]
      exact ⟨rfl, by rw [hz]; unfold strMax; omega⟩
  · simp [R.get] at hsp

set_option maxRecDepth 100000 in
theorem snd_strings_CutPrefix : SndR PR B0 56 S_strings_CutPrefix := by
  intro w X γ vs xs r out hsp hg hx hR hV
  unfold S_strings_CutPrefix at hsp
  simp only at hsp
  split at hsp
  · rename_i s p
    simp only [R.get, Option.some.injEq, Prod.mk.injEq] at hsp
    obtain ⟨rfl, rfl⟩ := hsp
    obtain ⟨x0, x1, rfl⟩ : ∃ x0 x1, xs = [x0, x1] := by
      have := hV.length
      simp at this
      match xs, this with
      | [a, b], _ => exact ⟨a, b, rfl⟩
    simp only [List.map_cons, List.map_nil, entV, VRels, VRel, and_true] at hV
    obtain ⟨⟨rfl, hs⟩, rfl, _⟩ := hV
    have hz := trimPreB_size s p
    refine snd_plain hR rfl rfl (Does.of_calls Tryz.func56 (by kernel_rfl) (by kernel_rfl) ((Tryz.strings_CutPrefix s p w).mono ?_))
    rintro e w' ⟨rfl, rfl⟩
    refine ⟨_, rfl, Keep.refl _ _, fun O _ => ?_⟩
    simp only [VRel]
    exact ⟨_, rfl, by simp only [VRels, VRel, and_true]; exact ⟨⟨rfl, by omega⟩, rfl⟩⟩
  · simp [R.get] at hsp

set_option maxRecDepth 100000 in
theorem snd_strings_Cut : SndR PR B0 23 S_strings_Cut := by
  intro w X γ vs xs r out hsp hg hx hR hV
  unfold S_strings_Cut at hsp
  simp only at hsp
  split at hsp
  · rename_i s sep
    cases hc : decide (s.size < 4294967281) with
    | false => rw [hc] at hsp; simp [R.get] at hsp
    | true =>
      rw [hc] at hsp
      simp only [R.get, Option.some.injEq, Prod.mk.injEq] at hsp
      obtain ⟨rfl, rfl⟩ := hsp
      obtain ⟨x0, x1, rfl⟩ : ∃ x0 x1, xs = [x0, x1] := by
        have := hV.length
        simp at this
        match xs, this with
        | [a, b], _ => exact ⟨a, b, rfl⟩
      simp only [List.map_cons, List.map_nil, entV, VRels, VRel, and_true] at hV
      obtain ⟨⟨rfl, hs⟩, rfl, hsep⟩ := hV
      obtain ⟨m, hm⟩ := glob_max hg
      refine snd_plain hR rfl rfl (Does.of_calls Tryz.func23 (by kernel_rfl) (by kernel_rfl) ((Tryz.strings_Cut s sep m w (of_decide_eq_true hc) hm).mono ?_))
      rintro e w' ⟨rfl, n, rfl⟩
      have hsz := cut_sizes s sep
      refine ⟨_, rfl, Keep.drewN w n, fun O _ => ?_⟩
      simp only [VRel]
      exact ⟨_, rfl, by simp only [VRels, VRel, and_true]; exact ⟨⟨rfl, by omega⟩, ⟨rfl, by omega⟩, rfl⟩⟩
  · simp [R.get] at hsp

set_option maxRecDepth 100000 in
theorem snd_strings_Split : SndR PR B0 20 S_strings_Split := by
  intro w X γ vs xs r out hsp hg hx hR hV
  unfold S_strings_Split at hsp
  simp only at hsp
  split at hsp
  · rename_i s sep
    cases hc : (decide (s.size < 4294967281) && decide (1 ≤ sep.size)) with
    | false => rw [hc] at hsp; simp [R.get] at hsp
    | true =>
      rw [hc] at hsp
      simp only [Bool.and_eq_true, decide_eq_true_eq] at hc
      simp only [R.get, Option.some.injEq, Prod.mk.injEq] at hsp
      obtain ⟨rfl, rfl⟩ := hsp
      obtain ⟨x0, x1, rfl⟩ : ∃ x0 x1, xs = [x0, x1] := by
        have := hV.length
        simp at this
        match xs, this with
        | [a, b], _ => exact ⟨a, b, rfl⟩
      simp only [List.map_cons, List.map_nil, entV, VRels, VRel, and_true] at hV
      obtain ⟨⟨rfl, hs⟩, rfl, hsep⟩ := hV
      obtain ⟨m, hm⟩ := glob_max hg
      have hlen := Lib.splitB_all sep hc.2 0 _ s rfl
      have hcnt := Lib.countB_le sep hc.2 s.size s (Nat.le_refl _)
      refine snd_plain hR rfl rfl (Does.of_calls Tryz.func20 (by kernel_rfl) (by kernel_rfl) ((Tryz.strings_Split s sep m w hc.1 hm hc.2).mono ?_))
      rintro e w' ⟨rfl, rfl⟩
      refine ⟨_, rfl, Keep.alloc _ w _, fun O hO => ?_⟩
      simp only [VRel]
      have := strs_rel (w := w) (w' := w.alloc (.cells ((splitL s sep).map Value.string).toArray 9)) hO (g := w.heap.size) (Nat.le_refl _) (heap_alloc_new w _) (l := splitL s sep) (c := Lib.countB s sep + 1) (by unfold splitL; omega) (by unfold maxLen; omega) (by unfold splitL strMax; omega) (fun p hp => Nat.le_trans ((splitB_sizes sep _ s).2 p hp) hs)
      unfold splitL at this ⊢
      rw [hlen] at this
      exact this
  · simp [R.get] at hsp

theorem str_cells {w : World} {O : Nat → Prop} {l : List IV} {x : Value} (h : Kd.Rel w O (.list false [.str]) (.list l) x) : ∃ p c, x = .slice p l.length c ∧ l.length ≤ c ∧ c ≤ maxLen ∧ l.length ≤ strMax ∧ ∀ j y, l[j]? = some y → ∃ b o, p = some ⟨b, o, none⟩ ∧ b < w.heap.size ∧ w.cell? ⟨b, o + j, none⟩ = some (.string y.toStr) ∧ y.toStr.size ≤ strMax := by
  simp only [Kd.Rel, IV.toList] at h
  obtain ⟨p, c, rfl, hc, hm, hl, hi⟩ := h
  refine ⟨p, c, rfl, hc, hm, hl, fun j y hy => ?_⟩
  obtain ⟨b, o, rfl, _, hb, hr⟩ := hi j y hy
  simp only [Kd.RelAll, List.length_cons, List.length_nil, Nat.zero_add, Nat.mul_one, Nat.add_zero, and_true] at hr
  obtain ⟨u, hu, hs⟩ := hr
  simp only [Kd.Rel, cellOf] at hs
  obtain ⟨rfl, hs⟩ := hs
  exact ⟨b, o, rfl, hb, hu, hs⟩

set_option maxRecDepth 100000 in
theorem snd_strings_Join : SndR PR B0 19 S_strings_Join := by
  intro w X γ vs xs r out hsp hg hx hR hV
  unfold S_strings_Join at hsp
  simp only at hsp
  split at hsp
  · rename_i l sep
    cases hc : (decide (l.length ≤ strMax) && decide ((joinB (l.map IV.toStr) sep).size ≤ strMax)) with
    | false => rw [hc] at hsp; simp [R.get] at hsp
    | true =>
      rw [hc] at hsp
      simp only [Bool.and_eq_true, decide_eq_true_eq] at hc
      simp only [R.get, Option.some.injEq, Prod.mk.injEq] at hsp
      obtain ⟨rfl, rfl⟩ := hsp
      obtain ⟨x0, x1, rfl⟩ : ∃ x0 x1, xs = [x0, x1] := by
        have := hV.length
        simp at this
        match xs, this with
        | [a, b], _ => exact ⟨a, b, rfl⟩
      simp only [List.map_cons, List.map_nil, entV, VRels, VRel, and_true] at hV
      obtain ⟨h0, rfl, _⟩ := hV
      obtain ⟨p, c, rfl, hc1, hc2, hc3, hcell⟩ := str_cells h0
      have hz : (joinB (l.map IV.toStr) sep).size = (Lib.join ((l.map IV.toStr).map (·.data.toList)) sep.data.toList).length := by
        show (Array.size (List.toArray _)) = _
        rw [List.size_toArray]
      have hle := hc.2
      rw [hz] at hle
      unfold strMax at hle hc3
      refine snd_plain hR rfl rfl (Does.of_calls Tryz.func19 (by kernel_rfl) (by kernel_rfl) (Calls.mono (R := fun e w' => e = .returned (.string (joinB (l.map IV.toStr) sep)) ∧ Below w.heap.size w w') ?_ ?_))
      · cases l with
        | nil =>
          refine (Tryz.strings_Join_none p c sep w).mono ?_
          rintro e w' ⟨rfl, rfl⟩
          exact ⟨rfl, Below.refl _ _⟩
        | cons y r =>
          obtain ⟨b, o, rfl, hb, _⟩ := hcell 0 y rfl
          have := Tryz.strings_Join b o c ((y :: r).map IV.toStr) sep w (fun j x hj => by
            rw [List.getElem?_map, Option.map_eq_some_iff] at hj
            obtain ⟨y', hj, rfl⟩ := hj
            obtain ⟨b', o', hp, _, hu, _⟩ := hcell j y' hj
            simp only [Option.some.injEq, Addr.mk.injEq, and_true] at hp
            obtain ⟨rfl, rfl⟩ := hp
            exact hu) hb (by rw [List.length_map]; omega) (by rw [List.length_map]; omega) (by omega)
          rw [List.length_map] at this
          exact this
      · rintro e w' ⟨rfl, hw⟩
        refine ⟨_, rfl, Keep.below hw, fun O _ => ?_⟩
        simp only [VRel]
        exact ⟨trivial, by rw [hz]; unfold strMax; omega⟩
  · simp [R.get] at hsp

set_option maxRecDepth 100000 in
theorem snd_slices_Clone_stringstring : SndR PR B0 36 S_slices_Clone_stringstring := by
  intro w X γ vs xs r out hsp hg hx hR hV
  unfold S_slices_Clone_stringstring at hsp
  simp only at hsp
  split at hsp
  · rename_i l
    cases hc : decide (l.length ≤ 4294967296) with
    | false => rw [hc] at hsp; simp [R.get] at hsp
    | true =>
      rw [hc] at hsp
      have hc := of_decide_eq_true hc
      simp only [R.get, Option.some.injEq, Prod.mk.injEq] at hsp
      obtain ⟨rfl, rfl⟩ := hsp
      obtain ⟨x0, rfl⟩ : ∃ x0, xs = [x0] := by
        have := hV.length
        simp at this
        match xs, this with
        | [a], _ => exact ⟨a, rfl⟩
      simp only [List.map_cons, List.map_nil, entV, VRels, VRel, and_true] at hV
      obtain ⟨p, c, rfl, hc1, hc2, hc3, hcell⟩ := str_cells hV
      have hel : ∀ (w' : World) (O : Nat → Prop) i y, l[i]? = some y → Kd.RelAll w' O [.str] (cellOf false y) 0 (fun j u => (l.map fun y => Value.string y.toStr)[i * [Kd.str].length + j]? = some u) := fun w' O i y hy => by
        obtain ⟨b, o, _, _, _, hs⟩ := hcell i y hy
        simp only [Kd.RelAll, List.length_cons, List.length_nil, Nat.zero_add, Nat.mul_one, Nat.add_zero, and_true]
        refine ⟨.string y.toStr, by rw [List.getElem?_map, hy]; rfl, ?_⟩
        simp only [Kd.Rel, cellOf]
        exact ⟨trivial, hs⟩
      refine snd_fresh hR rfl (by decide) (by decide) hc3 (Does.of_calls Tryz.func36 (by kernel_rfl) (by kernel_rfl) ?_)
      cases p with
      | none =>
        have h0 : l = [] := by
          cases l with
          | nil => rfl
          | cons y r =>
            obtain ⟨b, o, hp, _⟩ := hcell 0 y rfl
            cases hp
        subst h0
        refine (clone_nil _ c w).mono ?_
        rintro e w' ⟨rfl, rfl⟩
        exact ⟨_, [], rfl, Keep.refl _ _, ⟨rfl, .inl ⟨rfl, rfl⟩⟩, hel _⟩
      | some a =>
        refine (clone_str a l.length c (l.map fun y => Value.string y.toStr) w (by rw [List.length_map]) (by unfold maxLen; omega) (by omega) (fun j u hj => ?_) (fun u hu => ?_)).mono ?_
        · rw [List.getElem?_map, Option.map_eq_some_iff] at hj
          obtain ⟨y, hj, rfl⟩ := hj
          obtain ⟨b, o, hp, _, hu, _⟩ := hcell j y hj
          simp only [Option.some.injEq] at hp
          subst hp
          rw [Addr.add_lit]
          exact hu
        · rw [List.mem_map] at hu
          obtain ⟨y, _, rfl⟩ := hu
          rfl
        · rintro e w' ⟨v', rfl, hown, hw⟩
          exact ⟨v', _, rfl, Keep.below hw, hown, hel _⟩
  · simp [R.get] at hsp

/-! ### contracts out of runs -/
def SpsOK : List (Nat × RSpec) → Prop
  | [] => True
  | (f, sp) :: r => SndR PR B0 f sp ∧ SpsOK r

set_option maxRecDepth 100000 in
theorem SpsOK.get : ∀ {l : List (Nat × RSpec)}, SpsOK l → ∀ f sp, lk l f = some sp → SndR PR B0 f sp
  | [], _, f, sp, h => by simp [lk] at h
  | (g, sg) :: r, hs, f, sp, h => by
    simp only [lk] at h
    split at h
    · rename_i hb
      simp only [Option.some.injEq] at h
      subst h
      rw [← beq_eq'.1 hb]
      exact hs.1
    · exact SpsOK.get hs.2 f sp h

set_option maxRecDepth 100000 in
theorem snd_mk {f : Nat} {fn : Func} {code : Code} {rs : List ResultVar} {nt : Nat} (sps : List (Nat × RSpec)) (lp : List (Nat × KP)) (sp : RSpec) (rks : List (List Kd)) (hf : PR.funcs[f]? = some fn)
    (hc : (fn.name == "runtime.NumGoroutine") = false ∧ fn.body = some code ∧ fn.ntmps = nt ∧ Nat.ble nt 900000 = true ∧ fn.results.toList = rs) (hs : SpsOK sps)
    (h : ∀ vs r, (oneBor vs (borOf vs) → wfVs vs) → (sp vs).get = some r → ∃ N, evFun (mkE sps lp nt N) code rs rks vs = some r) : SndR PR B0 f sp :=
  snd_fun (mkE sps lp nt) sp rks hf hc (fun _ => rfl) mo_ok (fun _ => tisB_ok rfl ti_ok) (fun _ => eqsB_ok rfl eq_ok) (fun _ => hs.get) (fun _ _ => bld_ok) h

end Go.FM

/-
  SMALL LEMMAS FOR NORMAL FORMS: counters, bounds.
-/
namespace Go.FM
open Go Go.RowKit

theorem wrap_id {n : Int} (h0 : -9223372036854775808 ≤ n) (h1 : n ≤ 9223372036854775807) : IntKind.wrap .i64 n = n := by
  have e : IntKind.wrap .i64 n = (n + 9223372036854775808) % 18446744073709551616 - 9223372036854775808 := by
    simp [IntKind.wrap, IntKind.bits, IntKind.signed]
    omega
  rw [e]
  omega
theorem idx_lt {α : Type} {l : List α} {i : Nat} (h : i < l.length) : decide ((i : Int) < ic l.length) = true := by simp [ic]; omega
theorem idx_ge {α : Type} {l : List α} {i : Nat} (h : l.length ≤ i) : decide ((i : Int) < ic l.length) = false := by simp [ic]; omega
theorem idx_0 {i : Nat} : decide (0 ≤ (i : Int)) = true := by simp
theorem succ_w {i : Nat} (h : i < 9223372036854775807) : IntKind.wrap .i64 ((i : Int) + 1) = ((i + 1 : Nat) : Int) := by rw [wrap_id (by omega) (by omega)]; rfl
theorem getD_i {α : Type} [Inhabited α] {l : List α} {i : Nat} (h : i < l.length) : l.getD (i : Int).toNat default = l[i] := by simp [h]
theorem int_lt {i n : Nat} (h : i < n) : decide ((i : Int) < ic n) = true := by simp [ic]; omega
theorem int_ge {i n : Nat} (h : n ≤ i) : decide ((i : Int) < ic n) = false := by simp [ic]; omega
theorem dec_le_not (a b : Int) : decide (a ≤ b) = !decide (b < a) := by rw [Bool.eq_iff_iff]; simp
theorem dec_ge_not (a b : Int) : decide (a ≥ b) = !decide (a < b) := by rw [Bool.eq_iff_iff]; simp
theorem dec_gt (a b : Int) : decide (a > b) = decide (b < a) := rfl
theorem beq_dec (a b : Int) : (a == b) = decide (a = b) := rfl
theorem bne_dec (a b : Int) : (a != b) = !decide (a = b) := rfl

/-- (no rfl-lemmas: the kernel is not to unfold what stands under them) -/
theorem condT {α : Type _} (a b : α) : cond true a b = a := Eq.trans (Eq.refl a) (Eq.refl a)
theorem condF {α : Type _} (a b : α) : cond false a b = b := Eq.trans (Eq.refl b) (Eq.refl b)

end Go.FM

/-
  FROM A ROW's PREMISES TO WHAT THE SMALL MACHINE ASKS OF THE PACKAGE-LEVEL VARIABLES; a call out of the row's world.
-/
namespace Go.FM
open Go Go.Proofs Go.RowKit

set_option maxRecDepth 100000 in
theorem heap_of_var {P : Program} {w : World} {name : String} {g : Nat} {cs : Array Value} (hn : P.globalNamed name = some g) (hv : w.var? P name = some cs) : ∃ T fr, w.heap[g]? = some (.cells cs T fr) := by
  unfold World.var? at hv
  rw [hn] at hv
  simp only [Option.bind_some] at hv
  split at hv
  · rename_i c T fr hh
    simp only [Option.some.injEq] at hv
    subst hv
    exact ⟨T, fr, hh⟩
  · cases hv

set_option maxRecDepth 100000 in
theorem err_cell {w : World} {name : String} {g t : Nat} {ms : Array (String × TypeId)} {tn : String} {d : DataW Unit} (h : Lib.VarReads Tryz.prog w name (.iface tn d)) (hn : Tryz.prog.globalNamed name = some g)
    (ht : (Tryz.prog.globals[g]?).map (·.type) = some t) (hu : Tryz.prog.underlying t = some (.interface ms)) : ∃ c T fr te pe, w.heap[g]? = some (.cells c T fr) ∧ c[0]? = some (.iface te pe) := by
  obtain ⟨g', t', cs, fuel, p, h1, h2, h3, h4⟩ := h
  obtain rfl := Option.some.inj (hn.symm.trans h1)
  obtain rfl := Option.some.inj (ht.symm.trans h2)
  obtain ⟨f', u, v, hcs, _, _⟩ := iface_of_trod hu h4
  obtain ⟨T, fr, hh⟩ := heap_of_var hn h3
  refine ⟨cs, T, fr, u, v, hh, ?_⟩
  have : cs = #[.iface u v] := by
    apply Array.ext'
    rw [hcs]
  rw [this]
  rfl

set_option maxRecDepth 100000 in
theorem glob_row {W : World} {l : List (String × DataW Unit)} (hL : laidMet Tryz.prog l W) (hsh : W.ShapedOpen Tryz.prog)
    (hp : ("internal/strconv.uint64pow10", Lib.tabData .u64 Lib.pow10Tab) ∈ l)
    {n1 : String} {d1 : DataW Unit} (h1 : ("strconv.ErrRange", .iface n1 d1) ∈ l)
    {n2 : String} {d2 : DataW Unit} (h2 : ("strconv.ErrSyntax", .iface n2 d2) ∈ l)
    : Glob B0 W := by
  have hz : ∀ g, g < 4 → g < Tryz.prog.globals.size → g < W.heap.size := fun g _ hg => by
    have hb : ((List.range Tryz.prog.globals.size).all fun g => (((begin Tryz.prog (fun _ _ => 0) default).world.heap[g]?).bind Obj.row?).isSome) = true := by kernel_rfl
    have := List.all_eq_true.1 hb g (List.mem_range.2 hg)
    obtain ⟨⟨z, t⟩, hz⟩ := Option.isSome_iff_exists.1 this
    obtain ⟨cs, hh, _⟩ := hsh.1 g z t hg hz
    exact (Array.getElem?_eq_some_iff.1 hh).1
  have hsize : 4 ≤ W.heap.size := by
    have := hz (4 - 1) (by decide) (of_decide_eq_true (by kernel_rfl))
    omega
  have low : ∀ {g : Nat}, g < 4 → (fun b => if b < B0.ng then W.heap[b]? else none) g = W.heap[g]? := fun h => if_pos (show _ < B0.ng from h)
  refine ⟨hsize, ?_⟩
  show GF _
  constructor
  case unit => trivial
  case gm =>
    obtain ⟨m, hm⟩ := cell_of_shapedOpen_int (P := Tryz.prog) (g := 0) (t := 3) (zero := #[.int .i64 0]) hsh (of_decide_eq_true (by kernel_rfl)) (by kernel_rfl) rfl (by kernel_rfl) (by kernel_rfl) Tryz.underlying3
    simp only [World.cell?] at hm
    split at hm
    · rename_i c T fr' hh
      exact ⟨c, T, fr', m, (low (by decide)).trans hh, hm⟩
    · cases hm
  case gp =>
    have gp : Tryz.prog.globalNamed "internal/strconv.uint64pow10" = some 1 := by kernel_rfl
    obtain ⟨g', t', cp, fuel, p, e1, e2, e3, e4⟩ := Lib.laidMet.reads hL hp
    obtain rfl := Option.some.inj (gp.symm.trans e1)
    obtain ⟨T, fr', hh⟩ := heap_of_var gp e3
    refine ⟨T, fr', (low (by decide)).trans ?_⟩
    rw [hh]
    have et : (Tryz.prog.globals[1]?).map (·.type) = some 142 := by kernel_rfl
    obtain rfl := Option.some.inj (et.symm.trans e2)
    have := Lib.cells_of_tab (e := 72) (n := 20) (by kernel_rfl) (by kernel_rfl) (by kernel_rfl) (by kernel_rfl) e4
    congr 1
    congr 1
    apply Array.ext'
    exact this
  case gs =>
    obtain ⟨cs, Ts, fs, tes, pes, hs1, hs2⟩ := err_cell (g := 2) (Lib.laidMet.reads hL h2) (by kernel_rfl) (show _ = some 84 by kernel_rfl) Tryz.underlying84
    exact ⟨cs, Ts, fs, tes, pes, (low (by decide)).trans hs1, hs2⟩
  case gr =>
    obtain ⟨cr, Tr, fr, ter, per, hr1, hr2⟩ := err_cell (g := 3) (Lib.laidMet.reads hL h1) (by kernel_rfl) (show _ = some 84 by kernel_rfl) Tryz.underlying84
    exact ⟨cr, Tr, fr, ter, per, (low (by decide)).trans hr1, hr2⟩

/-! ### a call out of the row's world -/
def X0 : Zone := ⟨fun _ => False, fun _ => False⟩
def γ0 : Nat → Value := fun _ => .nilIface
abbrev O0 : Nat → Prop := Owned X0 γ0 []
set_option maxRecDepth 100000 in
theorem O0_no (b : Nat) : ¬ O0 b := by
  rintro (⟨n, ob, h, _⟩ | h)
  · simp [objOf, lkd] at h
  · exact h

set_option maxRecDepth 100000 in
theorem rel0 (W : World) : Rel B0.base 0 W X0 γ0 ⟨[], []⟩ act0 W := by
  have no : ∀ n ob, objOf ([] : Store) n ≠ some ob := fun n ob h => by simp [objOf, lkd] at h
  refine ⟨rfl, rfl, fun i => by simp only [St.get, lkd, VRel], fun n ob h => absurd h (no n ob), fun b h => ?_, fun n m ob ob' b _ h => absurd h (no n ob), Keep.refl _ _, fun b h => ?_, fun b h => h.elim, fun p _ ob h => absurd h (no _ ob)⟩
  · obtain ⟨n, ob, h, _⟩ := h
    exact absurd h (no n ob)
  · obtain ⟨n, ob, h, _⟩ := h
    exact absurd h (no n ob)

set_option maxRecDepth 100000 in
theorem calls_of_does {f : Nat} {fn : Func} (hf : PR.funcs[f]? = some fn) (hn : (fn.name == "runtime.NumGoroutine") = false) (hb : fn.body.isNone = false) {xs : List Value} {w : World} {R : Ending → World → Prop} (h : Does PR f xs w R) : Calls PR f xs.toArray w R := by
  have : (callFunc f xs.toArray).run PR w = .ok (.enter f xs.toArray) w := by
    unfold callFunc
    have hn' : ¬ fn.name = "runtime.NumGoroutine" := by simpa using hn
    have hb' : ¬ fn.body = none := fun h => by rw [h] at hb; cases hb
    simp [hf, hn', hb']
  unfold Does at h
  rw [this] at h
  exact h

set_option maxRecDepth 100000 in
/-- A law's call: true, and nothing that was there has turned. -/
theorem calls_true {f : Nat} {fn : Func} {sp : RSpec} (hS : SndR PR B0 f sp) (hf : PR.funcs[f]? = some fn) (hn : (fn.name == "runtime.NumGoroutine") = false) (hb : fn.body.isNone = false) {vs : List V} {xs : List Value} {W : World}
    (hsp : (sp vs).get = some (.bool true, [])) (hbor : borOf vs = none) (hG : Glob B0 W) (hV : VRels γ0 [] W O0 (vs.map entV) xs) :
    Calls PR f xs.toArray W fun e w' => e = .returned (.bool true) ∧ Below W.heap.size W w' := by
  refine calls_of_does hf hn hb ?_
  have em : memIn vs = [] := by unfold memIn; rw [hbor]
  refine Does.mono (hS W X0 γ0 vs xs (.bool true) [] hsp hG (fun b h => h.elim) (by rw [em]; exact rel0 W) (by rw [em]; exact hV)) ?_
  rintro e w' ⟨x, rfl, γ', hR, hx, _⟩
  simp only [retV, entV, VRel] at hx
  subst hx
  exact ⟨rfl, hR.keep.os, hR.keep.tape, hR.keep.output, hR.keep.size, fun b hb => hR.keep.block b hb (fun h => h)⟩

end Go.FM
