/-
  dec, in plain Lean: a number comes back out of its text, whatever is scanned is a number's text, the document's own scan says the same; and with that: the laws of chapter 3 come to true; no conditions beyond what each argument keeps.
-/
import Derived.Test.YtkjnomibkdbcoaaGreatDoorDfn

/-
  dec's PLAIN LAWS: a number's text is scanned to the number; whatever is scanned is a number's text; the document's own answer says the same. Of no program.
-/
namespace Go.FM
open Go

theorem tmod_rng {n m : Int} (h : 0 < m) : -m < n.tmod m ∧ n.tmod m < m := by
  constructor
  · rcases Int.lt_or_le n 0 with hn | hn
    · have e : n.tmod m = -((-n).tmod m) := by rw [Int.neg_tmod, Int.neg_neg]
      have := Int.tmod_lt_of_pos (-n) h
      omega
    · have := Int.tmod_nonneg m hn
      omega
  · exact Int.tmod_lt_of_pos n h
theorem within_in {n lo hi : Int} (h : lo ≤ hi) (h0 : -2000000000000000000 ≤ lo) (h1 : hi ≤ 2000000000000000000) : withinM lo hi = hi - lo + 1 ∧ lo ≤ withinZ n lo hi ∧ withinZ n lo hi ≤ hi := by
  have e1 : i64w (hi - lo) = hi - lo := wrap_id (by omega) (by omega)
  have e2 : withinM lo hi = hi - lo + 1 := by
    unfold withinM
    rw [e1]
    exact wrap_id (by omega) (by omega)
  refine ⟨e2, ?_⟩
  unfold withinZ
  rw [e2]
  obtain ⟨t0, t1⟩ := tmod_rng (n := n) (m := hi - lo + 1) (by omega)
  generalize n.tmod (hi - lo + 1) = q at t0 t1 ⊢
  cases hq : decide (q < 0) with
  | true =>
    have hq := of_decide_eq_true hq
    simp only [cond_true]
    have a1 : i64w (q + hi) = q + hi := wrap_id (by omega) (by omega)
    have a2 : i64w (q + hi - lo) = q + hi - lo := wrap_id (by omega) (by omega)
    have a3 : i64w (q + hi - lo + 1) = q + hi - lo + 1 := wrap_id (by omega) (by omega)
    have a4 : i64w (lo + (q + hi - lo + 1)) = lo + (q + hi - lo + 1) := wrap_id (by omega) (by omega)
    rw [a1, a2, a3, a4]
    omega
  | false =>
    have hq := of_decide_eq_false hq
    simp only [cond_false]
    have a1 : i64w (lo + q) = lo + q := wrap_id (by omega) (by omega)
    rw [a1]
    omega

theorem u64_wrap (n : Int) : IntKind.wrap .u64 n = n % 18446744073709551616 := by simp [IntKind.wrap, IntKind.bits, IntKind.signed]

/-! ### the 256 parts -/
abbrev InR (n : Int) : Prop := -9223372036854775808 ≤ n ∧ n ≤ 9223372036854775807
theorem all256 {f : Nat → Bool} (h : (List.range 256).all f = true) {r : Nat} (hr : r < 256) : f r = true := List.all_eq_true.1 h r (List.mem_range.2 hr)

def okParse (r : Nat) : Bool := match Lib.parseMag ((if r = 0 then [] else decsL r) ++ Lib.repeatL [48] (8 - (if r = 0 then [] else decsL r).length)) with | .ok v => Nat.beq v (r * 390625) | _ => false
theorem part_parse8 : (List.range 256).all okParse = true := by kernel_rfl
theorem part_parse {r : Nat} (h : r < 256) : Lib.parseMag ((if r = 0 then [] else decsL r) ++ Lib.repeatL [48] (8 - (if r = 0 then [] else decsL r).length)) = .ok (r * 390625) := by
  have := all256 part_parse8 h
  unfold okParse at this
  split at this
  · rename_i v hv
    rw [hv, Nat.eq_of_beq_eq_true this]
  · cases this

def okDecs (r : Nat) : Bool := Nat.beq r 0 || (Nat.ble (decsL r).length 8 && ((decsL r).all (fun c => Nat.ble 48 c.toNat && Nat.ble c.toNat 57) && (match (decsL r).reverse with | [] => false | c :: _ => !(Nat.beq c.toNat 48))))
theorem decs_ok8 : (List.range 256).all okDecs = true := by kernel_rfl
theorem decs_ok {r : Nat} (h0 : r ≠ 0) (h : r < 256) : (decsL r).length ≤ 8 ∧ (∀ c ∈ decsL r, 48 ≤ c.toNat ∧ c.toNat ≤ 57) ∧ ∃ l c, decsL r = l ++ [c] ∧ c.toNat ≠ 48 := by
  have := all256 decs_ok8 h
  unfold okDecs at this
  simp only [Bool.or_eq_true, Bool.and_eq_true, List.all_eq_true] at this
  rcases this with h1 | ⟨h1, h2, h3⟩
  · exact absurd (Nat.eq_of_beq_eq_true h1) h0
  · refine ⟨Nat.le_of_ble_eq_true h1, fun c hc => ⟨Nat.le_of_ble_eq_true (h2 c hc).1, Nat.le_of_ble_eq_true (h2 c hc).2⟩, ?_⟩
    cases hr : (decsL r).reverse with
    | nil => rw [hr] at h3; cases h3
    | cons c l =>
      rw [hr] at h3
      refine ⟨l.reverse, c, ?_, ?_⟩
      · have := congrArg List.reverse hr
        simpa using this
      · intro e
        have h3 : (!c.toNat.beq 48) = true := h3
        rw [e] at h3
        cases h3

def okHalf (r : Nat) : Bool := Nat.ble (if (2 * r) % 256 = 0 then [] else 46 :: decsL ((2 * r) % 256)).length (if r = 0 then [] else 46 :: decsL r).length
theorem half_ok8 : (List.range 256).all okHalf = true := by kernel_rfl
theorem half_ok {r : Nat} (h : r < 256) : (if (2 * r) % 256 = 0 then ([] : List UInt8) else 46 :: decsL ((2 * r) % 256)).length ≤ (if r = 0 then ([] : List UInt8) else 46 :: decsL r).length := Nat.le_of_ble_eq_true (all256 half_ok8 h)

/-! ### a number's text -/
theorem sizeL_eq (u : Nat) : sizeL u = Lib.decDigits (u / 256) ++ (if u % 256 = 0 then [] else 46 :: decsL (u % 256)) := rfl
theorem dec_first (v : Nat) : ∃ c r, Lib.decDigits v = c :: r ∧ 48 ≤ c.toNat ∧ c.toNat ≤ 57 := by
  cases h : Lib.decDigits v with
  | nil => exact absurd h (decDigits_ne v)
  | cons c r => exact ⟨c, r, rfl, decDigits_ch v c (by rw [h]; exact List.mem_cons_self ..)⟩
theorem size_first (u : Nat) : ∃ c r, sizeL u = c :: r ∧ 48 ≤ c.toNat ∧ c.toNat ≤ 57 := by
  obtain ⟨c, r, h, h1⟩ := dec_first (u / 256)
  exact ⟨c, r ++ _, by rw [sizeL_eq, h]; rfl, h1⟩
theorem size_last (u : Nat) : ∃ l c, sizeL u = l ++ [c] ∧ 48 ≤ c.toNat ∧ c.toNat ≤ 57 := by
  rw [sizeL_eq]
  by_cases h : u % 256 = 0
  · rw [if_pos h, List.append_nil]
    refine ⟨(Lib.decDigits (u / 256)).dropLast, (Lib.decDigits (u / 256)).getLast (decDigits_ne _), (List.dropLast_concat_getLast _).symm, ?_⟩
    exact decDigits_ch _ _ (List.getLast_mem _)
  · rw [if_neg h]
    obtain ⟨_, h2, l, c, h3, _⟩ := decs_ok h (by omega : u % 256 < 256)
    refine ⟨Lib.decDigits (u / 256) ++ 46 :: l, c, by rw [h3]; simp, h2 c (by rw [h3]; simp)⟩
theorem dec_no (v : Nat) {c : UInt8} (h : c.toNat < 48) : c ∉ Lib.decDigits v := fun hc => by
  have := decDigits_ch v c hc
  omega
theorem cut_none (w : List UInt8) (c : UInt8) (h : c ∉ w) : Lib.cut w [c] = (w, [], false) := by
  unfold Lib.cut
  rw [Lib.index_one, indexByte_no w c h, if_neg (by omega)]
theorem size_cut (u : Nat) : (Lib.cut (sizeL u) [46]).1 = Lib.decDigits (u / 256) ∧ (Lib.cut (sizeL u) [46]).2.1 = (if u % 256 = 0 then [] else decsL (u % 256)) := by
  have hno : (46 : UInt8) ∉ Lib.decDigits (u / 256) := dec_no _ (by decide)
  rw [sizeL_eq]
  by_cases h : u % 256 = 0
  · rw [if_pos h, if_pos h, List.append_nil, cut_none _ _ hno]
    exact ⟨rfl, rfl⟩
  · rw [if_neg h, if_neg h, cut_at _ _ _ hno]
    exact ⟨rfl, rfl⟩

theorem print_minus (n : Int) : hasPreB (printB n) w_minus = decide (n < 0) ∧ trimPreB (printB n) w_minus = ⟨(sizeL n.natAbs).toArray⟩ := by
  unfold hasPreB trimPreB Lib.trimPrefix Lib.hasPrefix printB printL
  show [(45 : UInt8)].isPrefixOf (if n < 0 then 45 :: sizeL n.natAbs else sizeL n.natAbs) = _ ∧ (⟨(if [(45 : UInt8)].isPrefixOf (if n < 0 then 45 :: sizeL n.natAbs else sizeL n.natAbs) = true then _ else (if n < 0 then 45 :: sizeL n.natAbs else sizeL n.natAbs)).toArray⟩ : ByteArray) = _
  by_cases h : n < 0
  · rw [if_pos h, decide_eq_true h]
    have e : [(45 : UInt8)].isPrefixOf (45 :: sizeL n.natAbs) = true := by simp [List.isPrefixOf]
    rw [e, if_pos rfl]
    exact ⟨rfl, rfl⟩
  · rw [if_neg h, decide_eq_false h]
    obtain ⟨c, r, hc, hc1, _⟩ := size_first n.natAbs
    have e : [(45 : UInt8)].isPrefixOf (sizeL n.natAbs) = false := by
      rw [hc]
      simp only [List.isPrefixOf, Bool.and_true, beq_eq_false_iff_ne]
      intro e
      rw [← e] at hc1
      revert hc1
      decide
    rw [e]
    simp

theorem puV_ok {s : ByteArray} {v : Nat} (h : Lib.parseMag s.data.toList = .ok v) : puV s = v ∧ puN s = true := by
  unfold puV puN
  rw [h]
  exact ⟨rfl, rfl⟩

theorem print_scan {n : Int} (hn : InR n) : decIs (printB n) = true ∧ decV (printB n) = n := by
  obtain ⟨hn0, hn1⟩ := hn
  obtain ⟨hm, hb⟩ := print_minus n
  have hu : n.natAbs ≤ 9223372036854775808 := by omega
  obtain ⟨c1, c2⟩ := size_cut n.natAbs
  have hW : decWhole (printB n) = ⟨(Lib.decDigits (n.natAbs / 256)).toArray⟩ := by
    unfold decWhole cutL
    rw [hb]
    show (⟨(Lib.cut (sizeL n.natAbs) [46]).1.toArray⟩ : ByteArray) = _
    rw [c1]
  have hP : decPart (printB n) = ⟨(if n.natAbs % 256 = 0 then [] else decsL (n.natAbs % 256)).toArray⟩ := by
    unfold decPart cutR
    rw [hb]
    show (⟨(Lib.cut (sizeL n.natAbs) [46]).2.1.toArray⟩ : ByteArray) = _
    rw [c2]
  have hr : n.natAbs % 256 < 256 := by omega
  obtain ⟨v1, n1⟩ := puV_ok (s := decWhole (printB n)) (v := n.natAbs / 256) (by rw [hW]; exact parse_mag _ (by omega))
  have hz : (decPart (printB n)).size = (if n.natAbs % 256 = 0 then ([] : List UInt8) else decsL (n.natAbs % 256)).length := by rw [hP, size_len]
  have h8 : (decPart (printB n)).size ≤ 8 := by
    rw [hz]
    split
    · simp
    · rename_i h0
      exact (decs_ok h0 hr).1
  obtain ⟨v2, n2⟩ := puV_ok (s := decFull (printB n)) (v := n.natAbs % 256 * 390625) (by
    have := part_parse hr
    unfold decFull
    rw [hz, hP]
    simp only [ByteArray.data_append, Array.toList_append]
    exact this)
  have hS : decSize (printB n) = (n.natAbs : Int) := by
    unfold decSize u64w
    rw [v1, v2]
    rw [u64_wrap, u64_wrap]
    omega
  have hN : decNum (printB n) = n := by
    unfold decNum
    rw [hm, hS]
    unfold i64w u64w
    cases hd : decide (n < 0) with
    | true =>
      have := of_decide_eq_true hd
      simp only [cond_true]
      rw [IntKind.wrap_i64, u64_wrap]
      omega
    | false =>
      have := of_decide_eq_false hd
      simp only [cond_false]
      rw [wrap_id (by omega) (by omega)]
      omega
  have hI : decIs (printB n) = true := by
    unfold decIs
    rw [decide_eq_true h8, n1, n2, v1, v2, hN, decide_eq_true (show ((n.natAbs / 256 : Nat) : Int) ≤ 36028797018963968 by omega), decide_eq_true (show ((n.natAbs % 256 * 390625 : Nat) : Int) % 390625 = 0 by omega), decide_eq_true rfl]
    rfl
  refine ⟨hI, ?_⟩
  unfold decV
  rw [hI, hN]
  rfl

theorem i64w_in (n : Int) : InR (i64w n) := by
  unfold i64w
  rw [IntKind.wrap_i64]
  omega
theorem scan_print {s : ByteArray} (h : decIs s = true) : printB (decV s) = s ∧ InR (decV s) := by
  unfold decV
  rw [h]
  unfold decIs at h
  simp only [Bool.and_eq_true, decide_eq_true_eq] at h
  exact ⟨h.2.2.2.2.2, i64w_in _⟩
theorem scan_none {s : ByteArray} (h : decIs s = false) : decV s = 0 := by
  unfold decV
  rw [h]
  rfl
theorem print_inj {n m : Int} (hn : InR n) (hm : InR m) (h : printB n = printB m) : n = m := by
  have := (print_scan hn).2
  rw [h, (print_scan hm).2] at this
  exact this.symm

/-! ### the ends of a text -/
theorem print_first (n : Int) : ∃ c r, (printB n).data.toList = c :: r ∧ c.toNat ≠ 43 := by
  show ∃ c r, printL n = c :: r ∧ c.toNat ≠ 43
  unfold printL
  split
  · exact ⟨45, _, rfl, by decide⟩
  · obtain ⟨c, r, h, h1, _⟩ := size_first n.natAbs
    exact ⟨c, r, h, by omega⟩
theorem print_last (n : Int) : ∃ l c, (printB n).data.toList = l ++ [c] ∧ 48 ≤ c.toNat := by
  show ∃ l c, printL n = l ++ [c] ∧ 48 ≤ c.toNat
  unfold printL
  obtain ⟨l, c, h, h1, _⟩ := size_last n.natAbs
  split
  · exact ⟨45 :: l, c, by rw [h]; rfl, h1⟩
  · exact ⟨l, c, h, h1⟩
theorem print_len (n : Int) (hn : InR n) : 1 ≤ (printB n).size ∧ (printB n).size ≤ 40 := by
  obtain ⟨c, r, h, _⟩ := print_first n
  refine ⟨by rw [size_len, h]; simp, ?_⟩
  rw [size_len]
  show (printL n).length ≤ 40
  have hs : (sizeL n.natAbs).length ≤ 30 := by
    rw [sizeL_eq, List.length_append]
    have h1 : (Lib.decDigits (n.natAbs / 256)).length ≤ 20 := by
      have := numB_size (n := ((n.natAbs / 256 : Nat) : Int)) (by omega) (by obtain ⟨_, _⟩ := hn; omega)
      rw [size_len] at this
      exact this
    split
    · simp; omega
    · rename_i h0
      have := (decs_ok h0 (by omega : n.natAbs % 256 < 256)).1
      simp only [List.length_cons]
      omega
  unfold printL
  split
  · simp only [List.length_cons]; omega
  · omega
theorem no_point (n : Int) : decIs (printB n ++ ⟨#[46]⟩) = false := by
  cases h : decIs (printB n ++ ⟨#[46]⟩) with
  | false => rfl
  | true =>
    exfalso
    obtain ⟨h1, _⟩ := scan_print h
    obtain ⟨l, c, hl, hc⟩ := print_last (decV (printB n ++ ⟨#[46]⟩))
    rw [h1] at hl
    simp only [ByteArray.data_append, Array.toList_append] at hl
    have := List.append_inj_right' hl rfl
    simp only [List.cons.injEq, and_true] at this
    rw [← this] at hc
    revert hc
    decide
theorem no_plus (n : Int) : decIs (⟨#[43]⟩ ++ printB n) = false := by
  cases h : decIs (⟨#[43]⟩ ++ printB n) with
  | false => rfl
  | true =>
    exfalso
    obtain ⟨h1, _⟩ := scan_print h
    obtain ⟨c, r, hl, hc⟩ := print_first (decV (⟨#[43]⟩ ++ printB n))
    rw [h1] at hl
    simp only [ByteArray.data_append, Array.toList_append] at hl
    have hl : (43 : UInt8) :: _ = c :: r := hl
    injection hl with e _
    rw [← e] at hc
    exact hc rfl
theorem print_neg {x : Int} (h : 0 < x) : printB (-x) = ⟨#[45]⟩ ++ printB x := by
  apply bytes_ext
  simp only [ByteArray.data_append, Array.toList_append]
  show printL (-x) = 45 :: printL x
  unfold printL
  rw [if_pos (by omega), if_neg (by omega), Int.natAbs_neg]
theorem print_pos {x : Int} (h : 0 ≤ x) : (printB x).data.toList = sizeL x.natAbs := by
  show printL x = _
  unfold printL
  rw [if_neg (by omega)]
theorem drop_dec (v : Nat) (l : List UInt8) : (Lib.decDigits v ++ l).dropWhile (fun c => !(c == 46)) = l.dropWhile (fun c => !(c == 46)) := by
  rw [List.dropWhile_append_of_pos]
  intro c hc
  have := decDigits_ch v c hc
  simp only [Bool.not_eq_true', beq_eq_false_iff_ne]
  intro e
  rw [e] at this
  revert this
  decide
theorem print_from {x : Int} (h : 0 ≤ x) : fromPoint (printB x) = ⟨(if x.natAbs % 256 = 0 then [] else 46 :: decsL (x.natAbs % 256)).toArray⟩ := by
  unfold fromPoint
  rw [print_pos h, sizeL_eq, drop_dec]
  split
  · rfl
  · rfl

end Go.FM
