/-
  dec, in plain Lean: a number comes back out of its text, whatever is scanned is a number's text, the document's own scan says the same; and with that: the laws of chapter 3 come to true; no conditions beyond what each argument keeps.
-/
import Derived.Test.YtcipbjijlfkbbaaDoorDfn

/-
  dec's PLAIN LAWS: a number's text is scanned to the number; whatever is scanned is a number's text; the document's own answer says the same. Of no program.
-/
namespace Go.FM
open Go

theorem tmod_rng {n m : Int} (h : 0 < m) : -m < n.tmod m ∧ n.tmod m < m := by
  constructor
  · rcases Int.lt_or_le n 0 with hn | hn
    · have e : n.tmod m = -((-n).tmod m) := by rw [Int.neg_tmod, Int.neg_neg]
      have := Int.tmod_lt_of_pos (-n) h
      omega
    · have := Int.tmod_nonneg m hn
      omega
  · exact Int.tmod_lt_of_pos n h
theorem within_in {n lo hi : Int} (h : lo ≤ hi) (h0 : -2000000000000000000 ≤ lo) (h1 : hi ≤ 2000000000000000000) : withinM lo hi = hi - lo + 1 ∧ lo ≤ withinZ n lo hi ∧ withinZ n lo hi ≤ hi := by
  have e1 : i64w (hi - lo) = hi - lo := wrap_id (by omega) (by omega)
  have e2 : withinM lo hi = hi - lo + 1 := by
    unfold withinM
    rw [e1]
    exact wrap_id (by omega) (by omega)
  refine ⟨e2, ?_⟩
  unfold withinZ
  rw [e2]
  obtain ⟨t0, t1⟩ := tmod_rng (n := n) (m := hi - lo + 1) (by omega)
  generalize n.tmod (hi - lo + 1) = q at t0 t1 ⊢
  cases hq : decide (q < 0) with
  | true =>
    have hq := of_decide_eq_true hq
    simp only [cond_true]
    have a1 : i64w (q + hi) = q + hi := wrap_id (by omega) (by omega)
    have a2 : i64w (q + hi - lo) = q + hi - lo := wrap_id (by omega) (by omega)
    have a3 : i64w (q + hi - lo + 1) = q + hi - lo + 1 := wrap_id (by omega) (by omega)
    have a4 : i64w (lo + (q + hi - lo + 1)) = lo + (q + hi - lo + 1) := wrap_id (by omega) (by omega)
    rw [a1, a2, a3, a4]
    omega
  | false =>
    have hq := of_decide_eq_false hq
    simp only [cond_false]
    have a1 : i64w (lo + q) = lo + q := wrap_id (by omega) (by omega)
    rw [a1]
    omega

theorem u64_wrap (n : Int) : IntKind.wrap .u64 n = n % 18446744073709551616 := by simp [IntKind.wrap, IntKind.bits, IntKind.signed]

/-! ### the 256 parts -/
abbrev InR (n : Int) : Prop := -9223372036854775808 ≤ n ∧ n ≤ 9223372036854775807
theorem all256 {f : Nat → Bool} (h : (List.range 256).all f = true) {r : Nat} (hr : r < 256) : f r = true := List.all_eq_true.1 h r (List.mem_range.2 hr)

def okParse (r : Nat) : Bool := match Lib.parseMag ((if r = 0 then [] else decsL r) ++ Lib.repeatL [48] (8 - (if r = 0 then [] else decsL r).length)) with | .ok v => Nat.beq v (r * 390625) | _ => false
theorem part_parse8 : (List.range 256).all okParse = true := by kernel_rfl
theorem part_parse {r : Nat} (h : r < 256) : Lib.parseMag ((if r = 0 then [] else decsL r) ++ Lib.repeatL [48] (8 - (if r = 0 then [] else decsL r).length)) = .ok (r * 390625) := by
  have := all256 part_parse8 h
  unfold okParse at this
  split at this
  · rename_i v hv
    rw [hv, Nat.eq_of_beq_eq_true this]
  · cases this

def okDecs (r : Nat) : Bool := Nat.beq r 0 || (Nat.ble (decsL r).length 8 && ((decsL r).all (fun c => Nat.ble 48 c.toNat && Nat.ble c.toNat 57) && (match (decsL r).reverse with | [] => false | c :: _ => !(Nat.beq c.toNat 48))))
theorem decs_ok8 : (List.range 256).all okDecs = true := by kernel_rfl
theorem decs_ok {r : Nat} (h0 : r ≠ 0) (h : r < 256) : (decsL r).length ≤ 8 ∧ (∀ c ∈ decsL r, 48 ≤ c.toNat ∧ c.toNat ≤ 57) ∧ ∃ l c, decsL r = l ++ [c] ∧ c.toNat ≠ 48 := by
  have := all256 decs_ok8 h
  unfold okDecs at this
  simp only [Bool.or_eq_true, Bool.and_eq_true, List.all_eq_true] at this
  rcases this with h1 | ⟨h1, h2, h3⟩
  · exact absurd (Nat.eq_of_beq_eq_true h1) h0
  · refine ⟨Nat.le_of_ble_eq_true h1, fun c hc => ⟨Nat.le_of_ble_eq_true (h2 c hc).1, Nat.le_of_ble_eq_true (h2 c hc).2⟩, ?_⟩
    cases hr : (decsL r).reverse with
    | nil => rw [hr] at h3; cases h3
    | cons c l =>
      rw [hr] at h3
      refine ⟨l.reverse, c, ?_, ?_⟩
      · have := congrArg List.reverse hr
        simpa using this
      · intro e
        have h3 : (!c.toNat.beq 48) = true := h3
        rw [e] at h3
        cases h3

def okHalf (r : Nat) : Bool := Nat.ble (if (2 * r) % 256 = 0 then [] else 46 :: decsL ((2 * r) % 256)).length (if r = 0 then [] else 46 :: decsL r).length
theorem half_ok8 : (List.range 256).all okHalf = true := by kernel_rfl
theorem half_ok {r : Nat} (h : r < 256) : (if (2 * r) % 256 = 0 then ([] : List UInt8) else 46 :: decsL ((2 * r) % 256)).length ≤ (if r = 0 then ([] : List UInt8) else 46 :: decsL r).length := Nat.le_of_ble_eq_true (all256 half_ok8 h)

/-! ### a number's text -/
theorem sizeL_eq (u : Nat) : sizeL u = Lib.decDigits (u / 256) ++ (if u % 256 = 0 then [] else 46 :: decsL (u % 256)) := rfl
theorem dec_first (v : Nat) : ∃ c r, Lib.decDigits v = c :: r ∧ 48 ≤ c.toNat ∧ c.toNat ≤ 57 := by
  cases h : Lib.decDigits v with
  | nil => exact absurd h (decDigits_ne v)
  | cons c r => exact ⟨c, r, rfl, decDigits_ch v c (by rw [h]; exact List.mem_cons_self ..)⟩
theorem size_first (u : Nat) : ∃ c r, sizeL u = c :: r ∧ 48 ≤ c.toNat ∧ c.toNat ≤ 57 := by
  obtain ⟨c, r, h, h1⟩ := dec_first (u / 256)
  exact ⟨c, r ++ _, by rw [sizeL_eq, h]; rfl, h1⟩
theorem size_last (u : Nat) : ∃ l c, sizeL u = l ++ [c] ∧ 48 ≤ c.toNat ∧ c.toNat ≤ 57 := by
  rw [sizeL_eq]
  by_cases h : u % 256 = 0
  · rw [if_pos h, List.append_nil]
    refine ⟨(Lib.decDigits (u / 256)).dropLast, (Lib.decDigits (u / 256)).getLast (decDigits_ne _), (List.dropLast_concat_getLast _).symm, ?_⟩
    exact decDigits_ch _ _ (List.getLast_mem _)
  · rw [if_neg h]
    obtain ⟨_, h2, l, c, h3, _⟩ := decs_ok h (by omega : u % 256 < 256)
    refine ⟨Lib.decDigits (u / 256) ++ 46 :: l, c, by rw [h3]; simp, h2 c (by rw [h3]; simp)⟩
theorem dec_no (v : Nat) {c : UInt8} (h : c.toNat < 48) : c ∉ Lib.decDigits v := fun hc => by
  have := decDigits_ch v c hc
  omega
theorem cut_none (w : List UInt8) (c : UInt8) (h : c ∉ w) : Lib.cut w [c] = (w, [], false) := by
  unfold Lib.cut
  rw [Lib.index_one, indexByte_no w c h, if_neg (by omega)]
theorem size_cut (u : Nat) : (Lib.cut (sizeL u) [46]).1 = Lib.decDigits (u / 256) ∧ (Lib.cut (sizeL u) [46]).2.1 = (if u % 256 = 0 then [] else decsL (u % 256)) := by
  have hno : (46 : UInt8) ∉ Lib.decDigits (u / 256) := dec_no _ (by decide)
  rw [sizeL_eq]
  by_cases h : u % 256 = 0
  · rw [if_pos h, if_pos h, List.append_nil, cut_none _ _ hno]
    exact ⟨rfl, rfl⟩
  · rw [if_neg h, if_neg h, cut_at _ _ _ hno]
    exact ⟨rfl, rfl⟩

theorem print_minus (n : Int) : hasPreB (printB n) w_minus = decide (n < 0) ∧ trimPreB (printB n) w_minus = ⟨(sizeL n.natAbs).toArray⟩ := by
  unfold hasPreB trimPreB Lib.trimPrefix Lib.hasPrefix printB printL
  show [(45 : UInt8)].isPrefixOf (if n < 0 then 45 :: sizeL n.natAbs else sizeL n.natAbs) = _ ∧ (⟨(if [(45 : UInt8)].isPrefixOf (if n < 0 then 45 :: sizeL n.natAbs else sizeL n.natAbs) = true then _ else (if n < 0 then 45 :: sizeL n.natAbs else sizeL n.natAbs)).toArray⟩ : ByteArray) = _
  by_cases h : n < 0
  · rw [if_pos h, decide_eq_true h]
    have e : [(45 : UInt8)].isPrefixOf (45 :: sizeL n.natAbs) = true := by simp [List.isPrefixOf]
    rw [e, if_pos rfl]
    exact ⟨rfl, rfl⟩
  · rw [if_neg h, decide_eq_false h]
    obtain ⟨c, r, hc, hc1, _⟩ := size_first n.natAbs
    have e : [(45 : UInt8)].isPrefixOf (sizeL n.natAbs) = false := by
      rw [hc]
      simp only [List.isPrefixOf, Bool.and_true, beq_eq_false_iff_ne]
      intro e
      rw [← e] at hc1
      revert hc1
      decide
    rw [e]
    simp

theorem puV_ok {s : ByteArray} {v : Nat} (h : Lib.parseMag s.data.toList = .ok v) : puV s = v ∧ puN s = true := by
  unfold puV puN
  rw [h]
  exact ⟨rfl, rfl⟩

theorem print_scan {n : Int} (hn : InR n) : decIs (printB n) = true ∧ decV (printB n) = n := by
  obtain ⟨hn0, hn1⟩ := hn
  obtain ⟨hm, hb⟩ := print_minus n
  have hu : n.natAbs ≤ 9223372036854775808 := by omega
  obtain ⟨c1, c2⟩ := size_cut n.natAbs
  have hW : decWhole (printB n) = ⟨(Lib.decDigits (n.natAbs / 256)).toArray⟩ := by
    unfold decWhole cutL
    rw [hb]
    show (⟨(Lib.cut (sizeL n.natAbs) [46]).1.toArray⟩ : ByteArray) = _
    rw [c1]
  have hP : decPart (printB n) = ⟨(if n.natAbs % 256 = 0 then [] else decsL (n.natAbs % 256)).toArray⟩ := by
    unfold decPart cutR
    rw [hb]
    show (⟨(Lib.cut (sizeL n.natAbs) [46]).2.1.toArray⟩ : ByteArray) = _
    rw [c2]
  have hr : n.natAbs % 256 < 256 := by omega
  obtain ⟨v1, n1⟩ := puV_ok (s := decWhole (printB n)) (v := n.natAbs / 256) (by rw [hW]; exact parse_mag _ (by omega))
  have hz : (decPart (printB n)).size = (if n.natAbs % 256 = 0 then ([] : List UInt8) else decsL (n.natAbs % 256)).length := by rw [hP, size_len]
  have h8 : (decPart (printB n)).size ≤ 8 := by
    rw [hz]
    split
    · simp
    · rename_i h0
      exact (decs_ok h0 hr).1
  obtain ⟨v2, n2⟩ := puV_ok (s := decFull (printB n)) (v := n.natAbs % 256 * 390625) (by
    have := part_parse hr
    unfold decFull
    rw [hz, hP]
    simp only [ByteArray.data_append, Array.toList_append]
    exact this)
  have hS : decSize (printB n) = (n.natAbs : Int) := by
    unfold decSize u64w
    rw [v1, v2]
    rw [u64_wrap, u64_wrap]
    omega
  have hN : decNum (printB n) = n := by
    unfold decNum
    rw [hm, hS]
    unfold i64w u64w
    cases hd : decide (n < 0) with
    | true =>
      have := of_decide_eq_true hd
      simp only [cond_true]
      rw [IntKind.wrap_i64, u64_wrap]
      omega
    | false =>
      have := of_decide_eq_false hd
      simp only [cond_false]
      rw [wrap_id (by omega) (by omega)]
      omega
  have hI : decIs (printB n) = true := by
    unfold decIs
    rw [decide_eq_true h8, n1, n2, v1, v2, hN, decide_eq_true (show ((n.natAbs / 256 : Nat) : Int) ≤ 36028797018963968 by omega), decide_eq_true (show ((n.natAbs % 256 * 390625 : Nat) : Int) % 390625 = 0 by omega), decide_eq_true rfl]
    rfl
  refine ⟨hI, ?_⟩
  unfold decV
  rw [hI, hN]
  rfl

theorem i64w_in (n : Int) : InR (i64w n) := by
  unfold i64w
  rw [IntKind.wrap_i64]
  omega
theorem scan_print {s : ByteArray} (h : decIs s = true) : printB (decV s) = s ∧ InR (decV s) := by
  unfold decV
  rw [h]
  unfold decIs at h
  simp only [Bool.and_eq_true, decide_eq_true_eq] at h
  exact ⟨h.2.2.2.2.2, i64w_in _⟩
theorem scan_none {s : ByteArray} (h : decIs s = false) : decV s = 0 := by
  unfold decV
  rw [h]
  rfl
theorem print_inj {n m : Int} (hn : InR n) (hm : InR m) (h : printB n = printB m) : n = m := by
  have := (print_scan hn).2
  rw [h, (print_scan hm).2] at this
  exact this.symm

/-! ### the ends of a text -/
theorem print_first (n : Int) : ∃ c r, (printB n).data.toList = c :: r ∧ c.toNat ≠ 43 := by
  show ∃ c r, printL n = c :: r ∧ c.toNat ≠ 43
  unfold printL
  split
  · exact ⟨45, _, rfl, by decide⟩
  · obtain ⟨c, r, h, h1, _⟩ := size_first n.natAbs
    exact ⟨c, r, h, by omega⟩
theorem print_last (n : Int) : ∃ l c, (printB n).data.toList = l ++ [c] ∧ 48 ≤ c.toNat := by
  show ∃ l c, printL n = l ++ [c] ∧ 48 ≤ c.toNat
  unfold printL
  obtain ⟨l, c, h, h1, _⟩ := size_last n.natAbs
  split
  · exact ⟨45 :: l, c, by rw [h]; rfl, h1⟩
  · exact ⟨l, c, h, h1⟩
theorem print_len (n : Int) (hn : InR n) : 1 ≤ (printB n).size ∧ (printB n).size ≤ 40 := by
  obtain ⟨c, r, h, _⟩ := print_first n
  refine ⟨by rw [size_len, h]; simp, ?_⟩
  rw [size_len]
  show (printL n).length ≤ 40
  have hs : (sizeL n.natAbs).length ≤ 30 := by
    rw [sizeL_eq, List.length_append]
    have h1 : (Lib.decDigits (n.natAbs / 256)).length ≤ 20 := by
      have := numB_size (n := ((n.natAbs / 256 : Nat) : Int)) (by omega) (by obtain ⟨_, _⟩ := hn; omega)
      rw [size_len] at this
      exact this
    split
    · simp; omega
    · rename_i h0
      have := (decs_ok h0 (by omega : n.natAbs % 256 < 256)).1
      simp only [List.length_cons]
      omega
  unfold printL
  split
  · simp only [List.length_cons]; omega
  · omega
theorem no_point (n : Int) : decIs (printB n ++ ⟨#[46]⟩) = false := by
  cases h : decIs (printB n ++ ⟨#[46]⟩) with
  | false => rfl
  | true =>
    exfalso
    obtain ⟨h1, _⟩ := scan_print h
    obtain ⟨l, c, hl, hc⟩ := print_last (decV (printB n ++ ⟨#[46]⟩))
    rw [h1] at hl
    simp only [ByteArray.data_append, Array.toList_append] at hl
    have := List.append_inj_right' hl rfl
    simp only [List.cons.injEq, and_true] at this
    rw [← this] at hc
    revert hc
    decide
theorem no_plus (n : Int) : decIs (⟨#[43]⟩ ++ printB n) = false := by
  cases h : decIs (⟨#[43]⟩ ++ printB n) with
  | false => rfl
  | true =>
    exfalso
    obtain ⟨h1, _⟩ := scan_print h
    obtain ⟨c, r, hl, hc⟩ := print_first (decV (⟨#[43]⟩ ++ printB n))
    rw [h1] at hl
    simp only [ByteArray.data_append, Array.toList_append] at hl
    have hl : (43 : UInt8) :: _ = c :: r := hl
    injection hl with e _
    rw [← e] at hc
    exact hc rfl
theorem print_neg {x : Int} (h : 0 < x) : printB (-x) = ⟨#[45]⟩ ++ printB x := by
  apply bytes_ext
  simp only [ByteArray.data_append, Array.toList_append]
  show printL (-x) = 45 :: printL x
  unfold printL
  rw [if_pos (by omega), if_neg (by omega), Int.natAbs_neg]
theorem print_pos {x : Int} (h : 0 ≤ x) : (printB x).data.toList = sizeL x.natAbs := by
  show printL x = _
  unfold printL
  rw [if_neg (by omega)]
theorem drop_dec (v : Nat) (l : List UInt8) : (Lib.decDigits v ++ l).dropWhile (fun c => !(c == 46)) = l.dropWhile (fun c => !(c == 46)) := by
  rw [List.dropWhile_append_of_pos]
  intro c hc
  have := decDigits_ch v c hc
  simp only [Bool.not_eq_true', beq_eq_false_iff_ne]
  intro e
  rw [e] at this
  revert this
  decide
theorem print_from {x : Int} (h : 0 ≤ x) : fromPoint (printB x) = ⟨(if x.natAbs % 256 = 0 then [] else 46 :: decsL (x.natAbs % 256)).toArray⟩ := by
  unfold fromPoint
  rw [print_pos h, sizeL_eq, drop_dec]
  split
  · rfl
  · rfl

end Go.FM

/-
  dec's PLAIN LAWS (2): the document's own scan is the same; the whole part's digits. Of no program.
-/
namespace Go.FM
open Go

theorem dig_of {v : Nat} (h : v < 10) : dig (UInt8.ofNat (48 + v)) = (v : Int) ∧ (UInt8.ofNat (48 + v)).toNat = 48 + v := by
  have e : (UInt8.ofNat (48 + v)).toNat = 48 + v := UInt8.toNat_ofNat_of_lt' (by simp [UInt8.size]; omega)
  refine ⟨?_, e⟩
  unfold dig i64w u8w
  rw [e]
  have e1 : IntKind.wrap .u8 (ic (48 + v) - 48) = (v : Int) := by
    have : IntKind.wrap .u8 (ic (48 + v) - 48) = (ic (48 + v) - 48) % 256 := by simp [IntKind.wrap, IntKind.bits, IntKind.signed]
    rw [this]
    simp only [ic]
    omega
  rw [e1]
  exact wrap_id (by omega) (by omega)

theorem ic_beq {a : Nat} {b : Int} (h : (a : Int) ≠ b) : (ic a == b) = false := by rw [beq_dec]; exact decide_eq_false h

/-- One digit ahead of the point. -/
theorem step_dig {v : Nat} (h : v < 10) (b : Bool) (w : Nat) (hw : w ≤ 36028797018963968) (p n : Int) : cStep b (UInt8.ofNat (48 + v)) ⟨w, p, n, false⟩ = some ⟨((10 * w + v : Nat) : Int), p, n, false⟩ := by
  obtain ⟨e1, e2⟩ := dig_of h
  unfold cStep
  simp only
  rw [e1, e2, ic_beq (show ((48 + v : Nat) : Int) ≠ 45 by omega), ic_beq (show ((48 + v : Nat) : Int) ≠ 46 by omega), decide_eq_false (show ¬ ic (48 + v) < 48 by simp only [ic]; omega), decide_eq_false (show ¬ ic (48 + v) > 57 by simp only [ic]; omega), decide_eq_false (show ¬ ((w : Nat) : Int) > 36028797018963968 by omega)]
  simp only [Bool.false_and, Bool.or_false, cond_false]
  unfold i64w
  rw [wrap_id (n := 10 * (w : Int)) (by omega) (by omega), wrap_id (by omega) (by omega)]
  congr 2

theorem run_dec (u : Nat) : ∀ (b : Bool) (w : Nat) (p n : Int) (r : List UInt8), w * 10 ^ (Lib.decDigits u).length + u ≤ 36028797018963968 →
    cRun b (Lib.decDigits u ++ r) ⟨w, p, n, false⟩ = cRun false r ⟨((w * 10 ^ (Lib.decDigits u).length + u : Nat) : Int), p, n, false⟩ := by
  induction u using Nat.strongRecOn with
  | _ u ih =>
    intro b w p n r hlt
    rw [Lib.decDigits] at hlt ⊢
    split at hlt
    · rename_i h
      rw [dif_pos h]
      simp only [List.length_singleton, Nat.pow_one, List.singleton_append] at hlt ⊢
      rw [cRun, step_dig h b w (by omega)]
      simp only
      congr 3
      omega
    · rename_i h
      rw [dif_neg h]
      simp only [List.length_append, List.length_singleton, Nat.pow_succ, List.append_assoc, List.singleton_append] at hlt ⊢
      have ea : w * (10 ^ (Lib.decDigits (u / 10)).length * 10) = w * 10 ^ (Lib.decDigits (u / 10)).length * 10 := by rw [Nat.mul_assoc]
      rw [ea] at hlt ⊢
      rw [ih (u / 10) (by omega) b w p n _ (by omega), cRun, step_dig (by omega) false _ (by omega)]
      simp only
      congr 3
      omega

/-! ### behind the point -/
def okCand (r : Nat) : Bool := match cRun false (decsL r) ⟨0, 0, 0, true⟩ with | some st => decide (cPad (8 - st.n).toNat st.p = ((r * 390625 : Nat) : Int)) | none => false
theorem cand_ok8 : (List.range 256).all (fun r => Nat.beq r 0 || okCand r) = true := by kernel_rfl
theorem step_w {b : Bool} {c : UInt8} {s : Cst} (w : Int) (h : s.pt = true) : cStep b c ⟨w, s.p, s.n, s.pt⟩ = (cStep b c s).map (fun t => ⟨w, t.p, t.n, t.pt⟩) ∧ ∀ t, cStep b c s = some t → t.pt = true ∧ t.w = s.w := by
  obtain ⟨w0, p, n, pt⟩ := s
  have h : pt = true := h
  subst h
  unfold cStep
  simp only
  cases (ic c.toNat == 45 && b)
  · cases (ic c.toNat == 46)
    · cases (decide (ic c.toNat < 48) || decide (ic c.toNat > 57))
      · cases (n == 8)
        · exact ⟨rfl, fun t ht => by cases ht; exact ⟨rfl, rfl⟩⟩
        · exact ⟨rfl, fun t ht => by cases ht⟩
      · exact ⟨rfl, fun t ht => by cases ht⟩
    · cases (decide (ic c.toNat < 48) || decide (ic c.toNat > 57))
      · cases (n == 8)
        · exact ⟨rfl, fun t ht => by cases ht; exact ⟨rfl, rfl⟩⟩
        · exact ⟨rfl, fun t ht => by cases ht⟩
      · exact ⟨rfl, fun t ht => by cases ht⟩
  · exact ⟨rfl, fun t ht => by cases ht; exact ⟨rfl, rfl⟩⟩
theorem run_w (w : Int) : ∀ (l : List UInt8) (b : Bool) (s : Cst), s.pt = true → cRun b l ⟨w, s.p, s.n, s.pt⟩ = (cRun b l s).map (fun t => ⟨w, t.p, t.n, t.pt⟩)
  | [], _, _, _ => rfl
  | c :: r, b, s, h => by
    obtain ⟨h1, h2⟩ := step_w (b := b) (c := c) w h
    unfold cRun
    rw [h1]
    cases hs : cStep b c s with
    | none => rfl
    | some t =>
      exact run_w w r false t (h2 t hs).1
theorem run_part {r : Nat} (h0 : r ≠ 0) (h : r < 256) (w : Int) : ∃ p n pt, cRun false (decsL r) ⟨w, 0, 0, true⟩ = some ⟨w, p, n, pt⟩ ∧ cPad (8 - n).toNat p = ((r * 390625 : Nat) : Int) := by
  have hk := all256 cand_ok8 h
  rw [Bool.or_eq_true] at hk
  rcases hk with h1 | h1
  · exact absurd (Nat.eq_of_beq_eq_true h1) h0
  · have hw := run_w w (decsL r) false ⟨0, 0, 0, true⟩ rfl
    unfold okCand at h1
    cases hs : cRun false (decsL r) ⟨0, 0, 0, true⟩ with
    | none => rw [hs] at h1; cases h1
    | some t =>
      rw [hs] at h1 hw
      exact ⟨t.p, t.n, t.pt, hw, of_decide_eq_true h1⟩

theorem cand_size (u : Nat) (b : Bool) (hu : u ≤ 9223372036854775808) : ∃ p n pt, cRun b (sizeL u) ⟨0, 0, 0, false⟩ = some ⟨((u / 256 : Nat) : Int), p, n, pt⟩ ∧ cPad (8 - n).toNat p = ((u % 256 * 390625 : Nat) : Int) := by
  rw [sizeL_eq]
  have hr := run_dec (u / 256) b 0 0 0 (if u % 256 = 0 then [] else 46 :: decsL (u % 256)) (by omega)
  rw [Nat.zero_mul, Nat.zero_add] at hr
  have e0 : (((0 : Nat)) : Int) = 0 := rfl
  rw [e0] at hr
  rw [hr]
  by_cases h : u % 256 = 0
  · rw [if_pos h, h]
    exact ⟨0, 0, false, rfl, rfl⟩
  · rw [if_neg h, cRun]
    have e : cStep false 46 ⟨((u / 256 : Nat) : Int), 0, 0, false⟩ = some ⟨((u / 256 : Nat) : Int), 0, 0, true⟩ := rfl
    rw [e]
    exact run_part h (by omega) _

theorem cand_print {n : Int} (hn : InR n) : candL (printB n) = [.int n] := by
  obtain ⟨hn0, hn1⟩ := hn
  have hu : n.natAbs ≤ 9223372036854775808 := by omega
  obtain ⟨p, k, pt, h1, h2⟩ := cand_size n.natAbs (!(decide (n < 0))) hu
  have hrun : cRun true (printB n).data.toList ⟨0, 0, 0, false⟩ = some ⟨((n.natAbs / 256 : Nat) : Int), p, k, pt⟩ := by
    show cRun true (printL n) _ = _
    unfold printL
    by_cases h : n < 0
    · rw [if_pos h, cRun]
      have e : cStep true 45 ⟨0, 0, 0, false⟩ = some ⟨0, 0, 0, false⟩ := rfl
      rw [e]
      rw [decide_eq_true h] at h1
      exact h1
    · rw [if_neg h]
      rw [decide_eq_false h] at h1
      exact h1
  have hmin : minusB (printB n) = decide (n < 0) := by
    unfold minusB
    show (match printL n with | [] => false | c :: _ => ic c.toNat == 45) = _
    unfold printL
    by_cases h : n < 0
    · rw [if_pos h, decide_eq_true h]
      rfl
    · rw [if_neg h, decide_eq_false h]
      obtain ⟨c, r, hc, hc1, _⟩ := size_first n.natAbs
      rw [hc]
      exact ic_beq (by omega)
  unfold candL
  rw [hrun, hmin]
  simp only
  rw [h2]
  unfold cFin
  have em : Int.tmod ((n.natAbs % 256 * 390625 : Nat) : Int) 390625 = 0 := by
    rw [Int.tmod_eq_emod_of_nonneg (by omega)]
    omega
  have ed : Int.tdiv ((n.natAbs % 256 * 390625 : Nat) : Int) 390625 = ((n.natAbs % 256 : Nat) : Int) := by
    rw [Int.tdiv_eq_ediv_of_nonneg (by omega)]
    omega
  rw [em, ed, decide_eq_false (show ¬ ((n.natAbs / 256 : Nat) : Int) > 36028797018963968 by omega)]
  have e0 : ((0 : Int) != 0) = false := rfl
  rw [e0]
  simp only [cond_false]
  unfold i64w
  by_cases hbig : n.natAbs / 256 = 36028797018963968
  · have hneg : n < 0 := by omega
    have hn2 : n = -9223372036854775808 := by omega
    rw [decide_eq_true hneg, beq_dec, beq_dec, decide_eq_true (show ((n.natAbs / 256 : Nat) : Int) = 36028797018963968 by omega), decide_eq_true (show ((n.natAbs % 256 * 390625 : Nat) : Int) = 0 by omega)]
    simp only [Bool.and_true, cond_true]
    rw [hn2]
  · rw [beq_dec, beq_dec, decide_eq_false (show ¬ ((n.natAbs / 256 : Nat) : Int) = 36028797018963968 by omega)]
    simp only [Bool.false_and, Bool.and_false, cond_false]
    have e1 : IntKind.wrap .i64 (IntKind.wrap .i64 (((n.natAbs / 256 : Nat) : Int) * 256) + IntKind.wrap .i64 ((n.natAbs % 256 : Nat) : Int)) = (n.natAbs : Int) := by
      rw [wrap_id (n := ((n.natAbs / 256 : Nat) : Int) * 256) (by omega) (by omega), wrap_id (n := ((n.natAbs % 256 : Nat) : Int)) (by omega) (by omega), wrap_id (by omega) (by omega)]
      omega
    rw [e1]
    by_cases h : n < 0
    · rw [decide_eq_true h, cond_true, wrap_id (by omega) (by omega)]
      congr 2
      omega
    · rw [decide_eq_false h, cond_false]
      congr 2
      omega

theorem candL_in (s : ByteArray) : ∀ x ∈ candL s, InR x.toInt := by
  unfold candL
  split
  · intro x hx; cases hx
  · rename_i st _
    unfold cFin
    intro x hx
    revert hx
    cases decide (st.w > 36028797018963968) with
    | true => intro hx; cases hx
    | false =>
      cases (Int.tmod (cPad (8 - st.n).toNat st.p) 390625 != 0) with
      | true => intro hx; cases hx
      | false =>
        cases (minusB s && (st.w == 36028797018963968 && cPad (8 - st.n).toNat st.p == 0)) with
        | true => intro hx; simp only [cond_true, cond_false, List.mem_singleton] at hx; subst hx; exact ⟨by decide, by decide⟩
        | false =>
          cases (st.w == 36028797018963968) with
          | true => intro hx; cases hx
          | false =>
            intro hx
            simp only [cond_false, List.mem_singleton] at hx
            subst hx
            cases minusB s
            · exact i64w_in _
            · exact i64w_in _

/-- The document's own scan is the same. -/
theorem ref_same (s : ByteArray) : refIs s = decIs s ∧ refV s = decV s := by
  cases h : decIs s with
  | true =>
    obtain ⟨h1, h2⟩ := scan_print h
    have hc := cand_print h2
    rw [h1] at hc
    unfold refIs refV
    rw [hc]
    simp only [List.any_cons, List.any_nil, Bool.or_false, List.find?_cons, IV.toInt, h1]
    exact ⟨by simp, by simp⟩
  | false =>
    have hn : ∀ x ∈ candL s, decide (printB x.toInt = s) = false := fun x hx => by
      refine decide_eq_false fun e => ?_
      have := (print_scan (candL_in s x hx)).1
      rw [e, h] at this
      cases this
    unfold refIs refV
    refine ⟨?_, ?_⟩
    · rw [List.any_eq_false]
      intro x hx
      rw [hn x hx]
      simp
    · rw [scan_none h, List.find?_eq_none.2 (fun x hx => by rw [hn x hx]; simp)]
      rfl

/-! ### the whole part, read -/
def wRun : List UInt8 → Int → Nat → Int × Nat
  | [], w, i => (w, i)
  | c :: r, w, i => match c == 46 with
    | true => (w, i)
    | false => wRun r (i64w (i64w (10 * w) + dig c)) (i + 1)
theorem wRun_dec (u : Nat) : ∀ (w i : Nat) (r : List UInt8), w * 10 ^ (Lib.decDigits u).length + u ≤ 36028797018963968 →
    wRun (Lib.decDigits u ++ r) (w : Int) i = wRun r ((w * 10 ^ (Lib.decDigits u).length + u : Nat) : Int) (i + (Lib.decDigits u).length) := by
  induction u using Nat.strongRecOn with
  | _ u ih =>
    intro w i r hlt
    have step : ∀ (v w i : Nat) (r : List UInt8), v < 10 → w ≤ 36028797018963968 → wRun (UInt8.ofNat (48 + v) :: r) (w : Int) i = wRun r ((w * 10 + v : Nat) : Int) (i + 1) := fun v w i r hv hw => by
      obtain ⟨e1, e2⟩ := dig_of hv
      have e3 : (UInt8.ofNat (48 + v) == 46) = false := by
        rw [beq_eq_false_iff_ne]
        intro e
        rw [e] at e2
        have : (46 : UInt8).toNat = 46 := rfl
        omega
      rw [wRun, e3]
      simp only
      rw [e1]
      unfold i64w
      rw [wrap_id (n := 10 * (w : Int)) (by omega) (by omega), wrap_id (by omega) (by omega)]
      congr 1
      omega
    rw [Lib.decDigits] at hlt ⊢
    split at hlt
    · rename_i h
      rw [dif_pos h]
      simp only [List.length_singleton, Nat.pow_one, List.singleton_append] at hlt ⊢
      exact step u w i r h (by omega)
    · rename_i h
      rw [dif_neg h]
      simp only [List.length_append, List.length_singleton, Nat.pow_succ, List.append_assoc, List.singleton_append] at hlt ⊢
      have ea : w * (10 ^ (Lib.decDigits (u / 10)).length * 10) = w * 10 ^ (Lib.decDigits (u / 10)).length * 10 := by rw [Nat.mul_assoc]
      rw [ea] at hlt ⊢
      rw [ih (u / 10) (by omega) w i _ (by omega), step (u % 10) _ _ _ (by omega) (by omega), Nat.add_assoc]
      congr 2
      omega
theorem wRun_size (u : Nat) (hu : u ≤ 9223372036854775808) : wRun (sizeL u) 0 0 = (((u / 256 : Nat) : Int), (Lib.decDigits (u / 256)).length) := by
  rw [sizeL_eq]
  have := wRun_dec (u / 256) 0 0 (if u % 256 = 0 then [] else 46 :: decsL (u % 256)) (by omega)
  rw [Nat.zero_mul, Nat.zero_add, Nat.zero_add] at this
  have e0 : ((0 : Nat) : Int) = 0 := rfl
  rw [e0] at this
  rw [this]
  split
  · rfl
  · rfl

end Go.FM

/-
  dec's LAWS COME TO true.
-/
namespace Go.FM
open Go Go.Proofs

def S_copselaw3_DecTells : RSpec
  | [.int .i64 _, .str _] => .ok (.bool true) []
  | _ => .no
def S_copselaw3_DecBack : RSpec
  | [.int .i64 _, .int .i64 _, .int .i64 _, .int .u8 _] => .ok (.bool true) []
  | _ => .no
def S_copselaw3_DecParts : RSpec
  | [.int .i64 _] => .ok (.bool true) []
  | _ => .no
def S_copselaw3_DecAlone : RSpec
  | [.int .i64 _, .int .i64 _] => .ok (.bool true) []
  | _ => .no

theorem i64_in {n : Int} (h : IntKind.i64.min ≤ n ∧ n ≤ IntKind.i64.max) : InR n := h

theorem snd_copselaw3_DecTells : SndR PR B0 4 S_copselaw3_DecTells := by
  refine snd_mk [(3, S_copselaw3_DecRuns), (8, S_dec_Scan), (9, S_dec_Print), (10, S_copseref1_Scan), (11, S_copseref1_Print)] [] S_copselaw3_DecTells [[.bool]] Tryd.func4 h_copselaw3_DecTells
    ⟨snd_copselaw3_DecRuns, snd_dec_Scan, snd_dec_Print, snd_copseref1_Scan, snd_copseref1_Print, trivial⟩ ?_
  intro vs r hwf h
  unfold S_copselaw3_DecTells at h
  split at h
  · rename_i n s
    refine ⟨0, ?_⟩
    rw [← h]
    refine (nf_copselaw3_DecTells 0 n s).trans ?_
    simp only [R.get_ok]
    have hk : min (ic (ByteArray.size s)) 40 = ((min s.size 40 : Nat) : Int) := by simp only [ic]; omega
    rw [hk, Int.toNat_natCast, decide_eq_true (show 0 ≤ ((min s.size 40 : Nat) : Int) by omega), decide_eq_true (show ((min s.size 40 : Nat) : Int) ≤ ic (ByteArray.size s) by simp only [ic]; omega)]
    have hz : (ByteArray.extract s 0 (min s.size 40)).size ≤ 40 := by rw [ByteArray.size_extract]; omega
    rw [decide_eq_true (show ByteArray.size (ByteArray.extract s 0 (min s.size 40)) < 4294967281 by omega)]
    obtain ⟨e1, e2⟩ := ref_same (ByteArray.extract s 0 (min s.size 40))
    rw [e1, e2, beq_self_eq_true, beq_self_eq_true, beq_self_eq_true, Bool.and_true]
    simp only [condT]
  · simp [R.get] at h

set_option maxHeartbeats 1000000 in
theorem snd_copselaw3_DecBack : SndR PR B0 5 S_copselaw3_DecBack := by
  refine snd_mk [(3, S_copselaw3_DecRuns), (8, S_dec_Scan), (9, S_dec_Print), (12, S_copsebook_Within)] [] S_copselaw3_DecBack [[.bool]] Tryd.func5 h_copselaw3_DecBack
    ⟨snd_copselaw3_DecRuns, snd_dec_Scan, snd_dec_Print, snd_copsebook_Within, trivial⟩ ?_
  intro vs r hwf h
  unfold S_copselaw3_DecBack at h
  split at h
  · rename_i n m at_ x
    refine ⟨0, ?_⟩
    rw [← h]
    refine (nf_copselaw3_DecBack 0 n m at_ x).trans ?_
    simp only [R.get_ok]
    have hb := hwf (by simp [oneBor])
    have hn : InR n := by
      have := hb.1
      simp only [wfV, wfL] at this
      exact i64_in this
    have hm : InR m := by
      have := hb.2.1
      simp only [wfV, wfL] at this
      exact i64_in this
    obtain ⟨l1, l2⟩ := print_len n hn
    obtain ⟨p1, p2⟩ := print_scan hn
    have ez : IntKind.wrap IntKind.i64 (ic (ByteArray.size (printB n) - 0) - 1) = ((((printB n).size - 1 : Nat)) : Int) := by
      rw [wrap_id (by simp only [ic]; omega) (by simp only [ic]; omega)]
      simp only [ic]
      omega
    obtain ⟨w1, w2, w3⟩ := within_in (n := at_) (lo := 0) (hi := (((printB n).size - 1 : Nat) : Int)) (by omega) (by omega) (by omega)
    rw [ez, w1]
    generalize hB : strOfNums (List.map IV.toInt (List.drop 0 (List.take (ByteArray.size (printB n)) (List.set (List.map (fun b => IV.int (ic (UInt8.toNat b))) (Array.toList (ByteArray.data (printB n)))) (0 + Int.toNat (withinZ at_ 0 (((printB n).size - 1 : Nat) : Int))) (putIV false [Kd.int IntKind.u8] (List.getD (List.map (fun b => IV.int (ic (UInt8.toNat b))) (Array.toList (ByteArray.data (printB n)))) (0 + Int.toNat (withinZ at_ 0 (((printB n).size - 1 : Nat) : Int))) default) 0 [IV.int x]))))) = B
    have hBz : B.size ≤ 40 := by
      rw [← hB, strOfNums_size, List.length_map, List.length_drop, List.length_take, List.length_set, List.length_map]
      omega
    rw [decide_eq_true (show ByteArray.size (printB n) < 4294967281 by omega), p1, p2,
      decide_eq_false (show ¬ ic (ByteArray.size (printB n)) < 1 by simp only [ic]; omega),
      decide_eq_false (show ¬ ((((printB n).size - 1 : Nat) : Int) - 0 + 1 = 0) by omega),
      decide_eq_true w2, decide_eq_true (show withinZ at_ 0 (((printB n).size - 1 : Nat) : Int) < ic (ByteArray.size (printB n) - 0) by simp only [ic]; omega),
      decide_eq_true (show ByteArray.size B < 4294967281 by omega), no_point, no_plus]
    have s46 : ByteArray.size { data := #[46] } = 1 := rfl
    have s43 : ByteArray.size { data := #[43] } = 1 := rfl
    have g1 : decide (ByteArray.size (printB n) + ByteArray.size { data := #[46] } ≤ strMax) = true := decide_eq_true (by rw [s46]; unfold strMax; omega)
    have g2 : decide (ByteArray.size (printB n ++ { data := #[46] }) < 4294967281) = true := decide_eq_true (by rw [ByteArray.size_append, s46]; omega)
    have g3 : decide (ByteArray.size { data := #[43] } + ByteArray.size (printB n) ≤ strMax) = true := decide_eq_true (by rw [s43]; unfold strMax; omega)
    have g4 : decide (ByteArray.size ({ data := #[43] } ++ printB n) < 4294967281) = true := decide_eq_true (by rw [ByteArray.size_append, s43]; omega)
    rw [g1, g2, g3, g4]
    have hne : (n != n) = false := by simp
    have hinj : (!ByteArray.toList (printB n) == ByteArray.toList (printB m)) = !(n == m) := by
      rw [bytes_beq, beq_dec]
      congr 1
      rw [Bool.eq_iff_iff, decide_eq_true_iff, decide_eq_true_iff]
      exact ⟨fun e => print_inj hn hm e, fun e => by rw [e]⟩
    rw [hne]
    have hinj2 : (!(ByteArray.toList (printB n) == ByteArray.toList (printB m)) == (n == m)) = false := by
      rw [bytes_beq, beq_dec]
      have : decide (printB n = printB m) = decide (n = m) := by
        rw [Bool.eq_iff_iff, decide_eq_true_iff, decide_eq_true_iff]
        exact ⟨fun e => print_inj hn hm e, fun e => by rw [e]⟩
      rw [this, beq_self_eq_true]
      rfl
    rw [hinj2]
    cases hd : decIs B with
    | true =>
      obtain ⟨q1, _⟩ := scan_print hd
      rw [q1, beq_self_eq_true]
      simp only [Bool.not_true, Bool.not_false, condT, condF, Bool.and_true]
    | false =>
      rw [scan_none hd]
      have e0 : ((0 : Int) != 0) = false := rfl
      rw [e0]
      simp only [Bool.not_true, Bool.not_false, condT, condF, Bool.and_true]
  · simp [R.get] at h

theorem parts_run (N : Nat) (s t : ByteArray) (x : Int) (hsz : s.size ≤ strMax) (K : Out → St → Res) :
    ∀ (l : List UInt8) (i n : Nat) (w : Int), s.data.toList.drop i = l → i ≤ s.size → s.size < i + n →
      lpE (E_copselaw3_DecParts N) (subC c_copselaw3_DecParts [1, 1, 1, 1, 1, 0, 0, 0]) ⟨[2, 3, 4, 5, 6, 7], [], []⟩ n ⟨[(2, (.bool false)), (3, (.int .i64 x)), (4, (.str s)), (5, (.str t)), (6, (.int .i64 w)), (7, (.int .i64 (i : Int)))], []⟩ K =
        K (.exit 0) ⟨[(2, (.bool false)), (3, (.int .i64 x)), (4, (.str s)), (5, (.str t)), (6, (.int .i64 (wRun l w i).1)), (7, (.int .i64 ((wRun l w i).2 : Int)))], []⟩
  | [], i, n + 1, w, hl, hi, hn => by
    have hz : s.size ≤ i := by
      rw [size_len]
      exact List.drop_eq_nil_iff.1 hl
    rw [lpE_succ, st_copselaw3_DecParts_1, decide_eq_false (show ¬ (i : Int) < ic (ByteArray.size s) by simp only [ic]; omega), condF]
    rfl
  | c :: l, i, n + 1, w, hl, hi, hn => by
    have hlt : i < s.data.toList.length := by
      rcases Nat.lt_or_ge i s.data.toList.length with h | h
      · exact h
      · rw [List.drop_of_length_le h] at hl; cases hl
    have hz : i < s.size := by rw [size_len]; exact hlt
    have hd := List.drop_eq_getElem_cons hlt
    rw [hl] at hd
    injection hd with hc ht
    have hg : List.getD (Array.toList (ByteArray.data s)) i 0 = c := by
      rw [hc]
      simp [List.getD, List.getElem?_eq_getElem hlt]
    have hsz' := hsz
    unfold strMax at hsz'
    rw [lpE_succ, st_copselaw3_DecParts_1, decide_eq_true (show (i : Int) < ic (ByteArray.size s) by simp only [ic]; omega), decide_eq_true (show 0 ≤ (i : Int) by omega), Bool.and_true, condT, condT, condT, Int.toNat_natCast, hg, succ_w (by omega)]
    have eb : (ic (UInt8.toNat c) != 46) = !(c == 46) := by
      rw [bne_dec, Bool.eq_iff_iff, Bool.not_eq_true', Bool.not_eq_true', decide_eq_false_iff_not, beq_eq_false_iff_ne]
      constructor
      · intro e e'
        exact e (by rw [e']; rfl)
      · intro e e'
        apply e
        apply UInt8.toNat_inj.1
        have h46 : (46 : UInt8).toNat = 46 := rfl
        simp only [ic] at e'
        omega
    rw [eb]
    have ih := parts_run N s t x hsz K l (i + 1) n (i64w (i64w (10 * w) + dig c)) ht.symm (by omega) (by omega)
    unfold wRun
    cases hp : (c == 46) with
    | true => rfl
    | false => exact ih
  | _, _, 0, _, _, hi, hn => by omega

theorem and_255i {x : Int} (h0 : 0 ≤ x) (h1 : x < 9223372036854775808) : IntKind.wrap IntKind.i64 (ic (BitVec.toNat (BitVec.ofInt (IntKind.bits IntKind.i64) x &&& BitVec.ofInt (IntKind.bits IntKind.i64) 255))) = ((x.natAbs % 256 : Nat) : Int) := by
  have e : BitVec.toNat (BitVec.ofInt (IntKind.bits IntKind.i64) x &&& BitVec.ofInt (IntKind.bits IntKind.i64) 255) = x.natAbs % 256 := by
    have h1 : (BitVec.ofInt (IntKind.bits IntKind.i64) x).toNat = x.natAbs := by
      show (BitVec.ofInt 64 x).toNat = _
      rw [BitVec.toNat_ofInt]
      omega
    have h2 : (BitVec.ofInt (IntKind.bits IntKind.i64) 255).toNat = 2 ^ 8 - 1 := by rfl
    rw [BitVec.toNat_and, h1, h2, Nat.and_two_pow_sub_one_eq_mod]
  rw [e]
  exact wrap_id (by simp only [ic]; omega) (by simp only [ic]; omega)

theorem snd_copselaw3_DecParts : SndR PR B0 6 S_copselaw3_DecParts := by
  refine snd_mk [(3, S_copselaw3_DecRuns), (9, S_dec_Print), (12, S_copsebook_Within)] [(5, ⟨[2, 3, 4, 5, 6, 7], [], []⟩)] S_copselaw3_DecParts [[.bool]] Tryd.func6 h_copselaw3_DecParts
    ⟨snd_copselaw3_DecRuns, snd_dec_Print, snd_copsebook_Within, trivial⟩ ?_
  intro vs r hwf h
  unfold S_copselaw3_DecParts at h
  split at h
  · rename_i n
    refine ⟨100, ?_⟩
    rw [← h]
    refine (nf_copselaw3_DecParts 100 n).trans ?_
    simp only [R.get_ok]
    obtain ⟨w1, w2, w3⟩ := within_in (n := n) (lo := 1) (hi := 1152921504606846976) (by omega) (by omega) (by omega)
    generalize withinZ n 1 1152921504606846976 = x at w2 w3
    have hx : InR x := ⟨by omega, by omega⟩
    obtain ⟨l1, l2⟩ := print_len x hx
    have hs := print_pos (x := x) (by omega)
    have hw := wRun_size x.natAbs (by omega)
    have e0 : (0 : Int) = ((0 : Nat) : Int) := rfl
    refine (parts_run 100 (printB x) _ x (by unfold strMax; omega) _ (printB x).data.toList 0 100 0 rfl (by omega) (by omega)).trans ?_
    rw [hs, hw]
    simp only
    rw [ex_copselaw3_DecParts_1_1]
    have s45 : ByteArray.size { data := #[45] } = 1 := rfl
    rw [decide_eq_true (show ByteArray.size { data := #[45] } + ByteArray.size (printB x) ≤ strMax by rw [s45]; unfold strMax; omega), condT]
    have en : IntKind.wrap IntKind.i64 (0 - x) = -x := by rw [wrap_id (by omega) (by omega)]; omega
    rw [en, print_neg (by omega), beq_self_eq_true, condT]
    have e2 : (2 : Int) ^ min (Int.toNat 8) (IntKind.bits IntKind.i64) = 256 := rfl
    have ef : Int.fdiv x 256 = ((x.natAbs / 256 : Nat) : Int) := by
      rw [Int.fdiv_eq_ediv_of_nonneg _ (by omega)]
      omega
    rw [e2, ef, beq_self_eq_true, condT, and_255i (by omega) (by omega)]
    have hlen : (printB x).size = (Lib.decDigits (x.natAbs / 256)).length + (if x.natAbs % 256 = 0 then ([] : List UInt8) else 46 :: decsL (x.natAbs % 256)).length := by
      rw [size_len, hs, sizeL_eq, List.length_append]
    have hlast : ∀ c : UInt8, (∃ l, sizeL x.natAbs = l ++ [c]) → List.getD (Array.toList (ByteArray.data (printB x))) ((printB x).size - 1) 0 = c := by
      rintro c ⟨l, hl⟩
      rw [hs, hl]
      have : (printB x).size - 1 = l.length := by rw [size_len, hs, hl]; simp
      rw [this]
      simp
    generalize hD : (Lib.decDigits (x.natAbs / 256)).length = D at hlen
    by_cases h0 : x.natAbs % 256 = 0
    · rw [if_pos h0] at hlen
      have hlen : (printB x).size = D := by simpa using hlen
      have ep : max (IntKind.wrap IntKind.i64 (IntKind.wrap IntKind.i64 (ic (ByteArray.size (printB x)) - (D : Int)) - 1)) 0 = 0 := by
        rw [wrap_id (n := ic (ByteArray.size (printB x)) - (D : Int)) (by simp only [ic]; omega) (by simp only [ic]; omega), wrap_id (by simp only [ic]; omega) (by simp only [ic]; omega)]
        simp only [ic]
        omega
      rw [ep, h0]
      rfl
    · rw [if_neg h0] at hlen
      have hlen : (printB x).size = D + ((decsL (x.natAbs % 256)).length + 1) := by simpa using hlen
      obtain ⟨d1, _, l, c, d3, d4⟩ := decs_ok h0 (by omega : x.natAbs % 256 < 256)
      have d5 : 1 ≤ (decsL (x.natAbs % 256)).length := by rw [d3]; simp
      have hl := hlast c ⟨Lib.decDigits (x.natAbs / 256) ++ 46 :: l, by rw [sizeL_eq, if_neg h0, d3]; simp⟩
      generalize (decsL (x.natAbs % 256)).length = q at hlen d1 d5
      have ep : max (IntKind.wrap IntKind.i64 (IntKind.wrap IntKind.i64 (ic (ByteArray.size (printB x)) - (D : Int)) - 1)) 0 = (q : Int) := by
        rw [wrap_id (n := ic (ByteArray.size (printB x)) - (D : Int)) (by simp only [ic]; omega) (by simp only [ic]; omega), wrap_id (by simp only [ic]; omega) (by simp only [ic]; omega)]
        simp only [ic]
        omega
      have el : IntKind.wrap IntKind.i64 (ic (ByteArray.size (printB x)) - 1) = (((printB x).size - 1 : Nat) : Int) := by
        rw [wrap_id (by simp only [ic]; omega) (by simp only [ic]; omega)]
        simp only [ic]
        omega
      rw [ep, el, Int.toNat_natCast, hl, decide_eq_true (show (q : Int) ≤ 8 by omega), beq_dec, beq_dec, decide_eq_false (show ¬ (q : Int) = 0 by omega), decide_eq_false (show ¬ ((x.natAbs % 256 : Nat) : Int) = 0 by omega),
        decide_eq_true (show (0 : Int) ≤ (((printB x).size - 1 : Nat) : Int) by omega), decide_eq_true (show (((printB x).size - 1 : Nat) : Int) < ic (ByteArray.size (printB x)) by simp only [ic]; omega), bne_dec, decide_eq_false (show ¬ ic (UInt8.toNat c) = 48 by simp only [ic]; omega)]
      rfl
  · simp [R.get] at h

theorem snd_copselaw3_DecAlone : SndR PR B0 7 S_copselaw3_DecAlone := by
  refine snd_mk [(3, S_copselaw3_DecRuns), (9, S_dec_Print), (12, S_copsebook_Within), (13, S_copselaw3_DecAlone_1)] [] S_copselaw3_DecAlone [[.bool]] Tryd.func7 h_copselaw3_DecAlone
    ⟨snd_copselaw3_DecRuns, snd_dec_Print, snd_copsebook_Within, snd_copselaw3_DecAlone_1, trivial⟩ ?_
  intro vs r hwf h
  unfold S_copselaw3_DecAlone at h
  split at h
  · rename_i n b
    refine ⟨0, ?_⟩
    rw [← h]
    refine (nf_copselaw3_DecAlone 0 n b).trans ?_
    simp only [R.get_ok]
    obtain ⟨_, w2, w3⟩ := within_in (n := n) (lo := 0) (hi := 1125899906842624) (by omega) (by omega) (by omega)
    obtain ⟨_, v2, v3⟩ := within_in (n := b) (lo := 0) (hi := 1099511627776) (by omega) (by omega) (by omega)
    generalize withinZ n 0 1125899906842624 = x at w2 w3
    generalize withinZ b 0 1099511627776 = k at v2 v3
    have e2 : (2 : Int) ^ min (Int.toNat 8) (IntKind.bits IntKind.i64) = 256 := rfl
    have e1 : (2 : Int) ^ min (Int.toNat 1) (IntKind.bits IntKind.i64) = 2 := rfl
    rw [e2, e1, wrap_id (n := k * 256) (by omega) (by omega), wrap_id (n := x + k * 256) (by omega) (by omega), wrap_id (n := x * 2) (by omega) (by omega), print_from w2, print_from (x := x + k * 256) (by omega), print_from (x := x * 2) (by omega)]
    have m1 : (x + k * 256).natAbs % 256 = x.natAbs % 256 := by omega
    have m2 : (x * 2).natAbs % 256 = (2 * (x.natAbs % 256)) % 256 := by omega
    have hr : x.natAbs % 256 < 256 := by omega
    rw [m1, m2, beq_self_eq_true, condT]
    have hh := half_ok hr
    have z1 := size_mk (if (2 * (x.natAbs % 256)) % 256 = 0 then ([] : List UInt8) else 46 :: decsL ((2 * (x.natAbs % 256)) % 256))
    have z2 := size_mk (if x.natAbs % 256 = 0 then ([] : List UInt8) else 46 :: decsL (x.natAbs % 256))
    have z3 : (if x.natAbs % 256 = 0 then ([] : List UInt8) else 46 :: decsL (x.natAbs % 256)).length ≤ 9 := by
      split
      · simp
      · rename_i h0
        have := (decs_ok h0 hr).1
        simp only [List.length_cons]
        omega
    rw [z1, z2]
    rw [decide_eq_true (show ic (List.length (if (2 * (x.natAbs % 256)) % 256 = 0 then ([] : List UInt8) else 46 :: decsL ((2 * (x.natAbs % 256)) % 256))) ≤ ic (List.length (if x.natAbs % 256 = 0 then ([] : List UInt8) else 46 :: decsL (x.natAbs % 256))) by simp only [ic]; omega),
      decide_eq_true (show ic (List.length (if x.natAbs % 256 = 0 then ([] : List UInt8) else 46 :: decsL (x.natAbs % 256))) ≤ 9 by simp only [ic]; omega), condT, condT]
  · simp [R.get] at h

end Go.FM
