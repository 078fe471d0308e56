/-
  dec, in plain Lean: a number comes back out of its text, whatever is scanned is a number's text, the document's own scan says the same; and with that: the laws of chapter 3 come to true; no conditions beyond what each argument keeps.
-/
import Derived.Test.YtbhpdofmcbhbfaaGreatDoorDfn

/-
  dec's PLAIN LAWS: a number's text is scanned to the number; whatever is scanned is a number's text; the document's own answer says the same. Of no program.
-/
namespace Go.FM
open Go

theorem tmod_rng {n m : Int} (h : 0 < m) : -m < n.tmod m ∧ n.tmod m < m := by
  constructor
  · rcases Int.lt_or_le n 0 with hn | hn
    · have e : n.tmod m = -((-n).tmod m) := by rw [Int.neg_tmod, Int.neg_neg]
      have := Int.tmod_lt_of_pos (-n) h
      omega
    · have := Int.tmod_nonneg m hn
      omega
  · exact Int.tmod_lt_of_pos n h
theorem within_in {n lo hi : Int} (h : lo ≤ hi) (h0 : -2000000000000000000 ≤ lo) (h1 : hi ≤ 2000000000000000000) : withinM lo hi = hi - lo + 1 ∧ lo ≤ withinZ n lo hi ∧ withinZ n lo hi ≤ hi := by
  have e1 : i64w (hi - lo) = hi - lo := wrap_id (by omega) (by omega)
  have e2 : withinM lo hi = hi - lo + 1 := by
    unfold withinM
    rw [e1]
    exact wrap_id (by omega) (by omega)
  refine ⟨e2, ?_⟩
  unfold withinZ
  rw [e2]
  obtain ⟨t0, t1⟩ := tmod_rng (n := n) (m := hi - lo + 1) (by omega)
  generalize n.tmod (hi - lo + 1) = q at t0 t1 ⊢
  cases hq : decide (q < 0) with
  | true =>
    have hq := of_decide_eq_true hq
    simp only [cond_true]
    have a1 : i64w (q + hi) = q + hi := wrap_id (by omega) (by omega)
    have a2 : i64w (q + hi - lo) = q + hi - lo := wrap_id (by omega) (by omega)
    have a3 : i64w (q + hi - lo + 1) = q + hi - lo + 1 := wrap_id (by omega) (by omega)
    have a4 : i64w (lo + (q + hi - lo + 1)) = lo + (q + hi - lo + 1) := wrap_id (by omega) (by omega)
    rw [a1, a2, a3, a4]
    omega
  | false =>
    have hq := of_decide_eq_false hq
    simp only [cond_false]
    have a1 : i64w (lo + q) = lo + q := wrap_id (by omega) (by omega)
    rw [a1]
    omega

theorem u64_wrap (n : Int) : IntKind.wrap .u64 n = n % 18446744073709551616 := by simp [IntKind.wrap, IntKind.bits, IntKind.signed]

/-! ### the 256 parts -/
abbrev InR (n : Int) : Prop := -9223372036854775808 ≤ n ∧ n ≤ 9223372036854775807
theorem all256 {f : Nat → Bool} (h : (List.range 256).all f = true) {r : Nat} (hr : r < 256) : f r = true := List.all_eq_true.1 h r (List.mem_range.2 hr)

def okParse (r : Nat) : Bool := match Lib.parseMag ((if r = 0 then [] else decsL r) ++ Lib.repeatL [48] (8 - (if r = 0 then [] else decsL r).length)) with | .ok v => Nat.beq v (r * 390625) | _ => false
theorem part_parse8 : (List.range 256).all okParse = true := by kernel_rfl
theorem part_parse {r : Nat} (h : r < 256) : Lib.parseMag ((if r = 0 then [] else decsL r) ++ Lib.repeatL [48] (8 - (if r = 0 then [] else decsL r).length)) = .ok (r * 390625) := by
  have := all256 part_parse8 h
  unfold okParse at this
  split at this
  · rename_i v hv
    rw [hv, Nat.eq_of_beq_eq_true this]
  · cases this

def okDecs (r : Nat) : Bool := Nat.beq r 0 || (Nat.ble (decsL r).length 8 && ((decsL r).all (fun c => Nat.ble 48 c.toNat && Nat.ble c.toNat 57) && (match (decsL r).reverse with | [] => false | c :: _ => !(Nat.beq c.toNat 48))))
theorem decs_ok8 : (List.range 256).all okDecs = true := by kernel_rfl
theorem decs_ok {r : Nat} (h0 : r ≠ 0) (h : r < 256) : (decsL r).length ≤ 8 ∧ (∀ c ∈ decsL r, 48 ≤ c.toNat ∧ c.toNat ≤ 57) ∧ ∃ l c, decsL r = l ++ [c] ∧ c.toNat ≠ 48 := by
  have := all256 decs_ok8 h
  unfold okDecs at this
  simp only [Bool.or_eq_true, Bool.and_eq_true, List.all_eq_true] at this
  rcases this with h1 | ⟨h1, h2, h3⟩
  · exact absurd (Nat.eq_of_beq_eq_true h1) h0
  · refine ⟨Nat.le_of_ble_eq_true h1, fun c hc => ⟨Nat.le_of_ble_eq_true (h2 c hc).1, Nat.le_of_ble_eq_true (h2 c hc).2⟩, ?_⟩
    cases hr : (decsL r).reverse with
    | nil => rw [hr] at h3; cases h3
    | cons c l =>
      rw [hr] at h3
      refine ⟨l.reverse, c, ?_, ?_⟩
      · have := congrArg List.reverse hr
        simpa using this
      · intro e
        have h3 : (!c.toNat.beq 48) = true := h3
        rw [e] at h3
        cases h3

def okHalf (r : Nat) : Bool := Nat.ble (if (2 * r) % 256 = 0 then [] else 46 :: decsL ((2 * r) % 256)).length (if r = 0 then [] else 46 :: decsL r).length
theorem half_ok8 : (List.range 256).all okHalf = true := by kernel_rfl
theorem half_ok {r : Nat} (h : r < 256) : (if (2 * r) % 256 = 0 then ([] : List UInt8) else 46 :: decsL ((2 * r) % 256)).length ≤ (if r = 0 then ([] : List UInt8) else 46 :: decsL r).length := Nat.le_of_ble_eq_true (all256 half_ok8 h)

/-! ### a number's text -/
theorem sizeL_eq (u : Nat) : sizeL u = Lib.decDigits (u / 256) ++ (if u % 256 = 0 then [] else 46 :: decsL (u % 256)) := rfl
theorem dec_first (v : Nat) : ∃ c r, Lib.decDigits v = c :: r ∧ 48 ≤ c.toNat ∧ c.toNat ≤ 57 := by
  cases h : Lib.decDigits v with
  | nil => exact absurd h (decDigits_ne v)
  | cons c r => exact ⟨c, r, rfl, decDigits_ch v c (by rw [h]; exact List.mem_cons_self ..)⟩
theorem size_first (u : Nat) : ∃ c r, sizeL u = c :: r ∧ 48 ≤ c.toNat ∧ c.toNat ≤ 57 := by
  obtain ⟨c, r, h, h1⟩ := dec_first (u / 256)
  exact ⟨c, r ++ _, by rw [sizeL_eq, h]; rfl, h1⟩
theorem size_last (u : Nat) : ∃ l c, sizeL u = l ++ [c] ∧ 48 ≤ c.toNat ∧ c.toNat ≤ 57 := by
  rw [sizeL_eq]
  by_cases h : u % 256 = 0
  · rw [if_pos h, List.append_nil]
    refine ⟨(Lib.decDigits (u / 256)).dropLast, (Lib.decDigits (u / 256)).getLast (decDigits_ne _), (List.dropLast_concat_getLast _).symm, ?_⟩
    exact decDigits_ch _ _ (List.getLast_mem _)
  · rw [if_neg h]
    obtain ⟨_, h2, l, c, h3, _⟩ := decs_ok h (by omega : u % 256 < 256)
    refine ⟨Lib.decDigits (u / 256) ++ 46 :: l, c, by rw [h3]; simp, h2 c (by rw [h3]; simp)⟩
theorem dec_no (v : Nat) {c : UInt8} (h : c.toNat < 48) : c ∉ Lib.decDigits v := fun hc => by
  have := decDigits_ch v c hc
  omega
theorem cut_none (w : List UInt8) (c : UInt8) (h : c ∉ w) : Lib.cut w [c] = (w, [], false) := by
  unfold Lib.cut
  rw [Lib.index_one, indexByte_no w c h, if_neg (by omega)]
theorem size_cut (u : Nat) : (Lib.cut (sizeL u) [46]).1 = Lib.decDigits (u / 256) ∧ (Lib.cut (sizeL u) [46]).2.1 = (if u % 256 = 0 then [] else decsL (u % 256)) := by
  have hno : (46 : UInt8) ∉ Lib.decDigits (u / 256) := dec_no _ (by decide)
  rw [sizeL_eq]
  by_cases h : u % 256 = 0
  · rw [if_pos h, if_pos h, List.append_nil, cut_none _ _ hno]
    exact ⟨rfl, rfl⟩
  · rw [if_neg h, if_neg h, cut_at _ _ _ hno]
    exact ⟨rfl, rfl⟩

theorem print_minus (n : Int) : hasPreB (printB n) w_minus = decide (n < 0) ∧ trimPreB (printB n) w_minus = ⟨(sizeL n.natAbs).toArray⟩ := by
  unfold hasPreB trimPreB Lib.trimPrefix Lib.hasPrefix printB printL
  show [(45 : UInt8)].isPrefixOf (if n < 0 then 45 :: sizeL n.natAbs else sizeL n.natAbs) = _ ∧ (⟨(if [(45 : UInt8)].isPrefixOf (if n < 0 then 45 :: sizeL n.natAbs else sizeL n.natAbs) = true then _ else (if n < 0 then 45 :: sizeL n.natAbs else sizeL n.natAbs)).toArray⟩ : ByteArray) = _
  by_cases h : n < 0
  · rw [if_pos h, decide_eq_true h]
    have e : [(45 : UInt8)].isPrefixOf (45 :: sizeL n.natAbs) = true := by simp [List.isPrefixOf]
    rw [e, if_pos rfl]
    exact ⟨rfl, rfl⟩
  · rw [if_neg h, decide_eq_false h]
    obtain ⟨c, r, hc, hc1, _⟩ := size_first n.natAbs
    have e : [(45 : UInt8)].isPrefixOf (sizeL n.natAbs) = false := by
      rw [hc]
      simp only [List.isPrefixOf, Bool.and_true, beq_eq_false_iff_ne]
      intro e
      rw [← e] at hc1
      revert hc1
      decide
    rw [e]
    simp

theorem puV_ok {s : ByteArray} {v : Nat} (h : Lib.parseMag s.data.toList = .ok v) : puV s = v ∧ puN s = true := by
  unfold puV puN
  rw [h]
  exact ⟨rfl, rfl⟩

theorem print_scan {n : Int} (hn : InR n) : decIs (printB n) = true ∧ decV (printB n) = n := by
  obtain ⟨hn0, hn1⟩ := hn
  obtain ⟨hm, hb⟩ := print_minus n
  have hu : n.natAbs ≤ 9223372036854775808 := by omega
  obtain ⟨c1, c2⟩ := size_cut n.natAbs
  have hW : decWhole (printB n) = ⟨(Lib.decDigits (n.natAbs / 256)).toArray⟩ := by
    unfold decWhole cutL
    rw [hb]
    show (⟨(Lib.cut (sizeL n.natAbs) [46]).1.toArray⟩ : ByteArray) = _
    rw [c1]
  have hP : decPart (printB n) = ⟨(if n.natAbs % 256 = 0 then [] else decsL (n.natAbs % 256)).toArray⟩ := by
    unfold decPart cutR
    rw [hb]
    show (⟨(Lib.cut (sizeL n.natAbs) [46]).2.1.toArray⟩ : ByteArray) = _
    rw [c2]
  have hr : n.natAbs % 256 < 256 := by omega
  obtain ⟨v1, n1⟩ := puV_ok (s := decWhole (printB n)) (v := n.natAbs / 256) (by rw [hW]; exact parse_mag _ (by omega))
  have hz : (decPart (printB n)).size = (if n.natAbs % 256 = 0 then ([] : List UInt8) else decsL (n.natAbs % 256)).length := by rw [hP, size_len]
  have h8 : (decPart (printB n)).size ≤ 8 := by
    rw [hz]
    split
    · simp
    · rename_i h0
      exact (decs_ok h0 hr).1
  obtain ⟨v2, n2⟩ := puV_ok (s := decFull (printB n)) (v := n.natAbs % 256 * 390625) (by
    have := part_parse hr
    unfold decFull
    rw [hz, hP]
    simp only [ByteArray.data_append, Array.toList_append]
    exact this)
  have hS : decSize (printB n) = (n.natAbs : Int) := by
    unfold decSize u64w
    rw [v1, v2]
    rw [u64_wrap, u64_wrap]
    omega
  have hN : decNum (printB n) = n := by
    unfold decNum
    rw [hm, hS]
    unfold i64w u64w
    cases hd : decide (n < 0) with
    | true =>
      have := of_decide_eq_true hd
      simp only [cond_true]
      rw [IntKind.wrap_i64, u64_wrap]
      omega
    | false =>
      have := of_decide_eq_false hd
      simp only [cond_false]
      rw [wrap_id (by omega) (by omega)]
      omega
  have hI : decIs (printB n) = true := by
    unfold decIs
    rw [decide_eq_true h8, n1, n2, v1, v2, hN, decide_eq_true (show ((n.natAbs / 256 : Nat) : Int) ≤ 36028797018963968 by omega), decide_eq_true (show ((n.natAbs % 256 * 390625 : Nat) : Int) % 390625 = 0 by omega), decide_eq_true rfl]
    rfl
  refine ⟨hI, ?_⟩
  unfold decV
  rw [hI, hN]
  rfl

theorem i64w_in (n : Int) : InR (i64w n) := by
  unfold i64w
  rw [IntKind.wrap_i64]
  omega
theorem scan_print {s : ByteArray} (h : decIs s = true) : printB (decV s) = s ∧ InR (decV s) := by
  unfold decV
  rw [h]
  unfold decIs at h
  simp only [Bool.and_eq_true, decide_eq_true_eq] at h
  exact ⟨h.2.2.2.2.2, i64w_in _⟩
theorem scan_none {s : ByteArray} (h : decIs s = false) : decV s = 0 := by
  unfold decV
  rw [h]
  rfl
theorem print_inj {n m : Int} (hn : InR n) (hm : InR m) (h : printB n = printB m) : n = m := by
  have := (print_scan hn).2
  rw [h, (print_scan hm).2] at this
  exact this.symm

/-! ### the ends of a text -/
theorem print_first (n : Int) : ∃ c r, (printB n).data.toList = c :: r ∧ c.toNat ≠ 43 := by
  show ∃ c r, printL n = c :: r ∧ c.toNat ≠ 43
  unfold printL
  split
  · exact ⟨45, _, rfl, by decide⟩
  · obtain ⟨c, r, h, h1, _⟩ := size_first n.natAbs
    exact ⟨c, r, h, by omega⟩
theorem print_last (n : Int) : ∃ l c, (printB n).data.toList = l ++ [c] ∧ 48 ≤ c.toNat := by
  show ∃ l c, printL n = l ++ [c] ∧ 48 ≤ c.toNat
  unfold printL
  obtain ⟨l, c, h, h1, _⟩ := size_last n.natAbs
  split
  · exact ⟨45 :: l, c, by rw [h]; rfl, h1⟩
  · exact ⟨l, c, h, h1⟩
theorem print_len (n : Int) (hn : InR n) : 1 ≤ (printB n).size ∧ (printB n).size ≤ 40 := by
  obtain ⟨c, r, h, _⟩ := print_first n
  refine ⟨by rw [size_len, h]; simp, ?_⟩
  rw [size_len]
  show (printL n).length ≤ 40
  have hs : (sizeL n.natAbs).length ≤ 30 := by
    rw [sizeL_eq, List.length_append]
    have h1 : (Lib.decDigits (n.natAbs / 256)).length ≤ 20 := by
      have := numB_size (n := ((n.natAbs / 256 : Nat) : Int)) (by omega) (by obtain ⟨_, _⟩ := hn; omega)
      rw [size_len] at this
      exact this
    split
    · simp; omega
    · rename_i h0
      have := (decs_ok h0 (by omega : n.natAbs % 256 < 256)).1
      simp only [List.length_cons]
      omega
  unfold printL
  split
  · simp only [List.length_cons]; omega
  · omega
theorem no_point (n : Int) : decIs (printB n ++ ⟨#[46]⟩) = false := by
  cases h : decIs (printB n ++ ⟨#[46]⟩) with
  | false => rfl
  | true =>
    exfalso
    obtain ⟨h1, _⟩ := scan_print h
    obtain ⟨l, c, hl, hc⟩ := print_last (decV (printB n ++ ⟨#[46]⟩))
    rw [h1] at hl
    simp only [ByteArray.data_append, Array.toList_append] at hl
    have := List.append_inj_right' hl rfl
    simp only [List.cons.injEq, and_true] at this
    rw [← this] at hc
    revert hc
    decide
theorem no_plus (n : Int) : decIs (⟨#[43]⟩ ++ printB n) = false := by
  cases h : decIs (⟨#[43]⟩ ++ printB n) with
  | false => rfl
  | true =>
    exfalso
    obtain ⟨h1, _⟩ := scan_print h
    obtain ⟨c, r, hl, hc⟩ := print_first (decV (⟨#[43]⟩ ++ printB n))
    rw [h1] at hl
    simp only [ByteArray.data_append, Array.toList_append] at hl
    have hl : (43 : UInt8) :: _ = c :: r := hl
    injection hl with e _
    rw [← e] at hc
    exact hc rfl
theorem print_neg {x : Int} (h : 0 < x) : printB (-x) = ⟨#[45]⟩ ++ printB x := by
  apply bytes_ext
  simp only [ByteArray.data_append, Array.toList_append]
  show printL (-x) = 45 :: printL x
  unfold printL
  rw [if_pos (by omega), if_neg (by omega), Int.natAbs_neg]
theorem print_pos {x : Int} (h : 0 ≤ x) : (printB x).data.toList = sizeL x.natAbs := by
  show printL x = _
  unfold printL
  rw [if_neg (by omega)]
theorem drop_dec (v : Nat) (l : List UInt8) : (Lib.decDigits v ++ l).dropWhile (fun c => !(c == 46)) = l.dropWhile (fun c => !(c == 46)) := by
  rw [List.dropWhile_append_of_pos]
  intro c hc
  have := decDigits_ch v c hc
  simp only [Bool.not_eq_true', beq_eq_false_iff_ne]
  intro e
  rw [e] at this
  revert this
  decide
theorem print_from {x : Int} (h : 0 ≤ x) : fromPoint (printB x) = ⟨(if x.natAbs % 256 = 0 then [] else 46 :: decsL (x.natAbs % 256)).toArray⟩ := by
  unfold fromPoint
  rw [print_pos h, sizeL_eq, drop_dec]
  split
  · rfl
  · rfl

end Go.FM

/-
  THE NODES THAT copsekeep MAKES OF NUMBERS ARE A TREE'S: plain law, of no program.
-/
namespace Go.FM
open Go

def isLf (x : IV) : Prop := ∃ v, -3000 ≤ v ∧ v ≤ 3000 ∧ x = leafN v
def isFk (dim n : Int) (i : Nat) (x : IV) : Prop := ∃ f a l, 0 ≤ f ∧ f < dim ∧ 0 ≤ a ∧ a ≤ 9 ∧ (i : Int) < l ∧ l + 1 < n ∧ x = mkN false 0 f a l (l + 1)
def nm (x : IV) (j : Nat) : Nat := cond (x.cell 0).toBool 0 ((if (x.cell 4).toInt = (j : Int) then 1 else 0) + (if (x.cell 5).toInt = (j : Int) then 1 else 0))
def nmS (l : List IV) (j : Nat) : Nat := (l.map (nm · j)).sum

theorem nm_leaf {x : IV} (h : isLf x) (j : Nat) : nm x j = 0 := by
  obtain ⟨v, _, _, rfl⟩ := h
  rfl
theorem nm_fork (f a : Int) (n j : Nat) : nm (mkN false 0 f a (n : Int) ((n : Int) + 1)) j = (if j = n then 1 else 0) + (if j = n + 1 then 1 else 0) := by
  show (if (n : Int) = (j : Int) then 1 else 0) + (if (n : Int) + 1 = (j : Int) then 1 else 0) = _
  have e1 : ((n : Int) = (j : Int)) ↔ (j = n) := by omega
  have e2 : ((n : Int) + 1 = (j : Int)) ↔ (j = n + 1) := by omega
  simp only [e1, e2]
theorem nmS_app (l m : List IV) (j : Nat) : nmS (l ++ m) j = nmS l j + nmS m j := by simp [nmS]
theorem nmS_set : ∀ {l : List IV} {p : Nat} {x : IV} (y : IV) (j : Nat), l[p]? = some x → nmS (l.set p y) j + nm x j = nmS l j + nm y j
  | [], p, x, y, j, h => by simp at h
  | z :: l, 0, x, y, j, h => by
    simp only [List.getElem?_cons_zero, Option.some.injEq] at h
    subst h
    simp only [List.set_cons_zero, nmS, List.map_cons, List.sum_cons]
    omega
  | z :: l, p + 1, x, y, j, h => by
    have := nmS_set (l := l) y j (by simpa using h)
    simp only [List.set_cons_succ, nmS, List.map_cons, List.sum_cons] at this ⊢
    omega

structure NsOK (dim : Int) (i : Nat) (s : Ns) : Prop where
  len : s.nodes.length = 2 * i + 1
  ll : s.leaves.length = i + 1
  node : ∀ (k : Nat) x, s.nodes[k]? = some x → isLf x ∨ isFk dim (2 * (i : Int) + 1) k x
  leaf : ∀ y ∈ s.leaves, ∃ p : Nat, y = .int (p : Int) ∧ ∃ x, s.nodes[p]? = some x ∧ isLf x
  dist : s.leaves.Nodup
  cnt : ∀ j, nmS s.nodes j = if 1 ≤ j ∧ j < 2 * i + 1 then 1 else 0

theorem pick_in (l : List IV) (i lo hi : Int) (h : lo ≤ hi) (h0 : -2000000000000000000 ≤ lo) (h1 : hi ≤ 2000000000000000000) : lo ≤ withinZ (pickZ l i) lo hi ∧ withinZ (pickZ l i) lo hi ≤ hi :=
  (within_in h h0 h1).2
theorem leaf_is (l : List IV) (i : Int) : isLf (leafN (withinZ (pickZ l i) (-3000) 3000)) :=
  ⟨_, (pick_in l i (-3000) 3000 (by omega) (by omega) (by omega)).1, (pick_in l i (-3000) 3000 (by omega) (by omega) (by omega)).2, rfl⟩

theorem ns_zero (val : List IV) (dim : Int) : NsOK dim 0 ⟨[leafN (withinZ (pickZ val 0) (-3000) 3000)], [.int 0]⟩ where
  len := rfl
  ll := rfl
  node k x h := by
    cases k with
    | zero =>
      simp only [List.getElem?_cons_zero, Option.some.injEq] at h
      subst h
      exact .inl (leaf_is val 0)
    | succ k => simp at h
  leaf y hy := by
    simp only [List.mem_cons, List.not_mem_nil, or_false] at hy
    exact ⟨0, hy, _, rfl, leaf_is val 0⟩
  dist := by simp
  cnt j := by
    have : ¬ (1 ≤ j ∧ j < 2 * 0 + 1) := by omega
    rw [if_neg this]
    show nm _ j + 0 = 0
    rw [nm_leaf (leaf_is val 0)]

theorem nodup_erase {l : List IV} (h : l.Nodup) {k : Nat} {y : IV} (hk : l[k]? = some y) : y ∉ l.take k ++ l.drop (k + 1) := by
  intro hy
  rw [← List.eraseIdx_eq_take_drop_succ, List.mem_eraseIdx_iff_getElem?] at hy
  obtain ⟨i, hne, hi⟩ := hy
  have h1 : i < l.length := (List.getElem?_eq_some_iff.1 hi).1
  have h2 : k < l.length := (List.getElem?_eq_some_iff.1 hk).1
  have : l[i] = l[k] := by
    rw [(List.getElem?_eq_some_iff.1 hi).2, (List.getElem?_eq_some_iff.1 hk).2]
  have hp := List.pairwise_iff_getElem.1 h
  rcases Nat.lt_trichotomy i k with hlt | heq | hlt
  · exact hp i k h1 h2 hlt this
  · exact hne heq
  · exact hp k i h2 h1 hlt this.symm

theorem ns_step {part byl atl val : List IV} {dim : Int} (hd : 1 ≤ dim ∧ dim ≤ 4) {i : Nat} (hi : i < 7) {s : Ns} (h : NsOK dim i s) : NsOK dim (i + 1) (nsStep part byl atl val dim i s) := by
  obtain ⟨k0, k1⟩ := (within_in (n := (part.getD i default).toInt) (lo := 0) (hi := ic s.leaves.length - 1) (by simp only [ic]; have := h.ll; omega) (by omega) (by simp only [ic]; have := h.ll; omega)).2
  have hk0 : 0 ≤ nsK part i s := k0
  have hk1 : nsK part i s ≤ ic s.leaves.length - 1 := k1
  obtain ⟨k, hk⟩ : ∃ k : Nat, nsK part i s = k := ⟨(nsK part i s).toNat, by omega⟩
  have hkl : k < s.leaves.length := by simp only [ic] at hk1; omega
  have hky : s.leaves[k]? = some s.leaves[k] := List.getElem?_eq_getElem hkl
  obtain ⟨p, hp, x, hx, hlf⟩ := h.leaf _ (List.getElem_mem hkl)
  have hat : (nsAt part i s).toNat = p := by
    unfold nsAt
    rw [hk, Int.toNat_natCast, List.getD_eq_getElem?_getD, hky, hp]
    show ((p : Int)).toNat = p
    omega
  have hpl : p < 2 * i + 1 := by rw [← h.len]; exact (List.getElem?_eq_some_iff.1 hx).1
  have f1 := pick_in byl (i : Int) 0 (dim - 1) (by omega) (by omega) (by omega)
  have a1 := pick_in atl (i : Int) 0 9 (by omega) (by omega) (by omega)
  generalize hf : withinZ (pickZ byl (i : Int)) 0 (dim - 1) = f at f1
  generalize ha : withinZ (pickZ atl (i : Int)) 0 9 = a at a1
  have el : ic s.nodes.length = 2 * (i : Int) + 1 := by simp only [ic]; have := h.len; omega
  have hs : nsStep part byl atl val dim i s = ⟨s.nodes.set p (mkN false 0 f a (2 * (i : Int) + 1) (2 * (i : Int) + 1 + 1)) ++ [leafN (withinZ (pickZ val (2 * (i : Int) + 1)) (-3000) 3000), leafN (withinZ (pickZ val (2 * (i : Int) + 2)) (-3000) 3000)],
      s.leaves.take k ++ s.leaves.drop (k + 1) ++ [.int (2 * (i : Int) + 1), .int (2 * (i : Int) + 1 + 1)]⟩ := by
    unfold nsStep
    rw [hat, hk, Int.toNat_natCast, hf, ha, el]
  rw [hs]
  have L1 := leaf_is val (2 * (i : Int) + 1)
  have L2 := leaf_is val (2 * (i : Int) + 2)
  have hgrow : ∀ (q : Nat) z, isFk dim (2 * (i : Int) + 1) q z → isFk dim (2 * ((i + 1 : Nat) : Int) + 1) q z := fun q z hz => by
    obtain ⟨f, a, l, h1, h2, h3, h4, h5, h6, h7⟩ := hz
    exact ⟨f, a, l, h1, h2, h3, h4, h5, by omega, h7⟩
  have hlen : (s.nodes.set p (mkN false 0 f a (2 * (i : Int) + 1) (2 * (i : Int) + 1 + 1))).length = 2 * i + 1 := by rw [List.length_set, h.len]
  have hnew : ∀ (q : Nat) z, (s.nodes.set p (mkN false 0 f a (2 * (i : Int) + 1) (2 * (i : Int) + 1 + 1)) ++ [leafN (withinZ (pickZ val (2 * (i : Int) + 1)) (-3000) 3000), leafN (withinZ (pickZ val (2 * (i : Int) + 2)) (-3000) 3000)])[q]? = some z →
      (q ≠ p ∧ s.nodes[q]? = some z) ∨ (q = p ∧ z = mkN false 0 f a (2 * (i : Int) + 1) (2 * (i : Int) + 1 + 1)) ∨ isLf z := fun q z hz => by
    by_cases hq : q < 2 * i + 1
    · rw [List.getElem?_append_left (by rw [hlen]; exact hq)] at hz
      by_cases e : p = q
      · subst e
        rw [List.getElem?_set_self (by rw [h.len]; exact hpl)] at hz
        exact .inr (.inl ⟨rfl, (Option.some.inj hz).symm⟩)
      · rw [List.getElem?_set_ne e] at hz
        exact .inl ⟨fun e' => e e'.symm, hz⟩
    · rw [List.getElem?_append_right (by rw [hlen]; omega), hlen] at hz
      obtain ⟨r, hr⟩ : ∃ r, q - (2 * i + 1) = r := ⟨_, rfl⟩
      rw [hr] at hz
      match r, hz with
      | 0, hz => exact .inr (.inr (by simp at hz; subst hz; exact L1))
      | 1, hz => exact .inr (.inr (by simp at hz; subst hz; exact L2))
      | r + 2, hz => simp at hz
  refine ⟨?_, ?_, ?_, ?_, ?_, ?_⟩
  · show (s.nodes.set p _ ++ [_, _]).length = _
    rw [List.length_append, hlen]
    simp only [List.length_cons, List.length_nil]
    omega
  · show (s.leaves.take k ++ s.leaves.drop (k + 1) ++ [_, _]).length = _
    simp only [List.length_append, List.length_take, List.length_drop, List.length_cons, List.length_nil]
    have := h.ll
    omega
  · intro q z hz
    rcases hnew q z hz with ⟨_, hz⟩ | ⟨rfl, rfl⟩ | hz
    · rcases h.node q z hz with h1 | h1
      · exact .inl h1
      · exact .inr (hgrow q z h1)
    · exact .inr ⟨f, a, 2 * (i : Int) + 1, f1.1, by omega, a1.1, a1.2, by omega, by omega, rfl⟩
    · exact .inl hz
  · intro y hy
    rcases List.mem_append.1 hy with hy | hy
    · have hne : y ≠ .int (p : Int) := fun e => by
        have := nodup_erase h.dist hky
        rw [hp] at this
        exact this (e ▸ hy)
      have hyl : y ∈ s.leaves := by
        rcases List.mem_append.1 hy with hy | hy
        · exact List.mem_of_mem_take hy
        · exact List.mem_of_mem_drop hy
      obtain ⟨q, hq, x', hx', hl'⟩ := h.leaf y hyl
      have hqp : p ≠ q := fun e => by subst e; exact hne hq
      refine ⟨q, hq, x', ?_, hl'⟩
      have hql : q < 2 * i + 1 := by rw [← h.len]; exact (List.getElem?_eq_some_iff.1 hx').1
      show (s.nodes.set p _ ++ [_, _])[q]? = _
      rw [List.getElem?_append_left (by rw [hlen]; exact hql), List.getElem?_set_ne hqp, hx']
    · simp only [List.mem_cons, List.not_mem_nil, or_false] at hy
      rcases hy with rfl | rfl
      · refine ⟨2 * i + 1, by simp, leafN (withinZ (pickZ val (2 * (i : Int) + 1)) (-3000) 3000), ?_, L1⟩
        show (s.nodes.set p _ ++ [_, _])[2 * i + 1]? = _
        rw [List.getElem?_append_right (by rw [hlen]; omega), hlen]
        have : 2 * i + 1 - (2 * i + 1) = 0 := by omega
        rw [this]
        rfl
      · refine ⟨2 * i + 1 + 1, by simp, leafN (withinZ (pickZ val (2 * (i : Int) + 2)) (-3000) 3000), ?_, L2⟩
        show (s.nodes.set p _ ++ [_, _])[2 * i + 1 + 1]? = _
        rw [List.getElem?_append_right (by rw [hlen]; omega), hlen]
        have : 2 * i + 1 + 1 - (2 * i + 1) = 1 := by omega
        rw [this]
        rfl
  · show (s.leaves.take k ++ s.leaves.drop (k + 1) ++ [_, _]).Nodup
    have big : ∀ y ∈ s.leaves, ∀ n : Int, 2 * (i : Int) + 1 ≤ n → y ≠ .int n := fun y hy n hn e => by
      obtain ⟨q, hq, x', hx', _⟩ := h.leaf y hy
      have hql : q < 2 * i + 1 := by rw [← h.len]; exact (List.getElem?_eq_some_iff.1 hx').1
      rw [hq] at e
      injection e with e
      omega
    have hsub : ∀ y ∈ s.leaves.take k ++ s.leaves.drop (k + 1), y ∈ s.leaves := fun y hy => by
      rcases List.mem_append.1 hy with hy | hy
      · exact List.mem_of_mem_take hy
      · exact List.mem_of_mem_drop hy
    rw [List.nodup_append]
    refine ⟨?_, ?_, ?_⟩
    · rw [← List.eraseIdx_eq_take_drop_succ]
      exact List.Nodup.sublist (List.eraseIdx_sublist ..) h.dist
    · rw [List.nodup_cons]
      refine ⟨fun hm => ?_, by simp⟩
      simp only [List.mem_cons, List.not_mem_nil, or_false] at hm
      injection hm with hm
      omega
    · intro y hy z hz e
      subst e
      simp only [List.mem_cons, List.not_mem_nil, or_false] at hz
      rcases hz with hz | hz
      · exact big y (hsub y hy) _ (by omega) hz
      · exact big y (hsub y hy) _ (by omega) hz
  · intro j
    show nmS (s.nodes.set p _ ++ [_, _]) j = _
    rw [nmS_app]
    have h1 := nmS_set (mkN false 0 f a (2 * (i : Int) + 1) (2 * (i : Int) + 1 + 1)) j hx
    rw [nm_leaf hlf, h.cnt j] at h1
    have h2 : nmS [leafN (withinZ (pickZ val (2 * (i : Int) + 1)) (-3000) 3000), leafN (withinZ (pickZ val (2 * (i : Int) + 2)) (-3000) 3000)] j = 0 := by
      show nm _ j + (nm _ j + 0) = 0
      rw [nm_leaf L1, nm_leaf L2]
    have h3 := nm_fork f a (2 * i + 1) j
    have e : ((2 * i + 1 : Nat) : Int) = 2 * (i : Int) + 1 := by omega
    rw [e] at h3
    rw [h3] at h1
    rw [h2]
    by_cases c1 : 1 ≤ j ∧ j < 2 * i + 1
    · rw [if_pos c1, if_neg (by omega), if_neg (by omega)] at h1
      rw [if_pos (by omega)]
      omega
    · rw [if_neg c1] at h1
      by_cases c2 : j = 2 * i + 1
      · rw [if_pos c2, if_neg (by omega)] at h1
        rw [if_pos (by omega)]
        omega
      · by_cases c3 : j = 2 * i + 1 + 1
        · rw [if_neg c2, if_pos c3] at h1
          rw [if_pos (by omega)]
          omega
        · rw [if_neg c2, if_neg c3] at h1
          rw [if_neg (by omega)]
          omega

theorem ns_run {part byl atl val : List IV} {dim : Int} (hd : 1 ≤ dim ∧ dim ≤ 4) : ∀ (d i : Nat) (s : Ns), i + d ≤ 7 → NsOK dim i s → NsOK dim (i + d) (nsRun part byl atl val dim d i s)
  | 0, i, s, _, h => h
  | d + 1, i, s, hi, h => by
    have := ns_run (part := part) (byl := byl) (atl := atl) (val := val) hd d (i + 1) _ (by omega) (ns_step (part := part) (byl := byl) (atl := atl) (val := val) hd (by omega) h)
    rw [Nat.add_assoc, Nat.add_comm 1 d] at this
    exact this
theorem ns_tree (part byl atl val : List IV) {dim : Int} (hd : 1 ≤ dim ∧ dim ≤ 4) : ∃ i, i ≤ 7 ∧ NsOK dim i (nsTree part byl atl val dim) := by
  refine ⟨min part.length 7, by omega, ?_⟩
  have := ns_run (part := part) (byl := byl) (atl := atl) (val := val) hd (min part.length 7) 0 _ (by omega) (ns_zero val dim)
  rw [Nat.zero_add] at this
  exact this

end Go.FM

/-
  A MODEL OF NUMBERS IS RIGHT: plain law (packing, trees, models). Of no program.
-/
namespace Go.FM
open Go

theorem Nd.eq_of {x y : Nd} (h : x.eq y = true) : x = y := by
  obtain ⟨a1, a2, a3, a4, a5, a6⟩ := x
  obtain ⟨b1, b2, b3, b4, b5, b6⟩ := y
  simp only [Nd.eq, Bool.and_eq_true, beq_iff_eq, and_true] at h
  obtain ⟨rfl, rfl, rfl, rfl, rfl, rfl⟩ := h
  rfl

/-- What a word that is a node's packs to. -/
theorem node_pack {w : Int} (h : nodeB w = true) : packNd (nodeN w) = w ∧ rightNd (nodeN w) = true := by
  have hn : nodeN w = readNd w := by unfold nodeN; rw [h]; rfl
  unfold nodeB at h
  simp only [Bool.and_eq_true, Bool.not_eq_true', beq_iff_eq, beq_eq_false_iff_ne] at h
  rw [hn]
  refine ⟨h.2, ?_⟩
  cases hr : rightNd (readNd w) with
  | true => rfl
  | false =>
    have := h.2
    unfold packNd at this
    rw [hr] at this
    exact absurd this.symm h.1

/-! ### the words of copsekeep's nodes -/
def lfT (i : Nat) : Bool := nodeB (packW true ((i : Int) - 3000) 0 0 0 0) && (nodeN (packW true ((i : Int) - 3000) 0 0 0 0)).eq ⟨true, (i : Int) - 3000, 0, 0, 0, 0⟩
def lfsT : Nat → Bool
  | 0 => true
  | n + 1 => lfT n && lfsT n
theorem lfs_at : ∀ {n i : Nat}, lfsT n = true → i < n → lfT i = true
  | n + 1, i, h, hi => by
    rw [lfsT, Bool.and_eq_true] at h
    by_cases e : i = n
    · subst e; exact h.1
    · exact lfs_at h.2 (by omega)
def fkT (i : Nat) : Bool := nodeB (packW false 0 ((i % 4 : Nat) : Int) ((i / 4 % 10 : Nat) : Int) ((i / 40 : Nat) : Int) (((i / 40 : Nat) : Int) + 1)) &&
  (nodeN (packW false 0 ((i % 4 : Nat) : Int) ((i / 4 % 10 : Nat) : Int) ((i / 40 : Nat) : Int) (((i / 40 : Nat) : Int) + 1))).eq ⟨false, 0, ((i % 4 : Nat) : Int), ((i / 4 % 10 : Nat) : Int), ((i / 40 : Nat) : Int), ((i / 40 : Nat) : Int) + 1⟩
def fksT : Nat → Bool
  | 0 => true
  | n + 1 => (Nat.blt n 40 || fkT n) && fksT n
theorem fks_at : ∀ {n i : Nat}, fksT n = true → i < n → 40 ≤ i → fkT i = true
  | n + 1, i, h, hi, h40 => by
    rw [fksT, Bool.and_eq_true] at h
    by_cases e : i = n
    · subst e
      have := h.1
      rw [Bool.or_eq_true] at this
      rcases this with h1 | h1
      · have : i < 40 := Nat.le_of_ble_eq_true h1
        omega
      · exact h1
    · exact fks_at h.2 (by omega) h40

set_option maxRecDepth 100000 in
theorem lfs_all : lfsT 6001 = true := by kernel_rfl
theorem fks_all : fksT 1200 = true := by kernel_rfl

theorem leaf_word {v : Int} (h0 : -3000 ≤ v) (h1 : v ≤ 3000) : nodeB (packW true v 0 0 0 0) = true ∧ nodeN (packW true v 0 0 0 0) = ⟨true, v, 0, 0, 0, 0⟩ := by
  have h := lfs_at lfs_all (show (v + 3000).toNat < 6001 by omega)
  have e : (((v + 3000).toNat : Nat) : Int) - 3000 = v := by omega
  unfold lfT at h
  rw [e, Bool.and_eq_true] at h
  exact ⟨h.1, Nd.eq_of h.2⟩
theorem fork_word {f a l : Int} (hf : 0 ≤ f ∧ f < 4) (ha : 0 ≤ a ∧ a ≤ 9) (hl : 1 ≤ l ∧ l ≤ 28) : nodeB (packW false 0 f a l (l + 1)) = true ∧ nodeN (packW false 0 f a l (l + 1)) = ⟨false, 0, f, a, l, l + 1⟩ := by
  have h := fks_at fks_all (show l.toNat * 40 + a.toNat * 4 + f.toNat < 1200 by omega) (by omega)
  have e1 : (((l.toNat * 40 + a.toNat * 4 + f.toNat) % 4 : Nat) : Int) = f := by omega
  have e2 : (((l.toNat * 40 + a.toNat * 4 + f.toNat) / 4 % 10 : Nat) : Int) = a := by omega
  have e3 : (((l.toNat * 40 + a.toNat * 4 + f.toNat) / 40 : Nat) : Int) = l := by omega
  unfold fkT at h
  rw [e1, e2, e3, Bool.and_eq_true] at h
  exact ⟨h.1, Nd.eq_of h.2⟩

theorem word_leaf {x : IV} (h : isLf x) : nodeB (packN x).toInt = true ∧ ∃ v, nodeN (packN x).toInt = ⟨true, v, 0, 0, 0, 0⟩ := by
  obtain ⟨v, h0, h1, rfl⟩ := h
  obtain ⟨a, b⟩ := leaf_word h0 h1
  exact ⟨a, v, b⟩
theorem word_named {dim n : Int} (hd : dim ≤ 4) (hn : n ≤ 29) {i : Nat} {x : IV} (h : isLf x ∨ isFk dim n i x) (j : Nat) : named1 (nodeN (packN x).toInt) j = nm x j := by
  rcases h with ⟨v, h0, h1, rfl⟩ | ⟨f, a, l, h0, h1, h2, h3, h4, h5, rfl⟩
  · show named1 (nodeN (packW true v 0 0 0 0)) j = _
    rw [(leaf_word h0 h1).2]
    rfl
  · show named1 (nodeN (packW false 0 f a l (l + 1))) j = _
    rw [(fork_word ⟨h0, by omega⟩ ⟨h2, h3⟩ ⟨by omega, by omega⟩).2]
    rfl
theorem word_ok {dim n : Int} (hd : dim ≤ 4) (hn : n ≤ 29) {i : Nat} {x : IV} (h : isLf x ∨ isFk dim n i x) : (nodeB (packN x).toInt && forkB dim n i (nodeN (packN x).toInt)) = true := by
  rcases h with ⟨v, h0, h1, rfl⟩ | ⟨f, a, l, h0, h1, h2, h3, h4, h5, rfl⟩
  · show (nodeB (packW true v 0 0 0 0) && forkB dim n i (nodeN (packW true v 0 0 0 0))) = true
    rw [(leaf_word h0 h1).1, (leaf_word h0 h1).2]
    rfl
  · show (nodeB (packW false 0 f a l (l + 1)) && forkB dim n i (nodeN (packW false 0 f a l (l + 1)))) = true
    have hw := fork_word ⟨h0, by omega⟩ ⟨h2, h3⟩ (show 1 ≤ l ∧ l ≤ 28 by omega)
    rw [hw.1, hw.2]
    unfold forkB
    simp only [cond_false, decide_eq_false (show ¬ f ≥ dim by omega), beq_eq_false_iff_ne.2 (show l ≠ l + 1 by omega), decide_eq_false (show ¬ min l (l + 1) ≤ (i : Int) by omega), decide_eq_false (show ¬ max l (l + 1) ≥ n by omega)]
    rfl
theorem nodes_ok {dim n : Int} (hd : dim ≤ 4) (hn : n ≤ 29) : ∀ {l : List IV} {i : Nat}, (∀ (k : Nat) x, l[k]? = some x → isLf x ∨ isFk dim n (i + k) x) → nodesB dim n i (l.map packN) = true
  | [], _, _ => rfl
  | x :: l, i, h => by
    rw [List.map_cons, nodesB, Bool.and_eq_true]
    refine ⟨word_ok hd hn (h 0 x rfl), nodes_ok hd hn (i := i + 1) fun k y hk => ?_⟩
    have := h (k + 1) y (by simpa using hk)
    rwa [show i + (k + 1) = i + 1 + k by omega] at this
theorem named_map {dim n : Int} (hd : dim ≤ 4) (hn : n ≤ 29) (j : Nat) : ∀ {l : List IV} {i : Nat}, (∀ (k : Nat) x, l[k]? = some x → isLf x ∨ isFk dim n (i + k) x) → namedBy (l.map packN) j = nmS l j
  | [], _, _ => rfl
  | x :: l, i, h => by
    have ih := named_map hd hn j (l := l) (i := i + 1) fun k y hk => by
      have := h (k + 1) y (by simpa using hk)
      rwa [show i + (k + 1) = i + 1 + k by omega] at this
    have h0 := word_named hd hn (h 0 x rfl) j
    unfold namedBy nmS at ih ⊢
    simp only [List.map_cons, List.sum_cons]
    rw [h0, ih]

theorem nodes_tree (part byl atl val : List IV) {dim : Int} (hd : 1 ≤ dim ∧ dim ≤ 4) : treeB (nodesL part byl atl val dim) dim = true := by
  obtain ⟨i, hi, h⟩ := ns_tree part byl atl val hd
  have hlen : (nodesL part byl atl val dim).length = 2 * i + 1 := by
    unfold nodesL
    rw [List.length_map, h.len]
  have hn : ∀ (k : Nat) x, (nsTree part byl atl val dim).nodes[k]? = some x → isLf x ∨ isFk dim (ic (nodesL part byl atl val dim).length) (0 + k) x := fun k x hk => by
    have e : ic (nodesL part byl atl val dim).length = 2 * (i : Int) + 1 := by simp only [ic]; omega
    rw [e, Nat.zero_add]
    exact h.node k x hk
  have hb : ic (nodesL part byl atl val dim).length ≤ 29 := by simp only [ic]; omega
  unfold treeB
  rw [Bool.and_eq_true, Bool.and_eq_true, Bool.and_eq_true]
  refine ⟨⟨Nat.ble_eq_true_of_le (by omega), Nat.ble_eq_true_of_le (by omega)⟩, nodes_ok hd.2 hb hn, ?_⟩
  unfold onceB
  rw [List.all_eq_true]
  intro j hj
  have hj := List.mem_range.1 hj
  rw [beq_iff_eq]
  have := named_map hd.2 hb (j + 1) hn
  have e : namedBy (nodesL part byl atl val dim) (j + 1) = nmS (nsTree part byl atl val dim).nodes (j + 1) := this
  rw [e, h.cnt, if_pos (by omega)]

/-! ### models -/
theorem dimF_in (d : Int) : 1 ≤ dimF d ∧ dimF d ≤ 3 := (within_in (n := d) (lo := 1) (hi := 3) (by omega) (by omega) (by omega)).2
theorem clsF_in (d : Int) : 1 ≤ clsF d ∧ clsF d ≤ 3 := (within_in (n := d) (lo := 1) (hi := 3) (by omega) (by omega) (by omega)).2
def modelF (d c : Int) (bias ts : List IV) : Md := ⟨dimF d, clsF c, biasF c bias 0, biasF c bias 1, biasF c bias 2, treesF d c ts⟩
theorem bias_ok (c : Int) (bias : List IV) (j : Int) : biasB (clsF c) j (biasF c bias j) = true := by
  unfold biasB biasF
  have := (within_in (n := pickZ bias j) (lo := -500) (hi := 500) (by omega) (by omega) (by omega)).2
  rcases Int.lt_or_le j (clsF c) with h | h
  · rw [decide_eq_true h, decide_eq_false (show ¬ j ≥ clsF c by omega)]
    simp only [cond_true, Bool.false_and, Bool.not_false, Bool.and_true]
    unfold fits32
    rw [decide_eq_true (by omega), decide_eq_true (by omega)]
    rfl
  · rw [decide_eq_false (show ¬ j < clsF c by omega), decide_eq_true (show j ≥ clsF c from h)]
    rfl
theorem tree_ok (d c : Int) (t : IV) : treeOK (dimF d) (clsF c) (treeF d c t) = true := by
  have hd := dimF_in d
  have hc := clsF_in c
  have hk := (within_in (n := (t.cell 0).toInt) (lo := 0) (hi := clsF c - 1) (by omega) (by omega) (by omega)).2
  show (!(decide (withinZ (t.cell 0).toInt 0 (clsF c - 1) < 0)) && (!(decide (withinZ (t.cell 0).toInt 0 (clsF c - 1) ≥ clsF c)) && treeB (nodesL (t.cell 1).toList (t.cell 2).toList (t.cell 3).toList (t.cell 4).toList (dimF d)) (dimF d))) = true
  rw [decide_eq_false (by omega), decide_eq_false (by omega), nodes_tree _ _ _ _ ⟨hd.1, by omega⟩]
  rfl
theorem trees_ok (d c : Int) (ts : List IV) : (treesF d c ts).all (treeOK (dimF d) (clsF c)) = true := by
  rw [List.all_eq_true]
  intro t ht
  unfold treesF at ht
  obtain ⟨u, _, rfl⟩ := List.mem_map.1 ht
  exact tree_ok d c u
theorem trees_len (d c : Int) (ts : List IV) : (treesF d c ts).length ≤ 4 := by
  unfold treesF
  rw [List.length_map, List.length_take]
  omega
theorem model_of {m : Md} (hd : 1 ≤ m.d ∧ m.d ≤ 4) (hc : 1 ≤ m.c ∧ m.c ≤ 3) (hl : m.ts.length ≤ 8) (h0 : biasB m.c 0 m.b0 = true) (h1 : biasB m.c 1 m.b1 = true) (h2 : biasB m.c 2 m.b2 = true) (ht : m.ts.all (treeOK m.d m.c) = true) : modelB m = true := by
  unfold modelB
  rw [decide_eq_false (show ¬ m.d < 1 by omega), decide_eq_false (show ¬ m.d > 4 by omega), decide_eq_false (show ¬ m.c < 1 by omega), decide_eq_false (show ¬ m.c > 3 by omega), Nat.ble_eq_true_of_le hl, h0, h1, h2, ht]
  rfl
theorem model_right (d c : Int) (bias ts : List IV) : modelB (modelF d c bias ts) = true := by
  have hd := dimF_in d
  have hc := clsF_in c
  exact model_of (m := modelF d c bias ts) ⟨hd.1, by show dimF d ≤ 4; omega⟩ hc (by have := trees_len d c ts; show (treesF d c ts).length ≤ 8; omega) (bias_ok c bias 0) (bias_ok c bias 1) (bias_ok c bias 2) (trees_ok d c ts)

end Go.FM

/-
  ask's PLAIN LAWS: a query's text is parsed to the query. Of no program.
-/
namespace Go.FM
open Go

/-! ### words put together, and taken apart -/
theorem join_two (x y : List UInt8) (r : List (List UInt8)) : Lib.join (x :: y :: r) [32] = x ++ 32 :: Lib.join (y :: r) [32] := by
  rw [Lib.join_cons, Lib.join_cons]
  simp [Lib.joinTail]
theorem split_join : ∀ (x : List UInt8) (r : List (List UInt8)), (∀ w ∈ x :: r, (32 : UInt8) ∉ w) → Lib.split (Lib.join (x :: r) [32]) [32] = x :: r
  | x, [], h => by rw [Lib.join_one]; exact split_no x 32 (h x (List.mem_cons_self ..))
  | x, y :: r, h => by
    rw [join_two, split_at x _ 32 (h x (List.mem_cons_self ..)), split_join y r (fun w hw => h w (List.mem_cons_of_mem _ hw))]
theorem map_data_inj : ∀ {l m : List ByteArray}, l.map (·.data.toList) = m.map (·.data.toList) → l = m
  | [], [], _ => rfl
  | [], _ :: _, h => by simp at h
  | _ :: _, [], h => by simp at h
  | x :: l, y :: m, h => by
    simp only [List.map_cons, List.cons.injEq] at h
    rw [bytes_ext h.1, map_data_inj h.2]
theorem line_join (ws : List ByteArray) (h0 : ws ≠ []) (h : ∀ w ∈ ws, (32 : UInt8) ∉ w.data.toList) : lineW (joinB ws w_space) = ws.map IV.str := by
  unfold lineW
  congr 1
  apply map_data_inj
  rw [splitL_data]
  cases ws with
  | nil => exact absurd rfl h0
  | cons x r =>
    show Lib.split (Lib.join ((x :: r).map (·.data.toList)) [32]) [32] = _
    rw [List.map_cons]
    exact split_join _ _ (fun w hw => by
      rcases List.mem_cons.1 hw with rfl | hw
      · exact h x (List.mem_cons_self ..)
      · obtain ⟨y, hy, rfl⟩ := List.mem_map.1 hw
        exact h y (List.mem_cons_of_mem _ hy))

/-! ### numbers' bytes -/
theorem sizeL_ch (u : Nat) : ∀ c ∈ sizeL u, c.toNat = 46 ∨ (48 ≤ c.toNat ∧ c.toNat ≤ 57) := by
  intro c hc
  rw [sizeL_eq] at hc
  rcases List.mem_append.1 hc with h | h
  · exact .inr (decDigits_ch _ c h)
  · split at h
    · cases h
    · rename_i h0
      rcases List.mem_cons.1 h with rfl | h
      · exact .inl rfl
      · exact .inr ((decs_ok h0 (by omega : u % 256 < 256)).2.1 c h)
theorem printL_ch (n : Int) : ∀ c ∈ printL n, 45 ≤ c.toNat ∧ c.toNat ≤ 57 := by
  intro c hc
  unfold printL at hc
  split at hc
  · rcases List.mem_cons.1 hc with rfl | h
    · exact ⟨by decide, by decide⟩
    · have := sizeL_ch _ c h
      omega
  · have := sizeL_ch _ c hc
    omega
theorem itoa_lt (n : Int) : ∀ c ∈ Lib.itoa n, 45 ≤ c.toNat ∧ c.toNat ≤ 57 := by
  intro c hc
  have := itoa_ch n c hc
  omega
theorem itoa_ne (n : Int) : Lib.itoa n ≠ [] := by
  unfold Lib.itoa
  split
  · simp
  · exact decDigits_ne _
theorem no32 {l : List UInt8} (h : ∀ c ∈ l, 45 ≤ c.toNat ∧ c.toNat ≤ 57) : (32 : UInt8) ∉ l := fun hc => by
  have := (h _ hc).1
  revert this
  decide
theorem beq_no {x y : ByteArray} (h : x ≠ y) : (x.toList == y.toList) = false := by rw [bytes_beq]; exact decide_eq_false h
theorem beq_yes (x : ByteArray) : (x.toList == x.toList) = true := by simp
/-- A word of letters is no number's. -/
theorem ne_num {w x : ByteArray} (hw : ∀ c ∈ w.data.toList, 97 ≤ c.toNat) (hx : x.data.toList ≠ []) (h : ∀ c ∈ x.data.toList, 45 ≤ c.toNat ∧ c.toNat ≤ 57) : (w.toList == x.toList) = false := by
  refine beq_no (fun e => ?_)
  subst e
  cases hl : w.data.toList with
  | nil => exact hx hl
  | cons c r =>
    have h1 := hw c (by rw [hl]; exact List.mem_cons_self ..)
    have h2 := h c (by rw [hl]; exact List.mem_cons_self ..)
    omega

/-! ### two points -/
def noDD : List UInt8 → Bool
  | [] => true
  | [c] => !(c == 46)
  | a :: b :: r => !(a == 46 && b == 46) && noDD (b :: r)
theorem noDD_plain : ∀ {l : List UInt8}, (∀ c ∈ l, c ≠ 46) → noDD l = true
  | [], _ => rfl
  | [c], h => by simp [noDD, h c (List.mem_cons_self ..)]
  | a :: b :: r, h => by
    have ha := h a (List.mem_cons_self ..)
    have e : (a == 46) = false := beq_eq_false_iff_ne.2 ha
    simp only [noDD, e, Bool.false_and, Bool.not_false, Bool.true_and]
    exact noDD_plain (fun c hc => h c (List.mem_cons_of_mem _ hc))
theorem noDD_app : ∀ {l : List UInt8} {c : UInt8} {r : List UInt8}, (∀ c ∈ l, c ≠ 46) → c ≠ 46 → noDD (c :: r) = true → noDD (l ++ 46 :: c :: r) = true
  | [], c, r, _, hc, hr => by
    have e : (c == 46) = false := beq_eq_false_iff_ne.2 hc
    simp only [List.nil_append, noDD, e, Bool.and_false, Bool.not_false, Bool.true_and, hr]
  | [a], c, r, h, hc, hr => by
    have e : (a == 46) = false := beq_eq_false_iff_ne.2 (h a (List.mem_cons_self ..))
    have := noDD_app (l := []) (fun c hc => by cases hc) hc hr
    simp only [List.nil_append] at this
    simp only [List.cons_append, List.nil_append, noDD, e, Bool.false_and, Bool.not_false, Bool.true_and]
    simpa only [noDD] using this
  | a :: b :: l, c, r, h, hc, hr => by
    have e : (a == 46) = false := beq_eq_false_iff_ne.2 (h a (List.mem_cons_self ..))
    have := noDD_app (l := b :: l) (fun c hc => h c (List.mem_cons_of_mem _ hc)) hc hr
    simp only [List.cons_append] at this ⊢
    simp only [noDD, e, Bool.false_and, Bool.not_false, Bool.true_and]
    exact this
theorem index_dots : ∀ (w r : List UInt8), noDD w = true → Lib.index (w ++ 46 :: 46 :: r) [46, 46] = w.length
  | [], r, _ => by simp [Lib.index, List.isPrefixOf]
  | [c], r, h => by
    have e : (c == 46) = false := by simpa [noDD] using h
    have e' : ((46 : UInt8) == c) = false := by rw [beq_eq_false_iff_ne] at e ⊢; exact fun h => e h.symm
    have h0 := index_dots [] r rfl
    simp only [List.nil_append, List.length_nil] at h0
    rw [List.singleton_append, Lib.index, h0]
    simp [List.isPrefixOf, e']
  | a :: b :: l, r, h => by
    simp only [noDD, Bool.and_eq_true] at h
    have ih := index_dots (b :: l) r h.2
    have e : [(46 : UInt8), 46].isPrefixOf (a :: b :: l ++ 46 :: 46 :: r) = false := by
      simp only [List.cons_append, List.isPrefixOf, Bool.and_true]
      have h1 := h.1
      cases ha : (a == 46) with
      | false =>
        have : ((46 : UInt8) == a) = false := by rw [beq_eq_false_iff_ne] at ha ⊢; exact fun h => ha h.symm
        rw [this, Bool.false_and]
      | true =>
        rw [ha, Bool.true_and] at h1
        have hb : (b == 46) = false := by simpa using h1
        have : ((46 : UInt8) == b) = false := by rw [beq_eq_false_iff_ne] at hb ⊢; exact fun h => hb h.symm
        rw [this, Bool.and_false]
    have e2 : (((b :: l).length : Int) == -1) = false := by rw [beq_eq_false_iff_ne]; simp only [List.length_cons]; omega
    rw [List.cons_append, Lib.index]
    rw [List.cons_append] at e
    rw [e, ih, e2]
    simp
theorem noDD_size (u : Nat) : noDD (sizeL u) = true := by
  have hd : ∀ c ∈ Lib.decDigits (u / 256), c ≠ 46 := fun c hc e => by
    subst e
    have := decDigits_ch _ _ hc
    revert this
    decide
  rw [sizeL_eq]
  by_cases h : u % 256 = 0
  · rw [if_pos h, List.append_nil]
    exact noDD_plain hd
  · rw [if_neg h]
    obtain ⟨_, h2, l, c, h3, _⟩ := decs_ok h (by omega : u % 256 < 256)
    have hp : ∀ c ∈ decsL (u % 256), c ≠ 46 := fun c hc e => by
      subst e
      have := h2 _ hc
      revert this
      decide
    cases hl : decsL (u % 256) with
    | nil => rw [h3] at hl; simp at hl
    | cons x r =>
      rw [hl] at hp
      exact noDD_app hd (hp x (List.mem_cons_self ..)) (noDD_plain hp)
theorem noDD_print (n : Int) : noDD (printL n) = true := by
  unfold printL
  split
  · obtain ⟨c, r, h, _⟩ := size_first n.natAbs
    have := noDD_size n.natAbs
    rw [h] at this ⊢
    simp only [noDD, Bool.and_eq_true]
    exact ⟨by rfl, this⟩
  · exact noDD_size _
theorem cut_dots (w r : List UInt8) (h : noDD w = true) : Lib.cut (w ++ 46 :: 46 :: r) [46, 46] = (w, r, true) := by
  unfold Lib.cut
  rw [index_dots w r h, if_pos (by omega)]
  simp
theorem span_cut (a b : Int) : cutL (spanW a b) w_dots = printB a ∧ cutR (spanW a b) w_dots = printB b := by
  have e : (spanW a b).data.toList = printL a ++ 46 :: 46 :: printL b := by
    unfold spanW
    simp only [ByteArray.data_append, Array.toList_append]
    show (printL a ++ [46, 46]) ++ printL b = _
    simp
  unfold cutL cutR
  rw [e]
  have := cut_dots (printL a) (printL b) (noDD_print a)
  show (⟨(Lib.cut _ [46, 46]).1.toArray⟩ : ByteArray) = _ ∧ (⟨(Lib.cut _ [46, 46]).2.1.toArray⟩ : ByteArray) = _
  rw [this]
  exact ⟨rfl, rfl⟩

/-! ### a query's words -/
theorem Qy.eq_of {p q : Qy} (h : p.eq q = true) : p = q := by
  cases p; cases q
  simp only [Qy.eq, Bool.and_eq_true, beq_iff_eq, and_true] at h
  simp only [Qy.mk.injEq]
  exact h
theorem Qy.eq_self (p : Qy) : p.eq p = true := by
  simp [Qy.eq]

theorem count_num {n : Int} (h : InR n) : atoiV (itoaB n) = n := atoiV_of rfl h.1 h.2
theorem scan_num {n : Int} (h : InR n) : decV (printB n) = n := (print_scan h).2
theorem printB_num (n : Int) : ∀ c ∈ (printB n).data.toList, 45 ≤ c.toNat ∧ c.toNat ≤ 57 := printL_ch n
theorem itoaB_num (n : Int) : ∀ c ∈ (itoaB n).data.toList, 45 ≤ c.toNat ∧ c.toNat ≤ 57 := itoa_lt n
theorem printB_ne (n : Int) : (printB n).data.toList ≠ [] := by
  obtain ⟨c, r, h, _⟩ := print_first n
  rw [h]
  simp
theorem spanW_num (a b : Int) : ∀ c ∈ (spanW a b).data.toList, 45 ≤ c.toNat ∧ c.toNat ≤ 57 := by
  intro c hc
  unfold spanW at hc
  simp only [ByteArray.data_append, Array.toList_append, List.mem_append] at hc
  rcases hc with (h | h) | h
  · exact printL_ch a c h
  · have h : c ∈ [(46 : UInt8), 46] := h
    simp only [List.mem_cons, List.not_mem_nil, or_false, or_self] at h
    subst h
    decide
  · exact printL_ch b c h
theorem words_no32 (q : Qy) (D : Nat) : ∀ w ∈ wordsQ q D, (32 : UInt8) ∉ w.data.toList := by
  intro w hw
  unfold wordsQ at hw
  have key : ∀ x ∈ headW q, (32 : UInt8) ∉ x.data.toList := by
    intro x hx
    unfold headW at hx
    cases h1 : (q.k == 1) <;> rw [h1] at hx <;> simp only [cond_true, cond_false] at hx
    · cases h2 : (q.k == 2) <;> rw [h2] at hx <;> simp only [cond_true, cond_false, List.mem_cons, List.not_mem_nil, or_false] at hx
      · rcases hx with rfl | rfl | rfl | rfl
        · cases q.fl <;> decide
        · exact no32 (itoaB_num _)
        · decide
        · exact no32 (itoaB_num _)
      · rcases hx with rfl | rfl
        · decide
        · exact no32 (itoaB_num _)
    · simp only [List.mem_cons, List.not_mem_nil, or_false] at hx
      rcases hx with rfl | rfl | rfl | rfl | rfl | rfl
      · decide
      · exact no32 (itoaB_num _)
      · decide
      · exact no32 (printB_num _)
      · decide
      · exact no32 (printB_num _)
  rcases List.mem_append.1 hw with h | h
  · rcases List.mem_append.1 h with h | h
    · exact key w h
    · rcases List.mem_cons.1 h with rfl | h
      · decide
      · obtain ⟨s, _, rfl⟩ := List.mem_map.1 h
        exact no32 (spanW_num _ _)
  · simp only [List.mem_cons, List.not_mem_nil, or_false] at h
    rcases h with rfl | rfl
    · decide
    · exact no32 (itoaB_num _)

theorem idxS_app (w : ByteArray) : ∀ (l : List IV) (r : List IV) (k : Int), (∀ x ∈ l, (w.toList == x.toStr.toList) = false) → idxS (l ++ .str w :: r) w k = k + (l.length : Int)
  | [], r, k, _ => by
    simp only [List.nil_append, idxS, IV.toStr, beq_yes, cond_true, List.length_nil]
    omega
  | x :: l, r, k, h => by
    rw [List.cons_append, idxS, h x (List.mem_cons_self ..), cond_false, idxS_app w l r (k + 1) (fun y hy => h y (List.mem_cons_of_mem _ hy))]
    simp only [List.length_cons]
    omega
theorem head_in (q : Qy) : ∀ x ∈ (headW q).map IV.str, (w_in.toList == x.toStr.toList) = false := by
  intro y hy
  obtain ⟨x, hx, rfl⟩ := List.mem_map.1 hy
  simp only [IV.toStr]
  have li : ∀ c ∈ w_in.data.toList, 97 ≤ c.toNat := by decide
  have ni := fun n => ne_num li (itoa_ne n) (itoaB_num n)
  have np := fun n => ne_num li (printB_ne n) (printB_num n)
  have dd : ∀ {a b : ByteArray}, a.data.toList ≠ b.data.toList → (a.toList == b.toList) = false := fun h => beq_no (fun e => h (by rw [e]))
  unfold headW at hx
  cases h1 : (q.k == 1) <;> rw [h1] at hx <;> simp only [cond_true, cond_false] at hx
  · cases h2 : (q.k == 2) <;> rw [h2] at hx <;> simp only [cond_true, cond_false, List.mem_cons, List.not_mem_nil, or_false] at hx
    · rcases hx with rfl | rfl | rfl | rfl
      · cases q.fl <;> exact dd (by decide)
      · exact ni _
      · exact dd (by decide)
      · exact ni _
    · rcases hx with rfl | rfl
      · exact dd (by decide)
      · exact ni _
  · simp only [List.mem_cons, List.not_mem_nil, or_false] at hx
    rcases hx with rfl | rfl | rfl | rfl | rfl | rfl
    · exact dd (by decide)
    · exact ni _
    · exact dd (by decide)
    · exact np _
    · exact dd (by decide)
    · exact np _

/-- A query's head, read back out of its words. -/
theorem head_words (q : Qy) (hc : InR q.c) (hlo : InR q.lo) (hhi : InR q.hi) (hft : InR q.ft) (hk : q.k = 1 ∨ q.k = 2 ∨ q.k = 3) (n1 : q.k ≠ 1 → q.lo = 0 ∧ q.hi = 0) (n3 : q.k ≠ 3 → q.ft = 0 ∧ q.fl = false) :
    headQ ((headW q).map IV.str) = ⟨q.k, q.c, 0, 0, 0, 0, 0, 0, 0, 0, 0, 0, q.lo, q.hi, q.ft, q.fl, 0⟩ := by
  have dd : ∀ {a b : ByteArray}, a.data.toList ≠ b.data.toList → (a.toList == b.toList) = false := fun h => beq_no (fun e => h (by rw [e]))
  obtain ⟨k, c, a0, b0, a1, b1, a2, b2, a3, b3, a4, b4, lo, hi, ft, fl, bu⟩ := q
  simp only at hc hlo hhi hft hk n1 n3 ⊢
  rcases hk with rfl | rfl | rfl
  · obtain ⟨rfl, rfl⟩ := n3 (by decide)
    show headQ [IV.str w_range, IV.str (itoaB c), IV.str w_from, IV.str (printB lo), IV.str w_to, IV.str (printB hi)] = _
    unfold headQ
    rw [show wAt [IV.str w_range, IV.str (itoaB c), IV.str w_from, IV.str (printB lo), IV.str w_to, IV.str (printB hi)] 0 = w_range from rfl, beq_yes, cond_true,
      show wAt [IV.str w_range, IV.str (itoaB c), IV.str w_from, IV.str (printB lo), IV.str w_to, IV.str (printB hi)] 1 = itoaB c from rfl, show wAt [IV.str w_range, IV.str (itoaB c), IV.str w_from, IV.str (printB lo), IV.str w_to, IV.str (printB hi)] 3 = printB lo from rfl,
      show wAt [IV.str w_range, IV.str (itoaB c), IV.str w_from, IV.str (printB lo), IV.str w_to, IV.str (printB hi)] 5 = printB hi from rfl, count_num hc, scan_num hlo, scan_num hhi]
  · obtain ⟨rfl, rfl⟩ := n3 (by decide)
    obtain ⟨rfl, rfl⟩ := n1 (by decide)
    show headQ [IV.str w_best, IV.str (itoaB c)] = _
    unfold headQ
    rw [show wAt [IV.str w_best, IV.str (itoaB c)] 0 = w_best from rfl, dd (show w_best.data.toList ≠ w_range.data.toList by decide), cond_false, beq_yes, cond_true, show wAt [IV.str w_best, IV.str (itoaB c)] 1 = itoaB c from rfl, count_num hc]
  · obtain ⟨rfl, rfl⟩ := n1 (by decide)
    cases fl with
    | true =>
      show headQ [IV.str w_falls, IV.str (itoaB c), IV.str w_by, IV.str (itoaB ft)] = _
      unfold headQ
      rw [show wAt [IV.str w_falls, IV.str (itoaB c), IV.str w_by, IV.str (itoaB ft)] 0 = w_falls from rfl, dd (show w_falls.data.toList ≠ w_range.data.toList by decide), cond_false, dd (show w_falls.data.toList ≠ w_best.data.toList by decide), cond_false, dd (show w_falls.data.toList ≠ w_rises.data.toList by decide), beq_yes, Bool.false_or, cond_true,
        show wAt [IV.str w_falls, IV.str (itoaB c), IV.str w_by, IV.str (itoaB ft)] 1 = itoaB c from rfl, show wAt [IV.str w_falls, IV.str (itoaB c), IV.str w_by, IV.str (itoaB ft)] 3 = itoaB ft from rfl, count_num hc, count_num hft]
    | false =>
      show headQ [IV.str w_rises, IV.str (itoaB c), IV.str w_by, IV.str (itoaB ft)] = _
      unfold headQ
      rw [show wAt [IV.str w_rises, IV.str (itoaB c), IV.str w_by, IV.str (itoaB ft)] 0 = w_rises from rfl, dd (show w_rises.data.toList ≠ w_range.data.toList by decide), cond_false, dd (show w_rises.data.toList ≠ w_best.data.toList by decide), cond_false, dd (show w_rises.data.toList ≠ w_falls.data.toList by decide), beq_yes, Bool.or_false, cond_true,
        show wAt [IV.str w_rises, IV.str (itoaB c), IV.str w_by, IV.str (itoaB ft)] 1 = itoaB c from rfl, show wAt [IV.str w_rises, IV.str (itoaB c), IV.str w_by, IV.str (itoaB ft)] 3 = itoaB ft from rfl, count_num hc, count_num hft]

theorem wAt_app (A B : List IV) (i : Nat) : wAt (A ++ B) (A.length + i) = wAt B i := by
  unfold wAt
  congr 1
  rw [List.getD, List.getElem?_append_right (by omega), Nat.add_sub_cancel_left]
  rfl

def tailW (q : Qy) (D : Nat) : List IV := (w_in :: ((q.spans.take D).map fun s => spanW s.1 s.2) ++ [w_budget, itoaB q.bu]).map IV.str
theorem wordsQ_map (q : Qy) (D : Nat) : (wordsQ q D).map IV.str = (headW q).map IV.str ++ tailW q D := by
  unfold wordsQ tailW
  simp

/-- A query, read back out of its words. -/
theorem raw_words (q : Qy) (hc : InR q.c) (hlo : InR q.lo) (hhi : InR q.hi) (hft : InR q.ft) (hbu : InR q.bu) (hsp : ∀ s ∈ q.spans, InR s.1 ∧ InR s.2) (D : Nat) (h1 : 1 ≤ D) (h4 : D ≤ 4) (hk : q.k = 1 ∨ q.k = 2 ∨ q.k = 3) (ht : q = told q D) :
    rawQ ((wordsQ q D).map IV.str) (headW q).length D = q := by
  rw [wordsQ_map]
  have ht' := ht
  have n1 : q.k ≠ 1 → q.lo = 0 ∧ q.hi = 0 := fun hn => by
    have e : (q.k == 1) = false := beq_eq_false_iff_ne.2 hn
    have a := congrArg Qy.lo ht'
    have b := congrArg Qy.hi ht'
    simp only [told, e, cond_false] at a b
    exact ⟨a, b⟩
  have n3 : q.k ≠ 3 → q.ft = 0 ∧ q.fl = false := fun hn => by
    have e : (q.k == 3) = false := beq_eq_false_iff_ne.2 hn
    have a := congrArg Qy.ft ht'
    have b := congrArg Qy.fl ht'
    simp only [told, e, cond_false] at a b
    exact ⟨a, b⟩
  have hh := head_words q hc hlo hhi hft hk n1 n3
  have hlen : ((headW q).map IV.str).length = (headW q).length := List.length_map ..
  generalize hA : (headW q).map IV.str = A at hh hlen
  have htk : List.take (headW q).length (A ++ tailW q D) = A := by rw [← hlen]; exact List.take_left
  have spA_of : ∀ (i : Nat) (a b : Int), InR a → wAt (tailW q D) i = spanW a b → spA (A ++ tailW q D) ((headW q).length + i) = a := fun i a b ha e => by
    unfold spA
    rw [← hlen, wAt_app, e, (span_cut a b).1]
    exact scan_num ha
  have spB_of : ∀ (i : Nat) (a b : Int), InR b → wAt (tailW q D) i = spanW a b → spB (A ++ tailW q D) ((headW q).length + i) = b := fun i a b hb e => by
    unfold spB
    rw [← hlen, wAt_app, e, (span_cut a b).2]
    exact scan_num hb
  have hlast : (A ++ tailW q D).length - 1 = (headW q).length + ((tailW q D).length - 1) := by
    rw [List.length_append, hlen]
    have : 0 < (tailW q D).length := by unfold tailW; simp
    omega
  unfold rawQ
  rw [htk, hh, hlast, ← hlen, wAt_app, hlen]
  clear htk hh hlast
  obtain ⟨k, c, a0, b0, a1, b1, a2, b2, a3, b3, a4, b4, lo, hi, ft, fl, bu⟩ := q
  have s0 := hsp (a0, b0) (by simp [Qy.spans])
  have s1 := hsp (a1, b1) (by simp [Qy.spans])
  have s2 := hsp (a2, b2) (by simp [Qy.spans])
  have s3 := hsp (a3, b3) (by simp [Qy.spans])
  simp only [told, Qy.mk.injEq, true_and] at ht
  obtain ⟨t1, t2, t3, t4, t5, t6, t7, t8, t9, t10, _⟩ := ht
  have hD : D = 1 ∨ D = 2 ∨ D = 3 ∨ D = 4 := by omega
  have n45 : a4 = 0 ∧ b4 = 0 := by
    rw [decide_eq_false (show ¬ (4 : Int) < D by omega)] at t9 t10
    exact ⟨t9, t10⟩
  obtain ⟨rfl, rfl⟩ := n45
  have hbu : InR bu := hbu
  rcases hD with rfl | rfl | rfl | rfl
  · simp only [show decide ((1 : Int) < ((1 : Nat) : Int)) = false from rfl, show decide ((2 : Int) < ((1 : Nat) : Int)) = false from rfl, show decide ((3 : Int) < ((1 : Nat) : Int)) = false from rfl, cond_false] at t3 t4 t5 t6 t7 t8
    subst t3 t4 t5 t6 t7 t8
    rw [spA_of 1 a0 b0 s0.1 rfl, spB_of 1 a0 b0 s0.2 rfl, show wAt (tailW ⟨k, c, a0, b0, 0, 0, 0, 0, 0, 0, 0, 0, lo, hi, ft, fl, bu⟩ 1) ((tailW ⟨k, c, a0, b0, 0, 0, 0, 0, 0, 0, 0, 0, lo, hi, ft, fl, bu⟩ 1).length - 1) = itoaB bu from rfl, count_num hbu]
    rfl
  · simp only [show decide ((2 : Int) < ((2 : Nat) : Int)) = false from rfl, show decide ((3 : Int) < ((2 : Nat) : Int)) = false from rfl, cond_false] at t5 t6 t7 t8
    subst t5 t6 t7 t8
    rw [spA_of 1 a0 b0 s0.1 rfl, spB_of 1 a0 b0 s0.2 rfl, spA_of 2 a1 b1 s1.1 rfl, spB_of 2 a1 b1 s1.2 rfl, show wAt (tailW ⟨k, c, a0, b0, a1, b1, 0, 0, 0, 0, 0, 0, lo, hi, ft, fl, bu⟩ 2) ((tailW ⟨k, c, a0, b0, a1, b1, 0, 0, 0, 0, 0, 0, lo, hi, ft, fl, bu⟩ 2).length - 1) = itoaB bu from rfl, count_num hbu]
    rfl
  · simp only [show decide ((3 : Int) < ((3 : Nat) : Int)) = false from rfl, cond_false] at t7 t8
    subst t7 t8
    rw [spA_of 1 a0 b0 s0.1 rfl, spB_of 1 a0 b0 s0.2 rfl, spA_of 2 a1 b1 s1.1 rfl, spB_of 2 a1 b1 s1.2 rfl, spA_of 3 a2 b2 s2.1 rfl, spB_of 3 a2 b2 s2.2 rfl, show wAt (tailW ⟨k, c, a0, b0, a1, b1, a2, b2, 0, 0, 0, 0, lo, hi, ft, fl, bu⟩ 3) ((tailW ⟨k, c, a0, b0, a1, b1, a2, b2, 0, 0, 0, 0, lo, hi, ft, fl, bu⟩ 3).length - 1) = itoaB bu from rfl, count_num hbu]
    rfl
  · rw [spA_of 1 a0 b0 s0.1 rfl, spB_of 1 a0 b0 s0.2 rfl, spA_of 2 a1 b1 s1.1 rfl, spB_of 2 a1 b1 s1.2 rfl, spA_of 3 a2 b2 s2.1 rfl, spB_of 3 a2 b2 s2.2 rfl, spA_of 4 a3 b3 s3.1 rfl, spB_of 4 a3 b3 s3.2 rfl, show wAt (tailW ⟨k, c, a0, b0, a1, b1, a2, b2, a3, b3, 0, 0, lo, hi, ft, fl, bu⟩ 4) ((tailW ⟨k, c, a0, b0, a1, b1, a2, b2, a3, b3, 0, 0, lo, hi, ft, fl, bu⟩ 4).length - 1) = itoaB bu from rfl, count_num hbu]
    rfl

/-! ### a query's text -/
theorem okQ_kind {q : Qy} {d : Int} (h : okQ q d = true) : 1 ≤ d ∧ d ≤ 4 ∧ q = told q d ∧ smallB q.c = true ∧ smallB q.ft = true ∧ smallB q.bu = true ∧ (q.k = 1 ∨ q.k = 2 ∨ q.k = 3) := by
  unfold okQ at h
  simp only [Bool.and_eq_true, Bool.not_eq_true', decide_eq_false_iff_not, Bool.or_eq_true, beq_iff_eq] at h
  obtain ⟨⟨h1, h2⟩, h3, h4, h5, h6, h7⟩ := h
  exact ⟨by omega, by omega, Qy.eq_of h3, h4, h5, h6, h7⟩
theorem wordsQ_ne (q : Qy) (D : Nat) : wordsQ q D ≠ [] := by
  unfold wordsQ
  simp
/-- A query that can be printed comes back out of its text. -/
theorem ask_print {q : Qy} {d : Int} (hc : InR q.c) (hlo : InR q.lo) (hhi : InR q.hi) (hft : InR q.ft) (hbu : InR q.bu) (hsp : ∀ s ∈ q.spans, InR s.1 ∧ InR s.2) (h : okQ q d = true) : askOK (printQ q d) = true ∧ askQ (printQ q d) = q ∧ askD (printQ q d) = d := by
  obtain ⟨h1, h4, ht, _, _, _, hk⟩ := okQ_kind h
  obtain ⟨D, rfl⟩ : ∃ D : Nat, d = D := ⟨d.toNat, by omega⟩
  have hp : printQ q (D : Int) = joinB (wordsQ q D) w_space := by
    unfold printQ
    rw [h]
    rfl
  have hline : lineW (printQ q (D : Int)) = (wordsQ q D).map IV.str := by
    rw [hp]
    exact line_join _ (wordsQ_ne q D) (words_no32 q D)
  have hI : lineI (printQ q (D : Int)) = ((headW q).length : Int) := by
    unfold lineI
    rw [hline, wordsQ_map]
    show idxS ((headW q).map IV.str ++ IV.str w_in :: _) w_in 0 = _
    rw [idxS_app w_in _ _ 0 (head_in q), List.length_map]
    omega
  have hD : lineD (printQ q (D : Int)) = (D : Int) := by
    unfold lineD
    rw [hline, hI, List.length_map]
    have : (wordsQ q D).length = (headW q).length + 1 + D + 2 := by
      unfold wordsQ
      simp only [List.length_append, List.length_cons, List.length_map, List.length_take, List.length_nil, Qy.spans]
      omega
    rw [this]
    simp only [ic]
    omega
  have hQ : lineQ (printQ q (D : Int)) = q := by
    unfold lineQ
    rw [hline, hI, hD]
    exact raw_words q hc hlo hhi hft hbu hsp D (by omega) (by omega) hk ht
  have hok : askOK (printQ q (D : Int)) = true := by
    unfold askOK
    rw [hI, hD, hQ, decide_eq_false (show ¬ ((headW q).length : Int) < 0 by omega), decide_eq_false (show ¬ (D : Int) < 1 by omega), decide_eq_false (show ¬ (D : Int) > 4 by omega), beq_yes]
    rfl
  refine ⟨hok, ?_, ?_⟩
  · unfold askQ
    rw [hok, hQ]
    rfl
  · unfold askD
    rw [hok, hD]
    rfl
theorem ask_only {s : ByteArray} (h : askOK s = true) : printQ (askQ s) (askD s) = s ∧ 1 ≤ askD s ∧ askD s ≤ 4 := by
  unfold askQ askD
  rw [h]
  unfold askOK at h
  simp only [Bool.and_eq_true, Bool.not_eq_true', decide_eq_false_iff_not] at h
  obtain ⟨⟨h1, h2, h3⟩, h4⟩ := h
  rw [bytes_beq] at h4
  exact ⟨of_decide_eq_true h4, by simp only [cond_true]; omega, by simp only [cond_true]; omega⟩
theorem ask_none {s : ByteArray} (h : askOK s = false) : askQ s = Qy.none ∧ askD s = 0 := by
  unfold askQ askD
  rw [h]
  exact ⟨rfl, rfl⟩
theorem print_bad {q : Qy} {d : Int} (h : okQ q d = false) : printQ q d = w_none := by
  unfold printQ
  rw [h]
  rfl
theorem print_pos' {q : Qy} {d : Int} (h : okQ q d = true) : 0 < (printQ q d).size := by
  have hp : printQ q d = joinB (wordsQ q d.toNat) w_space := by
    unfold printQ
    rw [h]
    rfl
  rw [hp, size_len]
  show 0 < (Lib.join ((wordsQ q d.toNat).map (·.data.toList)) [32]).length
  have : ∃ x r, (wordsQ q d.toNat).map (·.data.toList) = x :: r ∧ x ≠ [] := by
    unfold wordsQ headW
    cases (q.k == 1) <;> cases (q.k == 2) <;> cases q.fl <;> exact ⟨_, _, rfl, by decide⟩
  obtain ⟨x, r, e, hx⟩ := this
  rw [e, Lib.join_cons, List.length_append]
  have := List.length_pos_iff.2 hx
  omega
theorem none_bad : askOK w_none = false := by kernel_rfl

end Go.FM

/-
  A MODEL COMES BACK OUT OF ITS TEXT: plain law. Of no program.
-/
namespace Go.FM
open Go

/-! ### lines put together, and taken apart -/
theorem join_twoC (c : UInt8) (x y : List UInt8) (r : List (List UInt8)) : Lib.join (x :: y :: r) [c] = x ++ c :: Lib.join (y :: r) [c] := by
  rw [Lib.join_cons, Lib.join_cons]
  simp [Lib.joinTail]
theorem split_joinC (c : UInt8) : ∀ (x : List UInt8) (r : List (List UInt8)), (∀ w ∈ x :: r, c ∉ w) → Lib.split (Lib.join (x :: r) [c]) [c] = x :: r
  | x, [], h => by rw [Lib.join_one]; exact split_no x c (h x (List.mem_cons_self ..))
  | x, y :: r, h => by
    rw [join_twoC, split_at x _ c (h x (List.mem_cons_self ..)), split_joinC c y r (fun w hw => h w (List.mem_cons_of_mem _ hw))]
theorem mem_joinC (c e : UInt8) (hne : e ≠ c) : ∀ (l : List (List UInt8)), (∀ w ∈ l, e ∉ w) → e ∉ Lib.join l [c]
  | [], _ => by rw [Lib.join_nil]; simp
  | [x], h => by rw [Lib.join_one]; exact h x (List.mem_cons_self ..)
  | x :: y :: r, h => by
    rw [join_twoC]
    intro hm
    rcases List.mem_append.1 hm with hm | hm
    · exact h x (List.mem_cons_self ..) hm
    · rcases List.mem_cons.1 hm with hm | hm
      · exact hne hm
      · exact mem_joinC c e hne (y :: r) (fun w hw => h w (List.mem_cons_of_mem _ hw)) hm

/-- Words of a line that may be told apart again. -/
structure WsOK (ws : List ByteArray) : Prop where
  ne : ws ≠ []
  sp : ∀ w ∈ ws, (32 : UInt8) ∉ w.data.toList
  lf : ∀ w ∈ ws, (10 : UInt8) ∉ w.data.toList
def mkL (ws : List ByteArray) : IV := .str (joinB ws w_space)
theorem joinB_data (ws : List ByteArray) : (joinB ws w_space).data.toList = Lib.join (ws.map (·.data.toList)) [32] := rfl
theorem lineB_data (ws : List ByteArray) : (lineB ws).data.toList = (joinB ws w_space).data.toList ++ [10] := by
  unfold lineB
  simp
theorem textB_data : ∀ (x : List ByteArray) (r : List (List ByteArray)), (textB (x :: r)).data.toList = Lib.join ((x :: r).map fun ws => (joinB ws w_space).data.toList) [10] ++ [10]
  | x, [] => by
    have e : textB [x] = lineB x := by
      show lineB x ++ ByteArray.empty = _
      rw [ByteArray.append_empty]
    rw [e, lineB_data, List.map_cons, List.map_nil, Lib.join_one]
  | x, y :: r => by
    have e : (textB (x :: y :: r)).data.toList = (lineB x).data.toList ++ (textB (y :: r)).data.toList := by
      rw [textB]
      simp
    rw [e, textB_data y r, lineB_data]
    simp only [List.map_cons]
    rw [join_twoC]
    simp
theorem trimLF_data {s : ByteArray} {l : List UInt8} (h : s.data.toList = l ++ [10]) : (trimLF s).data.toList = l := by
  have hz : s.size = l.length + 1 := by rw [size_len, h, List.length_append]; rfl
  have hs : hasSuf s w_lf = true := by
    unfold hasSuf
    have e1 : ByteArray.size w_lf = 1 := rfl
    rw [e1, decide_eq_true (show 1 ≤ s.size by omega), Bool.true_and, bytes_beq]
    refine decide_eq_true (bytes_ext ?_)
    rw [ByteArray.data_extract, Array.toList_extract, List.extract_eq_take_drop, h, hz]
    simp
  have e1 : ByteArray.size w_lf = 1 := rfl
  unfold trimLF trimSuf
  rw [hs, e1]
  show (s.extract 0 (s.size - 1)).data.toList = l
  rw [ByteArray.data_extract, Array.toList_extract, List.extract_eq_take_drop, h, hz]
  simp
theorem lines_text (x : List ByteArray) (r : List (List ByteArray)) (h : ∀ ws ∈ x :: r, WsOK ws) : linesOf (textB (x :: r)) = (x :: r).map mkL := by
  unfold linesOf
  have hd : (splitL (trimLF (textB (x :: r))) w_lf) = (x :: r).map fun ws => joinB ws w_space := by
    apply map_data_inj
    rw [splitL_data, trimLF_data (textB_data x r)]
    show Lib.split (Lib.join ((x :: r).map fun ws => (joinB ws w_space).data.toList) [10]) [10] = _
    rw [List.map_map, List.map_cons, split_joinC]
    · rfl
    · intro w hw
      rw [← List.map_cons (f := fun ws => (joinB ws w_space).data.toList)] at hw
      obtain ⟨ws, hws, rfl⟩ := List.mem_map.1 hw
      rw [joinB_data]
      refine mem_joinC 32 10 (by decide) _ fun v hv => ?_
      obtain ⟨u, hu, rfl⟩ := List.mem_map.1 hv
      exact (h ws hws).lf u hu
  rw [hd, List.map_map]
  rfl
theorem next_line {ws : List ByteArray} (h : WsOK ws) (r : List IV) : nextW (mkL ws :: r) = ws.map IV.str := line_join ws h.ne h.sp

/-! ### numbers -/
theorem num_ok {l : List UInt8} (h : ∀ c ∈ l, 45 ≤ c.toNat ∧ c.toNat ≤ 57) : (32 : UInt8) ∉ l ∧ (10 : UInt8) ∉ l := by
  refine ⟨no32 h, fun hc => ?_⟩
  have := (h _ hc).1
  revert this
  decide
theorem count_of {n most : Int} (h0 : 0 ≤ n) (h1 : n ≤ most) (h2 : most ≤ 1000) : cntT (itoaB n) most = n := by
  have hv : atoiV (itoaB n) = n := atoiV_of rfl (by omega) (by omega)
  have hn : atoiN (itoaB n) = true := by
    unfold atoiN
    have : (itoaB n).data.toList = Lib.itoa n := rfl
    rw [this, atoi_itoa n (by omega) (by omega)]
  unfold cntT
  rw [hn, hv, decide_eq_false (show ¬ n < 0 by omega), decide_eq_false (show ¬ n > most by omega)]
  rfl
theorem scan_of {n : Int} (h : -2147483648 ≤ n ∧ n ≤ 2147483647) : decV (printB n) = n := scan_num (by unfold InR; omega)

/-! ### a node's line -/
structure NdIn (x : Nd) : Prop where
  v : -2147483648 ≤ x.v ∧ x.v ≤ 2147483647
  f : 0 ≤ x.f ∧ x.f < 4
  a : -2147483648 ≤ x.a ∧ x.a ≤ 2147483647
  l : 0 ≤ x.l ∧ x.l < 31
  r : 0 ≤ x.r ∧ x.r < 31
  lf : x.lf = true → x.f = 0 ∧ x.a = 0 ∧ x.l = 0 ∧ x.r = 0
  fk : x.lf = false → x.v = 0
theorem fits_inL {n : Int} (h : fits32 n = true) : -2147483648 ≤ n ∧ n ≤ 2147483647 := by
  unfold fits32 at h
  rwa [Bool.and_eq_true, decide_eq_true_eq, decide_eq_true_eq] at h
theorem right_inL {x : Nd} (h : rightNd x = true) : NdIn x := by
  obtain ⟨lf, v, f, a, l, r⟩ := x
  unfold rightNd at h
  cases lf with
  | true =>
    simp only [cond_true, Bool.and_eq_true, Nd.eq, beq_iff_eq] at h
    obtain ⟨⟨_, _, h1, h2, h3, h4, _⟩, hv⟩ := h
    subst h1 h2 h3 h4
    have z4 : (0 : Int) ≤ 0 ∧ (0 : Int) < 4 := by decide
    have z31 : (0 : Int) ≤ 0 ∧ (0 : Int) < 31 := by decide
    have zf : (-2147483648 : Int) ≤ 0 ∧ (0 : Int) ≤ 2147483647 := by decide
    exact ⟨fits_inL hv, z4, zf, z31, z31, fun _ => ⟨rfl, rfl, rfl, rfl⟩, fun h => Bool.noConfusion h⟩
  | false =>
    simp only [cond_false, Bool.and_eq_true, beq_iff_eq, decide_eq_true_eq, childB] at h
    obtain ⟨hv, hf0, hf1, ha, ⟨hl0, hl1⟩, hr0, hr1⟩ := h
    subst hv
    have zf : (-2147483648 : Int) ≤ 0 ∧ (0 : Int) ≤ 2147483647 := by decide
    have l0 : (0 : Int) ≤ l := by omega
    have r0 : (0 : Int) ≤ r := by omega
    exact ⟨zf, ⟨hf0, hf1⟩, fits_inL ha, ⟨l0, hl1⟩, ⟨r0, hr1⟩, fun h => Bool.noConfusion h, fun _ => rfl⟩
theorem word_ok10 (w : ByteArray) (h : (w.data.toList.all fun c => !(c == 32) && !(c == 10)) = true) : (32 : UInt8) ∉ w.data.toList ∧ (10 : UInt8) ∉ w.data.toList := by
  rw [List.all_eq_true] at h
  refine ⟨fun hc => ?_, fun hc => ?_⟩
  · have := h _ hc
    revert this
    decide
  · have := h _ hc
    revert this
    decide
theorem ws_of {ws : List ByteArray} (hne : ws ≠ []) (h : ∀ w ∈ ws, (32 : UInt8) ∉ w.data.toList ∧ (10 : UInt8) ∉ w.data.toList) : WsOK ws := ⟨hne, fun w hw => (h w hw).1, fun w hw => (h w hw).2⟩
theorem itoa_ok (n : Int) : (32 : UInt8) ∉ (itoaB n).data.toList ∧ (10 : UInt8) ∉ (itoaB n).data.toList := num_ok (itoaB_num n)
theorem print_ok (n : Int) : (32 : UInt8) ∉ (printB n).data.toList ∧ (10 : UInt8) ∉ (printB n).data.toList := num_ok (printB_num n)
theorem nodeW_ws (x : Nd) : WsOK (nodeW x) := by
  unfold nodeW
  cases x.lf with
  | true =>
    refine ws_of (by simp) fun w hw => ?_
    simp only [cond_true, List.mem_cons, List.not_mem_nil, or_false] at hw
    rcases hw with rfl | rfl
    · exact word_ok10 _ (by decide)
    · exact print_ok _
  | false =>
    refine ws_of (by simp) fun w hw => ?_
    simp only [cond_false, List.mem_cons, List.not_mem_nil, or_false] at hw
    rcases hw with rfl | rfl | rfl | rfl | rfl | rfl | rfl | rfl
    · exact word_ok10 _ (by decide)
    · exact itoa_ok _
    · exact word_ok10 _ (by decide)
    · exact print_ok _
    · exact word_ok10 _ (by decide)
    · exact itoa_ok _
    · exact word_ok10 _ (by decide)
    · exact itoa_ok _
theorem rd_node {x : Nd} (h : NdIn x) : rdNd ((nodeW x).map IV.str) = x := by
  obtain ⟨lf, v, f, a, l, r⟩ := x
  obtain ⟨hv, hf, ha, hl, hr, h1, h2⟩ := h
  simp only at hv hf ha hl hr h1 h2
  cases lf with
  | true =>
    obtain ⟨rfl, rfl, rfl, rfl⟩ := h1 rfl
    have e0 : rdNd ((nodeW ⟨true, v, 0, 0, 0, 0⟩).map IV.str) = ⟨true, decV (printB v), 0, 0, 0, 0⟩ := by
      have : (ByteArray.toList (wAt ((nodeW ⟨true, v, 0, 0, 0, 0⟩).map IV.str) 0) == ByteArray.toList w_leaf) = true := beq_yes _
      unfold rdNd
      rw [this]
      rfl
    rw [e0, scan_of hv]
  | false =>
    have h2 := h2 rfl
    subst h2
    have e0 : rdNd ((nodeW ⟨false, 0, f, a, l, r⟩).map IV.str) = ⟨false, 0, cntT (itoaB f) 4, decV (printB a), cntT (itoaB l) 31, cntT (itoaB r) 31⟩ := by
      have : (ByteArray.toList (wAt ((nodeW ⟨false, 0, f, a, l, r⟩).map IV.str) 0) == ByteArray.toList w_leaf) = false := beq_no (x := w_if) (y := w_leaf) (by decide)
      unfold rdNd
      rw [this]
      rfl
    rw [e0, count_of hf.1 (by omega) (by omega), scan_of ha, count_of hl.1 (by omega) (by omega), count_of hr.1 (by omega) (by omega)]

/-! ### what a model's rows are made of -/
def wfN (w : IV) : Prop := ∃ n, w = .int n
def wfT (t : IV) : Prop := ∃ k l, t = .agg [.int k, .list l] ∧ ∀ w ∈ l, wfN w
def wfM (m : Md) : Prop := ∀ t ∈ m.ts, wfT t

theorem nodes_inL {dim n : Int} : ∀ {l : List IV} {i : Nat}, nodesB dim n i l = true → ∀ w ∈ l, nodeB w.toInt = true
  | [], _, _, w, hw => by cases hw
  | x :: l, i, h, w, hw => by
    unfold nodesB at h
    rw [Bool.and_eq_true, Bool.and_eq_true] at h
    rcases List.mem_cons.1 hw with rfl | hw
    · exact h.1.1
    · exact nodes_inL h.2 w hw
theorem treeOK_getL {d c : Int} {t : IV} (h : treeOK d c t = true) : 0 ≤ (t.cell 0).toInt ∧ (t.cell 0).toInt < c ∧ 1 ≤ (t.cell 1).toList.length ∧ (t.cell 1).toList.length ≤ 31 ∧ ∀ w ∈ (t.cell 1).toList, nodeB w.toInt = true := by
  unfold treeOK treeB at h
  simp only [Bool.and_eq_true, Bool.not_eq_true', decide_eq_false_iff_not] at h
  obtain ⟨h1, h2, ⟨h3, h4⟩, h5, _⟩ := h
  exact ⟨by omega, by omega, Nat.le_of_ble_eq_true h3, Nat.le_of_ble_eq_true h4, nodes_inL h5⟩
theorem rd_nodes {l : List IV} (hw : ∀ w ∈ l, wfN w) (hn : ∀ w ∈ l, nodeB w.toInt = true) (R : List IV) : rdNodes ((nodesW l).map mkL ++ R) l.length = l := by
  apply List.ext_getElem?
  intro i
  unfold rdNodes
  by_cases hi : i < l.length
  · rw [List.getElem?_map, List.getElem?_range hi]
    have hdr : List.drop i ((nodesW l).map mkL ++ R) = mkL (nodeW (nodeN l[i].toInt)) :: (((nodesW l).map mkL).drop (i + 1) ++ R) := by
      have hl : ((nodesW l).map mkL).length = l.length := by simp [nodesW]
      rw [List.drop_append_of_le_length (by omega), List.drop_eq_getElem_cons (by omega)]
      simp [nodesW]
    have hb := hn l[i] (List.getElem_mem hi)
    obtain ⟨p1, p2⟩ := node_pack hb
    obtain ⟨n, hn'⟩ := hw l[i] (List.getElem_mem hi)
    have e : (IV.int (packNd (rdNd (nextW (List.drop i ((nodesW l).map mkL ++ R)))))) = l[i] := by
      rw [hdr, next_line (nodeW_ws _), rd_node (right_inL p2), p1, hn']
      rfl
    show some (IV.int (packNd (rdNd (nextW (List.drop i ((nodesW l).map mkL ++ R)))))) = _
    rw [e, List.getElem?_eq_getElem hi]
  · rw [List.getElem?_eq_none (by simp; omega), List.getElem?_eq_none (by omega)]

theorem treeW_ws (t : IV) : ∀ ws ∈ treeW t, WsOK ws := by
  intro ws hws
  unfold treeW at hws
  rcases List.mem_cons.1 hws with rfl | hws
  · refine ws_of (by simp) fun w hw => ?_
    simp only [List.mem_cons, List.not_mem_nil, or_false] at hw
    rcases hw with rfl | rfl | rfl
    · exact word_ok10 _ (by decide)
    · exact itoa_ok _
    · exact itoa_ok _
  · unfold nodesW at hws
    obtain ⟨w, _, rfl⟩ := List.mem_map.1 hws
    exact nodeW_ws _
theorem rd_trees {d c : Int} (hc : c ≤ 3) : ∀ (n : Nat) (ts : List IV), ts.length ≤ n → (∀ t ∈ ts, wfT t) → ts.all (treeOK d c) = true → rdTrees n ((treesW ts).map mkL) = ts
  | 0, [], _, _, _ => rfl
  | 0, _ :: _, h, _, _ => by simp at h
  | n + 1, [], _, _, _ => rfl
  | n + 1, t :: r, h, hw, ht => by
    rw [List.all_cons, Bool.and_eq_true] at ht
    obtain ⟨k, l, rfl, hl⟩ := hw t (List.mem_cons_self ..)
    obtain ⟨h1, h2, h3, h4, h5⟩ := treeOK_getL ht.1
    have h1 : 0 ≤ k := h1
    have h2 : k < c := h2
    have h3 : 1 ≤ l.length := h3
    have h4 : l.length ≤ 31 := h4
    have h5 : ∀ w ∈ l, nodeB w.toInt = true := h5
    have hws := treeW_ws (.agg [.int k, .list l]) [w_tree, itoaB k, itoaB (ic l.length)] (List.mem_cons_self ..)
    have e : (treesW (.agg [.int k, .list l] :: r)).map mkL = mkL [w_tree, itoaB k, itoaB (ic l.length)] :: ((nodesW l).map mkL ++ (treesW r).map mkL) := by
      show (([w_tree, itoaB k, itoaB (ic l.length)] :: nodesW l) ++ treesW r).map mkL = _
      rw [List.map_append, List.map_cons]
      rfl
    have hnx := next_line hws ((nodesW l).map mkL ++ (treesW r).map mkL)
    have hk : rdK (mkL [w_tree, itoaB k, itoaB (ic l.length)] :: ((nodesW l).map mkL ++ (treesW r).map mkL)) = l.length := by
      unfold rdK
      rw [hnx]
      show (cntT (itoaB (ic l.length)) 31).toNat = _
      rw [count_of (by simp only [ic]; omega) (by simp only [ic]; omega) (by omega)]
      simp only [ic]
      omega
    have hr : rdTree (mkL [w_tree, itoaB k, itoaB (ic l.length)] :: ((nodesW l).map mkL ++ (treesW r).map mkL)) = .agg [.int k, .list l] := by
      unfold rdTree
      rw [hk, hnx]
      show IV.agg [IV.int (cntT (itoaB k) 3), IV.list (rdNodes ((nodesW l).map mkL ++ (treesW r).map mkL) l.length)] = _
      rw [count_of h1 (by omega) (by omega), rd_nodes hl h5]
    have hdl : List.drop l.length ((nodesW l).map mkL ++ (treesW r).map mkL) = (treesW r).map mkL := by
      have : l.length = ((nodesW l).map mkL).length := by simp [nodesW]
      rw [this, List.drop_left]
    rw [e, rdTrees, hr, hk, hdl, rd_trees hc n r (by simp at h; omega) (fun t ht => hw t (List.mem_cons_of_mem _ ht)) ht.2]

theorem model_getL {m : Md} (h : modelB m = true) : (1 ≤ m.d ∧ m.d ≤ 4) ∧ (1 ≤ m.c ∧ m.c ≤ 3) ∧ m.ts.length ≤ 8 ∧ (biasB m.c 0 m.b0 = true ∧ biasB m.c 1 m.b1 = true ∧ biasB m.c 2 m.b2 = true) ∧ m.ts.all (treeOK m.d m.c) = true := by
  unfold modelB at h
  simp only [Bool.and_eq_true, Bool.not_eq_true', decide_eq_false_iff_not] at h
  obtain ⟨⟨h1, h2, h3, h4, h5⟩, ⟨h6, h7, h8⟩, h9⟩ := h
  exact ⟨⟨by omega, by omega⟩, ⟨by omega, by omega⟩, Nat.le_of_ble_eq_true h5, ⟨h6, h7, h8⟩, h9⟩
theorem biasB_inL {c j b : Int} (h : biasB c j b = true) : (-2147483648 ≤ b ∧ b ≤ 2147483647) ∧ (c ≤ j → b = 0) := by
  unfold biasB at h
  rw [Bool.and_eq_true] at h
  refine ⟨fits_inL h.1, fun hj => ?_⟩
  have := h.2
  rw [decide_eq_true (show j ≥ c from hj)] at this
  simpa using this
theorem headM_ws (m : Md) : ∀ ws ∈ headM m, WsOK ws := by
  intro ws hws
  unfold headM at hws
  simp only [List.mem_cons, List.not_mem_nil, or_false] at hws
  rcases hws with rfl | rfl
  · refine ws_of (by simp) fun w hw => ?_
    simp only [List.mem_cons, List.not_mem_nil, or_false] at hw
    rcases hw with rfl | rfl | rfl
    · exact word_ok10 _ (by decide)
    · exact itoa_ok _
    · exact itoa_ok _
  · refine ws_of (by simp) fun w hw => ?_
    rcases List.mem_cons.1 hw with rfl | hw
    · exact word_ok10 _ (by decide)
    · obtain ⟨b, _, rfl⟩ := List.mem_map.1 hw
      exact print_ok _
theorem treesW_ws : ∀ (ts : List IV), ∀ ws ∈ treesW ts, WsOK ws
  | [], ws, h => by cases h
  | t :: r, ws, h => by
    rw [treesW] at h
    rcases List.mem_append.1 h with h | h
    · exact treeW_ws t ws h
    · exact treesW_ws r ws h

theorem rd_model {m : Md} (h : modelB m = true) (hw : wfM m) : rdModel ((linesM m).map mkL) = m := by
  obtain ⟨hd, hc, hl, ⟨g0, g1, g2⟩, ht⟩ := model_getL h
  obtain ⟨d, c, b0, b1, b2, ts⟩ := m
  simp only at hd hc hl g0 g1 g2 ht
  obtain ⟨i0, _⟩ := biasB_inL g0
  obtain ⟨i1, z1⟩ := biasB_inL g1
  obtain ⟨i2, z2⟩ := biasB_inL g2
  have hh1 := headM_ws ⟨d, c, b0, b1, b2, ts⟩ [w_forest, itoaB d, itoaB c] (List.mem_cons_self ..)
  have hh2 := headM_ws ⟨d, c, b0, b1, b2, ts⟩ (w_bias :: ([b0, b1, b2].take c.toNat).map printB) (List.mem_cons_of_mem _ (List.mem_cons_self ..))
  have e : (linesM ⟨d, c, b0, b1, b2, ts⟩).map mkL = mkL [w_forest, itoaB d, itoaB c] :: mkL (w_bias :: ([b0, b1, b2].take c.toNat).map printB) :: (treesW ts).map mkL := rfl
  have hn1 := next_line hh1 (mkL (w_bias :: ([b0, b1, b2].take c.toNat).map printB) :: (treesW ts).map mkL)
  have hn2 := next_line hh2 ((treesW ts).map mkL)
  have hC : rdC ((linesM ⟨d, c, b0, b1, b2, ts⟩).map mkL) = c := by
    unfold rdC
    rw [e, hn1]
    show cntT (itoaB c) 3 = c
    exact count_of (by omega) (by omega) (by omega)
  have hT : rdTrees 9 (List.drop 2 ((linesM ⟨d, c, b0, b1, b2, ts⟩).map mkL)) = ts := by
    rw [e]
    show rdTrees 9 ((treesW ts).map mkL) = ts
    exact rd_trees (by omega) 9 ts (by omega) hw ht
  have hD : cntT (wAt (nextW ((linesM ⟨d, c, b0, b1, b2, ts⟩).map mkL)) 1) 4 = d := by
    rw [e, hn1]
    show cntT (itoaB d) 4 = d
    exact count_of (by omega) (by omega) (by omega)
  have hB : ∀ j, rdBias ((linesM ⟨d, c, b0, b1, b2, ts⟩).map mkL) c j = cond (decide ((j : Int) < c)) (decV (wAt ((w_bias :: ([b0, b1, b2].take c.toNat).map printB).map IV.str) (1 + j))) 0 := fun j => by
    unfold rdBias
    rw [e]
    show cond _ (decV (wAt (nextW (mkL (w_bias :: ([b0, b1, b2].take c.toNat).map printB) :: (treesW ts).map mkL)) (1 + j))) 0 = _
    rw [hn2]
  unfold rdModel
  rw [hC, hT, hD, hB, hB, hB]
  obtain ⟨C, rfl⟩ : ∃ C : Nat, c = (C : Int) := ⟨c.toNat, by omega⟩
  have w0 : ∀ l, wAt ((w_bias :: l).map IV.str) (1 + 0) = wAt (l.map IV.str) 0 := fun l => rfl
  have w1 : ∀ l, wAt ((w_bias :: l).map IV.str) (1 + 1) = wAt (l.map IV.str) 1 := fun l => rfl
  have w2 : ∀ l, wAt ((w_bias :: l).map IV.str) (1 + 2) = wAt (l.map IV.str) 2 := fun l => rfl
  have v0 : ∀ x l, wAt ((x :: l).map IV.str) 0 = x := fun x l => rfl
  have v1 : ∀ x y l, wAt ((x :: y :: l).map IV.str) 1 = y := fun x y l => rfl
  have v2 : ∀ x y z l, wAt ((x :: y :: z :: l).map IV.str) 2 = z := fun x y z l => rfl
  rw [w0, w1, w2, Int.toNat_natCast]
  rcases (show C = 1 ∨ C = 2 ∨ C = 3 by omega) with rfl | rfl | rfl
  ·
    have y1 := z1 (by omega)
    have y2 := z2 (by omega)
    have t : ([b0, b1, b2].take 1).map printB = [printB b0] := rfl
    rw [t, v0, scan_of i0, decide_eq_true (show ((0 : Nat) : Int) < ((1 : Nat) : Int) by omega), decide_eq_false (show ¬ ((1 : Nat) : Int) < ((1 : Nat) : Int) by omega), decide_eq_false (show ¬ ((2 : Nat) : Int) < ((1 : Nat) : Int) by omega), y1, y2]
    rfl
  ·
    have y2 := z2 (by omega)
    have t : ([b0, b1, b2].take 2).map printB = [printB b0, printB b1] := rfl
    rw [t, v0, v1, scan_of i0, scan_of i1, decide_eq_true (show ((0 : Nat) : Int) < ((2 : Nat) : Int) by omega), decide_eq_true (show ((1 : Nat) : Int) < ((2 : Nat) : Int) by omega), decide_eq_false (show ¬ ((2 : Nat) : Int) < ((2 : Nat) : Int) by omega), y2]
    rfl
  ·
    have t : ([b0, b1, b2].take 3).map printB = [printB b0, printB b1, printB b2] := rfl
    rw [t, v0, v1, v2, scan_of i0, scan_of i1, scan_of i2, decide_eq_true (show ((0 : Nat) : Int) < ((3 : Nat) : Int) by omega), decide_eq_true (show ((1 : Nat) : Int) < ((3 : Nat) : Int) by omega), decide_eq_true (show ((2 : Nat) : Int) < ((3 : Nat) : Int) by omega)]
    rfl

/-- A right model comes back out of its text. -/
theorem text_back {m : Md} (h : modelB m = true) (hw : wfM m) : textOK (printM m) = true ∧ textM (printM m) = m := by
  have hp : printM m = textB (linesM m) := by unfold printM; rw [h]; rfl
  have hc : candM (printM m) = m := by
    unfold candM
    have : linesOf (printM m) = (linesM m).map mkL := by
      rw [hp]
      exact lines_text _ _ (fun ws hws => by
        have hws : ws ∈ headM m ++ treesW m.ts := hws
        rcases List.mem_append.1 hws with hws | hws
        · exact headM_ws m ws hws
        · exact treesW_ws m.ts ws hws)
    rw [this, rd_model h hw]
  have hk : textOK (printM m) = true := by
    unfold textOK
    rw [hc, beq_yes, Bool.and_true]
    have : ((printM m).toList == w_none.toList) = false := beq_no (fun e => by
      have hd := textB_data [w_forest, itoaB m.d, itoaB m.c] ((w_bias :: ([m.b0, m.b1, m.b2].take m.c.toNat).map printB) :: treesW m.ts)
      have e' : textB (linesM m) = w_none := by rw [← hp, e]
      have : textB (linesM m) = textB ([w_forest, itoaB m.d, itoaB m.c] :: ((w_bias :: ([m.b0, m.b1, m.b2].take m.c.toNat).map printB) :: treesW m.ts)) := rfl
      rw [← this, e'] at hd
      have := congrArg List.length hd
      rw [List.length_append] at this
      simp at this)
    rw [this]
    rfl
  refine ⟨hk, ?_⟩
  unfold textM
  rw [hk, hc]
  rfl

/-! ### models that are the same -/
theorem sameI_eq : ∀ {a b : List IV}, (∀ w ∈ a, wfN w) → (∀ w ∈ b, wfN w) → sameI a b = true → a = b
  | [], [], _, _, _ => rfl
  | [], _ :: _, _, _, h => by cases h
  | _ :: _, [], _, _, h => by cases h
  | x :: a, y :: b, ha, hb, h => by
    rw [sameI, Bool.and_eq_true, beq_iff_eq] at h
    obtain ⟨n, rfl⟩ := ha x (List.mem_cons_self ..)
    obtain ⟨k, rfl⟩ := hb y (List.mem_cons_self ..)
    have h1 : n = k := h.1
    rw [h1, sameI_eq (fun w hw => ha w (List.mem_cons_of_mem _ hw)) (fun w hw => hb w (List.mem_cons_of_mem _ hw)) h.2]
theorem sameI_self : ∀ (a : List IV), sameI a a = true
  | [] => rfl
  | x :: a => by rw [sameI, sameI_self a, beq_self_eq_true]; rfl
theorem sameT_eq : ∀ {a b : List IV}, (∀ t ∈ a, wfT t) → (∀ t ∈ b, wfT t) → sameT a b = true → a = b
  | [], [], _, _, _ => rfl
  | [], _ :: _, _, _, h => by cases h
  | _ :: _, [], _, _, h => by cases h
  | x :: a, y :: b, ha, hb, h => by
    rw [sameT, Bool.and_eq_true, Bool.and_eq_true, beq_iff_eq] at h
    obtain ⟨k, l, rfl, hl⟩ := ha x (List.mem_cons_self ..)
    obtain ⟨k', l', rfl, hl'⟩ := hb y (List.mem_cons_self ..)
    have h1 : k = k' := h.1.1
    have h2 : sameI l l' = true := h.1.2
    rw [h1, sameI_eq hl hl' h2, sameT_eq (fun t ht => ha t (List.mem_cons_of_mem _ ht)) (fun t ht => hb t (List.mem_cons_of_mem _ ht)) h.2]
theorem sameT_self : ∀ (a : List IV), sameT a a = true
  | [] => rfl
  | x :: a => by rw [sameT, sameT_self a, sameI_self, beq_self_eq_true]; rfl
theorem sameM_self (m : Md) : sameM m m = true := by
  unfold sameM
  simp only [beq_self_eq_true, sameT_self, Bool.and_self]
theorem sameM_eq {m n : Md} (hm : wfM m) (hn : wfM n) (h : sameM m n = true) : m = n := by
  obtain ⟨d, c, b0, b1, b2, ts⟩ := m
  obtain ⟨d', c', b0', b1', b2', ts'⟩ := n
  unfold sameM at h
  simp only [Bool.and_eq_true, beq_iff_eq] at h
  obtain ⟨rfl, rfl, ⟨rfl, rfl, rfl⟩, h⟩ := h
  have h' : ts = ts' := sameT_eq hm hn h
  rw [h']
theorem rdTrees_wf : ∀ (n : Nat) (ls : List IV), ∀ t ∈ rdTrees n ls, wfT t
  | 0, _, t, h => by cases h
  | n + 1, [], t, h => by cases h
  | n + 1, l :: r, t, h => by
    rw [rdTrees] at h
    rcases List.mem_cons.1 h with rfl | h
    · refine ⟨_, _, rfl, fun w hw => ?_⟩
      unfold rdNodes at hw
      obtain ⟨i, _, rfl⟩ := List.mem_map.1 hw
      exact ⟨_, rfl⟩
    · exact rdTrees_wf n _ t h
theorem textM_wf (s : ByteArray) : wfM (textM s) := by
  unfold textM
  cases textOK s with
  | true => exact rdTrees_wf 9 _
  | false => intro t h; cases h
theorem modelF_wf (d c : Int) (bias ts : List IV) : wfM (modelF d c bias ts) := by
  intro t ht
  have ht : t ∈ treesF d c ts := ht
  unfold treesF at ht
  obtain ⟨u, _, rfl⟩ := List.mem_map.1 ht
  refine ⟨_, _, rfl, fun w hw => ?_⟩
  unfold nodesL at hw
  obtain ⟨x, _, rfl⟩ := List.mem_map.1 hw
  exact ⟨_, rfl⟩
theorem text_only {s : ByteArray} (h : textOK s = true) : printM (textM s) = s := by
  have hk := h
  unfold textOK at h
  rw [Bool.and_eq_true] at h
  have := h.2
  rw [bytes_beq] at this
  unfold textM
  rw [hk]
  exact of_decide_eq_true this
theorem text_none {s : ByteArray} (h : textOK s = false) : textM s = Md.zero := by
  unfold textM
  rw [h]
  rfl

end Go.FM
