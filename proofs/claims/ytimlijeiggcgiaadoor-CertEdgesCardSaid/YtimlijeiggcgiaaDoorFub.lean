/-
  cert, in plain Lean: a right verdict comes back out of its text, two have one text just if they are the same; and with that: the laws CertBack, CertOnly, CertEdges come to true; no conditions beyond what each argument keeps.
-/
import Derived.Test.YtimlijeiggcgiaaDoorLib
import Derived.Test.YtimlijeiggcgiaaDoorFun

/-
  cert's PLAIN LAWS (1): bytes, numerals, words; of no program.
-/
namespace Go.FM
open Go

/-! ### bytes -/
theorem bytes_ext {s t : ByteArray} (h : s.data.toList = t.data.toList) : s = t := ByteArray.ext (Array.ext' h)
theorem bytes_beq (s t : ByteArray) : (s.toList == t.toList) = decide (s = t) := by
  rw [Lib.toList_data, Lib.toList_data]
  by_cases h : s = t
  · subst h; simp
  · rw [decide_eq_false h, beq_eq_false_iff_ne]
    exact fun e => h (bytes_ext e)
theorem size_len (s : ByteArray) : s.size = s.data.toList.length := by rw [Array.length_toList]; rfl

/-! ### numerals -/
theorem decDigits_ch (u : Nat) : ∀ c ∈ Lib.decDigits u, 48 ≤ c.toNat ∧ c.toNat ≤ 57 := by
  induction u using Nat.strongRecOn with
  | _ u ih =>
    intro c hc
    rw [Lib.decDigits] at hc
    split at hc
    · rename_i h
      simp only [List.mem_singleton] at hc
      subst hc
      rw [UInt8.toNat_ofNat_of_lt' (by simp [UInt8.size]; omega)]
      omega
    · rename_i h
      rw [List.mem_append, List.mem_singleton] at hc
      rcases hc with hc | hc
      · exact ih (u / 10) (by omega) c hc
      · subst hc
        rw [UInt8.toNat_ofNat_of_lt' (by simp [UInt8.size]; omega)]
        omega
theorem decDigits_ne (u : Nat) : Lib.decDigits u ≠ [] := by
  rw [Lib.decDigits]
  split <;> simp
theorem itoa_ch (n : Int) : ∀ c ∈ Lib.itoa n, c.toNat = 45 ∨ (48 ≤ c.toNat ∧ c.toNat ≤ 57) := by
  intro c hc
  unfold Lib.itoa at hc
  split at hc
  · rcases List.mem_cons.1 hc with h | h
    · subst h; exact .inl rfl
    · exact .inr (decDigits_ch _ c h)
  · exact .inr (decDigits_ch _ c hc)
theorem itoa_no (n : Int) (c : UInt8) (hc : c.toNat < 45) : c ∉ Lib.itoa n := by
  intro h
  rcases itoa_ch n c h with h1 | h1 <;> omega

theorem parse_dec (u : Nat) : ∀ (acc : Nat) (r : List UInt8), acc * 10 ^ (Lib.decDigits u).length + u < 18446744073709551616 →
    Lib.parseUint10 acc (Lib.decDigits u ++ r) = Lib.parseUint10 (acc * 10 ^ (Lib.decDigits u).length + u) r := by
  induction u using Nat.strongRecOn with
  | _ u ih =>
    intro acc r hlt
    rw [Lib.decDigits] at hlt ⊢
    split at hlt
    · rename_i h
      rw [dif_pos h]
      simp only [List.length_singleton, Nat.pow_one, List.singleton_append] at hlt ⊢
      have hc : (UInt8.ofNat (48 + u)).toNat = 48 + u := UInt8.toNat_ofNat_of_lt' (by simp [UInt8.size]; omega)
      rw [Lib.parseUint10, hc, if_pos (by omega), if_neg (by omega), if_neg (by omega)]
      congr 1
      omega
    · rename_i h
      rw [dif_neg h]
      simp only [List.length_append, List.length_singleton, Nat.pow_succ, List.append_assoc, List.singleton_append] at hlt ⊢
      have ea : acc * (10 ^ (Lib.decDigits (u / 10)).length * 10) = acc * 10 ^ (Lib.decDigits (u / 10)).length * 10 := by rw [Nat.mul_assoc]
      rw [ea] at hlt ⊢
      rw [ih (u / 10) (by omega) acc _ (by omega)]
      have hc : (UInt8.ofNat (48 + u % 10)).toNat = 48 + u % 10 := UInt8.toNat_ofNat_of_lt' (by simp [UInt8.size]; omega)
      rw [Lib.parseUint10, hc, if_pos (by omega), if_neg (by omega), if_neg (by omega)]
      congr 1
      omega
theorem parse_mag (u : Nat) (h : u < 18446744073709551616) : Lib.parseMag (Lib.decDigits u) = .ok u := by
  unfold Lib.parseMag
  rw [if_neg (decDigits_ne u)]
  have := parse_dec u 0 [] (by omega)
  rw [List.append_nil] at this
  rw [this, Nat.zero_mul, Nat.zero_add]
  rfl
theorem atoi_itoa (n : Int) (h0 : -9223372036854775808 ≤ n) (h1 : n ≤ 9223372036854775807) : Lib.atoiAll (Lib.itoa n) = .ok n := by
  unfold Lib.itoa
  split
  · rename_i hn
    unfold Lib.atoiAll
    have e : (45 : UInt8).toNat = 45 := rfl
    simp only [e, or_true, if_true, parse_mag n.natAbs (by omega), not_true_eq_false, false_and, if_false, true_and]
    rw [if_neg (by omega)]
    congr 1
    omega
  · rename_i hn
    obtain ⟨c, r, hl⟩ : ∃ c r, Lib.decDigits n.toNat = c :: r := by
      cases h : Lib.decDigits n.toNat with
      | nil => exact absurd h (decDigits_ne _)
      | cons c r => exact ⟨c, r, rfl⟩
    have hc := decDigits_ch n.toNat c (by rw [hl]; exact List.mem_cons_self ..)
    have hm := parse_mag n.toNat (by omega)
    rw [hl] at hm ⊢
    unfold Lib.atoiAll
    have e1 : ¬ c.toNat = 43 := by omega
    have e2 : ¬ c.toNat = 45 := by omega
    simp only [e1, e2, or_self, if_false, hm, false_and, not_false_eq_true, true_and]
    rw [if_neg (by omega)]
    congr 1
    omega
theorem atoiV_of {s : ByteArray} {n : Int} (h : s.data.toList = Lib.itoa n) (h0 : -9223372036854775808 ≤ n) (h1 : n ≤ 9223372036854775807) : atoiV s = n := by
  unfold atoiV
  rw [h, atoi_itoa n h0 h1]

/-! ### words -/
theorem indexByte_at : ∀ (w r : List UInt8) (c : UInt8), c ∉ w → Lib.indexByte (w ++ c :: r) c = w.length
  | [], r, c, _ => by simp [Lib.indexByte]
  | b :: w, r, c, h => by
    simp only [List.mem_cons, not_or] at h
    have e : (b == c) = false := beq_eq_false_iff_ne.2 (fun e => h.1 e.symm)
    have e2 : ((w.length : Int) == -1) = false := by rw [beq_eq_false_iff_ne]; omega
    simp only [List.cons_append, Lib.indexByte, e, indexByte_at w r c h.2, e2, List.length_cons]
    simp
theorem indexByte_no : ∀ (w : List UInt8) (c : UInt8), c ∉ w → Lib.indexByte w c = -1
  | [], c, _ => rfl
  | b :: w, c, h => by
    simp only [List.mem_cons, not_or] at h
    have e : (b == c) = false := beq_eq_false_iff_ne.2 (fun e => h.1 e.symm)
    simp [Lib.indexByte, e, indexByte_no w c h.2]

theorem cut_at (w r : List UInt8) (c : UInt8) (h : c ∉ w) : Lib.cut (w ++ c :: r) [c] = (w, r, true) := by
  unfold Lib.cut
  rw [Lib.index_one, indexByte_at w r c h, if_pos (by omega)]
  simp

theorem split_at (w r : List UInt8) (c : UInt8) (h : c ∉ w) : Lib.split (w ++ c :: r) [c] = w :: Lib.split r [c] := by
  unfold Lib.split
  have ec : Lib.count (w ++ c :: r) [c] = Lib.count r [c] + 1 := by
    rw [Lib.count_one, Lib.count_one, List.count_append, List.count_eq_zero_of_not_mem h, List.count_cons_self, Nat.zero_add]
  rw [ec, Lib.splitK, Lib.index_one, indexByte_at w r c h]
  have e2 : ((w.length : Int) == -1) = false := by rw [beq_eq_false_iff_ne]; omega
  rw [e2]
  simp
theorem split_no (w : List UInt8) (c : UInt8) (h : c ∉ w) : Lib.split w [c] = [w] := by
  unfold Lib.split
  rw [Lib.count_one, List.count_eq_zero_of_not_mem h]
  rfl

/-- A line's bytes, without its end. -/
def lnL (w : List UInt8) (l : List Int) : List UInt8 := w ++ l.flatMap fun n => 32 :: Lib.itoa n
theorem lnL_cons (w : List UInt8) (n : Int) (l : List Int) : lnL w (n :: l) = w ++ 32 :: lnL (Lib.itoa n) l := by simp [lnL]
theorem lnL_no (c : UInt8) (hc : c.toNat < 32) {w : List UInt8} (hw : c ∉ w) (l : List Int) : c ∉ lnL w l := by
  unfold lnL
  rw [List.mem_append, List.mem_flatMap]
  rintro (h | ⟨n, _, h⟩)
  · exact hw h
  · rcases List.mem_cons.1 h with e | e
    · subst e
      have : (32 : UInt8).toNat = 32 := rfl
      omega
    · exact itoa_no n c (by omega) e
theorem split_ln : ∀ (l : List Int) (w : List UInt8), (32 : UInt8) ∉ w → Lib.split (lnL w l) [32] = w :: l.map Lib.itoa
  | [], w, h => by simp only [lnL, List.flatMap_nil, List.append_nil, List.map_nil]; exact split_no w 32 h
  | n :: l, w, h => by
    rw [lnL_cons, split_at w _ 32 h, split_ln l (Lib.itoa n) (itoa_no n 32 (by decide))]
    rfl

theorem splitL_data (s sep : ByteArray) : (splitL s sep).map (·.data.toList) = Lib.split s.data.toList sep.data.toList := by
  unfold splitL Lib.split
  rw [Lib.splitB_data]

end Go.FM

/-
  cert's PLAIN LAWS (2): what is printed, what is read of it; of no program.
-/
namespace Go.FM
open Go

/-! ### what is printed, as bytes -/
theorem data_app (s t : ByteArray) : (s ++ t).data.toList = s.data.toList ++ t.data.toList := by simp
theorem data_push (s : ByteArray) (c : UInt8) : (s.push c).data.toList = s.data.toList ++ [c] := by simp [ByteArray.push]
theorem itoaB_data (n : Int) : (itoaB n).data.toList = Lib.itoa n := rfl

theorem numsB_data : ∀ (l : List IV) (s : ByteArray), (numsB s l).data.toList = s.data.toList ++ (l.map IV.toInt).flatMap fun n => 32 :: Lib.itoa n
  | [], s => by simp [numsB]
  | x :: l, s => by
    rw [numsB, numsB_data l, data_app, data_push, itoaB_data]
    simp
theorem lineB_data (s w : ByteArray) (l : List IV) : (lineB s w l).data.toList = s.data.toList ++ (lnL w.data.toList (l.map IV.toInt) ++ [10]) := by
  unfold lineB lnL
  rw [data_push, numsB_data, data_app]
  simp
def stepL (x : IV) : List UInt8 := cond (stSum x) (lnL w_sum.data.toList []) (lnL w_cut.data.toList [stPlace x, stAt x])
def stepsL : List IV → List UInt8
  | [] => []
  | x :: l => stepL x ++ 10 :: stepsL l
theorem printSteps_data : ∀ (l : List IV) (s : ByteArray), (printSteps s l).data.toList = s.data.toList ++ stepsL l
  | [], s => by simp [printSteps, stepsL]
  | x :: l, s => by
    rw [printSteps, printSteps_data l, stepsL]
    unfold stepL
    cases stSum x
    · simp only [cond_false]
      rw [lineB_data]
      simp [IV.toInt]
    · simp only [cond_true]
      rw [lineB_data]
      simp

/-! ### how long it is -/
def i64In (n : Int) : Prop := -9223372036854775808 ≤ n ∧ n ≤ 9223372036854775807
def stRng (x : IV) : Prop := i64In (stPlace x) ∧ i64In (stAt x)
structure Vd.rng (v : Vd) : Prop where
  w0 : i64In v.w0
  w1 : i64In v.w1
  w2 : i64In v.w2
  w3 : i64In v.w3
  twin : i64In v.twin
  spent : i64In v.spent
  proof : ∀ x ∈ v.proof, stRng x

theorem numsB_le : ∀ (l : List IV) (s : ByteArray), (∀ x ∈ l, i64In x.toInt) → (numsB s l).size ≤ s.size + 22 * l.length
  | [], s, _ => Nat.le_refl _
  | x :: l, s, h => by
    rw [numsB]
    refine Nat.le_trans (numsB_le l _ (fun y hy => h y (List.mem_cons_of_mem _ hy))) ?_
    have hx := h x (List.mem_cons_self ..)
    have := itoaB_size (n := x.toInt) hx.1 hx.2
    rw [ByteArray.size_append, ByteArray.size_push, List.length_cons]
    omega
theorem lineB_le (s w : ByteArray) (l : List IV) (h : ∀ x ∈ l, i64In x.toInt) : (lineB s w l).size ≤ s.size + w.size + 22 * l.length + 1 := by
  unfold lineB
  have := numsB_le l (s ++ w) h
  rw [ByteArray.size_append] at this
  rw [ByteArray.size_push]
  omega
theorem printSteps_le : ∀ (l : List IV) (s : ByteArray), (∀ x ∈ l, stRng x) → (printSteps s l).size ≤ s.size + 48 * l.length
  | [], s, _ => Nat.le_refl _
  | x :: l, s, h => by
    rw [printSteps]
    refine Nat.le_trans (printSteps_le l _ (fun y hy => h y (List.mem_cons_of_mem _ hy))) ?_
    have hx := h x (List.mem_cons_self ..)
    rw [List.length_cons]
    cases stSum x
    · have := lineB_le s w_cut [.int (stPlace x), .int (stAt x)] (fun y hy => by
        simp only [List.mem_cons, List.mem_nil_iff, or_false] at hy
        rcases hy with rfl | rfl
        · exact hx.1
        · exact hx.2)
      have e : w_cut.size = 3 := rfl
      simp only [cond_false, List.length_cons, List.length_nil] at this ⊢
      omega
    · have := lineB_le s w_sum [] (fun y hy => by cases hy)
      have e : w_sum.size = 3 := rfl
      simp only [cond_true, List.length_nil] at this ⊢
      omega

end Go.FM

/-
  cert's PLAIN LAWS (3): what was printed is read back; of no program.
-/
namespace Go.FM
open Go

theorem right_proof {v : Vd} (h : v.right = true) : v.proof.length ≤ 65536 := by
  unfold Vd.right at h
  simp only [Bool.and_eq_true, Bool.or_eq_true] at h
  rcases h.2.2 with h1 | h1 | h1
  · have := h1.2.2
    unfold stepsB at this
    simp only [Bool.and_eq_true, decide_eq_true_eq] at this
    exact this.2.1
  · have := h1.2
    cases hp : v.proof with
    | nil => simp
    | cons a b => rw [hp] at this; cases this
  · have := h1.2.2
    cases hp : v.proof with
    | nil => simp
    | cons a b => rw [hp] at this; cases this

theorem in_ints {l : List Int} (h : ∀ n ∈ l, i64In n) : ∀ x ∈ l.map IV.int, i64In x.toInt := by
  intro x hx
  obtain ⟨n, hn, rfl⟩ := List.mem_map.1 hx
  exact h n hn
theorem len_in {n : Nat} (h : n ≤ 65536) : i64In (ic n) := by unfold i64In ic; omega

/-- A verdict's text is short. -/
theorem printB_le {v : Vd} (hr : v.rng) : (printB v).size ≤ 4000000 := by
  unfold printB
  cases h : v.right with
  | false => simp only [cond_false]; decide
  | true =>
    simp only [cond_true]
    have hp := right_proof h
    cases v.kind == 1 with
    | true =>
      simp only [cond_true]
      have h1 := printSteps_le v.proof (lineB w_none w_holds [.int v.spent, .int (ic v.proof.length)]) hr.proof
      have h2 := lineB_le w_none w_holds [.int v.spent, .int (ic v.proof.length)] (in_ints (l := [v.spent, ic v.proof.length]) (by
        intro n hn
        simp only [List.mem_cons, List.mem_nil_iff, or_false] at hn
        rcases hn with rfl | rfl
        · exact hr.spent
        · exact len_in hp))
      have e1 : w_none.size = 0 := rfl
      have e2 : w_holds.size = 5 := rfl
      simp only [List.length_cons, List.length_nil] at h2
      omega
    | false =>
      simp only [cond_false]
      cases v.kind == 2 with
      | true =>
        simp only [cond_true]
        have h2 := lineB_le w_none w_fails [.int v.spent, .int v.w0, .int v.w1, .int v.w2, .int v.w3, .int v.twin] (in_ints (l := [v.spent, v.w0, v.w1, v.w2, v.w3, v.twin]) (by
          intro n hn
          simp only [List.mem_cons, List.mem_nil_iff, or_false] at hn
          rcases hn with rfl | rfl | rfl | rfl | rfl | rfl
          · exact hr.spent
          · exact hr.w0
          · exact hr.w1
          · exact hr.w2
          · exact hr.w3
          · exact hr.twin))
        have e1 : w_none.size = 0 := rfl
        have e2 : w_fails.size = 5 := rfl
        simp only [List.length_cons, List.length_nil] at h2
        omega
      | false =>
        simp only [cond_false]
        have hs : ∀ x ∈ [IV.int v.spent], i64In x.toInt := in_ints (l := [v.spent]) (by
          intro n hn
          simp only [List.mem_cons, List.mem_nil_iff, or_false] at hn
          subst hn
          exact hr.spent)
        have e1 : w_none.size = 0 := rfl
        cases v.kind == 3 with
        | true =>
          simp only [cond_true]
          have h2 := lineB_le w_none w_unknown [.int v.spent] hs
          have e2 : w_unknown.size = 7 := rfl
          simp only [List.length_cons, List.length_nil] at h2
          omega
        | false =>
          simp only [cond_false]
          have h2 := lineB_le w_none w_wrong [.int v.spent] hs
          have e2 : w_wrong.size = 5 := rfl
          simp only [List.length_cons, List.length_nil] at h2
          omega

/-! ### what is read lies in bounds -/
theorem numberZ_in (l : List IV) (i : Int) : i64In (numberZ l i) := by
  unfold numberZ
  cases decide (ic l.length ≤ i) with
  | true => simp only [cond_true]; unfold i64In; omega
  | false =>
    simp only [cond_false]
    have := atoiV_bound (l.getD i.toNat default).toStr
    exact this
theorem zero_in : i64In 0 := ⟨by decide, by decide⟩
theorem readStep_in (s : ByteArray) : stRng (readStep s) := by
  unfold readStep
  cases ((wordOf (firstL s)).toList == w_sum.toList) with
  | true => exact ⟨zero_in, zero_in⟩
  | false => exact ⟨numberZ_in _ _, numberZ_in _ _⟩
theorem readSteps_in : ∀ (m : Nat) (s : ByteArray) (p : List IV), (∀ x ∈ p, stRng x) → ∀ x ∈ readSteps m s p, stRng x
  | 0, _, _, h => h
  | m + 1, s, p, h => by
    unfold readSteps
    cases (!(s.toList == w_none.toList) && decide (p.length ≤ 65536)) with
    | false => exact h
    | true =>
      simp only [cond_true]
      refine readSteps_in m _ _ (fun x hx => ?_)
      rcases List.mem_append.1 hx with h1 | h1
      · exact h x h1
      · rw [List.mem_singleton.1 h1]
        exact readStep_in s
theorem readV_rng (s : ByteArray) : (readV s).rng := by
  unfold readV
  cases ((wordOf (firstL s)).toList == w_holds.toList) with
  | true => exact ⟨zero_in, zero_in, zero_in, zero_in, zero_in, numberZ_in _ _, readSteps_in _ _ _ (fun x hx => by cases hx)⟩
  | false =>
    cases ((wordOf (firstL s)).toList == w_fails.toList) with
    | true => exact ⟨numberZ_in _ _, numberZ_in _ _, numberZ_in _ _, numberZ_in _ _, numberZ_in _ _, numberZ_in _ _, fun x hx => by cases hx⟩
    | false =>
      cases ((wordOf (firstL s)).toList == w_unknown.toList) with
      | true => exact ⟨zero_in, zero_in, zero_in, zero_in, zero_in, numberZ_in _ _, fun x hx => by cases hx⟩
      | false =>
        cases ((wordOf (firstL s)).toList == w_wrong.toList) with
        | true => exact ⟨zero_in, zero_in, zero_in, zero_in, zero_in, numberZ_in _ _, fun x hx => by cases hx⟩
        | false => exact ⟨zero_in, zero_in, zero_in, zero_in, zero_in, numberZ_in _ _, fun x hx => by cases hx⟩

/-! ### a line, read -/
theorem cutL_data (s sep : ByteArray) : (cutL s sep).data.toList = (Lib.cut s.data.toList sep.data.toList).1 := rfl
theorem cutR_data (s sep : ByteArray) : (cutR s sep).data.toList = (Lib.cut s.data.toList sep.data.toList).2.1 := rfl

theorem first_of {s : ByteArray} {w r : List UInt8} {l : List Int} (h : s.data.toList = lnL w l ++ 10 :: r) (h32 : (32 : UInt8) ∉ w) (h10 : (10 : UInt8) ∉ w) :
    (firstL s).map (fun x => x.toStr.data.toList) = w :: l.map Lib.itoa ∧ (cutR s w_nl).data.toList = r := by
  have hc : Lib.cut s.data.toList w_nl.data.toList = (lnL w l, r, true) := by
    rw [h]
    exact cut_at _ r 10 (lnL_no 10 (by decide) h10 l)
  constructor
  · unfold firstL
    rw [List.map_map]
    have : ((fun x => x.toStr.data.toList) ∘ IV.str) = fun b : ByteArray => b.data.toList := rfl
    rw [this, splitL_data, cutL_data, hc]
    exact split_ln l w h32
  · rw [cutR_data, hc]

theorem word_of {L : List IV} {w : List UInt8} {ws : List (List UInt8)} (h : L.map (fun x => x.toStr.data.toList) = w :: ws) (t : ByteArray) : ((wordOf L).toList == t.toList) = (w == t.data.toList) := by
  cases L with
  | nil => cases h
  | cons x L =>
    simp only [List.map_cons, List.cons.injEq] at h
    unfold wordOf
    rw [Lib.toList_data, Lib.toList_data]
    simp only [List.getD_cons_zero]
    rw [h.1]

theorem num_of {L : List IV} {ws : List (List UInt8)} (h : L.map (fun x => x.toStr.data.toList) = ws) (i : Nat) {n : Int} (hi : ws[i]? = some (Lib.itoa n)) (hn : i64In n) : numberZ L (i : Int) = n := by
  subst h
  rw [List.getElem?_map] at hi
  cases hx : L[i]? with
  | none => rw [hx] at hi; cases hi
  | some x =>
    rw [hx] at hi
    simp only [Option.map_some, Option.some.injEq] at hi
    have hl := (List.getElem?_eq_some_iff.1 hx).1
    unfold numberZ
    rw [decide_eq_false (show ¬ ic L.length ≤ (i : Int) by simp only [ic]; omega)]
    simp only [cond_false]
    have : (L.getD (i : Int).toNat default) = x := by
      rw [Int.toNat_natCast, List.getD_eq_getElem?_getD, hx]
      rfl
    rw [this]
    exact atoiV_of hi hn.1 hn.2

/-! ### steps, read -/
def canonS (x : IV) : IV := cond (stSum x) (mkStep true 0 0) (mkStep false (stPlace x) (stAt x))
theorem canon_eq {x : IV} (h : stepOK x = true) : stEq (canonS x) x = true := by
  unfold canonS
  unfold stepOK at h
  unfold stEq
  cases hs : stSum x with
  | true =>
    rw [hs] at h
    simp only [Bool.true_and, Bool.and_eq_true, Bool.not_not, beq_iff_eq] at h
    have e1 : stSum (mkStep true 0 0) = true := rfl
    have e2 : stPlace (mkStep true 0 0) = 0 := rfl
    have e3 : stAt (mkStep true 0 0) = 0 := rfl
    simp only [cond_true, e1, e2, e3, h.1.1, h.1.2]
    rfl
  | false =>
    have e1 : stSum (mkStep false (stPlace x) (stAt x)) = false := rfl
    have e2 : stPlace (mkStep false (stPlace x) (stAt x)) = stPlace x := rfl
    have e3 : stAt (mkStep false (stPlace x) (stAt x)) = stAt x := rfl
    simp only [cond_false, e1, e2, e3, beq_self_eq_true, Bool.and_self]
theorem canon_same : ∀ {l : List IV}, l.all stepOK = true → sameB (l.map canonS) l = true
  | [], _ => rfl
  | x :: l, h => by
    simp only [List.all_cons, Bool.and_eq_true] at h
    simp only [List.map_cons, sameB, canon_eq h.1, canon_same h.2, Bool.and_self]

theorem none_beq {s : ByteArray} : (s.toList == w_none.toList) = s.data.toList.isEmpty := by
  rw [bytes_beq]
  cases h : s.data.toList with
  | nil =>
    have : s = w_none := bytes_ext (h.trans rfl)
    rw [decide_eq_true this]
    rfl
  | cons a l =>
    rw [decide_eq_false (fun e => by rw [e] at h; cases h)]
    rfl

theorem readSteps_of : ∀ (l : List IV) (m : Nat) (s : ByteArray) (p : List IV), s.data.toList = stepsL l → l.length < m → p.length + l.length ≤ 65536 → (∀ x ∈ l, stRng x) → readSteps m s p = p ++ l.map canonS
  | [], m + 1, s, p, hs, _, _, _ => by
    unfold readSteps
    rw [none_beq, hs]
    simp [stepsL]
  | x :: l, m + 1, s, p, hs, hm, hp, hx => by
    have hne : (s.toList == w_none.toList) = false := by
      rw [none_beq, hs, stepsL]
      simp
    unfold readSteps
    simp only [List.length_cons] at hm hp
    rw [hne, decide_eq_true (show p.length ≤ 65536 by omega)]
    simp only [Bool.not_false, Bool.and_self, cond_true]
    have hr := hx x (List.mem_cons_self ..)
    have key : readStep s = canonS x ∧ (cutR s w_nl).data.toList = stepsL l := by
      rw [stepsL] at hs
      unfold stepL at hs
      unfold canonS readStep
      cases hc : stSum x with
      | true =>
        rw [hc] at hs
        simp only [cond_true] at hs ⊢
        obtain ⟨h1, h2⟩ := first_of hs (by decide) (by decide)
        refine ⟨?_, h2⟩
        rw [word_of h1]
        simp only [beq_self_eq_true, cond_true]
      | false =>
        rw [hc] at hs
        simp only [cond_false] at hs ⊢
        obtain ⟨h1, h2⟩ := first_of hs (by decide) (by decide)
        refine ⟨?_, h2⟩
        rw [word_of h1]
        have e : (w_cut.data.toList == w_sum.data.toList) = false := by decide
        rw [e]
        simp only [cond_false]
        have n1 := num_of h1 1 (n := stPlace x) rfl hr.1
        have n2 := num_of h1 2 (n := stAt x) rfl hr.2
        have c1 : ((1 : Nat) : Int) = 1 := rfl
        have c2 : ((2 : Nat) : Int) = 2 := rfl
        rw [c1] at n1
        rw [c2] at n2
        rw [n1, n2]
    rw [key.1, readSteps_of l m _ _ key.2 (by omega) (by simp only [List.length_append, List.length_singleton]; omega) (fun y hy => hx y (List.mem_cons_of_mem _ hy))]
    simp
  | [], 0, _, _, _, h, _, _ => by omega
  | _ :: _, 0, _, _, _, h, _, _ => by simp at h

end Go.FM

/-
  cert's PLAIN LAWS (4): a right verdict comes back out of its text; two have one text just if they are the same; of no program.
-/
namespace Go.FM
open Go

/-! ### the same verdicts -/
theorem stEq_rfl (x : IV) : stEq x x = true := by simp [stEq]
theorem stEq_iff {x y : IV} : stEq x y = true ↔ stSum x = stSum y ∧ stPlace x = stPlace y ∧ stAt x = stAt y := by simp [stEq]
theorem sameB_rfl : ∀ l : List IV, sameB l l = true
  | [] => rfl
  | x :: l => by simp [sameB, stEq_rfl, sameB_rfl l]
theorem sameB_symm : ∀ {l m : List IV}, sameB l m = true → sameB m l = true
  | [], [], _ => rfl
  | [], _ :: _, h => by simp [sameB] at h
  | _ :: _, [], h => by simp [sameB] at h
  | x :: l, y :: m, h => by
    simp only [sameB, Bool.and_eq_true] at h ⊢
    obtain ⟨h1, h2, h3⟩ := stEq_iff.1 h.1
    exact ⟨stEq_iff.2 ⟨h1.symm, h2.symm, h3.symm⟩, sameB_symm h.2⟩
theorem sameB_trans : ∀ {l m n : List IV}, sameB l m = true → sameB m n = true → sameB l n = true
  | [], [], [], _, _ => rfl
  | [], [], _ :: _, _, h => by simp [sameB] at h
  | [], _ :: _, _, h, _ => by simp [sameB] at h
  | _ :: _, [], _, h, _ => by simp [sameB] at h
  | _ :: _, _ :: _, [], _, h => by simp [sameB] at h
  | x :: l, y :: m, z :: n, h, k => by
    simp only [sameB, Bool.and_eq_true] at h k ⊢
    obtain ⟨h1, h2, h3⟩ := stEq_iff.1 h.1
    obtain ⟨k1, k2, k3⟩ := stEq_iff.1 k.1
    exact ⟨stEq_iff.2 ⟨h1.trans k1, h2.trans k2, h3.trans k3⟩, sameB_trans h.2 k.2⟩

structure VSame (a b : Vd) : Prop where
  kind : a.kind = b.kind
  proof : sameB a.proof b.proof = true
  w0 : a.w0 = b.w0
  w1 : a.w1 = b.w1
  w2 : a.w2 = b.w2
  w3 : a.w3 = b.w3
  twin : a.twin = b.twin
  spent : a.spent = b.spent
theorem vdEq_iff {a b : Vd} : vdEq a b = true ↔ VSame a b := by
  unfold vdEq
  simp only [Bool.and_eq_true, beq_iff_eq]
  exact ⟨fun ⟨h1, h2, h3, h4, h5, h6, h7, h8⟩ => ⟨h1, h2, h3, h4, h5, h6, h7, h8⟩, fun ⟨h1, h2, h3, h4, h5, h6, h7, h8⟩ => ⟨h1, h2, h3, h4, h5, h6, h7, h8⟩⟩
theorem VSame.rfl' (a : Vd) : VSame a a := ⟨rfl, sameB_rfl _, rfl, rfl, rfl, rfl, rfl, rfl⟩
theorem VSame.symm {a b : Vd} (h : VSame a b) : VSame b a := ⟨h.kind.symm, sameB_symm h.proof, h.w0.symm, h.w1.symm, h.w2.symm, h.w3.symm, h.twin.symm, h.spent.symm⟩
theorem VSame.trans {a b c : Vd} (h : VSame a b) (k : VSame b c) : VSame a c := ⟨h.kind.trans k.kind, sameB_trans h.proof k.proof, h.w0.trans k.w0, h.w1.trans k.w1, h.w2.trans k.w2, h.w3.trans k.w3, h.twin.trans k.twin, h.spent.trans k.spent⟩

theorem sameB_len : ∀ {l m : List IV}, sameB l m = true → l.length = m.length
  | [], [], _ => rfl
  | [], _ :: _, h => by simp [sameB] at h
  | _ :: _, [], h => by simp [sameB] at h
  | _ :: l, _ :: m, h => by
    simp only [sameB, Bool.and_eq_true] at h
    simp only [List.length_cons, sameB_len h.2]
theorem sameB_all : ∀ {l m : List IV}, sameB l m = true → l.all stepOK = m.all stepOK
  | [], [], _ => rfl
  | [], _ :: _, h => by simp [sameB] at h
  | _ :: _, [], h => by simp [sameB] at h
  | x :: l, y :: m, h => by
    simp only [sameB, Bool.and_eq_true] at h
    obtain ⟨h1, h2, h3⟩ := stEq_iff.1 h.1
    simp only [List.all_cons, sameB_all h.2]
    unfold stepOK
    rw [h1, h2, h3]
theorem sameB_print : ∀ {l m : List IV} (s : ByteArray), sameB l m = true → printSteps s l = printSteps s m
  | [], [], _, _ => rfl
  | [], _ :: _, _, h => by simp [sameB] at h
  | _ :: _, [], _, h => by simp [sameB] at h
  | x :: l, y :: m, s, h => by
    simp only [sameB, Bool.and_eq_true] at h
    obtain ⟨h1, h2, h3⟩ := stEq_iff.1 h.1
    simp only [printSteps, h1, h2, h3]
    exact sameB_print _ h.2
theorem sameB_empty {l m : List IV} (h : sameB l m = true) : l.isEmpty = m.isEmpty := by
  cases l <;> cases m <;> first | rfl | (simp [sameB] at h)

theorem right_same {a b : Vd} (h : VSame a b) : a.right = b.right := by
  unfold Vd.right Vd.bare stepsB
  rw [h.kind, h.w0, h.w1, h.w2, h.w3, h.twin, h.spent, sameB_len h.proof, sameB_all h.proof, sameB_empty h.proof]
theorem print_same {a b : Vd} (h : VSame a b) : printB a = printB b := by
  unfold printB
  rw [right_same h, h.kind, h.w0, h.w1, h.w2, h.w3, h.twin, h.spent, sameB_len h.proof, sameB_print _ h.proof]

/-! ### what has a text -/
theorem printB_wrong {v : Vd} (h : v.right = false) : printB v = w_none := by
  unfold printB
  rw [h]
  rfl
theorem lineB_pos (s w : ByteArray) (l : List IV) : 0 < (lineB s w l).size := by
  unfold lineB
  rw [ByteArray.size_push]
  omega
theorem printSteps_ge : ∀ (l : List IV) (s : ByteArray), s.size ≤ (printSteps s l).size
  | [], s => Nat.le_refl _
  | x :: l, s => by
    rw [printSteps]
    refine Nat.le_trans ?_ (printSteps_ge l _)
    have key : ∀ w k, s.size ≤ (lineB s w k).size := fun w k => by
      rw [size_len, size_len, lineB_data, List.length_append]
      omega
    cases stSum x
    · exact key _ _
    · exact key _ _
theorem printB_right {v : Vd} (h : v.right = true) : 0 < (printB v).size := by
  unfold printB
  rw [h]
  simp only [cond_true]
  cases v.kind == 1 with
  | true => simp only [cond_true]; exact Nat.lt_of_lt_of_le (lineB_pos _ _ _) (printSteps_ge _ _)
  | false =>
    simp only [cond_false]
    cases v.kind == 2 with
    | true => exact lineB_pos _ _ _
    | false =>
      simp only [cond_false]
      cases v.kind == 3 with
      | true => exact lineB_pos _ _ _
      | false => exact lineB_pos _ _ _
theorem printB_pos (v : Vd) : decide (0 < (printB v).size) = v.right := by
  cases h : v.right with
  | true => exact decide_eq_true (printB_right h)
  | false =>
    rw [printB_wrong h]
    rfl

/-! ### it comes back -/
theorem stepsL_len : ∀ l : List IV, l.length ≤ (stepsL l).length
  | [] => Nat.le_refl _
  | x :: l => by
    have := stepsL_len l
    simp only [stepsL, List.length_append, List.length_cons]
    omega
theorem bare_iff {v : Vd} (h : v.bare = true) : v.w0 = 0 ∧ v.w1 = 0 ∧ v.w2 = 0 ∧ v.w3 = 0 ∧ v.twin = 0 := by
  unfold Vd.bare at h
  simpa using h

theorem read_print {v : Vd} (hr : v.right = true) (hv : v.rng) : VSame (readV (printB v)) v := by
  have hlen := right_proof hr
  have hr' := hr
  unfold Vd.right at hr
  simp only [Bool.and_eq_true, Bool.or_eq_true, beq_iff_eq] at hr
  have c1 : ((1 : Nat) : Int) = 1 := rfl
  have c2 : ((2 : Nat) : Int) = 2 := rfl
  have c3 : ((3 : Nat) : Int) = 3 := rfl
  have c4 : ((4 : Nat) : Int) = 4 := rfl
  have c5 : ((5 : Nat) : Int) = 5 := rfl
  have c6 : ((6 : Nat) : Int) = 6 := rfl
  rcases hr.2.2 with ⟨hk, hb, hs⟩ | ⟨hk, he⟩ | ⟨hk, hb, he⟩
  · have hd : (printB v).data.toList = lnL w_holds.data.toList [v.spent, ic v.proof.length] ++ 10 :: stepsL v.proof := by
      unfold printB
      rw [hr', hk]
      have e1 : ((1 : Int) == 1) = true := rfl
      simp only [cond_true, e1]
      rw [printSteps_data, lineB_data]
      simp [IV.toInt]
    obtain ⟨h1, h2⟩ := first_of hd (by decide) (by decide)
    have n1 := num_of h1 1 (n := v.spent) rfl hv.spent
    rw [c1] at n1
    have hst : stepsB v.proof = true := hs
    unfold stepsB at hs
    simp only [Bool.and_eq_true, decide_eq_true_eq] at hs
    have hread := readSteps_of v.proof ((cutR (printB v) w_nl).size + 1) _ [] h2 (by
      have := stepsL_len v.proof
      rw [← h2, ← size_len] at this
      omega) (by simp only [List.length_nil]; omega) hv.proof
    unfold readV
    rw [word_of h1]
    simp only [beq_self_eq_true, cond_true]
    obtain ⟨b0, b1, b2, b3, b4⟩ := bare_iff hb
    refine ⟨hk.symm, ?_, b0.symm, b1.symm, b2.symm, b3.symm, b4.symm, n1⟩
    simp only
    rw [hread, List.nil_append]
    exact canon_same hs.2.2
  · have hp : v.proof = [] := List.isEmpty_iff.1 he
    have hd : (printB v).data.toList = lnL w_fails.data.toList [v.spent, v.w0, v.w1, v.w2, v.w3, v.twin] ++ 10 :: [] := by
      unfold printB
      rw [hr', hk]
      have e1 : ((2 : Int) == 1) = false := rfl
      have e2 : ((2 : Int) == 2) = true := rfl
      simp only [cond_true, cond_false, e1, e2]
      rw [lineB_data]
      simp [IV.toInt]
    obtain ⟨h1, _⟩ := first_of hd (by decide) (by decide)
    have n1 := num_of h1 1 (n := v.spent) rfl hv.spent
    have n2 := num_of h1 2 (n := v.w0) rfl hv.w0
    have n3 := num_of h1 3 (n := v.w1) rfl hv.w1
    have n4 := num_of h1 4 (n := v.w2) rfl hv.w2
    have n5 := num_of h1 5 (n := v.w3) rfl hv.w3
    have n6 := num_of h1 6 (n := v.twin) rfl hv.twin
    rw [c1] at n1
    rw [c2] at n2
    rw [c3] at n3
    rw [c4] at n4
    rw [c5] at n5
    rw [c6] at n6
    unfold readV
    rw [word_of h1, word_of h1]
    have e1 : (w_fails.data.toList == w_holds.data.toList) = false := by decide
    simp only [e1, cond_false, beq_self_eq_true, cond_true]
    exact ⟨hk.symm, by rw [hp]; rfl, n2, n3, n4, n5, n6, n1⟩
  · have hp : v.proof = [] := List.isEmpty_iff.1 he
    obtain ⟨b0, b1, b2, b3, b4⟩ := bare_iff hb
    rcases hk with hk | hk
    · have hd : (printB v).data.toList = lnL w_unknown.data.toList [v.spent] ++ 10 :: [] := by
        unfold printB
        rw [hr', hk]
        have e1 : ((3 : Int) == 1) = false := rfl
        have e2 : ((3 : Int) == 2) = false := rfl
        have e3 : ((3 : Int) == 3) = true := rfl
        simp only [cond_true, cond_false, e1, e2, e3]
        rw [lineB_data]
        simp [IV.toInt]
      obtain ⟨h1, _⟩ := first_of hd (by decide) (by decide)
      have n1 := num_of h1 1 (n := v.spent) rfl hv.spent
      rw [c1] at n1
      unfold readV
      rw [word_of h1, word_of h1, word_of h1]
      have e1 : (w_unknown.data.toList == w_holds.data.toList) = false := by decide
      have e2 : (w_unknown.data.toList == w_fails.data.toList) = false := by decide
      simp only [e1, e2, cond_false, beq_self_eq_true, cond_true]
      exact ⟨hk.symm, by rw [hp]; rfl, b0.symm, b1.symm, b2.symm, b3.symm, b4.symm, n1⟩
    · have hd : (printB v).data.toList = lnL w_wrong.data.toList [v.spent] ++ 10 :: [] := by
        unfold printB
        rw [hr', hk]
        have e1 : ((4 : Int) == 1) = false := rfl
        have e2 : ((4 : Int) == 2) = false := rfl
        have e3 : ((4 : Int) == 3) = false := rfl
        simp only [cond_true, cond_false, e1, e2, e3]
        rw [lineB_data]
        simp [IV.toInt]
      obtain ⟨h1, _⟩ := first_of hd (by decide) (by decide)
      have n1 := num_of h1 1 (n := v.spent) rfl hv.spent
      rw [c1] at n1
      unfold readV
      rw [word_of h1, word_of h1, word_of h1, word_of h1]
      have e1 : (w_wrong.data.toList == w_holds.data.toList) = false := by decide
      have e2 : (w_wrong.data.toList == w_fails.data.toList) = false := by decide
      have e3 : (w_wrong.data.toList == w_unknown.data.toList) = false := by decide
      simp only [e1, e2, e3, cond_false, beq_self_eq_true, cond_true]
      exact ⟨hk.symm, by rw [hp]; rfl, b0.symm, b1.symm, b2.symm, b3.symm, b4.symm, n1⟩

/-! ### a text, parsed -/
theorem parse_print {v : Vd} (hv : v.rng) : parseOK (printB v) = v.right := by
  unfold parseOK
  cases h : v.right with
  | false =>
    rw [printB_wrong h]
    simp
  | true =>
    have hp := printB_right h
    have hne : ¬ printB v = w_none := fun e => by rw [e] at hp; cases hp
    rw [bytes_beq, bytes_beq, decide_eq_false hne, print_same (read_print h hv), decide_eq_true rfl]
    rfl
theorem parse_right {s : ByteArray} (h : parseOK s = true) : (readV s).right = true ∧ printB (readV s) = s := by
  unfold parseOK at h
  rw [bytes_beq, bytes_beq] at h
  simp only [Bool.and_eq_true, Bool.not_eq_true', decide_eq_true_eq, decide_eq_false_iff_not] at h
  refine ⟨?_, h.2⟩
  cases hr : (readV s).right with
  | true => rfl
  | false =>
    exfalso
    rw [printB_wrong hr] at h
    exact h.1 h.2.symm

end Go.FM

/-
  cert's LAWS COME TO WHAT IS SAID: CertBack, CertOnly.
-/
namespace Go.FM
open Go Go.Proofs

theorem i64_in {n : Int} (h : IntKind.i64.min ≤ n ∧ n ≤ IntKind.i64.max) : i64In n := h
theorem rng_of {k a b c d t s : Int} {p : List IV} (h : FM.wfLs [.int .i64 k, .list true [.bool, .int .i64, .int .i64] p, .int .i64 a, .int .i64 b, .int .i64 c, .int .i64 d, .int .i64 t, .int .i64 s]) (n : Nat) : Vd.rng ⟨k, p.take n, a, b, c, d, t, s⟩ := by
  simp only [wfLs, wfL, wfKs, wfK, cellOf] at h
  obtain ⟨_, ⟨_, hp⟩, ha, hb, hc, hd, ht, hs, _⟩ := h
  refine ⟨ha, hb, hc, hd, ht, hs, fun x hx => ?_⟩
  have := hp x (List.mem_of_mem_take hx)
  exact ⟨this.2.1, this.2.2.1⟩

theorem sz_max {v : Vd} (h : v.rng) : decide ((printB v).size ≤ strMax) = true := decide_eq_true (by
  have := printB_le h
  unfold strMax
  omega)
theorem sz_4g {v : Vd} (h : v.rng) : decide ((printB v).size < 4294967281) = true := decide_eq_true (by
  have := printB_le h
  omega)
theorem sz_pos (v : Vd) : decide (ic (printB v).size > 0) = v.right := by
  rw [← printB_pos v]
  rw [Bool.eq_iff_iff]
  simp only [decide_eq_true_eq, ic]
  omega
theorem sz_zero (v : Vd) : (ic (printB v).size == 0) = !v.right := by
  rw [← printB_pos v]
  rw [Bool.eq_iff_iff]
  simp only [beq_iff_eq, Bool.not_eq_true', decide_eq_false_iff_not, ic]
  omega
theorem none_same : vdEq Vd.none Vd.none = true := rfl

theorem print_iff {a b : Vd} (ha : a.rng) (hb : b.rng) (ra : a.right = true) (rb : b.right = true) : ((printB a).toList == (printB b).toList) = vdEq a b := by
  rw [bytes_beq, Bool.eq_iff_iff, decide_eq_true_iff, vdEq_iff]
  constructor
  · intro h
    have h1 := read_print ra ha
    have h2 := read_print rb hb
    rw [← h] at h2
    exact h1.symm.trans h2
  · exact print_same

theorem snd_copselaw20_CertBack : SndR PR B0 4 S_copselaw20_CertBack := by
  refine snd_mk [(3, S_copselaw20_CertRuns), (8, S_cert_Parse), (9, S_cert_Print), (10, S_copsekeep_Verdicts), (11, S_copselaw20_few), (12, S_cert_Right)] [] S_copselaw20_CertBack [[.bool]] Tryd.func4 h_copselaw20_CertBack ⟨snd_copselaw20_CertRuns, snd_cert_Parse, snd_cert_Print, snd_copsekeep_Verdicts, snd_copselaw20_few, snd_cert_Right, trivial⟩ ?_
  intro vs r hwf h
  unfold S_copselaw20_CertBack at h
  split at h
  · rename_i k p a b c d t s k' p' a' b' c' d' t' s'
    refine ⟨0, ?_⟩
    have hwf := hwf (by simp [oneBor])
    simp only [wfVs, wfV] at hwf
    rw [← h]
    refine (nf_copselaw20_CertBack 0 k p a b c d t s k' p' a' b' c' d' t' s').trans ?_
    simp only [R.get_ok]
    have hA := rng_of hwf.1 40
    have hB := rng_of hwf.2.1 40
    generalize (⟨k, p.take 40, a, b, c, d, t, s⟩ : Vd) = A at hA ⊢
    generalize (⟨k', p'.take 40, a', b', c', d', t', s'⟩ : Vd) = B at hB ⊢
    rw [sz_max hA, sz_max hB, sz_4g hA, sz_max (readV_rng (printB A)), sz_pos, sz_pos, parse_print hA, sz_zero, sz_zero]
    have hpv : parseV (printB A) = cond A.right (readV (printB A)) Vd.none := by unfold parseV; rw [parse_print hA]
    have hn : (⟨0, [], 0, 0, 0, 0, 0, 0⟩ : Vd) = Vd.none := rfl
    cases hr : A.right with
    | false =>
      rw [hr] at hpv
      simp only [hpv, cond_false, cond_true, hn, none_same, beq_self_eq_true, Bool.not_true, Bool.not_false]
    | true =>
      rw [hr] at hpv
      have hv := vdEq_iff.2 (read_print hr hA)
      cases hr' : B.right with
      | false => simp only [hpv, cond_true, cond_false, hv, beq_self_eq_true, Bool.not_true, Bool.not_false]
      | true =>
        have hi := print_iff hA hB hr hr'
        simp only [hpv, cond_true, cond_false, hv, beq_self_eq_true, Bool.not_true, hi]
  · simp [R.get] at h

/-! ### any text -/
theorem onlyTail_true {t : ByteArray} (h : t.size < 4294967281) : onlyTail t = some (.bool true, []) := by
  unfold onlyTail
  have hn : (⟨0, [], 0, 0, 0, 0, 0, 0⟩ : Vd) = Vd.none := rfl
  rw [decide_eq_true h, sz_max (readV_rng t)]
  cases hp : parseOK t with
  | false =>
    have hpv : parseV t = Vd.none := by unfold parseV; rw [hp]; rfl
    simp only [hpv, cond_false, cond_true, hn, none_same, Bool.not_false]
  | true =>
    have hpv : parseV t = readV t := by unfold parseV; rw [hp]; rfl
    obtain ⟨h1, h2⟩ := parse_right hp
    have h3 : ((printB (readV t)).toList == t.toList) = true := by rw [h2]; exact beq_self_eq_true _
    simp only [hpv, cond_false, cond_true, sz_max (readV_rng t), h1, h3, Bool.not_true]

theorem tmod_rng {n m : Int} (hm : 0 < m) : -m < n.tmod m ∧ n.tmod m < m := by
  constructor
  · have := Int.lt_tmod_of_pos n hm
    omega
  · exact Int.tmod_lt_of_pos n hm
theorem within_in {n lo hi : Int} (h : lo ≤ hi) (h0 : -1000000000000000 ≤ lo) (h1 : hi ≤ 1000000000000000) : withinM lo hi = hi - lo + 1 ∧ lo ≤ withinZ n lo hi ∧ withinZ n lo hi ≤ hi := by
  have e1 : i64w (hi - lo) = hi - lo := wrap_id (by omega) (by omega)
  have e2 : withinM lo hi = hi - lo + 1 := by
    unfold withinM
    rw [e1]
    exact wrap_id (by omega) (by omega)
  refine ⟨e2, ?_⟩
  unfold withinZ
  rw [e2]
  obtain ⟨t0, t1⟩ := tmod_rng (n := n) (m := hi - lo + 1) (by omega)
  generalize n.tmod (hi - lo + 1) = q at t0 t1 ⊢
  cases hq : decide (q < 0) with
  | true =>
    have hq := of_decide_eq_true hq
    simp only [cond_true]
    have a1 : i64w (q + hi) = q + hi := wrap_id (by omega) (by omega)
    have a2 : i64w (q + hi - lo) = q + hi - lo := wrap_id (by omega) (by omega)
    have a3 : i64w (q + hi - lo + 1) = q + hi - lo + 1 := wrap_id (by omega) (by omega)
    have a4 : i64w (lo + (q + hi - lo + 1)) = lo + (q + hi - lo + 1) := wrap_id (by omega) (by omega)
    rw [a1, a2, a3, a4]
    omega
  | false =>
    have hq := of_decide_eq_false hq
    simp only [cond_false]
    have a1 : i64w (lo + q) = lo + q := wrap_id (by omega) (by omega)
    rw [a1]
    omega

theorem xx_size (x : Int) : (strOfNums (List.map IV.toInt (List.drop 0 (List.take 1 [IV.int x])))).size = 1 := rfl
theorem ext_size (s : ByteArray) (a b : Nat) : (s.extract a b).size = min b s.size - a := ByteArray.size_extract

theorem onlyArms_true {tt a1 : ByteArray} (a2 a3 a4 : Int) (h0 : 1 ≤ tt.size) (h1 : tt.size ≤ 4000000) : onlyArms tt a1 a2 a3 a4 = some (.bool true, []) := by
  have e0 : IntKind.wrap IntKind.i64 (ic tt.size - 1) = ic tt.size - 1 := wrap_id (by simp only [ic]; omega) (by simp only [ic]; omega)
  obtain ⟨_, k0, k1⟩ := within_in (n := a2) (lo := 0) (hi := ic tt.size - 1) (by simp only [ic]; omega) (by omega) (by simp only [ic]; omega)
  have hK : onlyK tt a2 = withinZ a2 0 (ic tt.size - 1) := by unfold onlyK; rw [e0]
  rw [← hK] at k0 k1
  simp only [ic] at k1
  unfold onlyArms
  generalize onlyK tt a2 = K at k0 k1 ⊢
  have eK : IntKind.wrap IntKind.i64 (K + 1) = K + 1 := wrap_id (by omega) (by omega)
  rw [eK]
  have d1 : decide (0 ≤ K) = true := decide_eq_true k0
  have d2 : decide (K ≤ ic tt.size) = true := decide_eq_true (by simp only [ic]; omega)
  have d3 : decide (0 ≤ K + 1) = true := decide_eq_true (by omega)
  have d4 : decide (K + 1 ≤ ic tt.size) = true := decide_eq_true (by simp only [ic]; omega)
  have d5 : decide (0 ≤ min (ic a1.size) 60) = true := decide_eq_true (by simp only [ic]; omega)
  have d6 : decide (min (ic a1.size) 60 ≤ ic a1.size) = true := decide_eq_true (by simp only [ic]; omega)
  simp only [d1, d2, d3, d4, d5, d6, Bool.and_self, cond_true, ByteArray.size_append, ext_size, xx_size]
  have m : strMax = 140737488355327 := rfl
  rw [decide_eq_true (show min K.toNat tt.size - 0 + 1 ≤ strMax by omega), decide_eq_true (show min K.toNat tt.size - 0 + 1 + (min tt.size tt.size - (K + 1).toNat) ≤ strMax by omega),
    decide_eq_true (show min K.toNat tt.size - 0 + 1 + (min tt.size tt.size - K.toNat) ≤ strMax by omega), decide_eq_true (show min K.toNat tt.size - 0 + (min tt.size tt.size - (K + 1).toNat) ≤ strMax by omega)]
  simp only [cond_true]
  rw [onlyTail_true (t := _ ++ _ ++ _) (by simp only [ByteArray.size_append, ext_size, xx_size]; omega), onlyTail_true (t := _ ++ _ ++ _) (by simp only [ByteArray.size_append, ext_size, xx_size]; omega), onlyTail_true (t := _ ++ _) (by simp only [ByteArray.size_append, ext_size]; omega),
    onlyTail_true (by simp only [ext_size]; omega), onlyTail_true (by simp only [ext_size]; omega)]
  simp only [Bool.cond_self]

theorem snd_copselaw20_CertOnly : SndR PR B0 5 S_copselaw20_CertOnly := by
  refine snd_mk [(3, S_copselaw20_CertRuns), (8, S_cert_Parse), (9, S_cert_Print), (10, S_copsekeep_Verdicts), (11, S_copselaw20_few), (12, S_cert_Right), (13, S_copsebook_Within)] [] S_copselaw20_CertOnly [[.bool]] Tryd.func5 h_copselaw20_CertOnly ⟨snd_copselaw20_CertRuns, snd_cert_Parse, snd_cert_Print, snd_copsekeep_Verdicts, snd_copselaw20_few, snd_cert_Right, snd_copsebook_Within, trivial⟩ ?_
  intro vs r hwf h
  unfold S_copselaw20_CertOnly at h
  split at h
  · rename_i k p a b c d t s a1 a2 a3 a4
    refine ⟨0, ?_⟩
    have hwf := hwf (by simp [oneBor])
    simp only [wfVs, wfV] at hwf
    rw [← h]
    refine (nf_copselaw20_CertOnly 0 k p a b c d t s a1 a2 a3 a4).trans ?_
    simp only [R.get_ok]
    have hA := rng_of hwf.1 40
    generalize (⟨k, p.take 40, a, b, c, d, t, s⟩ : Vd) = A at hA ⊢
    have hle := printB_le hA
    rw [sz_max hA]
    simp only [cond_true]
    cases hz : decide (ic (printB A).size < 1) with
    | true =>
      simp only [cond_true]
      exact onlyArms_true a2 a3 a4 (by decide) (by decide)
    | false =>
      have hz := of_decide_eq_false hz
      simp only [ic] at hz
      simp only [cond_false]
      have e0 : IntKind.wrap IntKind.i64 (ic (printB A).size - 1) = ic (printB A).size - 1 := wrap_id (by simp only [ic]; omega) (by simp only [ic]; omega)
      obtain ⟨m, _, _⟩ := within_in (n := a2) (lo := 0) (hi := ic (printB A).size - 1) (by simp only [ic]; omega) (by omega) (by simp only [ic]; omega)
      rw [e0, m, decide_eq_false (by simp only [ic]; omega)]
      simp only [cond_false]
      exact onlyArms_true a2 a3 a4 (by omega) hle
  · simp [R.get] at h

end Go.FM

/-
  NORMAL FORMS: what the functions' runs come to (written by a program of this claim's own, checked by the kernel).
-/
namespace Go.FM
open Go Go.Proofs

/-! ### copse/copselaw20.CertEdges -/
def E_copselaw20_CertEdges (N : Nat) : Env := mkE [(3, S_copselaw20_CertRuns), (8, S_cert_Parse), (9, S_cert_Print), (10, S_copsekeep_Verdicts), (12, S_cert_Right), (13, S_copsebook_Within)] [(4, ⟨[0, 4, 5, 6, 25, 26, 27], [24], []⟩)] 102 N

theorem nf_copselaw20_CertEdges (N : Nat) (what : Int) (a1 : Int) : evFun (E_copselaw20_CertEdges N) c_copselaw20_CertEdges [.tmp 4] [[.bool]] [(.int .i64 what), (.int .i64 a1)] =
  (lpE (E_copselaw20_CertEdges N) (subC c_copselaw20_CertEdges [1, 1, 1, 0, 1, 0, 0]) ⟨[0, 4, 5, 6, 25, 26, 27], [24], []⟩ N ⟨[(0, (.int .i64 what)), (4, (.bool false)), (5, (.int .i64 (IntKind.wrap IntKind.i64 (1 + withinZ a1 0 1099511627776)))), (6, (.row 24 0 4)), (25, (.row 24 0 4)), (26, (.int .i64 (ic 4))), (27, (.int .i64 0))], [(24, (some (.row true 28 true [(.int .i64), (.list true [.bool, (.int .i64), (.int .i64)]), (.int .i64), (.int .i64), (.int .i64), (.int .i64), (.int .i64), (.int .i64)] [(IV.agg [IV.int 1, IV.list (List.drop 0 (List.take 3 [IV.agg [IV.bool false, IV.int 4, IV.int (-9223372036854775808)], IV.agg [IV.bool true, IV.int 0, IV.int 0], IV.agg [IV.bool true, IV.int 0, IV.int 0]])), IV.int 0, IV.int 0, IV.int 0, IV.int 0, IV.int 0, IV.int 65536]), (IV.agg [IV.int 2, IV.list [], IV.int 9223372036854775807, IV.int (-9223372036854775808), IV.int 0, IV.int 0, IV.int (-9223372036854775808), IV.int 0]), (IV.agg [IV.int 3, IV.list [], IV.int 0, IV.int 0, IV.int 0, IV.int 0, IV.int 0, IV.int 5]), (IV.agg [IV.int 4, IV.list [], IV.int 0, IV.int 0, IV.int 0, IV.int 0, IV.int 0, IV.int 0])])))]⟩ (kBlock 0 (kSq (E_copselaw20_CertEdges N) (subC c_copselaw20_CertEdges [1, 1, 1, 1]) (outT (E_copselaw20_CertEdges N) none [(ResultVar.tmp 4)] [[.bool]])))) := by kernel_rfl

theorem st_copselaw20_CertEdges_1 (N : Nat) (x0 : Int) (b4 : Bool) (x5 : Int) (n6 : Nat) (n25 : Nat) (x26 : Int) (x27 : Int) (lo24 : List IV) (again : St → Res) (k : Out → St → Res) : rnd (E_copselaw20_CertEdges N) (subC c_copselaw20_CertEdges [1, 1, 1, 0, 1, 0, 0])
    ⟨[(0, (.int .i64 x0)), (4, (.bool b4)), (5, (.int .i64 x5)), (6, (.row 24 0 n6)), (25, (.row 24 0 n25)), (26, (.int .i64 x26)), (27, (.int .i64 x27))], [(24, (some (.row true 28 true [(.int .i64), (.list true [.bool, (.int .i64), (.int .i64)]), (.int .i64), (.int .i64), (.int .i64), (.int .i64), (.int .i64), (.int .i64)] lo24)))]⟩
    (kLoop again ⟨[0, 4, 5, 6, 25, 26, 27], [24], []⟩ k) =
  (cond (decide (x27 < x26))
  (cond (decide (0 ≤ x27) && decide (x27 < ic (n25 - 0)))
    (cond (decide (ByteArray.size (printB { kind := IV.toInt (IV.cell (List.getD lo24 (0 + Int.toNat x27) default) 0), proof := IV.toList (IV.cell (List.getD lo24 (0 + Int.toNat x27) default) 1), w0 := IV.toInt (IV.cell (List.getD lo24 (0 + Int.toNat x27) default) 2), w1 := IV.toInt (IV.cell (List.getD lo24 (0 + Int.toNat x27) default) 3), w2 := IV.toInt (IV.cell (List.getD lo24 (0 + Int.toNat x27) default) 4), w3 := IV.toInt (IV.cell (List.getD lo24 (0 + Int.toNat x27) default) 5), twin := IV.toInt (IV.cell (List.getD lo24 (0 + Int.toNat x27) default) 6), spent := IV.toInt (IV.cell (List.getD lo24 (0 + Int.toNat x27) default) 7) }) ≤ strMax))
      (cond (decide (ByteArray.size (printB { kind := IV.toInt (IV.cell (List.getD lo24 (0 + Int.toNat x27) default) 0), proof := IV.toList (IV.cell (List.getD lo24 (0 + Int.toNat x27) default) 1), w0 := IV.toInt (IV.cell (List.getD lo24 (0 + Int.toNat x27) default) 2), w1 := IV.toInt (IV.cell (List.getD lo24 (0 + Int.toNat x27) default) 3), w2 := IV.toInt (IV.cell (List.getD lo24 (0 + Int.toNat x27) default) 4), w3 := IV.toInt (IV.cell (List.getD lo24 (0 + Int.toNat x27) default) 5), twin := IV.toInt (IV.cell (List.getD lo24 (0 + Int.toNat x27) default) 6), spent := IV.toInt (IV.cell (List.getD lo24 (0 + Int.toNat x27) default) 7) }) < 4294967281))
        (cond (decide (ByteArray.size (printB (readV (printB { kind := IV.toInt (IV.cell (List.getD lo24 (0 + Int.toNat x27) default) 0), proof := IV.toList (IV.cell (List.getD lo24 (0 + Int.toNat x27) default) 1), w0 := IV.toInt (IV.cell (List.getD lo24 (0 + Int.toNat x27) default) 2), w1 := IV.toInt (IV.cell (List.getD lo24 (0 + Int.toNat x27) default) 3), w2 := IV.toInt (IV.cell (List.getD lo24 (0 + Int.toNat x27) default) 4), w3 := IV.toInt (IV.cell (List.getD lo24 (0 + Int.toNat x27) default) 5), twin := IV.toInt (IV.cell (List.getD lo24 (0 + Int.toNat x27) default) 6), spent := IV.toInt (IV.cell (List.getD lo24 (0 + Int.toNat x27) default) 7) }))) ≤ strMax))
          (cond (!Vd.right { kind := IV.toInt (IV.cell (List.getD lo24 (0 + Int.toNat x27) default) 0), proof := IV.toList (IV.cell (List.getD lo24 (0 + Int.toNat x27) default) 1), w0 := IV.toInt (IV.cell (List.getD lo24 (0 + Int.toNat x27) default) 2), w1 := IV.toInt (IV.cell (List.getD lo24 (0 + Int.toNat x27) default) 3), w2 := IV.toInt (IV.cell (List.getD lo24 (0 + Int.toNat x27) default) 4), w3 := IV.toInt (IV.cell (List.getD lo24 (0 + Int.toNat x27) default) 5), twin := IV.toInt (IV.cell (List.getD lo24 (0 + Int.toNat x27) default) 6), spent := IV.toInt (IV.cell (List.getD lo24 (0 + Int.toNat x27) default) 7) })
            (k .ret ⟨[(0, (.int .i64 x0)), (4, (.bool false)), (5, (.int .i64 x5)), (6, (.row 24 0 n6)), (25, (.row 24 0 n25)), (26, (.int .i64 x26)), (27, (.int .i64 x27))], [(24, (some (.row true 28 true [(.int .i64), (.list true [.bool, (.int .i64), (.int .i64)]), (.int .i64), (.int .i64), (.int .i64), (.int .i64), (.int .i64), (.int .i64)] lo24)))]⟩)
            (cond (!parseOK (printB { kind := IV.toInt (IV.cell (List.getD lo24 (0 + Int.toNat x27) default) 0), proof := IV.toList (IV.cell (List.getD lo24 (0 + Int.toNat x27) default) 1), w0 := IV.toInt (IV.cell (List.getD lo24 (0 + Int.toNat x27) default) 2), w1 := IV.toInt (IV.cell (List.getD lo24 (0 + Int.toNat x27) default) 3), w2 := IV.toInt (IV.cell (List.getD lo24 (0 + Int.toNat x27) default) 4), w3 := IV.toInt (IV.cell (List.getD lo24 (0 + Int.toNat x27) default) 5), twin := IV.toInt (IV.cell (List.getD lo24 (0 + Int.toNat x27) default) 6), spent := IV.toInt (IV.cell (List.getD lo24 (0 + Int.toNat x27) default) 7) }))
              (k .ret ⟨[(0, (.int .i64 x0)), (4, (.bool false)), (5, (.int .i64 x5)), (6, (.row 24 0 n6)), (25, (.row 24 0 n25)), (26, (.int .i64 x26)), (27, (.int .i64 x27))], [(24, (some (.row true 28 true [(.int .i64), (.list true [.bool, (.int .i64), (.int .i64)]), (.int .i64), (.int .i64), (.int .i64), (.int .i64), (.int .i64), (.int .i64)] lo24)))]⟩)
              (cond (!vdEq { kind := Vd.kind (parseV (printB { kind := IV.toInt (IV.cell (List.getD lo24 (0 + Int.toNat x27) default) 0), proof := IV.toList (IV.cell (List.getD lo24 (0 + Int.toNat x27) default) 1), w0 := IV.toInt (IV.cell (List.getD lo24 (0 + Int.toNat x27) default) 2), w1 := IV.toInt (IV.cell (List.getD lo24 (0 + Int.toNat x27) default) 3), w2 := IV.toInt (IV.cell (List.getD lo24 (0 + Int.toNat x27) default) 4), w3 := IV.toInt (IV.cell (List.getD lo24 (0 + Int.toNat x27) default) 5), twin := IV.toInt (IV.cell (List.getD lo24 (0 + Int.toNat x27) default) 6), spent := IV.toInt (IV.cell (List.getD lo24 (0 + Int.toNat x27) default) 7) })), proof := Vd.proof (parseV (printB { kind := IV.toInt (IV.cell (List.getD lo24 (0 + Int.toNat x27) default) 0), proof := IV.toList (IV.cell (List.getD lo24 (0 + Int.toNat x27) default) 1), w0 := IV.toInt (IV.cell (List.getD lo24 (0 + Int.toNat x27) default) 2), w1 := IV.toInt (IV.cell (List.getD lo24 (0 + Int.toNat x27) default) 3), w2 := IV.toInt (IV.cell (List.getD lo24 (0 + Int.toNat x27) default) 4), w3 := IV.toInt (IV.cell (List.getD lo24 (0 + Int.toNat x27) default) 5), twin := IV.toInt (IV.cell (List.getD lo24 (0 + Int.toNat x27) default) 6), spent := IV.toInt (IV.cell (List.getD lo24 (0 + Int.toNat x27) default) 7) })), w0 := Vd.w0 (parseV (printB { kind := IV.toInt (IV.cell (List.getD lo24 (0 + Int.toNat x27) default) 0), proof := IV.toList (IV.cell (List.getD lo24 (0 + Int.toNat x27) default) 1), w0 := IV.toInt (IV.cell (List.getD lo24 (0 + Int.toNat x27) default) 2), w1 := IV.toInt (IV.cell (List.getD lo24 (0 + Int.toNat x27) default) 3), w2 := IV.toInt (IV.cell (List.getD lo24 (0 + Int.toNat x27) default) 4), w3 := IV.toInt (IV.cell (List.getD lo24 (0 + Int.toNat x27) default) 5), twin := IV.toInt (IV.cell (List.getD lo24 (0 + Int.toNat x27) default) 6), spent := IV.toInt (IV.cell (List.getD lo24 (0 + Int.toNat x27) default) 7) })), w1 := Vd.w1 (parseV (printB { kind := IV.toInt (IV.cell (List.getD lo24 (0 + Int.toNat x27) default) 0), proof := IV.toList (IV.cell (List.getD lo24 (0 + Int.toNat x27) default) 1), w0 := IV.toInt (IV.cell (List.getD lo24 (0 + Int.toNat x27) default) 2), w1 := IV.toInt (IV.cell (List.getD lo24 (0 + Int.toNat x27) default) 3), w2 := IV.toInt (IV.cell (List.getD lo24 (0 + Int.toNat x27) default) 4), w3 := IV.toInt (IV.cell (List.getD lo24 (0 + Int.toNat x27) default) 5), twin := IV.toInt (IV.cell (List.getD lo24 (0 + Int.toNat x27) default) 6), spent := IV.toInt (IV.cell (List.getD lo24 (0 + Int.toNat x27) default) 7) })), w2 := Vd.w2 (parseV (printB { kind := IV.toInt (IV.cell (List.getD lo24 (0 + Int.toNat x27) default) 0), proof := IV.toList (IV.cell (List.getD lo24 (0 + Int.toNat x27) default) 1), w0 := IV.toInt (IV.cell (List.getD lo24 (0 + Int.toNat x27) default) 2), w1 := IV.toInt (IV.cell (List.getD lo24 (0 + Int.toNat x27) default) 3), w2 := IV.toInt (IV.cell (List.getD lo24 (0 + Int.toNat x27) default) 4), w3 := IV.toInt (IV.cell (List.getD lo24 (0 + Int.toNat x27) default) 5), twin := IV.toInt (IV.cell (List.getD lo24 (0 + Int.toNat x27) default) 6), spent := IV.toInt (IV.cell (List.getD lo24 (0 + Int.toNat x27) default) 7) })), w3 := Vd.w3 (parseV (printB { kind := IV.toInt (IV.cell (List.getD lo24 (0 + Int.toNat x27) default) 0), proof := IV.toList (IV.cell (List.getD lo24 (0 + Int.toNat x27) default) 1), w0 := IV.toInt (IV.cell (List.getD lo24 (0 + Int.toNat x27) default) 2), w1 := IV.toInt (IV.cell (List.getD lo24 (0 + Int.toNat x27) default) 3), w2 := IV.toInt (IV.cell (List.getD lo24 (0 + Int.toNat x27) default) 4), w3 := IV.toInt (IV.cell (List.getD lo24 (0 + Int.toNat x27) default) 5), twin := IV.toInt (IV.cell (List.getD lo24 (0 + Int.toNat x27) default) 6), spent := IV.toInt (IV.cell (List.getD lo24 (0 + Int.toNat x27) default) 7) })), twin := Vd.twin (parseV (printB { kind := IV.toInt (IV.cell (List.getD lo24 (0 + Int.toNat x27) default) 0), proof := IV.toList (IV.cell (List.getD lo24 (0 + Int.toNat x27) default) 1), w0 := IV.toInt (IV.cell (List.getD lo24 (0 + Int.toNat x27) default) 2), w1 := IV.toInt (IV.cell (List.getD lo24 (0 + Int.toNat x27) default) 3), w2 := IV.toInt (IV.cell (List.getD lo24 (0 + Int.toNat x27) default) 4), w3 := IV.toInt (IV.cell (List.getD lo24 (0 + Int.toNat x27) default) 5), twin := IV.toInt (IV.cell (List.getD lo24 (0 + Int.toNat x27) default) 6), spent := IV.toInt (IV.cell (List.getD lo24 (0 + Int.toNat x27) default) 7) })), spent := Vd.spent (parseV (printB { kind := IV.toInt (IV.cell (List.getD lo24 (0 + Int.toNat x27) default) 0), proof := IV.toList (IV.cell (List.getD lo24 (0 + Int.toNat x27) default) 1), w0 := IV.toInt (IV.cell (List.getD lo24 (0 + Int.toNat x27) default) 2), w1 := IV.toInt (IV.cell (List.getD lo24 (0 + Int.toNat x27) default) 3), w2 := IV.toInt (IV.cell (List.getD lo24 (0 + Int.toNat x27) default) 4), w3 := IV.toInt (IV.cell (List.getD lo24 (0 + Int.toNat x27) default) 5), twin := IV.toInt (IV.cell (List.getD lo24 (0 + Int.toNat x27) default) 6), spent := IV.toInt (IV.cell (List.getD lo24 (0 + Int.toNat x27) default) 7) })) } { kind := IV.toInt (IV.cell (List.getD lo24 (0 + Int.toNat x27) default) 0), proof := IV.toList (IV.cell (List.getD lo24 (0 + Int.toNat x27) default) 1), w0 := IV.toInt (IV.cell (List.getD lo24 (0 + Int.toNat x27) default) 2), w1 := IV.toInt (IV.cell (List.getD lo24 (0 + Int.toNat x27) default) 3), w2 := IV.toInt (IV.cell (List.getD lo24 (0 + Int.toNat x27) default) 4), w3 := IV.toInt (IV.cell (List.getD lo24 (0 + Int.toNat x27) default) 5), twin := IV.toInt (IV.cell (List.getD lo24 (0 + Int.toNat x27) default) 6), spent := IV.toInt (IV.cell (List.getD lo24 (0 + Int.toNat x27) default) 7) })
                (k .ret ⟨[(0, (.int .i64 x0)), (4, (.bool false)), (5, (.int .i64 x5)), (6, (.row 24 0 n6)), (25, (.row 24 0 n25)), (26, (.int .i64 x26)), (27, (.int .i64 x27))], [(24, (some (.row true 28 true [(.int .i64), (.list true [.bool, (.int .i64), (.int .i64)]), (.int .i64), (.int .i64), (.int .i64), (.int .i64), (.int .i64), (.int .i64)] lo24)))]⟩)
                (again ⟨[(0, (.int .i64 x0)), (4, (.bool b4)), (5, (.int .i64 x5)), (6, (.row 24 0 n6)), (25, (.row 24 0 n25)), (26, (.int .i64 x26)), (27, (.int .i64 (IntKind.wrap IntKind.i64 (x27 + 1))))], [(24, (some (.row true 28 true [(.int .i64), (.list true [.bool, (.int .i64), (.int .i64)]), (.int .i64), (.int .i64), (.int .i64), (.int .i64), (.int .i64), (.int .i64)] lo24)))]⟩))))
          none)
        none)
      none)
    none)
  (k (.exit 0) ⟨[(0, (.int .i64 x0)), (4, (.bool b4)), (5, (.int .i64 x5)), (6, (.row 24 0 n6)), (25, (.row 24 0 n25)), (26, (.int .i64 x26)), (27, (.int .i64 x27))], [(24, (some (.row true 28 true [(.int .i64), (.list true [.bool, (.int .i64), (.int .i64)]), (.int .i64), (.int .i64), (.int .i64), (.int .i64), (.int .i64), (.int .i64)] lo24)))]⟩)) := by kernel_rfl

theorem ex_copselaw20_CertEdges_1_1 (N : Nat) (x0 : Int) (b4 : Bool) (x5 : Int) (n6 : Nat) (n25 : Nat) (x26 : Int) (x27 : Int) (lo24 : List IV) : (kBlock 0 (kSq (E_copselaw20_CertEdges N) (subC c_copselaw20_CertEdges [1, 1, 1, 1]) (outT (E_copselaw20_CertEdges N) none [(ResultVar.tmp 4)] [[.bool]]))) (.exit 0)
    ⟨[(0, (.int .i64 x0)), (4, (.bool b4)), (5, (.int .i64 x5)), (6, (.row 24 0 n6)), (25, (.row 24 0 n25)), (26, (.int .i64 x26)), (27, (.int .i64 x27))], [(24, (some (.row true 28 true [(.int .i64), (.list true [.bool, (.int .i64), (.int .i64)]), (.int .i64), (.int .i64), (.int .i64), (.int .i64), (.int .i64), (.int .i64)] lo24)))]⟩ =
  (cond (decide (0 ≤ withinZ x0 0 3) && decide (withinZ x0 0 3 < ic (n6 - 0)))
  (cond (withinZ (IntKind.wrap IntKind.i64 (Int.tdiv x0 4)) 0 4 == 0)
    (cond (!Vd.right { kind := IV.toInt (IV.cell (List.getD lo24 (0 + Int.toNat (withinZ x0 0 3)) default) 0), proof := IV.toList (IV.cell (List.getD lo24 (0 + Int.toNat (withinZ x0 0 3)) default) 1), w0 := IV.toInt (IV.cell (List.getD lo24 (0 + Int.toNat (withinZ x0 0 3)) default) 2), w1 := IV.toInt (IV.cell (List.getD lo24 (0 + Int.toNat (withinZ x0 0 3)) default) 3), w2 := IV.toInt (IV.cell (List.getD lo24 (0 + Int.toNat (withinZ x0 0 3)) default) 4), w3 := IV.toInt (IV.cell (List.getD lo24 (0 + Int.toNat (withinZ x0 0 3)) default) 5), twin := IV.toInt (IV.cell (List.getD lo24 (0 + Int.toNat (withinZ x0 0 3)) default) 6), spent := IntKind.wrap IntKind.i64 (65536 + x5) })
      (cond (decide (ByteArray.size (printB { kind := IV.toInt (IV.cell (List.getD lo24 (0 + Int.toNat (withinZ x0 0 3)) default) 0), proof := IV.toList (IV.cell (List.getD lo24 (0 + Int.toNat (withinZ x0 0 3)) default) 1), w0 := IV.toInt (IV.cell (List.getD lo24 (0 + Int.toNat (withinZ x0 0 3)) default) 2), w1 := IV.toInt (IV.cell (List.getD lo24 (0 + Int.toNat (withinZ x0 0 3)) default) 3), w2 := IV.toInt (IV.cell (List.getD lo24 (0 + Int.toNat (withinZ x0 0 3)) default) 4), w3 := IV.toInt (IV.cell (List.getD lo24 (0 + Int.toNat (withinZ x0 0 3)) default) 5), twin := IV.toInt (IV.cell (List.getD lo24 (0 + Int.toNat (withinZ x0 0 3)) default) 6), spent := IntKind.wrap IntKind.i64 (65536 + x5) }) ≤ strMax))
        (cond (ByteArray.toList (printB { kind := IV.toInt (IV.cell (List.getD lo24 (0 + Int.toNat (withinZ x0 0 3)) default) 0), proof := IV.toList (IV.cell (List.getD lo24 (0 + Int.toNat (withinZ x0 0 3)) default) 1), w0 := IV.toInt (IV.cell (List.getD lo24 (0 + Int.toNat (withinZ x0 0 3)) default) 2), w1 := IV.toInt (IV.cell (List.getD lo24 (0 + Int.toNat (withinZ x0 0 3)) default) 3), w2 := IV.toInt (IV.cell (List.getD lo24 (0 + Int.toNat (withinZ x0 0 3)) default) 4), w3 := IV.toInt (IV.cell (List.getD lo24 (0 + Int.toNat (withinZ x0 0 3)) default) 5), twin := IV.toInt (IV.cell (List.getD lo24 (0 + Int.toNat (withinZ x0 0 3)) default) 6), spent := IntKind.wrap IntKind.i64 (65536 + x5) }) == ByteArray.toList { data := #[] })
          (some ((.bool true), []))
          (some ((.bool false), [])))
        none)
      (some ((.bool false), [])))
    (cond (withinZ (IntKind.wrap IntKind.i64 (Int.tdiv x0 4)) 0 4 == 1)
      (cond (!Vd.right { kind := IV.toInt (IV.cell (List.getD lo24 (0 + Int.toNat (withinZ x0 0 3)) default) 0), proof := IV.toList (IV.cell (List.getD lo24 (0 + Int.toNat (withinZ x0 0 3)) default) 1), w0 := IV.toInt (IV.cell (List.getD lo24 (0 + Int.toNat (withinZ x0 0 3)) default) 2), w1 := IV.toInt (IV.cell (List.getD lo24 (0 + Int.toNat (withinZ x0 0 3)) default) 3), w2 := IV.toInt (IV.cell (List.getD lo24 (0 + Int.toNat (withinZ x0 0 3)) default) 4), w3 := IV.toInt (IV.cell (List.getD lo24 (0 + Int.toNat (withinZ x0 0 3)) default) 5), twin := IV.toInt (IV.cell (List.getD lo24 (0 + Int.toNat (withinZ x0 0 3)) default) 6), spent := IntKind.wrap IntKind.i64 (0 - x5) })
        (cond (decide (ByteArray.size (printB { kind := IV.toInt (IV.cell (List.getD lo24 (0 + Int.toNat (withinZ x0 0 3)) default) 0), proof := IV.toList (IV.cell (List.getD lo24 (0 + Int.toNat (withinZ x0 0 3)) default) 1), w0 := IV.toInt (IV.cell (List.getD lo24 (0 + Int.toNat (withinZ x0 0 3)) default) 2), w1 := IV.toInt (IV.cell (List.getD lo24 (0 + Int.toNat (withinZ x0 0 3)) default) 3), w2 := IV.toInt (IV.cell (List.getD lo24 (0 + Int.toNat (withinZ x0 0 3)) default) 4), w3 := IV.toInt (IV.cell (List.getD lo24 (0 + Int.toNat (withinZ x0 0 3)) default) 5), twin := IV.toInt (IV.cell (List.getD lo24 (0 + Int.toNat (withinZ x0 0 3)) default) 6), spent := IntKind.wrap IntKind.i64 (0 - x5) }) ≤ strMax))
          (cond (ByteArray.toList (printB { kind := IV.toInt (IV.cell (List.getD lo24 (0 + Int.toNat (withinZ x0 0 3)) default) 0), proof := IV.toList (IV.cell (List.getD lo24 (0 + Int.toNat (withinZ x0 0 3)) default) 1), w0 := IV.toInt (IV.cell (List.getD lo24 (0 + Int.toNat (withinZ x0 0 3)) default) 2), w1 := IV.toInt (IV.cell (List.getD lo24 (0 + Int.toNat (withinZ x0 0 3)) default) 3), w2 := IV.toInt (IV.cell (List.getD lo24 (0 + Int.toNat (withinZ x0 0 3)) default) 4), w3 := IV.toInt (IV.cell (List.getD lo24 (0 + Int.toNat (withinZ x0 0 3)) default) 5), twin := IV.toInt (IV.cell (List.getD lo24 (0 + Int.toNat (withinZ x0 0 3)) default) 6), spent := IntKind.wrap IntKind.i64 (0 - x5) }) == ByteArray.toList { data := #[] })
            (some ((.bool true), []))
            (some ((.bool false), [])))
          none)
        (some ((.bool false), [])))
      (cond (withinZ (IntKind.wrap IntKind.i64 (Int.tdiv x0 4)) 0 4 == 2)
        (cond (!Vd.right { kind := IntKind.wrap IntKind.i64 (4 + x5), proof := IV.toList (IV.cell (List.getD lo24 (0 + Int.toNat (withinZ x0 0 3)) default) 1), w0 := IV.toInt (IV.cell (List.getD lo24 (0 + Int.toNat (withinZ x0 0 3)) default) 2), w1 := IV.toInt (IV.cell (List.getD lo24 (0 + Int.toNat (withinZ x0 0 3)) default) 3), w2 := IV.toInt (IV.cell (List.getD lo24 (0 + Int.toNat (withinZ x0 0 3)) default) 4), w3 := IV.toInt (IV.cell (List.getD lo24 (0 + Int.toNat (withinZ x0 0 3)) default) 5), twin := IV.toInt (IV.cell (List.getD lo24 (0 + Int.toNat (withinZ x0 0 3)) default) 6), spent := IV.toInt (IV.cell (List.getD lo24 (0 + Int.toNat (withinZ x0 0 3)) default) 7) })
          (cond (decide (ByteArray.size (printB { kind := IntKind.wrap IntKind.i64 (4 + x5), proof := IV.toList (IV.cell (List.getD lo24 (0 + Int.toNat (withinZ x0 0 3)) default) 1), w0 := IV.toInt (IV.cell (List.getD lo24 (0 + Int.toNat (withinZ x0 0 3)) default) 2), w1 := IV.toInt (IV.cell (List.getD lo24 (0 + Int.toNat (withinZ x0 0 3)) default) 3), w2 := IV.toInt (IV.cell (List.getD lo24 (0 + Int.toNat (withinZ x0 0 3)) default) 4), w3 := IV.toInt (IV.cell (List.getD lo24 (0 + Int.toNat (withinZ x0 0 3)) default) 5), twin := IV.toInt (IV.cell (List.getD lo24 (0 + Int.toNat (withinZ x0 0 3)) default) 6), spent := IV.toInt (IV.cell (List.getD lo24 (0 + Int.toNat (withinZ x0 0 3)) default) 7) }) ≤ strMax))
            (cond (ByteArray.toList (printB { kind := IntKind.wrap IntKind.i64 (4 + x5), proof := IV.toList (IV.cell (List.getD lo24 (0 + Int.toNat (withinZ x0 0 3)) default) 1), w0 := IV.toInt (IV.cell (List.getD lo24 (0 + Int.toNat (withinZ x0 0 3)) default) 2), w1 := IV.toInt (IV.cell (List.getD lo24 (0 + Int.toNat (withinZ x0 0 3)) default) 3), w2 := IV.toInt (IV.cell (List.getD lo24 (0 + Int.toNat (withinZ x0 0 3)) default) 4), w3 := IV.toInt (IV.cell (List.getD lo24 (0 + Int.toNat (withinZ x0 0 3)) default) 5), twin := IV.toInt (IV.cell (List.getD lo24 (0 + Int.toNat (withinZ x0 0 3)) default) 6), spent := IV.toInt (IV.cell (List.getD lo24 (0 + Int.toNat (withinZ x0 0 3)) default) 7) }) == ByteArray.toList { data := #[] })
              (some ((.bool true), []))
              (some ((.bool false), [])))
            none)
          (some ((.bool false), [])))
        (cond (withinZ (IntKind.wrap IntKind.i64 (Int.tdiv x0 4)) 0 4 == 3)
          (cond (IV.toInt (IV.cell (List.getD lo24 (0 + Int.toNat (withinZ x0 0 3)) default) 0) == 1)
            (cond (!Vd.right { kind := IV.toInt (IV.cell (List.getD lo24 (0 + Int.toNat (withinZ x0 0 3)) default) 0), proof := [], w0 := IV.toInt (IV.cell (List.getD lo24 (0 + Int.toNat (withinZ x0 0 3)) default) 2), w1 := IV.toInt (IV.cell (List.getD lo24 (0 + Int.toNat (withinZ x0 0 3)) default) 3), w2 := IV.toInt (IV.cell (List.getD lo24 (0 + Int.toNat (withinZ x0 0 3)) default) 4), w3 := IV.toInt (IV.cell (List.getD lo24 (0 + Int.toNat (withinZ x0 0 3)) default) 5), twin := IV.toInt (IV.cell (List.getD lo24 (0 + Int.toNat (withinZ x0 0 3)) default) 6), spent := IV.toInt (IV.cell (List.getD lo24 (0 + Int.toNat (withinZ x0 0 3)) default) 7) })
              (cond (decide (ByteArray.size (printB { kind := IV.toInt (IV.cell (List.getD lo24 (0 + Int.toNat (withinZ x0 0 3)) default) 0), proof := [], w0 := IV.toInt (IV.cell (List.getD lo24 (0 + Int.toNat (withinZ x0 0 3)) default) 2), w1 := IV.toInt (IV.cell (List.getD lo24 (0 + Int.toNat (withinZ x0 0 3)) default) 3), w2 := IV.toInt (IV.cell (List.getD lo24 (0 + Int.toNat (withinZ x0 0 3)) default) 4), w3 := IV.toInt (IV.cell (List.getD lo24 (0 + Int.toNat (withinZ x0 0 3)) default) 5), twin := IV.toInt (IV.cell (List.getD lo24 (0 + Int.toNat (withinZ x0 0 3)) default) 6), spent := IV.toInt (IV.cell (List.getD lo24 (0 + Int.toNat (withinZ x0 0 3)) default) 7) }) ≤ strMax))
                (cond (ByteArray.toList (printB { kind := IV.toInt (IV.cell (List.getD lo24 (0 + Int.toNat (withinZ x0 0 3)) default) 0), proof := [], w0 := IV.toInt (IV.cell (List.getD lo24 (0 + Int.toNat (withinZ x0 0 3)) default) 2), w1 := IV.toInt (IV.cell (List.getD lo24 (0 + Int.toNat (withinZ x0 0 3)) default) 3), w2 := IV.toInt (IV.cell (List.getD lo24 (0 + Int.toNat (withinZ x0 0 3)) default) 4), w3 := IV.toInt (IV.cell (List.getD lo24 (0 + Int.toNat (withinZ x0 0 3)) default) 5), twin := IV.toInt (IV.cell (List.getD lo24 (0 + Int.toNat (withinZ x0 0 3)) default) 6), spent := IV.toInt (IV.cell (List.getD lo24 (0 + Int.toNat (withinZ x0 0 3)) default) 7) }) == ByteArray.toList { data := #[] })
                  (some ((.bool true), []))
                  (some ((.bool false), [])))
                none)
              (some ((.bool false), [])))
            (cond (!Vd.right { kind := IV.toInt (IV.cell (List.getD lo24 (0 + Int.toNat (withinZ x0 0 3)) default) 0), proof := List.drop 0 (List.take 1 [IV.agg [IV.bool true, IV.int 0, IV.int 0]]), w0 := IV.toInt (IV.cell (List.getD lo24 (0 + Int.toNat (withinZ x0 0 3)) default) 2), w1 := IV.toInt (IV.cell (List.getD lo24 (0 + Int.toNat (withinZ x0 0 3)) default) 3), w2 := IV.toInt (IV.cell (List.getD lo24 (0 + Int.toNat (withinZ x0 0 3)) default) 4), w3 := IV.toInt (IV.cell (List.getD lo24 (0 + Int.toNat (withinZ x0 0 3)) default) 5), twin := IV.toInt (IV.cell (List.getD lo24 (0 + Int.toNat (withinZ x0 0 3)) default) 6), spent := IV.toInt (IV.cell (List.getD lo24 (0 + Int.toNat (withinZ x0 0 3)) default) 7) })
              (cond (decide (ByteArray.size (printB { kind := IV.toInt (IV.cell (List.getD lo24 (0 + Int.toNat (withinZ x0 0 3)) default) 0), proof := List.drop 0 (List.take 1 [IV.agg [IV.bool true, IV.int 0, IV.int 0]]), w0 := IV.toInt (IV.cell (List.getD lo24 (0 + Int.toNat (withinZ x0 0 3)) default) 2), w1 := IV.toInt (IV.cell (List.getD lo24 (0 + Int.toNat (withinZ x0 0 3)) default) 3), w2 := IV.toInt (IV.cell (List.getD lo24 (0 + Int.toNat (withinZ x0 0 3)) default) 4), w3 := IV.toInt (IV.cell (List.getD lo24 (0 + Int.toNat (withinZ x0 0 3)) default) 5), twin := IV.toInt (IV.cell (List.getD lo24 (0 + Int.toNat (withinZ x0 0 3)) default) 6), spent := IV.toInt (IV.cell (List.getD lo24 (0 + Int.toNat (withinZ x0 0 3)) default) 7) }) ≤ strMax))
                (cond (ByteArray.toList (printB { kind := IV.toInt (IV.cell (List.getD lo24 (0 + Int.toNat (withinZ x0 0 3)) default) 0), proof := List.drop 0 (List.take 1 [IV.agg [IV.bool true, IV.int 0, IV.int 0]]), w0 := IV.toInt (IV.cell (List.getD lo24 (0 + Int.toNat (withinZ x0 0 3)) default) 2), w1 := IV.toInt (IV.cell (List.getD lo24 (0 + Int.toNat (withinZ x0 0 3)) default) 3), w2 := IV.toInt (IV.cell (List.getD lo24 (0 + Int.toNat (withinZ x0 0 3)) default) 4), w3 := IV.toInt (IV.cell (List.getD lo24 (0 + Int.toNat (withinZ x0 0 3)) default) 5), twin := IV.toInt (IV.cell (List.getD lo24 (0 + Int.toNat (withinZ x0 0 3)) default) 6), spent := IV.toInt (IV.cell (List.getD lo24 (0 + Int.toNat (withinZ x0 0 3)) default) 7) }) == ByteArray.toList { data := #[] })
                  (some ((.bool true), []))
                  (some ((.bool false), [])))
                none)
              (some ((.bool false), []))))
          (cond (IV.toInt (IV.cell (List.getD lo24 (0 + Int.toNat (withinZ x0 0 3)) default) 0) == 2)
            (cond (!Vd.right { kind := IV.toInt (IV.cell (List.getD lo24 (0 + Int.toNat (withinZ x0 0 3)) default) 0), proof := List.drop 0 (List.take 1 [IV.agg [IV.bool false, IV.int 0, IV.int 0]]), w0 := IV.toInt (IV.cell (List.getD lo24 (0 + Int.toNat (withinZ x0 0 3)) default) 2), w1 := IV.toInt (IV.cell (List.getD lo24 (0 + Int.toNat (withinZ x0 0 3)) default) 3), w2 := IV.toInt (IV.cell (List.getD lo24 (0 + Int.toNat (withinZ x0 0 3)) default) 4), w3 := IV.toInt (IV.cell (List.getD lo24 (0 + Int.toNat (withinZ x0 0 3)) default) 5), twin := IV.toInt (IV.cell (List.getD lo24 (0 + Int.toNat (withinZ x0 0 3)) default) 6), spent := IV.toInt (IV.cell (List.getD lo24 (0 + Int.toNat (withinZ x0 0 3)) default) 7) })
              (cond (decide (ByteArray.size (printB { kind := IV.toInt (IV.cell (List.getD lo24 (0 + Int.toNat (withinZ x0 0 3)) default) 0), proof := List.drop 0 (List.take 1 [IV.agg [IV.bool false, IV.int 0, IV.int 0]]), w0 := IV.toInt (IV.cell (List.getD lo24 (0 + Int.toNat (withinZ x0 0 3)) default) 2), w1 := IV.toInt (IV.cell (List.getD lo24 (0 + Int.toNat (withinZ x0 0 3)) default) 3), w2 := IV.toInt (IV.cell (List.getD lo24 (0 + Int.toNat (withinZ x0 0 3)) default) 4), w3 := IV.toInt (IV.cell (List.getD lo24 (0 + Int.toNat (withinZ x0 0 3)) default) 5), twin := IV.toInt (IV.cell (List.getD lo24 (0 + Int.toNat (withinZ x0 0 3)) default) 6), spent := IV.toInt (IV.cell (List.getD lo24 (0 + Int.toNat (withinZ x0 0 3)) default) 7) }) ≤ strMax))
                (cond (ByteArray.toList (printB { kind := IV.toInt (IV.cell (List.getD lo24 (0 + Int.toNat (withinZ x0 0 3)) default) 0), proof := List.drop 0 (List.take 1 [IV.agg [IV.bool false, IV.int 0, IV.int 0]]), w0 := IV.toInt (IV.cell (List.getD lo24 (0 + Int.toNat (withinZ x0 0 3)) default) 2), w1 := IV.toInt (IV.cell (List.getD lo24 (0 + Int.toNat (withinZ x0 0 3)) default) 3), w2 := IV.toInt (IV.cell (List.getD lo24 (0 + Int.toNat (withinZ x0 0 3)) default) 4), w3 := IV.toInt (IV.cell (List.getD lo24 (0 + Int.toNat (withinZ x0 0 3)) default) 5), twin := IV.toInt (IV.cell (List.getD lo24 (0 + Int.toNat (withinZ x0 0 3)) default) 6), spent := IV.toInt (IV.cell (List.getD lo24 (0 + Int.toNat (withinZ x0 0 3)) default) 7) }) == ByteArray.toList { data := #[] })
                  (some ((.bool true), []))
                  (some ((.bool false), [])))
                none)
              (some ((.bool false), [])))
            (cond (!Vd.right { kind := IV.toInt (IV.cell (List.getD lo24 (0 + Int.toNat (withinZ x0 0 3)) default) 0), proof := IV.toList (IV.cell (List.getD lo24 (0 + Int.toNat (withinZ x0 0 3)) default) 1), w0 := IV.toInt (IV.cell (List.getD lo24 (0 + Int.toNat (withinZ x0 0 3)) default) 2), w1 := IV.toInt (IV.cell (List.getD lo24 (0 + Int.toNat (withinZ x0 0 3)) default) 3), w2 := IV.toInt (IV.cell (List.getD lo24 (0 + Int.toNat (withinZ x0 0 3)) default) 4), w3 := IV.toInt (IV.cell (List.getD lo24 (0 + Int.toNat (withinZ x0 0 3)) default) 5), twin := x5, spent := IV.toInt (IV.cell (List.getD lo24 (0 + Int.toNat (withinZ x0 0 3)) default) 7) })
              (cond (decide (ByteArray.size (printB { kind := IV.toInt (IV.cell (List.getD lo24 (0 + Int.toNat (withinZ x0 0 3)) default) 0), proof := IV.toList (IV.cell (List.getD lo24 (0 + Int.toNat (withinZ x0 0 3)) default) 1), w0 := IV.toInt (IV.cell (List.getD lo24 (0 + Int.toNat (withinZ x0 0 3)) default) 2), w1 := IV.toInt (IV.cell (List.getD lo24 (0 + Int.toNat (withinZ x0 0 3)) default) 3), w2 := IV.toInt (IV.cell (List.getD lo24 (0 + Int.toNat (withinZ x0 0 3)) default) 4), w3 := IV.toInt (IV.cell (List.getD lo24 (0 + Int.toNat (withinZ x0 0 3)) default) 5), twin := x5, spent := IV.toInt (IV.cell (List.getD lo24 (0 + Int.toNat (withinZ x0 0 3)) default) 7) }) ≤ strMax))
                (cond (ByteArray.toList (printB { kind := IV.toInt (IV.cell (List.getD lo24 (0 + Int.toNat (withinZ x0 0 3)) default) 0), proof := IV.toList (IV.cell (List.getD lo24 (0 + Int.toNat (withinZ x0 0 3)) default) 1), w0 := IV.toInt (IV.cell (List.getD lo24 (0 + Int.toNat (withinZ x0 0 3)) default) 2), w1 := IV.toInt (IV.cell (List.getD lo24 (0 + Int.toNat (withinZ x0 0 3)) default) 3), w2 := IV.toInt (IV.cell (List.getD lo24 (0 + Int.toNat (withinZ x0 0 3)) default) 4), w3 := IV.toInt (IV.cell (List.getD lo24 (0 + Int.toNat (withinZ x0 0 3)) default) 5), twin := x5, spent := IV.toInt (IV.cell (List.getD lo24 (0 + Int.toNat (withinZ x0 0 3)) default) 7) }) == ByteArray.toList { data := #[] })
                  (some ((.bool true), []))
                  (some ((.bool false), [])))
                none)
              (some ((.bool false), []))))))))
  none) := by kernel_rfl

theorem ex_copselaw20_CertEdges_1_2 (N : Nat) (x0 : Int) (b4 : Bool) (x5 : Int) (n6 : Nat) (n25 : Nat) (x26 : Int) (x27 : Int) (lo24 : List IV) : (kBlock 0 (kSq (E_copselaw20_CertEdges N) (subC c_copselaw20_CertEdges [1, 1, 1, 1]) (outT (E_copselaw20_CertEdges N) none [(ResultVar.tmp 4)] [[.bool]]))) .ret
    ⟨[(0, (.int .i64 x0)), (4, (.bool b4)), (5, (.int .i64 x5)), (6, (.row 24 0 n6)), (25, (.row 24 0 n25)), (26, (.int .i64 x26)), (27, (.int .i64 x27))], [(24, (some (.row true 28 true [(.int .i64), (.list true [.bool, (.int .i64), (.int .i64)]), (.int .i64), (.int .i64), (.int .i64), (.int .i64), (.int .i64), (.int .i64)] lo24)))]⟩ =
  (some ((.bool b4), [])) := by kernel_rfl

end Go.FM

/-
  cert's LAWS COME TO WHAT IS SAID: CertEdges.
-/
namespace Go.FM
open Go Go.Proofs

abbrev edgeG : List IV := [(IV.agg [IV.int 1, IV.list (List.drop 0 (List.take 3 [IV.agg [IV.bool false, IV.int 4, IV.int (-9223372036854775808)], IV.agg [IV.bool true, IV.int 0, IV.int 0], IV.agg [IV.bool true, IV.int 0, IV.int 0]])), IV.int 0, IV.int 0, IV.int 0, IV.int 0, IV.int 0, IV.int 65536]), (IV.agg [IV.int 2, IV.list [], IV.int 9223372036854775807, IV.int (-9223372036854775808), IV.int 0, IV.int 0, IV.int (-9223372036854775808), IV.int 0]), (IV.agg [IV.int 3, IV.list [], IV.int 0, IV.int 0, IV.int 0, IV.int 0, IV.int 0, IV.int 5]), (IV.agg [IV.int 4, IV.list [], IV.int 0, IV.int 0, IV.int 0, IV.int 0, IV.int 0, IV.int 0])]
def vdOf (x : IV) : Vd := ⟨(x.cell 0).toInt, (x.cell 1).toList, (x.cell 2).toInt, (x.cell 3).toInt, (x.cell 4).toInt, (x.cell 5).toInt, (x.cell 6).toInt, (x.cell 7).toInt⟩

theorem edge_rng (i : Nat) (h : i < 4) : (vdOf (edgeG.getD (0 + (i : Int).toNat) default)).rng ∧ (vdOf (edgeG.getD (0 + (i : Int).toNat) default)).right = true := by
  have big : ∀ n : Int, (decide (-9223372036854775808 ≤ n) && decide (n ≤ 9223372036854775807)) = true → i64In n := fun n h => by simpa [i64In] using h
  match i, h with
  | 0, _ =>
    refine ⟨⟨big _ rfl, big _ rfl, big _ rfl, big _ rfl, big _ rfl, big _ rfl, fun x hx => ?_⟩, rfl⟩
    have hx : x ∈ [IV.agg [IV.bool false, IV.int 4, IV.int (-9223372036854775808)], IV.agg [IV.bool true, IV.int 0, IV.int 0], IV.agg [IV.bool true, IV.int 0, IV.int 0]] := hx
    simp only [List.mem_cons, List.mem_nil_iff, or_false] at hx
    rcases hx with rfl | rfl | rfl
    · exact ⟨big _ rfl, big _ rfl⟩
    · exact ⟨big _ rfl, big _ rfl⟩
    · exact ⟨big _ rfl, big _ rfl⟩
  | 1, _ => exact ⟨⟨big _ rfl, big _ rfl, big _ rfl, big _ rfl, big _ rfl, big _ rfl, fun x hx => by cases hx⟩, rfl⟩
  | 2, _ => exact ⟨⟨big _ rfl, big _ rfl, big _ rfl, big _ rfl, big _ rfl, big _ rfl, fun x hx => by cases hx⟩, rfl⟩
  | 3, _ => exact ⟨⟨big _ rfl, big _ rfl, big _ rfl, big _ rfl, big _ rfl, big _ rfl, fun x hx => by cases hx⟩, rfl⟩

theorem edges_round (N : Nat) (x0 x5 : Int) (b4 : Bool) (K : Out → St → Res) (i n : Nat) (hi : i < 4) :
    lpE (E_copselaw20_CertEdges N) (subC c_copselaw20_CertEdges [1, 1, 1, 0, 1, 0, 0]) ⟨[0, 4, 5, 6, 25, 26, 27], [24], []⟩ (n + 1) ⟨[(0, (.int .i64 x0)), (4, (.bool b4)), (5, (.int .i64 x5)), (6, (.row 24 0 4)), (25, (.row 24 0 4)), (26, (.int .i64 (ic 4))), (27, (.int .i64 (i : Int)))], [(24, (some (.row true 28 true [(.int .i64), (.list true [.bool, (.int .i64), (.int .i64)]), (.int .i64), (.int .i64), (.int .i64), (.int .i64), (.int .i64), (.int .i64)] edgeG)))]⟩ K =
    lpE (E_copselaw20_CertEdges N) (subC c_copselaw20_CertEdges [1, 1, 1, 0, 1, 0, 0]) ⟨[0, 4, 5, 6, 25, 26, 27], [24], []⟩ n ⟨[(0, (.int .i64 x0)), (4, (.bool b4)), (5, (.int .i64 x5)), (6, (.row 24 0 4)), (25, (.row 24 0 4)), (26, (.int .i64 (ic 4))), (27, (.int .i64 ((i + 1 : Nat) : Int)))], [(24, (some (.row true 28 true [(.int .i64), (.list true [.bool, (.int .i64), (.int .i64)]), (.int .i64), (.int .i64), (.int .i64), (.int .i64), (.int .i64), (.int .i64)] edgeG)))]⟩ K := by
  rw [lpE_succ, st_copselaw20_CertEdges_1]
  obtain ⟨hv, hr⟩ := edge_rng i hi
  have hA : (⟨IV.toInt (IV.cell (List.getD edgeG (0 + Int.toNat (i : Int)) default) 0), IV.toList (IV.cell (List.getD edgeG (0 + Int.toNat (i : Int)) default) 1), IV.toInt (IV.cell (List.getD edgeG (0 + Int.toNat (i : Int)) default) 2), IV.toInt (IV.cell (List.getD edgeG (0 + Int.toNat (i : Int)) default) 3), IV.toInt (IV.cell (List.getD edgeG (0 + Int.toNat (i : Int)) default) 4), IV.toInt (IV.cell (List.getD edgeG (0 + Int.toNat (i : Int)) default) 5), IV.toInt (IV.cell (List.getD edgeG (0 + Int.toNat (i : Int)) default) 6), IV.toInt (IV.cell (List.getD edgeG (0 + Int.toNat (i : Int)) default) 7)⟩ : Vd) = vdOf (List.getD edgeG (0 + Int.toNat (i : Int)) default) := rfl
  rw [hA]
  generalize vdOf (List.getD edgeG (0 + Int.toNat (i : Int)) default) = A at hv hr ⊢
  have e4 : (4 - 0 : Nat) = 4 := rfl
  rw [e4, int_lt hi, idx_0, succ_w (by omega), sz_max hv, sz_4g hv, sz_max (readV_rng (printB A)), hr, parse_print hv, hr]
  have hpv : parseV (printB A) = readV (printB A) := by unfold parseV; rw [parse_print hv, hr]; rfl
  have hve := vdEq_iff.2 (read_print hr hv)
  simp only [condT, condF, Bool.not_true, Bool.and_self, hpv, hve]

def edgeLeaf (B : Vd) : Res := cond (!Vd.right B) (cond (decide (ByteArray.size (printB B) ≤ strMax)) (cond (ByteArray.toList (printB B) == ByteArray.toList { data := #[] }) (some ((.bool true), [])) (some ((.bool false), []))) none) (some ((.bool false), []))
theorem edge_leaf {B : Vd} (h : B.right = false) : edgeLeaf B = some (.bool true, []) := by
  unfold edgeLeaf
  rw [h, printB_wrong h]
  have e : decide (ByteArray.size w_none ≤ strMax) = true := by decide
  rw [e]
  simp only [Bool.not_false, condT, beq_self_eq_true]

theorem edge_kind (i : Nat) (h : i < 4) : (vdOf (edgeG.getD (0 + (i : Int).toNat) default)).kind = (i : Int) + 1 := by
  match i, h with
  | 0, _ => rfl
  | 1, _ => rfl
  | 2, _ => rfl
  | 3, _ => rfl

theorem edges_tail (N : Nat) (x0 x5 x27 : Int) (b4 : Bool) (h1 : 1 ≤ x5) (h2 : x5 ≤ 1099511627777) : (kBlock 0 (kSq (E_copselaw20_CertEdges N) (subC c_copselaw20_CertEdges [1, 1, 1, 1]) (outT (E_copselaw20_CertEdges N) none [(ResultVar.tmp 4)] [[.bool]]))) (.exit 0)
    ⟨[(0, (.int .i64 x0)), (4, (.bool b4)), (5, (.int .i64 x5)), (6, (.row 24 0 4)), (25, (.row 24 0 4)), (26, (.int .i64 (ic 4))), (27, (.int .i64 x27))], [(24, (some (.row true 28 true [(.int .i64), (.list true [.bool, (.int .i64), (.int .i64)]), (.int .i64), (.int .i64), (.int .i64), (.int .i64), (.int .i64), (.int .i64)] edgeG)))]⟩ = some (.bool true, []) := by
  refine (ex_copselaw20_CertEdges_1_1 N x0 b4 x5 4 4 (ic 4) x27 edgeG).trans ?_
  obtain ⟨_, k0, k1⟩ := within_in (n := x0) (lo := 0) (hi := 3) (by decide) (by decide) (by decide)
  generalize withinZ x0 0 3 = K at k0 k1 ⊢
  generalize withinZ (IntKind.wrap IntKind.i64 (Int.tdiv x0 4)) 0 4 = J
  obtain ⟨i, rfl⟩ : ∃ i : Nat, K = i := ⟨K.toNat, by omega⟩
  have hi : i < 4 := by omega
  obtain ⟨hv, hr⟩ := edge_rng i hi
  have hk := edge_kind i hi
  have d1 : decide (0 ≤ (i : Int)) = true := decide_eq_true (by omega)
  have d2 : decide ((i : Int) < ic (4 - 0)) = true := decide_eq_true (by simp only [ic]; omega)
  rw [d1, d2]
  simp only [Bool.and_self, cond_true]
  generalize (List.getD edgeG (0 + Int.toNat (i : Int)) default) = G at hv hr hk ⊢
  have hk' : IV.toInt (IV.cell G 0) = (i : Int) + 1 := hk
  have w1 : IntKind.wrap IntKind.i64 (65536 + x5) = 65536 + x5 := wrap_id (by omega) (by omega)
  have w2 : IntKind.wrap IntKind.i64 (0 - x5) = 0 - x5 := wrap_id (by omega) (by omega)
  have w3 : IntKind.wrap IntKind.i64 (4 + x5) = 4 + x5 := wrap_id (by omega) (by omega)
  rw [w1, w2, w3]
  have L0 := edge_leaf (B := ⟨IV.toInt (IV.cell G 0), IV.toList (IV.cell G 1), IV.toInt (IV.cell G 2), IV.toInt (IV.cell G 3), IV.toInt (IV.cell G 4), IV.toInt (IV.cell G 5), IV.toInt (IV.cell G 6), 65536 + x5⟩) (by
    unfold Vd.right
    simp only [decide_eq_false (show ¬ (65536 + x5 ≤ 65536) by omega), Bool.false_and, Bool.and_false])
  have L1 := edge_leaf (B := ⟨IV.toInt (IV.cell G 0), IV.toList (IV.cell G 1), IV.toInt (IV.cell G 2), IV.toInt (IV.cell G 3), IV.toInt (IV.cell G 4), IV.toInt (IV.cell G 5), IV.toInt (IV.cell G 6), 0 - x5⟩) (by
    unfold Vd.right
    simp only [decide_eq_false (show ¬ (0 ≤ 0 - x5) by omega), Bool.false_and])
  have L2 := edge_leaf (B := ⟨4 + x5, IV.toList (IV.cell G 1), IV.toInt (IV.cell G 2), IV.toInt (IV.cell G 3), IV.toInt (IV.cell G 4), IV.toInt (IV.cell G 5), IV.toInt (IV.cell G 6), IV.toInt (IV.cell G 7)⟩) (by
    unfold Vd.right
    simp only [beq_eq_false_iff_ne.2 (show 4 + x5 ≠ 1 by omega), beq_eq_false_iff_ne.2 (show 4 + x5 ≠ 2 by omega), beq_eq_false_iff_ne.2 (show 4 + x5 ≠ 3 by omega), beq_eq_false_iff_ne.2 (show 4 + x5 ≠ 4 by omega), Bool.false_and, Bool.or_false, Bool.and_false])
  unfold edgeLeaf at L0 L1 L2
  rw [L0, L1, L2]
  cases J == 0 <;> cases J == 1 <;> cases J == 2 <;> simp only [cond_true, cond_false]
  cases J == 3 with
  | true =>
    simp only [cond_true]
    cases hk1 : IV.toInt (IV.cell G 0) == 1 with
    | true =>
      simp only [cond_true]
      refine edge_leaf ?_
      have hk1 : IV.toInt (IV.cell G 0) = 1 := by simpa using hk1
      unfold Vd.right stepsB
      simp only [hk1]
      have e1 : ((1 : Int) == 2) = false := rfl
      have e2 : ((1 : Int) == 3) = false := rfl
      have e3 : ((1 : Int) == 4) = false := rfl
      have e4 : decide (1 ≤ ([] : List IV).length) = false := rfl
      simp only [e1, e2, e3, e4, Bool.false_and, Bool.or_false, Bool.and_false]
    | false =>
      simp only [cond_false]
      refine edge_leaf ?_
      unfold Vd.right
      have e4 : (List.drop 0 (List.take 1 [IV.agg [IV.bool true, IV.int 0, IV.int 0]])).isEmpty = false := rfl
      simp only [hk1, e4, Bool.false_and, Bool.or_false, Bool.and_false]
  | false =>
    simp only [cond_false]
    cases hk2 : IV.toInt (IV.cell G 0) == 2 with
    | true =>
      simp only [cond_true]
      refine edge_leaf ?_
      have hk2 : IV.toInt (IV.cell G 0) = 2 := by simpa using hk2
      unfold Vd.right
      have e4 : (List.drop 0 (List.take 1 [IV.agg [IV.bool false, IV.int 0, IV.int 0]])).isEmpty = false := rfl
      have e1 : ((2 : Int) == 1) = false := rfl
      simp only [hk2, e1, e4, Bool.false_and, Bool.or_false, Bool.and_false]
    | false =>
      simp only [cond_false]
      refine edge_leaf ?_
      unfold Vd.right Vd.bare
      simp only [hk2, beq_eq_false_iff_ne.2 (show x5 ≠ 0 by omega), Bool.false_and, Bool.or_false, Bool.and_false]

theorem snd_copselaw20_CertEdges : SndR PR B0 6 S_copselaw20_CertEdges := by
  refine snd_mk [(3, S_copselaw20_CertRuns), (8, S_cert_Parse), (9, S_cert_Print), (10, S_copsekeep_Verdicts), (12, S_cert_Right), (13, S_copsebook_Within)] [(4, ⟨[0, 4, 5, 6, 25, 26, 27], [24], []⟩)] S_copselaw20_CertEdges [[.bool]] Tryd.func6 h_copselaw20_CertEdges ⟨snd_copselaw20_CertRuns, snd_cert_Parse, snd_cert_Print, snd_copsekeep_Verdicts, snd_cert_Right, snd_copsebook_Within, trivial⟩ ?_
  intro vs r hwf h
  unfold S_copselaw20_CertEdges at h
  split at h
  · rename_i what a1
    refine ⟨5, ?_⟩
    rw [← h]
    refine (nf_copselaw20_CertEdges 5 what a1).trans ?_
    obtain ⟨_, k0, k1⟩ := within_in (n := a1) (lo := 0) (hi := 1099511627776) (by decide) (by decide) (by decide)
    have w : IntKind.wrap IntKind.i64 (1 + withinZ a1 0 1099511627776) = 1 + withinZ a1 0 1099511627776 := wrap_id (by omega) (by omega)
    rw [w]
    generalize withinZ a1 0 1099511627776 = y at k0 k1 ⊢
    refine (edges_round 5 what _ false _ 0 4 (by decide)).trans ((edges_round 5 what _ false _ 1 3 (by decide)).trans ((edges_round 5 what _ false _ 2 2 (by decide)).trans ((edges_round 5 what _ false _ 3 1 (by decide)).trans ?_)))
    rw [lpE_succ, st_copselaw20_CertEdges_1]
    have d : decide (((3 + 1 : Nat) : Int) < ic 4) = false := by decide
    rw [d]
    rw [condF]
    exact edges_tail 5 what (1 + y) _ false (by omega) (by omega)
  · simp [R.get] at h

end Go.FM
