/-
  ask, in plain Lean: a query that has a text comes back out of it, what is parsed is printed just so; and with that: the laws of chapter 11 come to true; no conditions beyond what each argument keeps.
-/
import Derived.Test.YtkjnomibkdbcoaaDoorDfn
import Derived.Test.YtkjnomibkdbcoaaDoorDlw
import Derived.Test.YtkjnomibkdbcoaaDoorAfn
import Derived.Test.YtkjnomibkdbcoaaDoorAfr

/-
  ask's PLAIN LAWS: a query's text is parsed to the query. Of no program.
-/
namespace Go.FM
open Go

/-! ### words put together, and taken apart -/
theorem join_two (x y : List UInt8) (r : List (List UInt8)) : Lib.join (x :: y :: r) [32] = x ++ 32 :: Lib.join (y :: r) [32] := by
  rw [Lib.join_cons, Lib.join_cons]
  simp [Lib.joinTail]
theorem split_join : ∀ (x : List UInt8) (r : List (List UInt8)), (∀ w ∈ x :: r, (32 : UInt8) ∉ w) → Lib.split (Lib.join (x :: r) [32]) [32] = x :: r
  | x, [], h => by rw [Lib.join_one]; exact split_no x 32 (h x (List.mem_cons_self ..))
  | x, y :: r, h => by
    rw [join_two, split_at x _ 32 (h x (List.mem_cons_self ..)), split_join y r (fun w hw => h w (List.mem_cons_of_mem _ hw))]
theorem map_data_inj : ∀ {l m : List ByteArray}, l.map (·.data.toList) = m.map (·.data.toList) → l = m
  | [], [], _ => rfl
  | [], _ :: _, h => by simp at h
  | _ :: _, [], h => by simp at h
  | x :: l, y :: m, h => by
    simp only [List.map_cons, List.cons.injEq] at h
    rw [bytes_ext h.1, map_data_inj h.2]
theorem line_join (ws : List ByteArray) (h0 : ws ≠ []) (h : ∀ w ∈ ws, (32 : UInt8) ∉ w.data.toList) : lineW (joinB ws w_space) = ws.map IV.str := by
  unfold lineW
  congr 1
  apply map_data_inj
  rw [splitL_data]
  cases ws with
  | nil => exact absurd rfl h0
  | cons x r =>
    show Lib.split (Lib.join ((x :: r).map (·.data.toList)) [32]) [32] = _
    rw [List.map_cons]
    exact split_join _ _ (fun w hw => by
      rcases List.mem_cons.1 hw with rfl | hw
      · exact h x (List.mem_cons_self ..)
      · obtain ⟨y, hy, rfl⟩ := List.mem_map.1 hw
        exact h y (List.mem_cons_of_mem _ hy))

/-! ### numbers' bytes -/
theorem sizeL_ch (u : Nat) : ∀ c ∈ sizeL u, c.toNat = 46 ∨ (48 ≤ c.toNat ∧ c.toNat ≤ 57) := by
  intro c hc
  rw [sizeL_eq] at hc
  rcases List.mem_append.1 hc with h | h
  · exact .inr (decDigits_ch _ c h)
  · split at h
    · cases h
    · rename_i h0
      rcases List.mem_cons.1 h with rfl | h
      · exact .inl rfl
      · exact .inr ((decs_ok h0 (by omega : u % 256 < 256)).2.1 c h)
theorem printL_ch (n : Int) : ∀ c ∈ printL n, 45 ≤ c.toNat ∧ c.toNat ≤ 57 := by
  intro c hc
  unfold printL at hc
  split at hc
  · rcases List.mem_cons.1 hc with rfl | h
    · exact ⟨by decide, by decide⟩
    · have := sizeL_ch _ c h
      omega
  · have := sizeL_ch _ c hc
    omega
theorem itoa_lt (n : Int) : ∀ c ∈ Lib.itoa n, 45 ≤ c.toNat ∧ c.toNat ≤ 57 := by
  intro c hc
  have := itoa_ch n c hc
  omega
theorem itoa_ne (n : Int) : Lib.itoa n ≠ [] := by
  unfold Lib.itoa
  split
  · simp
  · exact decDigits_ne _
theorem no32 {l : List UInt8} (h : ∀ c ∈ l, 45 ≤ c.toNat ∧ c.toNat ≤ 57) : (32 : UInt8) ∉ l := fun hc => by
  have := (h _ hc).1
  revert this
  decide
theorem beq_no {x y : ByteArray} (h : x ≠ y) : (x.toList == y.toList) = false := by rw [bytes_beq]; exact decide_eq_false h
theorem beq_yes (x : ByteArray) : (x.toList == x.toList) = true := by simp
/-- A word of letters is no number's. -/
theorem ne_num {w x : ByteArray} (hw : ∀ c ∈ w.data.toList, 97 ≤ c.toNat) (hx : x.data.toList ≠ []) (h : ∀ c ∈ x.data.toList, 45 ≤ c.toNat ∧ c.toNat ≤ 57) : (w.toList == x.toList) = false := by
  refine beq_no (fun e => ?_)
  subst e
  cases hl : w.data.toList with
  | nil => exact hx hl
  | cons c r =>
    have h1 := hw c (by rw [hl]; exact List.mem_cons_self ..)
    have h2 := h c (by rw [hl]; exact List.mem_cons_self ..)
    omega

/-! ### two points -/
def noDD : List UInt8 → Bool
  | [] => true
  | [c] => !(c == 46)
  | a :: b :: r => !(a == 46 && b == 46) && noDD (b :: r)
theorem noDD_plain : ∀ {l : List UInt8}, (∀ c ∈ l, c ≠ 46) → noDD l = true
  | [], _ => rfl
  | [c], h => by simp [noDD, h c (List.mem_cons_self ..)]
  | a :: b :: r, h => by
    have ha := h a (List.mem_cons_self ..)
    have e : (a == 46) = false := beq_eq_false_iff_ne.2 ha
    simp only [noDD, e, Bool.false_and, Bool.not_false, Bool.true_and]
    exact noDD_plain (fun c hc => h c (List.mem_cons_of_mem _ hc))
theorem noDD_app : ∀ {l : List UInt8} {c : UInt8} {r : List UInt8}, (∀ c ∈ l, c ≠ 46) → c ≠ 46 → noDD (c :: r) = true → noDD (l ++ 46 :: c :: r) = true
  | [], c, r, _, hc, hr => by
    have e : (c == 46) = false := beq_eq_false_iff_ne.2 hc
    simp only [List.nil_append, noDD, e, Bool.and_false, Bool.not_false, Bool.true_and, hr]
  | [a], c, r, h, hc, hr => by
    have e : (a == 46) = false := beq_eq_false_iff_ne.2 (h a (List.mem_cons_self ..))
    have := noDD_app (l := []) (fun c hc => by cases hc) hc hr
    simp only [List.nil_append] at this
    simp only [List.cons_append, List.nil_append, noDD, e, Bool.false_and, Bool.not_false, Bool.true_and]
    simpa only [noDD] using this
  | a :: b :: l, c, r, h, hc, hr => by
    have e : (a == 46) = false := beq_eq_false_iff_ne.2 (h a (List.mem_cons_self ..))
    have := noDD_app (l := b :: l) (fun c hc => h c (List.mem_cons_of_mem _ hc)) hc hr
    simp only [List.cons_append] at this ⊢
    simp only [noDD, e, Bool.false_and, Bool.not_false, Bool.true_and]
    exact this
theorem index_dots : ∀ (w r : List UInt8), noDD w = true → Lib.index (w ++ 46 :: 46 :: r) [46, 46] = w.length
  | [], r, _ => by simp [Lib.index, List.isPrefixOf]
  | [c], r, h => by
    have e : (c == 46) = false := by simpa [noDD] using h
    have e' : ((46 : UInt8) == c) = false := by rw [beq_eq_false_iff_ne] at e ⊢; exact fun h => e h.symm
    have h0 := index_dots [] r rfl
    simp only [List.nil_append, List.length_nil] at h0
    rw [List.singleton_append, Lib.index, h0]
    simp [List.isPrefixOf, e']
  | a :: b :: l, r, h => by
    simp only [noDD, Bool.and_eq_true] at h
    have ih := index_dots (b :: l) r h.2
    have e : [(46 : UInt8), 46].isPrefixOf (a :: b :: l ++ 46 :: 46 :: r) = false := by
      simp only [List.cons_append, List.isPrefixOf, Bool.and_true]
      have h1 := h.1
      cases ha : (a == 46) with
      | false =>
        have : ((46 : UInt8) == a) = false := by rw [beq_eq_false_iff_ne] at ha ⊢; exact fun h => ha h.symm
        rw [this, Bool.false_and]
      | true =>
        rw [ha, Bool.true_and] at h1
        have hb : (b == 46) = false := by simpa using h1
        have : ((46 : UInt8) == b) = false := by rw [beq_eq_false_iff_ne] at hb ⊢; exact fun h => hb h.symm
        rw [this, Bool.and_false]
    have e2 : (((b :: l).length : Int) == -1) = false := by rw [beq_eq_false_iff_ne]; simp only [List.length_cons]; omega
    rw [List.cons_append, Lib.index]
    rw [List.cons_append] at e
    rw [e, ih, e2]
    simp
theorem noDD_size (u : Nat) : noDD (sizeL u) = true := by
  have hd : ∀ c ∈ Lib.decDigits (u / 256), c ≠ 46 := fun c hc e => by
    subst e
    have := decDigits_ch _ _ hc
    revert this
    decide
  rw [sizeL_eq]
  by_cases h : u % 256 = 0
  · rw [if_pos h, List.append_nil]
    exact noDD_plain hd
  · rw [if_neg h]
    obtain ⟨_, h2, l, c, h3, _⟩ := decs_ok h (by omega : u % 256 < 256)
    have hp : ∀ c ∈ decsL (u % 256), c ≠ 46 := fun c hc e => by
      subst e
      have := h2 _ hc
      revert this
      decide
    cases hl : decsL (u % 256) with
    | nil => rw [h3] at hl; simp at hl
    | cons x r =>
      rw [hl] at hp
      exact noDD_app hd (hp x (List.mem_cons_self ..)) (noDD_plain hp)
theorem noDD_print (n : Int) : noDD (printL n) = true := by
  unfold printL
  split
  · obtain ⟨c, r, h, _⟩ := size_first n.natAbs
    have := noDD_size n.natAbs
    rw [h] at this ⊢
    simp only [noDD, Bool.and_eq_true]
    exact ⟨by rfl, this⟩
  · exact noDD_size _
theorem cut_dots (w r : List UInt8) (h : noDD w = true) : Lib.cut (w ++ 46 :: 46 :: r) [46, 46] = (w, r, true) := by
  unfold Lib.cut
  rw [index_dots w r h, if_pos (by omega)]
  simp
theorem span_cut (a b : Int) : cutL (spanW a b) w_dots = printB a ∧ cutR (spanW a b) w_dots = printB b := by
  have e : (spanW a b).data.toList = printL a ++ 46 :: 46 :: printL b := by
    unfold spanW
    simp only [ByteArray.data_append, Array.toList_append]
    show (printL a ++ [46, 46]) ++ printL b = _
    simp
  unfold cutL cutR
  rw [e]
  have := cut_dots (printL a) (printL b) (noDD_print a)
  show (⟨(Lib.cut _ [46, 46]).1.toArray⟩ : ByteArray) = _ ∧ (⟨(Lib.cut _ [46, 46]).2.1.toArray⟩ : ByteArray) = _
  rw [this]
  exact ⟨rfl, rfl⟩

/-! ### a query's words -/
theorem Qy.eq_of {p q : Qy} (h : p.eq q = true) : p = q := by
  cases p; cases q
  simp only [Qy.eq, Bool.and_eq_true, beq_iff_eq, and_true] at h
  simp only [Qy.mk.injEq]
  exact h
theorem Qy.eq_self (p : Qy) : p.eq p = true := by
  simp [Qy.eq]

theorem count_num {n : Int} (h : InR n) : atoiV (itoaB n) = n := atoiV_of rfl h.1 h.2
theorem scan_num {n : Int} (h : InR n) : decV (printB n) = n := (print_scan h).2
theorem printB_num (n : Int) : ∀ c ∈ (printB n).data.toList, 45 ≤ c.toNat ∧ c.toNat ≤ 57 := printL_ch n
theorem itoaB_num (n : Int) : ∀ c ∈ (itoaB n).data.toList, 45 ≤ c.toNat ∧ c.toNat ≤ 57 := itoa_lt n
theorem printB_ne (n : Int) : (printB n).data.toList ≠ [] := by
  obtain ⟨c, r, h, _⟩ := print_first n
  rw [h]
  simp
theorem spanW_num (a b : Int) : ∀ c ∈ (spanW a b).data.toList, 45 ≤ c.toNat ∧ c.toNat ≤ 57 := by
  intro c hc
  unfold spanW at hc
  simp only [ByteArray.data_append, Array.toList_append, List.mem_append] at hc
  rcases hc with (h | h) | h
  · exact printL_ch a c h
  · have h : c ∈ [(46 : UInt8), 46] := h
    simp only [List.mem_cons, List.not_mem_nil, or_false, or_self] at h
    subst h
    decide
  · exact printL_ch b c h
theorem words_no32 (q : Qy) (D : Nat) : ∀ w ∈ wordsQ q D, (32 : UInt8) ∉ w.data.toList := by
  intro w hw
  unfold wordsQ at hw
  have key : ∀ x ∈ headW q, (32 : UInt8) ∉ x.data.toList := by
    intro x hx
    unfold headW at hx
    cases h1 : (q.k == 1) <;> rw [h1] at hx <;> simp only [cond_true, cond_false] at hx
    · cases h2 : (q.k == 2) <;> rw [h2] at hx <;> simp only [cond_true, cond_false, List.mem_cons, List.not_mem_nil, or_false] at hx
      · rcases hx with rfl | rfl | rfl | rfl
        · cases q.fl <;> decide
        · exact no32 (itoaB_num _)
        · decide
        · exact no32 (itoaB_num _)
      · rcases hx with rfl | rfl
        · decide
        · exact no32 (itoaB_num _)
    · simp only [List.mem_cons, List.not_mem_nil, or_false] at hx
      rcases hx with rfl | rfl | rfl | rfl | rfl | rfl
      · decide
      · exact no32 (itoaB_num _)
      · decide
      · exact no32 (printB_num _)
      · decide
      · exact no32 (printB_num _)
  rcases List.mem_append.1 hw with h | h
  · rcases List.mem_append.1 h with h | h
    · exact key w h
    · rcases List.mem_cons.1 h with rfl | h
      · decide
      · obtain ⟨s, _, rfl⟩ := List.mem_map.1 h
        exact no32 (spanW_num _ _)
  · simp only [List.mem_cons, List.not_mem_nil, or_false] at h
    rcases h with rfl | rfl
    · decide
    · exact no32 (itoaB_num _)

theorem idxS_app (w : ByteArray) : ∀ (l : List IV) (r : List IV) (k : Int), (∀ x ∈ l, (w.toList == x.toStr.toList) = false) → idxS (l ++ .str w :: r) w k = k + (l.length : Int)
  | [], r, k, _ => by
    simp only [List.nil_append, idxS, IV.toStr, beq_yes, cond_true, List.length_nil]
    omega
  | x :: l, r, k, h => by
    rw [List.cons_append, idxS, h x (List.mem_cons_self ..), cond_false, idxS_app w l r (k + 1) (fun y hy => h y (List.mem_cons_of_mem _ hy))]
    simp only [List.length_cons]
    omega
theorem head_in (q : Qy) : ∀ x ∈ (headW q).map IV.str, (w_in.toList == x.toStr.toList) = false := by
  intro y hy
  obtain ⟨x, hx, rfl⟩ := List.mem_map.1 hy
  simp only [IV.toStr]
  have li : ∀ c ∈ w_in.data.toList, 97 ≤ c.toNat := by decide
  have ni := fun n => ne_num li (itoa_ne n) (itoaB_num n)
  have np := fun n => ne_num li (printB_ne n) (printB_num n)
  have dd : ∀ {a b : ByteArray}, a.data.toList ≠ b.data.toList → (a.toList == b.toList) = false := fun h => beq_no (fun e => h (by rw [e]))
  unfold headW at hx
  cases h1 : (q.k == 1) <;> rw [h1] at hx <;> simp only [cond_true, cond_false] at hx
  · cases h2 : (q.k == 2) <;> rw [h2] at hx <;> simp only [cond_true, cond_false, List.mem_cons, List.not_mem_nil, or_false] at hx
    · rcases hx with rfl | rfl | rfl | rfl
      · cases q.fl <;> exact dd (by decide)
      · exact ni _
      · exact dd (by decide)
      · exact ni _
    · rcases hx with rfl | rfl
      · exact dd (by decide)
      · exact ni _
  · simp only [List.mem_cons, List.not_mem_nil, or_false] at hx
    rcases hx with rfl | rfl | rfl | rfl | rfl | rfl
    · exact dd (by decide)
    · exact ni _
    · exact dd (by decide)
    · exact np _
    · exact dd (by decide)
    · exact np _

/-- A query's head, read back out of its words. -/
theorem head_words (q : Qy) (hc : InR q.c) (hlo : InR q.lo) (hhi : InR q.hi) (hft : InR q.ft) (hk : q.k = 1 ∨ q.k = 2 ∨ q.k = 3) (n1 : q.k ≠ 1 → q.lo = 0 ∧ q.hi = 0) (n3 : q.k ≠ 3 → q.ft = 0 ∧ q.fl = false) :
    headQ ((headW q).map IV.str) = ⟨q.k, q.c, 0, 0, 0, 0, 0, 0, 0, 0, 0, 0, q.lo, q.hi, q.ft, q.fl, 0⟩ := by
  have dd : ∀ {a b : ByteArray}, a.data.toList ≠ b.data.toList → (a.toList == b.toList) = false := fun h => beq_no (fun e => h (by rw [e]))
  obtain ⟨k, c, a0, b0, a1, b1, a2, b2, a3, b3, a4, b4, lo, hi, ft, fl, bu⟩ := q
  simp only at hc hlo hhi hft hk n1 n3 ⊢
  rcases hk with rfl | rfl | rfl
  · obtain ⟨rfl, rfl⟩ := n3 (by decide)
    show headQ [IV.str w_range, IV.str (itoaB c), IV.str w_from, IV.str (printB lo), IV.str w_to, IV.str (printB hi)] = _
    unfold headQ
    rw [show wAt [IV.str w_range, IV.str (itoaB c), IV.str w_from, IV.str (printB lo), IV.str w_to, IV.str (printB hi)] 0 = w_range from rfl, beq_yes, cond_true,
      show wAt [IV.str w_range, IV.str (itoaB c), IV.str w_from, IV.str (printB lo), IV.str w_to, IV.str (printB hi)] 1 = itoaB c from rfl, show wAt [IV.str w_range, IV.str (itoaB c), IV.str w_from, IV.str (printB lo), IV.str w_to, IV.str (printB hi)] 3 = printB lo from rfl,
      show wAt [IV.str w_range, IV.str (itoaB c), IV.str w_from, IV.str (printB lo), IV.str w_to, IV.str (printB hi)] 5 = printB hi from rfl, count_num hc, scan_num hlo, scan_num hhi]
  · obtain ⟨rfl, rfl⟩ := n3 (by decide)
    obtain ⟨rfl, rfl⟩ := n1 (by decide)
    show headQ [IV.str w_best, IV.str (itoaB c)] = _
    unfold headQ
    rw [show wAt [IV.str w_best, IV.str (itoaB c)] 0 = w_best from rfl, dd (show w_best.data.toList ≠ w_range.data.toList by decide), cond_false, beq_yes, cond_true, show wAt [IV.str w_best, IV.str (itoaB c)] 1 = itoaB c from rfl, count_num hc]
  · obtain ⟨rfl, rfl⟩ := n1 (by decide)
    cases fl with
    | true =>
      show headQ [IV.str w_falls, IV.str (itoaB c), IV.str w_by, IV.str (itoaB ft)] = _
      unfold headQ
      rw [show wAt [IV.str w_falls, IV.str (itoaB c), IV.str w_by, IV.str (itoaB ft)] 0 = w_falls from rfl, dd (show w_falls.data.toList ≠ w_range.data.toList by decide), cond_false, dd (show w_falls.data.toList ≠ w_best.data.toList by decide), cond_false, dd (show w_falls.data.toList ≠ w_rises.data.toList by decide), beq_yes, Bool.false_or, cond_true,
        show wAt [IV.str w_falls, IV.str (itoaB c), IV.str w_by, IV.str (itoaB ft)] 1 = itoaB c from rfl, show wAt [IV.str w_falls, IV.str (itoaB c), IV.str w_by, IV.str (itoaB ft)] 3 = itoaB ft from rfl, count_num hc, count_num hft]
    | false =>
      show headQ [IV.str w_rises, IV.str (itoaB c), IV.str w_by, IV.str (itoaB ft)] = _
      unfold headQ
      rw [show wAt [IV.str w_rises, IV.str (itoaB c), IV.str w_by, IV.str (itoaB ft)] 0 = w_rises from rfl, dd (show w_rises.data.toList ≠ w_range.data.toList by decide), cond_false, dd (show w_rises.data.toList ≠ w_best.data.toList by decide), cond_false, dd (show w_rises.data.toList ≠ w_falls.data.toList by decide), beq_yes, Bool.or_false, cond_true,
        show wAt [IV.str w_rises, IV.str (itoaB c), IV.str w_by, IV.str (itoaB ft)] 1 = itoaB c from rfl, show wAt [IV.str w_rises, IV.str (itoaB c), IV.str w_by, IV.str (itoaB ft)] 3 = itoaB ft from rfl, count_num hc, count_num hft]

theorem wAt_app (A B : List IV) (i : Nat) : wAt (A ++ B) (A.length + i) = wAt B i := by
  unfold wAt
  congr 1
  rw [List.getD, List.getElem?_append_right (by omega), Nat.add_sub_cancel_left]
  rfl

def tailW (q : Qy) (D : Nat) : List IV := (w_in :: ((q.spans.take D).map fun s => spanW s.1 s.2) ++ [w_budget, itoaB q.bu]).map IV.str
theorem wordsQ_map (q : Qy) (D : Nat) : (wordsQ q D).map IV.str = (headW q).map IV.str ++ tailW q D := by
  unfold wordsQ tailW
  simp

/-- A query, read back out of its words. -/
theorem raw_words (q : Qy) (hc : InR q.c) (hlo : InR q.lo) (hhi : InR q.hi) (hft : InR q.ft) (hbu : InR q.bu) (hsp : ∀ s ∈ q.spans, InR s.1 ∧ InR s.2) (D : Nat) (h1 : 1 ≤ D) (h4 : D ≤ 4) (hk : q.k = 1 ∨ q.k = 2 ∨ q.k = 3) (ht : q = told q D) :
    rawQ ((wordsQ q D).map IV.str) (headW q).length D = q := by
  rw [wordsQ_map]
  have ht' := ht
  have n1 : q.k ≠ 1 → q.lo = 0 ∧ q.hi = 0 := fun hn => by
    have e : (q.k == 1) = false := beq_eq_false_iff_ne.2 hn
    have a := congrArg Qy.lo ht'
    have b := congrArg Qy.hi ht'
    simp only [told, e, cond_false] at a b
    exact ⟨a, b⟩
  have n3 : q.k ≠ 3 → q.ft = 0 ∧ q.fl = false := fun hn => by
    have e : (q.k == 3) = false := beq_eq_false_iff_ne.2 hn
    have a := congrArg Qy.ft ht'
    have b := congrArg Qy.fl ht'
    simp only [told, e, cond_false] at a b
    exact ⟨a, b⟩
  have hh := head_words q hc hlo hhi hft hk n1 n3
  have hlen : ((headW q).map IV.str).length = (headW q).length := List.length_map ..
  generalize hA : (headW q).map IV.str = A at hh hlen
  have htk : List.take (headW q).length (A ++ tailW q D) = A := by rw [← hlen]; exact List.take_left
  have spA_of : ∀ (i : Nat) (a b : Int), InR a → wAt (tailW q D) i = spanW a b → spA (A ++ tailW q D) ((headW q).length + i) = a := fun i a b ha e => by
    unfold spA
    rw [← hlen, wAt_app, e, (span_cut a b).1]
    exact scan_num ha
  have spB_of : ∀ (i : Nat) (a b : Int), InR b → wAt (tailW q D) i = spanW a b → spB (A ++ tailW q D) ((headW q).length + i) = b := fun i a b hb e => by
    unfold spB
    rw [← hlen, wAt_app, e, (span_cut a b).2]
    exact scan_num hb
  have hlast : (A ++ tailW q D).length - 1 = (headW q).length + ((tailW q D).length - 1) := by
    rw [List.length_append, hlen]
    have : 0 < (tailW q D).length := by unfold tailW; simp
    omega
  unfold rawQ
  rw [htk, hh, hlast, ← hlen, wAt_app, hlen]
  clear htk hh hlast
  obtain ⟨k, c, a0, b0, a1, b1, a2, b2, a3, b3, a4, b4, lo, hi, ft, fl, bu⟩ := q
  have s0 := hsp (a0, b0) (by simp [Qy.spans])
  have s1 := hsp (a1, b1) (by simp [Qy.spans])
  have s2 := hsp (a2, b2) (by simp [Qy.spans])
  have s3 := hsp (a3, b3) (by simp [Qy.spans])
  simp only [told, Qy.mk.injEq, true_and] at ht
  obtain ⟨t1, t2, t3, t4, t5, t6, t7, t8, t9, t10, _⟩ := ht
  have hD : D = 1 ∨ D = 2 ∨ D = 3 ∨ D = 4 := by omega
  have n45 : a4 = 0 ∧ b4 = 0 := by
    rw [decide_eq_false (show ¬ (4 : Int) < D by omega)] at t9 t10
    exact ⟨t9, t10⟩
  obtain ⟨rfl, rfl⟩ := n45
  have hbu : InR bu := hbu
  rcases hD with rfl | rfl | rfl | rfl
  · simp only [show decide ((1 : Int) < ((1 : Nat) : Int)) = false from rfl, show decide ((2 : Int) < ((1 : Nat) : Int)) = false from rfl, show decide ((3 : Int) < ((1 : Nat) : Int)) = false from rfl, cond_false] at t3 t4 t5 t6 t7 t8
    subst t3 t4 t5 t6 t7 t8
    rw [spA_of 1 a0 b0 s0.1 rfl, spB_of 1 a0 b0 s0.2 rfl, show wAt (tailW ⟨k, c, a0, b0, 0, 0, 0, 0, 0, 0, 0, 0, lo, hi, ft, fl, bu⟩ 1) ((tailW ⟨k, c, a0, b0, 0, 0, 0, 0, 0, 0, 0, 0, lo, hi, ft, fl, bu⟩ 1).length - 1) = itoaB bu from rfl, count_num hbu]
    rfl
  · simp only [show decide ((2 : Int) < ((2 : Nat) : Int)) = false from rfl, show decide ((3 : Int) < ((2 : Nat) : Int)) = false from rfl, cond_false] at t5 t6 t7 t8
    subst t5 t6 t7 t8
    rw [spA_of 1 a0 b0 s0.1 rfl, spB_of 1 a0 b0 s0.2 rfl, spA_of 2 a1 b1 s1.1 rfl, spB_of 2 a1 b1 s1.2 rfl, show wAt (tailW ⟨k, c, a0, b0, a1, b1, 0, 0, 0, 0, 0, 0, lo, hi, ft, fl, bu⟩ 2) ((tailW ⟨k, c, a0, b0, a1, b1, 0, 0, 0, 0, 0, 0, lo, hi, ft, fl, bu⟩ 2).length - 1) = itoaB bu from rfl, count_num hbu]
    rfl
  · simp only [show decide ((3 : Int) < ((3 : Nat) : Int)) = false from rfl, cond_false] at t7 t8
    subst t7 t8
    rw [spA_of 1 a0 b0 s0.1 rfl, spB_of 1 a0 b0 s0.2 rfl, spA_of 2 a1 b1 s1.1 rfl, spB_of 2 a1 b1 s1.2 rfl, spA_of 3 a2 b2 s2.1 rfl, spB_of 3 a2 b2 s2.2 rfl, show wAt (tailW ⟨k, c, a0, b0, a1, b1, a2, b2, 0, 0, 0, 0, lo, hi, ft, fl, bu⟩ 3) ((tailW ⟨k, c, a0, b0, a1, b1, a2, b2, 0, 0, 0, 0, lo, hi, ft, fl, bu⟩ 3).length - 1) = itoaB bu from rfl, count_num hbu]
    rfl
  · rw [spA_of 1 a0 b0 s0.1 rfl, spB_of 1 a0 b0 s0.2 rfl, spA_of 2 a1 b1 s1.1 rfl, spB_of 2 a1 b1 s1.2 rfl, spA_of 3 a2 b2 s2.1 rfl, spB_of 3 a2 b2 s2.2 rfl, spA_of 4 a3 b3 s3.1 rfl, spB_of 4 a3 b3 s3.2 rfl, show wAt (tailW ⟨k, c, a0, b0, a1, b1, a2, b2, a3, b3, 0, 0, lo, hi, ft, fl, bu⟩ 4) ((tailW ⟨k, c, a0, b0, a1, b1, a2, b2, a3, b3, 0, 0, lo, hi, ft, fl, bu⟩ 4).length - 1) = itoaB bu from rfl, count_num hbu]
    rfl

/-! ### a query's text -/
theorem okQ_kind {q : Qy} {d : Int} (h : okQ q d = true) : 1 ≤ d ∧ d ≤ 4 ∧ q = told q d ∧ smallB q.c = true ∧ smallB q.ft = true ∧ smallB q.bu = true ∧ (q.k = 1 ∨ q.k = 2 ∨ q.k = 3) := by
  unfold okQ at h
  simp only [Bool.and_eq_true, Bool.not_eq_true', decide_eq_false_iff_not, Bool.or_eq_true, beq_iff_eq] at h
  obtain ⟨⟨h1, h2⟩, h3, h4, h5, h6, h7⟩ := h
  exact ⟨by omega, by omega, Qy.eq_of h3, h4, h5, h6, h7⟩
theorem wordsQ_ne (q : Qy) (D : Nat) : wordsQ q D ≠ [] := by
  unfold wordsQ
  simp
/-- A query that can be printed comes back out of its text. -/
theorem ask_print {q : Qy} {d : Int} (hc : InR q.c) (hlo : InR q.lo) (hhi : InR q.hi) (hft : InR q.ft) (hbu : InR q.bu) (hsp : ∀ s ∈ q.spans, InR s.1 ∧ InR s.2) (h : okQ q d = true) : askOK (printQ q d) = true ∧ askQ (printQ q d) = q ∧ askD (printQ q d) = d := by
  obtain ⟨h1, h4, ht, _, _, _, hk⟩ := okQ_kind h
  obtain ⟨D, rfl⟩ : ∃ D : Nat, d = D := ⟨d.toNat, by omega⟩
  have hp : printQ q (D : Int) = joinB (wordsQ q D) w_space := by
    unfold printQ
    rw [h]
    rfl
  have hline : lineW (printQ q (D : Int)) = (wordsQ q D).map IV.str := by
    rw [hp]
    exact line_join _ (wordsQ_ne q D) (words_no32 q D)
  have hI : lineI (printQ q (D : Int)) = ((headW q).length : Int) := by
    unfold lineI
    rw [hline, wordsQ_map]
    show idxS ((headW q).map IV.str ++ IV.str w_in :: _) w_in 0 = _
    rw [idxS_app w_in _ _ 0 (head_in q), List.length_map]
    omega
  have hD : lineD (printQ q (D : Int)) = (D : Int) := by
    unfold lineD
    rw [hline, hI, List.length_map]
    have : (wordsQ q D).length = (headW q).length + 1 + D + 2 := by
      unfold wordsQ
      simp only [List.length_append, List.length_cons, List.length_map, List.length_take, List.length_nil, Qy.spans]
      omega
    rw [this]
    simp only [ic]
    omega
  have hQ : lineQ (printQ q (D : Int)) = q := by
    unfold lineQ
    rw [hline, hI, hD]
    exact raw_words q hc hlo hhi hft hbu hsp D (by omega) (by omega) hk ht
  have hok : askOK (printQ q (D : Int)) = true := by
    unfold askOK
    rw [hI, hD, hQ, decide_eq_false (show ¬ ((headW q).length : Int) < 0 by omega), decide_eq_false (show ¬ (D : Int) < 1 by omega), decide_eq_false (show ¬ (D : Int) > 4 by omega), beq_yes]
    rfl
  refine ⟨hok, ?_, ?_⟩
  · unfold askQ
    rw [hok, hQ]
    rfl
  · unfold askD
    rw [hok, hD]
    rfl
theorem ask_only {s : ByteArray} (h : askOK s = true) : printQ (askQ s) (askD s) = s ∧ 1 ≤ askD s ∧ askD s ≤ 4 := by
  unfold askQ askD
  rw [h]
  unfold askOK at h
  simp only [Bool.and_eq_true, Bool.not_eq_true', decide_eq_false_iff_not] at h
  obtain ⟨⟨h1, h2, h3⟩, h4⟩ := h
  rw [bytes_beq] at h4
  exact ⟨of_decide_eq_true h4, by simp only [cond_true]; omega, by simp only [cond_true]; omega⟩
theorem ask_none {s : ByteArray} (h : askOK s = false) : askQ s = Qy.none ∧ askD s = 0 := by
  unfold askQ askD
  rw [h]
  exact ⟨rfl, rfl⟩
theorem print_bad {q : Qy} {d : Int} (h : okQ q d = false) : printQ q d = w_none := by
  unfold printQ
  rw [h]
  rfl
theorem print_pos' {q : Qy} {d : Int} (h : okQ q d = true) : 0 < (printQ q d).size := by
  have hp : printQ q d = joinB (wordsQ q d.toNat) w_space := by
    unfold printQ
    rw [h]
    rfl
  rw [hp, size_len]
  show 0 < (Lib.join ((wordsQ q d.toNat).map (·.data.toList)) [32]).length
  have : ∃ x r, (wordsQ q d.toNat).map (·.data.toList) = x :: r ∧ x ≠ [] := by
    unfold wordsQ headW
    cases (q.k == 1) <;> cases (q.k == 2) <;> cases q.fl <;> exact ⟨_, _, rfl, by decide⟩
  obtain ⟨x, r, e, hx⟩ := this
  rw [e, Lib.join_cons, List.length_append]
  have := List.length_pos_iff.2 hx
  omega
theorem none_bad : askOK w_none = false := by kernel_rfl

end Go.FM

/-
  ask's LAWS COME TO true (1): AskRuns, AskRaw.
-/
namespace Go.FM
open Go Go.Proofs

set_option maxRecDepth 100000 in
theorem snd_copselaw11_AskRuns : SndR PR B0 3 S_copselaw11_AskRuns := by
  refine snd_mk [(5, S_ask_Parse), (6, S_ask_Print)] [] S_copselaw11_AskRuns [[.bool]] Tryd.func3 h_copselaw11_AskRuns ⟨snd_ask_Parse, snd_ask_Print, trivial⟩ ?_
  intro vs r hwf h
  unfold S_copselaw11_AskRuns at h
  split at h
  · refine ⟨0, ?_⟩
    rw [← h]
    exact nf_copselaw11_AskRuns 0
  · simp [R.get] at h

def S_copselaw11_AskRaw : RSpec
  | [.agg [.int .i64 _, .int .i64 _, .int .i64 _, .int .i64 _, .int .i64 _, .int .i64 _, .int .i64 _, .int .i64 _, .int .i64 _, .int .i64 _, .int .i64 _, .int .i64 _, .int .i64 _, .int .i64 _, .int .i64 _, .bool _, .int .i64 _], .int .i64 _] => .ok (.bool true) []
  | _ => .no

theorem printQ_size {q : Qy} (hq : q.In) (d : Int) : (printQ q d).size ≤ 2000 := by
  cases h : okQ q d with
  | false => rw [print_bad h]; decide
  | true =>
    obtain ⟨h1, h4, _, _, _, _, hk⟩ := okQ_kind h
    have hp : printQ q d = joinB (wordsQ q d.toNat) w_space := by
      unfold printQ
      rw [h]
      rfl
    have zi : ∀ {n : Int}, InR n → (itoaB n).size ≤ 100 := fun h => by have := itoaB_in h; omega
    have zp : ∀ {n : Int}, InR n → (printB n).size ≤ 100 := fun h => by have := (print_len _ h).2; omega
    have hl : (wordsQ q d.toNat).length ≤ 15 := by
      unfold wordsQ headW
      simp only [List.length_append, List.length_cons, List.length_map, List.length_take, List.length_nil, Qy.spans]
      cases (q.k == 1) <;> cases (q.k == 2) <;> simp only [cond_true, cond_false, List.length_cons, List.length_nil] <;> omega
    have hz := join_size (wordsQ q d.toNat) (fun w hw => by
      unfold wordsQ at hw
      rcases List.mem_append.1 hw with hw | hw
      · rcases List.mem_append.1 hw with hw | hw
        · unfold headW at hw
          cases h1 : (q.k == 1) <;> rw [h1] at hw <;> simp only [cond_true, cond_false] at hw
          · cases h2 : (q.k == 2) <;> rw [h2] at hw <;> simp only [cond_true, cond_false, List.mem_cons, List.not_mem_nil, or_false] at hw
            · rcases hw with rfl | rfl | rfl | rfl
              · cases q.fl <;> decide
              · exact zi hq.c
              · decide
              · exact zi hq.ft
            · rcases hw with rfl | rfl
              · decide
              · exact zi hq.c
          · simp only [List.mem_cons, List.not_mem_nil, or_false] at hw
            rcases hw with rfl | rfl | rfl | rfl | rfl | rfl
            · decide
            · exact zi hq.c
            · decide
            · exact zp hq.lo
            · decide
            · exact zp hq.hi
        · rcases List.mem_cons.1 hw with rfl | hw
          · decide
          · obtain ⟨s, hs, rfl⟩ := List.mem_map.1 hw
            have hs := List.mem_of_mem_take hs
            have hin : InR s.1 ∧ InR s.2 := by
              simp only [Qy.spans, List.mem_cons, List.not_mem_nil, or_false] at hs
              rcases hs with rfl | rfl | rfl | rfl | rfl
              · exact ⟨hq.a0, hq.b0⟩
              · exact ⟨hq.a1, hq.b1⟩
              · exact ⟨hq.a2, hq.b2⟩
              · exact ⟨hq.a3, hq.b3⟩
              · exact ⟨hq.a4, hq.b4⟩
            have := spanW_size hin.1 hin.2
            omega
      · simp only [List.mem_cons, List.not_mem_nil, or_false] at hw
        rcases hw with rfl | rfl
        · decide
        · exact zi hq.bu)
    rw [hp]
    omega
theorem Qy.In.sp {q : Qy} (hq : q.In) : ∀ s ∈ q.spans, InR s.1 ∧ InR s.2 := by
  intro s hs
  simp only [Qy.spans, List.mem_cons, List.not_mem_nil, or_false] at hs
  rcases hs with rfl | rfl | rfl | rfl | rfl
  · exact ⟨hq.a0, hq.b0⟩
  · exact ⟨hq.a1, hq.b1⟩
  · exact ⟨hq.a2, hq.b2⟩
  · exact ⟨hq.a3, hq.b3⟩
  · exact ⟨hq.a4, hq.b4⟩

/-- What makes a query one that is printed. -/
theorem okQ_of {q : Qy} {d : Int} (h1 : 1 ≤ d) (h4 : d ≤ 4) (hc : smallB q.c = true) (hf : smallB q.ft = true) (hb : smallB q.bu = true)
    (hk : (q.k = 1 ∧ q.ft = 0 ∧ q.fl = false) ∨ (q.k = 2 ∧ q.lo = 0 ∧ q.hi = 0 ∧ q.ft = 0 ∧ q.fl = false) ∨ (q.k = 3 ∧ q.lo = 0 ∧ q.hi = 0))
    (z0 : (0 : Int) < d ∨ (q.a0 = 0 ∧ q.b0 = 0)) (z1 : (1 : Int) < d ∨ (q.a1 = 0 ∧ q.b1 = 0)) (z2 : (2 : Int) < d ∨ (q.a2 = 0 ∧ q.b2 = 0)) (z3 : (3 : Int) < d ∨ (q.a3 = 0 ∧ q.b3 = 0)) (z4 : (4 : Int) < d ∨ (q.a4 = 0 ∧ q.b4 = 0)) : okQ q d = true := by
  have cz : ∀ (x : Int) (j : Int), (j < d ∨ x = 0) → cond (decide (j < d)) x 0 = x := fun x j h => by
    rcases h with h | h
    · rw [decide_eq_true h]; rfl
    · subst h; cases decide (j < d) <;> rfl
  have ht : told q d = q := by
    obtain ⟨k, c, a0, b0, a1, b1, a2, b2, a3, b3, a4, b4, lo, hi, ft, fl, bu⟩ := q
    simp only at hk z0 z1 z2 z3 z4
    simp only [told, Qy.mk.injEq, true_and]
    refine ⟨cz _ _ (z0.imp_right (·.1)), cz _ _ (z0.imp_right (·.2)), cz _ _ (z1.imp_right (·.1)), cz _ _ (z1.imp_right (·.2)), cz _ _ (z2.imp_right (·.1)), cz _ _ (z2.imp_right (·.2)), cz _ _ (z3.imp_right (·.1)), cz _ _ (z3.imp_right (·.2)), cz _ _ (z4.imp_right (·.1)), cz _ _ (z4.imp_right (·.2)), ?_⟩
    rcases hk with ⟨rfl, rfl, rfl⟩ | ⟨rfl, rfl, rfl, rfl, rfl⟩ | ⟨rfl, rfl, rfl⟩ <;> exact ⟨rfl, rfl, rfl, rfl, trivial⟩
  have hk3 : (q.k == 1 || (q.k == 2 || q.k == 3)) = true := by
    rcases hk with ⟨h, _⟩ | ⟨h, _⟩ | ⟨h, _⟩ <;> rw [h] <;> rfl
  unfold okQ
  rw [ht, Qy.eq_self, hc, hf, hb, hk3, decide_eq_false (show ¬ d < 1 by omega), decide_eq_false (show ¬ d > 4 by omega)]
  rfl

abbrev stR (q : Qy) (d : Int) (b8 b9 b10 : Bool) (i : Int) : St :=
  ⟨[(1, (.int .i64 d)), (4, (.bool false)), (8, (.bool b8)), (9, (.bool b9)), (10, (.bool b10)), (124, (.agg [(.int .i64 q.a0), (.int .i64 q.b0), (.int .i64 q.a1), (.int .i64 q.b1), (.int .i64 q.a2), (.int .i64 q.b2), (.int .i64 q.a3), (.int .i64 q.b3), (.int .i64 q.a4), (.int .i64 q.b4)])), (125, (.int .i64 i))], []⟩
def zz (d a b : Int) (i : Int) (b10 : Bool) : Bool := cond b10 (cond (decide (i < d)) true (a == 0 && (b == 0 && true))) false
theorem zz_eq {d a b i : Int} {b10 : Bool} (h : zz d a b i b10 = true) : b10 = true ∧ (i < d ∨ (a = 0 ∧ b = 0)) := by
  unfold zz at h
  cases b10 with
  | false => cases h
  | true =>
    refine ⟨rfl, ?_⟩
    cases hd : decide (i < d) with
    | true => exact .inl (of_decide_eq_true hd)
    | false =>
      rw [hd] at h
      simp only [cond_true, cond_false, Bool.and_eq_true, beq_iff_eq, and_true] at h
      exact .inr h
theorem raw_round (N : Nat) (q : Qy) (d : Int) (b8 b9 b10 : Bool) (i : Nat) (a b : Int) (hab : (i = 0 ∧ a = q.a0 ∧ b = q.b0) ∨ (i = 1 ∧ a = q.a1 ∧ b = q.b1) ∨ (i = 2 ∧ a = q.a2 ∧ b = q.b2) ∨ (i = 3 ∧ a = q.a3 ∧ b = q.b3) ∨ (i = 4 ∧ a = q.a4 ∧ b = q.b4)) (again : St → Res) (k : Out → St → Res) :
    rnd (E_copselaw11_AskRaw N) (subC c_copselaw11_AskRaw [1, 1, 1, 0, 1, 0, 1, 1, 0, 1, 0, 0]) (stR q d b8 b9 b10 (i : Int)) (kLoop again ⟨[1, 4, 8, 9, 10, 124, 125], [], []⟩ k) = again (stR q d b8 b9 (zz d a b i b10) ((i + 1 : Nat) : Int)) := by
  refine (st_copselaw11_AskRaw_1 N d false b8 b9 b10 q.a0 q.b0 q.a1 q.b1 q.a2 q.b2 q.a3 q.b3 q.a4 q.b4 i again k).trans ?_
  unfold zz
  rcases hab with ⟨rfl, rfl, rfl⟩ | ⟨rfl, rfl, rfl⟩ | ⟨rfl, rfl, rfl⟩ | ⟨rfl, rfl, rfl⟩ | ⟨rfl, rfl, rfl⟩ <;>
    (cases b10 with
      | false => rfl
      | true => generalize decide (_ < d) = e; cases e <;> rfl)
theorem raw_run (q : Qy) (d : Int) (b8 b9 b10 : Bool) :
    lpE (E_copselaw11_AskRaw 10) (subC c_copselaw11_AskRaw [1, 1, 1, 0, 1, 0, 1, 1, 0, 1, 0, 0]) ⟨[1, 4, 8, 9, 10, 124, 125], [], []⟩ 10 (stR q d b8 b9 b10 0) (kBlock 0 (kSq (E_copselaw11_AskRaw 10) (subC c_copselaw11_AskRaw [1, 1, 1, 0, 1, 0, 1, 1, 1]) (kSq (E_copselaw11_AskRaw 10) (subC c_copselaw11_AskRaw [1, 1, 1, 1]) (outT (E_copselaw11_AskRaw 10) none [(ResultVar.tmp 4)] [[.bool]])))) =
      cond (!b8) (cond b9 (cond (!(zz d q.a4 q.b4 4 (zz d q.a3 q.b3 3 (zz d q.a2 q.b2 2 (zz d q.a1 q.b1 1 (zz d q.a0 q.b0 0 b10)))))) (some (.bool true, [])) (some (.bool false, []))) (some (.bool true, []))) (some (.bool false, [])) := by
  have e0 : stR q d b8 b9 b10 0 = stR q d b8 b9 b10 ((0 : Nat) : Int) := rfl
  rw [e0, lpE_succ, raw_round 10 q d b8 b9 _ 0 q.a0 q.b0 (by simp), lpE_succ, raw_round 10 q d b8 b9 _ 1 q.a1 q.b1 (by simp), lpE_succ, raw_round 10 q d b8 b9 _ 2 q.a2 q.b2 (by simp), lpE_succ, raw_round 10 q d b8 b9 _ 3 q.a3 q.b3 (by simp), lpE_succ, raw_round 10 q d b8 b9 _ 4 q.a4 q.b4 (by simp), lpE_succ]
  refine (st_copselaw11_AskRaw_1 10 d false b8 b9 _ q.a0 q.b0 q.a1 q.b1 q.a2 q.b2 q.a3 q.b3 q.a4 q.b4 ((4 + 1 : Nat) : Int) _ _).trans ?_
  rw [decide_eq_false (show ¬ ((4 + 1 : Nat) : Int) < 5 by omega), condF]
  exact ex_copselaw11_AskRaw_1_1 10 d false b8 b9 _ q.a0 q.b0 q.a1 q.b1 q.a2 q.b2 q.a3 q.b3 q.a4 q.b4 _

theorem cond_same {α : Type _} (b : Bool) (x : α) : cond b x x = x := by cases b <;> rfl

set_option maxRecDepth 100000 in
set_option maxHeartbeats 4000000 in
theorem snd_copselaw11_AskRaw : SndR PR B0 4 S_copselaw11_AskRaw := by
  refine snd_mk [(5, S_ask_Parse), (6, S_ask_Print), (3, S_copselaw11_AskRuns)] [(7, ⟨[1, 4, 8, 9, 10, 124, 125], [], []⟩)] S_copselaw11_AskRaw [[.bool]] Tryd.func4 h_copselaw11_AskRaw ⟨snd_ask_Parse, snd_ask_Print, snd_copselaw11_AskRuns, trivial⟩ ?_
  intro vs r hwf h
  unfold S_copselaw11_AskRaw at h
  split at h
  · rename_i k c a0 b0 a1 b1 a2 b2 a3 b3 a4 b4 lo hi ft fl bu d
    refine ⟨10, ?_⟩
    rw [R.get_ok] at h
    rw [← h]
    refine (nf_copselaw11_AskRaw 10 k c a0 b0 a1 b1 a2 b2 a3 b3 a4 b4 lo hi ft fl bu d).trans ?_
    have hb := hwf (by simp [oneBor])
    have hq : Qy.In ⟨k, c, a0, b0, a1, b1, a2, b2, a3, b3, a4, b4, lo, hi, ft, fl, bu⟩ := by
      have := hb.1
      simp only [wfV, wfLs, wfL, and_true, true_and] at this
      obtain ⟨h1, h2, h3, h4, h5, h6, h7, h8, h9, h10, h11, h12, h13, h14, h15, h16⟩ := this
      exact ⟨h1, h2, h3, h4, h5, h6, h7, h8, h9, h10, h11, h12, h13, h14, h15, h16⟩
    have hz := printQ_size hq d
    rw [decide_eq_true (show ByteArray.size (printQ ⟨k, c, a0, b0, a1, b1, a2, b2, a3, b3, a4, b4, lo, hi, ft, fl, bu⟩ d) < 4294967281 by omega), condT]
    cases hok : okQ ⟨k, c, a0, b0, a1, b1, a2, b2, a3, b3, a4, b4, lo, hi, ft, fl, bu⟩ d with
    | true =>
      have hpos := print_pos' hok
      obtain ⟨p1, p2, p3⟩ := ask_print hq.c hq.lo hq.hi hq.ft hq.bu hq.sp hok
      have hne : (ByteArray.toList (printQ ⟨k, c, a0, b0, a1, b1, a2, b2, a3, b3, a4, b4, lo, hi, ft, fl, bu⟩ d) == ByteArray.toList { data := #[] }) = false := beq_no (fun e => by
        rw [e] at hpos
        revert hpos
        decide)
      rw [hne, condF, p1, p2, p3, condT]
      simp only [beq_self_eq_true, Bool.and_true, condT]
    | false =>
      rw [print_bad hok]
      have he : (ByteArray.toList w_none == ByteArray.toList { data := #[] }) = true := beq_yes _
      rw [he, condT]
      clear he
      have T : ∀ b9 b10, lpE (E_copselaw11_AskRaw 10) (subC c_copselaw11_AskRaw [1, 1, 1, 0, 1, 0, 1, 1, 0, 1, 0, 0]) ⟨[1, 4, 8, 9, 10, 124, 125], [], []⟩ 10 (stR ⟨k, c, a0, b0, a1, b1, a2, b2, a3, b3, a4, b4, lo, hi, ft, fl, bu⟩ d (askOK (printQ ⟨k, c, a0, b0, a1, b1, a2, b2, a3, b3, a4, b4, lo, hi, ft, fl, bu⟩ d)) b9 b10 0) (kBlock 0 (kSq (E_copselaw11_AskRaw 10) (subC c_copselaw11_AskRaw [1, 1, 1, 0, 1, 0, 1, 1, 1]) (kSq (E_copselaw11_AskRaw 10) (subC c_copselaw11_AskRaw [1, 1, 1, 1]) (outT (E_copselaw11_AskRaw 10) none [(ResultVar.tmp 4)] [[.bool]])))) =
          cond b9 (cond (!(zz d a4 b4 4 (zz d a3 b3 3 (zz d a2 b2 2 (zz d a1 b1 1 (zz d a0 b0 0 b10)))))) (some (.bool true, [])) (some (.bool false, []))) (some (.bool true, [])) := fun b9 b10 => by
        refine (raw_run ⟨k, c, a0, b0, a1, b1, a2, b2, a3, b3, a4, b4, lo, hi, ft, fl, bu⟩ d _ b9 b10).trans ?_
        rw [print_bad hok, none_bad, Bool.not_false, condT]
      have zf : ∀ b : Bool, b = false → zz d a4 b4 4 (zz d a3 b3 3 (zz d a2 b2 2 (zz d a1 b1 1 (zz d a0 b0 0 b)))) = false := fun b hb => by subst hb; rfl
      have T1 := T (decide (bu ≤ 1073741824)) true
      have T2 := T (decide (bu ≤ 1073741824)) (hi == 0)
      have T3 := T (decide (bu ≤ 1073741824)) false
      have T4 := T false true
      have T5 := T false (hi == 0)
      have T6 := T false false
      rw [zf false rfl] at T3
      simp only [Bool.not_false, condT, condF, cond_same] at T3 T4 T5 T6
      change T_copselaw11_AskRaw_1 10 k c a0 b0 a1 b1 a2 b2 a3 b3 a4 b4 lo hi ft fl bu d = _ at T1
      change T_copselaw11_AskRaw_2 10 k c a0 b0 a1 b1 a2 b2 a3 b3 a4 b4 lo hi ft fl bu d = _ at T2
      change T_copselaw11_AskRaw_3 10 k c a0 b0 a1 b1 a2 b2 a3 b3 a4 b4 lo hi ft fl bu d = _ at T3
      change T_copselaw11_AskRaw_4 10 k c a0 b0 a1 b1 a2 b2 a3 b3 a4 b4 lo hi ft fl bu d = _ at T4
      change T_copselaw11_AskRaw_5 10 k c a0 b0 a1 b1 a2 b2 a3 b3 a4 b4 lo hi ft fl bu d = _ at T5
      change T_copselaw11_AskRaw_6 10 k c a0 b0 a1 b1 a2 b2 a3 b3 a4 b4 lo hi ft fl bu d = _ at T6
      simp only [T3, T4, T5, T6, cond_same]
      -- what would make it false
      have bad : ∀ b10 : Bool, 1 ≤ d → d ≤ 4 → 0 ≤ c → c ≤ 1073741824 → 0 ≤ ft → ft ≤ 1073741824 → 0 ≤ bu → bu ≤ 1073741824 → (b10 = true → (k = 1 ∧ ft = 0 ∧ fl = false) ∨ (k = 2 ∧ lo = 0 ∧ hi = 0 ∧ ft = 0 ∧ fl = false) ∨ (k = 3 ∧ lo = 0 ∧ hi = 0)) →
          zz d a4 b4 4 (zz d a3 b3 3 (zz d a2 b2 2 (zz d a1 b1 1 (zz d a0 b0 0 b10)))) = false := fun b10 g1 g2 g3 g4 g5 g6 g7 g8 hk => by
        cases hh : zz d a4 b4 4 (zz d a3 b3 3 (zz d a2 b2 2 (zz d a1 b1 1 (zz d a0 b0 0 b10)))) with
        | false => rfl
        | true =>
          exfalso
          obtain ⟨hh, z4⟩ := zz_eq hh
          obtain ⟨hh, z3⟩ := zz_eq hh
          obtain ⟨hh, z2⟩ := zz_eq hh
          obtain ⟨hh, z1⟩ := zz_eq hh
          obtain ⟨hh, z0⟩ := zz_eq hh
          have sm : ∀ n : Int, 0 ≤ n → n ≤ 1073741824 → smallB n = true := fun n h0 h1 => by unfold smallB; rw [decide_eq_true h0, decide_eq_true h1]; rfl
          have := okQ_of (q := ⟨k, c, a0, b0, a1, b1, a2, b2, a3, b3, a4, b4, lo, hi, ft, fl, bu⟩) g1 g2 (sm c g3 g4) (sm ft g5 g6) (sm bu g7 g8) (hk hh) z0 z1 z2 z3 z4
          rw [hok] at this
          cases this
      cases g1 : decide (d ≥ 1) with
      | false => rfl
      | true =>
      cases g2 : decide (d ≤ 4) with
      | false => rfl
      | true =>
      cases g3 : decide (k ≥ 1) with
      | false => rfl
      | true =>
      cases g4 : decide (k ≤ 3) with
      | false => rfl
      | true =>
      cases g5 : decide (c ≥ 0) with
      | false => rfl
      | true =>
      cases g6 : decide (c ≤ 1073741824) with
      | false => rfl
      | true =>
      cases g7 : decide (ft ≥ 0) with
      | false => rfl
      | true =>
      cases g8 : decide (ft ≤ 1073741824) with
      | false => rfl
      | true =>
      cases g9 : decide (bu ≥ 0) with
      | false => rfl
      | true =>
      simp only [condT]
      have f1 := of_decide_eq_true g1
      have f2 := of_decide_eq_true g2
      have f5 := of_decide_eq_true g5
      have f6 := of_decide_eq_true g6
      have f7 := of_decide_eq_true g7
      have f8 := of_decide_eq_true g8
      have f9 := of_decide_eq_true g9
      have fin1 : ((k = 1 ∧ ft = 0 ∧ fl = false) ∨ (k = 2 ∧ lo = 0 ∧ hi = 0 ∧ ft = 0 ∧ fl = false) ∨ (k = 3 ∧ lo = 0 ∧ hi = 0)) → T_copselaw11_AskRaw_1 10 k c a0 b0 a1 b1 a2 b2 a3 b3 a4 b4 lo hi ft fl bu d = some (.bool true, []) := fun hk => by
        rw [T1]
        cases gb : decide (bu ≤ 1073741824) with
        | false => rfl
        | true => rw [bad true f1 f2 f5 f6 f7 f8 f9 (of_decide_eq_true gb) (fun _ => hk)]; rfl
      have fin2 : (k = 3 ∧ lo = 0) → T_copselaw11_AskRaw_2 10 k c a0 b0 a1 b1 a2 b2 a3 b3 a4 b4 lo hi ft fl bu d = some (.bool true, []) := fun hk => by
        rw [T2]
        cases gb : decide (bu ≤ 1073741824) with
        | false => rfl
        | true => rw [bad (hi == 0) f1 f2 f5 f6 f7 f8 f9 (of_decide_eq_true gb) (fun hh => .inr (.inr ⟨hk.1, hk.2, beq_iff_eq.1 hh⟩))]; rfl
      have dec1 : ∀ {x y : Int}, (x == y) = true → x = y := fun h => beq_iff_eq.1 h
      cases k1 : (k == 1) with
      | true =>
        have ek := dec1 k1
        subst ek
        simp only [condT, condF, show ((1 : Int) == 2) = false from rfl, show ((1 : Int) == 3) = false from rfl]
        cases e1 : (ft == 0) with
        | false => rfl
        | true =>
          cases fl with
          | true => rfl
          | false => exact fin1 (.inl ⟨rfl, dec1 e1, rfl⟩)
      | false =>
        cases k2 : (k == 2) with
        | true =>
          have ek := dec1 k2
          subst ek
          simp only [condT, condF, show ((2 : Int) == 3) = false from rfl]
          cases e1 : (lo == 0) with
          | false => rfl
          | true =>
            cases e2 : (hi == 0) with
            | false => rfl
            | true =>
              cases e3 : (ft == 0) with
              | false => rfl
              | true =>
                cases fl with
                | true => rfl
                | false => exact fin1 (.inr (.inl ⟨rfl, dec1 e1, dec1 e2, dec1 e3, rfl⟩))
        | false =>
          simp only [condF]
          cases k3 : (k == 3) with
          | false => rfl
          | true =>
            cases e1 : (lo == 0) with
            | false => rfl
            | true => exact fin2 ⟨dec1 k3, dec1 e1⟩
  · simp [R.get] at h

end Go.FM
