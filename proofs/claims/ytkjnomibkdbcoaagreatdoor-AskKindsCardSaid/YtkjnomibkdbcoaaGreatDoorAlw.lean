/-
  ask, in plain Lean: a query that has a text comes back out of it, what is parsed is printed just so; and with that: the laws of chapter 11 come to true; no conditions beyond what each argument keeps.
-/
import Derived.Test.YtkjnomibkdbcoaaGreatDoorDfn
import Derived.Test.YtkjnomibkdbcoaaGreatDoorDlw
import Derived.Test.YtkjnomibkdbcoaaGreatDoorLib
import Derived.Test.YtkjnomibkdbcoaaGreatDoorAfn
import Derived.Test.YtkjnomibkdbcoaaGreatDoorKfn

/-
  ask's PLAIN LAWS: a query's text is parsed to the query. Of no program.
-/
namespace Go.FM
open Go

/-! ### words put together, and taken apart -/
theorem join_two (x y : List UInt8) (r : List (List UInt8)) : Lib.join (x :: y :: r) [32] = x ++ 32 :: Lib.join (y :: r) [32] := by
  rw [Lib.join_cons, Lib.join_cons]
  simp [Lib.joinTail]
theorem split_join : ∀ (x : List UInt8) (r : List (List UInt8)), (∀ w ∈ x :: r, (32 : UInt8) ∉ w) → Lib.split (Lib.join (x :: r) [32]) [32] = x :: r
  | x, [], h => by rw [Lib.join_one]; exact split_no x 32 (h x (List.mem_cons_self ..))
  | x, y :: r, h => by
    rw [join_two, split_at x _ 32 (h x (List.mem_cons_self ..)), split_join y r (fun w hw => h w (List.mem_cons_of_mem _ hw))]
theorem map_data_inj : ∀ {l m : List ByteArray}, l.map (·.data.toList) = m.map (·.data.toList) → l = m
  | [], [], _ => rfl
  | [], _ :: _, h => by simp at h
  | _ :: _, [], h => by simp at h
  | x :: l, y :: m, h => by
    simp only [List.map_cons, List.cons.injEq] at h
    rw [bytes_ext h.1, map_data_inj h.2]
theorem line_join (ws : List ByteArray) (h0 : ws ≠ []) (h : ∀ w ∈ ws, (32 : UInt8) ∉ w.data.toList) : lineW (joinB ws w_space) = ws.map IV.str := by
  unfold lineW
  congr 1
  apply map_data_inj
  rw [splitL_data]
  cases ws with
  | nil => exact absurd rfl h0
  | cons x r =>
    show Lib.split (Lib.join ((x :: r).map (·.data.toList)) [32]) [32] = _
    rw [List.map_cons]
    exact split_join _ _ (fun w hw => by
      rcases List.mem_cons.1 hw with rfl | hw
      · exact h x (List.mem_cons_self ..)
      · obtain ⟨y, hy, rfl⟩ := List.mem_map.1 hw
        exact h y (List.mem_cons_of_mem _ hy))

/-! ### numbers' bytes -/
theorem sizeL_ch (u : Nat) : ∀ c ∈ sizeL u, c.toNat = 46 ∨ (48 ≤ c.toNat ∧ c.toNat ≤ 57) := by
  intro c hc
  rw [sizeL_eq] at hc
  rcases List.mem_append.1 hc with h | h
  · exact .inr (decDigits_ch _ c h)
  · split at h
    · cases h
    · rename_i h0
      rcases List.mem_cons.1 h with rfl | h
      · exact .inl rfl
      · exact .inr ((decs_ok h0 (by omega : u % 256 < 256)).2.1 c h)
theorem printL_ch (n : Int) : ∀ c ∈ printL n, 45 ≤ c.toNat ∧ c.toNat ≤ 57 := by
  intro c hc
  unfold printL at hc
  split at hc
  · rcases List.mem_cons.1 hc with rfl | h
    · exact ⟨by decide, by decide⟩
    · have := sizeL_ch _ c h
      omega
  · have := sizeL_ch _ c hc
    omega
theorem itoa_lt (n : Int) : ∀ c ∈ Lib.itoa n, 45 ≤ c.toNat ∧ c.toNat ≤ 57 := by
  intro c hc
  have := itoa_ch n c hc
  omega
theorem itoa_ne (n : Int) : Lib.itoa n ≠ [] := by
  unfold Lib.itoa
  split
  · simp
  · exact decDigits_ne _
theorem no32 {l : List UInt8} (h : ∀ c ∈ l, 45 ≤ c.toNat ∧ c.toNat ≤ 57) : (32 : UInt8) ∉ l := fun hc => by
  have := (h _ hc).1
  revert this
  decide
theorem beq_no {x y : ByteArray} (h : x ≠ y) : (x.toList == y.toList) = false := by rw [bytes_beq]; exact decide_eq_false h
theorem beq_yes (x : ByteArray) : (x.toList == x.toList) = true := by simp
/-- A word of letters is no number's. -/
theorem ne_num {w x : ByteArray} (hw : ∀ c ∈ w.data.toList, 97 ≤ c.toNat) (hx : x.data.toList ≠ []) (h : ∀ c ∈ x.data.toList, 45 ≤ c.toNat ∧ c.toNat ≤ 57) : (w.toList == x.toList) = false := by
  refine beq_no (fun e => ?_)
  subst e
  cases hl : w.data.toList with
  | nil => exact hx hl
  | cons c r =>
    have h1 := hw c (by rw [hl]; exact List.mem_cons_self ..)
    have h2 := h c (by rw [hl]; exact List.mem_cons_self ..)
    omega

/-! ### two points -/
def noDD : List UInt8 → Bool
  | [] => true
  | [c] => !(c == 46)
  | a :: b :: r => !(a == 46 && b == 46) && noDD (b :: r)
theorem noDD_plain : ∀ {l : List UInt8}, (∀ c ∈ l, c ≠ 46) → noDD l = true
  | [], _ => rfl
  | [c], h => by simp [noDD, h c (List.mem_cons_self ..)]
  | a :: b :: r, h => by
    have ha := h a (List.mem_cons_self ..)
    have e : (a == 46) = false := beq_eq_false_iff_ne.2 ha
    simp only [noDD, e, Bool.false_and, Bool.not_false, Bool.true_and]
    exact noDD_plain (fun c hc => h c (List.mem_cons_of_mem _ hc))
theorem noDD_app : ∀ {l : List UInt8} {c : UInt8} {r : List UInt8}, (∀ c ∈ l, c ≠ 46) → c ≠ 46 → noDD (c :: r) = true → noDD (l ++ 46 :: c :: r) = true
  | [], c, r, _, hc, hr => by
    have e : (c == 46) = false := beq_eq_false_iff_ne.2 hc
    simp only [List.nil_append, noDD, e, Bool.and_false, Bool.not_false, Bool.true_and, hr]
  | [a], c, r, h, hc, hr => by
    have e : (a == 46) = false := beq_eq_false_iff_ne.2 (h a (List.mem_cons_self ..))
    have := noDD_app (l := []) (fun c hc => by cases hc) hc hr
    simp only [List.nil_append] at this
    simp only [List.cons_append, List.nil_append, noDD, e, Bool.false_and, Bool.not_false, Bool.true_and]
    simpa only [noDD] using this
  | a :: b :: l, c, r, h, hc, hr => by
    have e : (a == 46) = false := beq_eq_false_iff_ne.2 (h a (List.mem_cons_self ..))
    have := noDD_app (l := b :: l) (fun c hc => h c (List.mem_cons_of_mem _ hc)) hc hr
    simp only [List.cons_append] at this ⊢
    simp only [noDD, e, Bool.false_and, Bool.not_false, Bool.true_and]
    exact this
theorem index_dots : ∀ (w r : List UInt8), noDD w = true → Lib.index (w ++ 46 :: 46 :: r) [46, 46] = w.length
  | [], r, _ => by simp [Lib.index, List.isPrefixOf]
  | [c], r, h => by
    have e : (c == 46) = false := by simpa [noDD] using h
    have e' : ((46 : UInt8) == c) = false := by rw [beq_eq_false_iff_ne] at e ⊢; exact fun h => e h.symm
    have h0 := index_dots [] r rfl
    simp only [List.nil_append, List.length_nil] at h0
    rw [List.singleton_append, Lib.index, h0]
    simp [List.isPrefixOf, e']
  | a :: b :: l, r, h => by
    simp only [noDD, Bool.and_eq_true] at h
    have ih := index_dots (b :: l) r h.2
    have e : [(46 : UInt8), 46].isPrefixOf (a :: b :: l ++ 46 :: 46 :: r) = false := by
      simp only [List.cons_append, List.isPrefixOf, Bool.and_true]
      have h1 := h.1
      cases ha : (a == 46) with
      | false =>
        have : ((46 : UInt8) == a) = false := by rw [beq_eq_false_iff_ne] at ha ⊢; exact fun h => ha h.symm
        rw [this, Bool.false_and]
      | true =>
        rw [ha, Bool.true_and] at h1
        have hb : (b == 46) = false := by simpa using h1
        have : ((46 : UInt8) == b) = false := by rw [beq_eq_false_iff_ne] at hb ⊢; exact fun h => hb h.symm
        rw [this, Bool.and_false]
    have e2 : (((b :: l).length : Int) == -1) = false := by rw [beq_eq_false_iff_ne]; simp only [List.length_cons]; omega
    rw [List.cons_append, Lib.index]
    rw [List.cons_append] at e
    rw [e, ih, e2]
    simp
theorem noDD_size (u : Nat) : noDD (sizeL u) = true := by
  have hd : ∀ c ∈ Lib.decDigits (u / 256), c ≠ 46 := fun c hc e => by
    subst e
    have := decDigits_ch _ _ hc
    revert this
    decide
  rw [sizeL_eq]
  by_cases h : u % 256 = 0
  · rw [if_pos h, List.append_nil]
    exact noDD_plain hd
  · rw [if_neg h]
    obtain ⟨_, h2, l, c, h3, _⟩ := decs_ok h (by omega : u % 256 < 256)
    have hp : ∀ c ∈ decsL (u % 256), c ≠ 46 := fun c hc e => by
      subst e
      have := h2 _ hc
      revert this
      decide
    cases hl : decsL (u % 256) with
    | nil => rw [h3] at hl; simp at hl
    | cons x r =>
      rw [hl] at hp
      exact noDD_app hd (hp x (List.mem_cons_self ..)) (noDD_plain hp)
theorem noDD_print (n : Int) : noDD (printL n) = true := by
  unfold printL
  split
  · obtain ⟨c, r, h, _⟩ := size_first n.natAbs
    have := noDD_size n.natAbs
    rw [h] at this ⊢
    simp only [noDD, Bool.and_eq_true]
    exact ⟨by rfl, this⟩
  · exact noDD_size _
theorem cut_dots (w r : List UInt8) (h : noDD w = true) : Lib.cut (w ++ 46 :: 46 :: r) [46, 46] = (w, r, true) := by
  unfold Lib.cut
  rw [index_dots w r h, if_pos (by omega)]
  simp
theorem span_cut (a b : Int) : cutL (spanW a b) w_dots = printB a ∧ cutR (spanW a b) w_dots = printB b := by
  have e : (spanW a b).data.toList = printL a ++ 46 :: 46 :: printL b := by
    unfold spanW
    simp only [ByteArray.data_append, Array.toList_append]
    show (printL a ++ [46, 46]) ++ printL b = _
    simp
  unfold cutL cutR
  rw [e]
  have := cut_dots (printL a) (printL b) (noDD_print a)
  show (⟨(Lib.cut _ [46, 46]).1.toArray⟩ : ByteArray) = _ ∧ (⟨(Lib.cut _ [46, 46]).2.1.toArray⟩ : ByteArray) = _
  rw [this]
  exact ⟨rfl, rfl⟩

/-! ### a query's words -/
theorem Qy.eq_of {p q : Qy} (h : p.eq q = true) : p = q := by
  cases p; cases q
  simp only [Qy.eq, Bool.and_eq_true, beq_iff_eq, and_true] at h
  simp only [Qy.mk.injEq]
  exact h
theorem Qy.eq_self (p : Qy) : p.eq p = true := by
  simp [Qy.eq]

theorem count_num {n : Int} (h : InR n) : atoiV (itoaB n) = n := atoiV_of rfl h.1 h.2
theorem scan_num {n : Int} (h : InR n) : decV (printB n) = n := (print_scan h).2
theorem printB_num (n : Int) : ∀ c ∈ (printB n).data.toList, 45 ≤ c.toNat ∧ c.toNat ≤ 57 := printL_ch n
theorem itoaB_num (n : Int) : ∀ c ∈ (itoaB n).data.toList, 45 ≤ c.toNat ∧ c.toNat ≤ 57 := itoa_lt n
theorem printB_ne (n : Int) : (printB n).data.toList ≠ [] := by
  obtain ⟨c, r, h, _⟩ := print_first n
  rw [h]
  simp
theorem spanW_num (a b : Int) : ∀ c ∈ (spanW a b).data.toList, 45 ≤ c.toNat ∧ c.toNat ≤ 57 := by
  intro c hc
  unfold spanW at hc
  simp only [ByteArray.data_append, Array.toList_append, List.mem_append] at hc
  rcases hc with (h | h) | h
  · exact printL_ch a c h
  · have h : c ∈ [(46 : UInt8), 46] := h
    simp only [List.mem_cons, List.not_mem_nil, or_false, or_self] at h
    subst h
    decide
  · exact printL_ch b c h
theorem words_no32 (q : Qy) (D : Nat) : ∀ w ∈ wordsQ q D, (32 : UInt8) ∉ w.data.toList := by
  intro w hw
  unfold wordsQ at hw
  have key : ∀ x ∈ headW q, (32 : UInt8) ∉ x.data.toList := by
    intro x hx
    unfold headW at hx
    cases h1 : (q.k == 1) <;> rw [h1] at hx <;> simp only [cond_true, cond_false] at hx
    · cases h2 : (q.k == 2) <;> rw [h2] at hx <;> simp only [cond_true, cond_false, List.mem_cons, List.not_mem_nil, or_false] at hx
      · rcases hx with rfl | rfl | rfl | rfl
        · cases q.fl <;> decide
        · exact no32 (itoaB_num _)
        · decide
        · exact no32 (itoaB_num _)
      · rcases hx with rfl | rfl
        · decide
        · exact no32 (itoaB_num _)
    · simp only [List.mem_cons, List.not_mem_nil, or_false] at hx
      rcases hx with rfl | rfl | rfl | rfl | rfl | rfl
      · decide
      · exact no32 (itoaB_num _)
      · decide
      · exact no32 (printB_num _)
      · decide
      · exact no32 (printB_num _)
  rcases List.mem_append.1 hw with h | h
  · rcases List.mem_append.1 h with h | h
    · exact key w h
    · rcases List.mem_cons.1 h with rfl | h
      · decide
      · obtain ⟨s, _, rfl⟩ := List.mem_map.1 h
        exact no32 (spanW_num _ _)
  · simp only [List.mem_cons, List.not_mem_nil, or_false] at h
    rcases h with rfl | rfl
    · decide
    · exact no32 (itoaB_num _)

theorem idxS_app (w : ByteArray) : ∀ (l : List IV) (r : List IV) (k : Int), (∀ x ∈ l, (w.toList == x.toStr.toList) = false) → idxS (l ++ .str w :: r) w k = k + (l.length : Int)
  | [], r, k, _ => by
    simp only [List.nil_append, idxS, IV.toStr, beq_yes, cond_true, List.length_nil]
    omega
  | x :: l, r, k, h => by
    rw [List.cons_append, idxS, h x (List.mem_cons_self ..), cond_false, idxS_app w l r (k + 1) (fun y hy => h y (List.mem_cons_of_mem _ hy))]
    simp only [List.length_cons]
    omega
theorem head_in (q : Qy) : ∀ x ∈ (headW q).map IV.str, (w_in.toList == x.toStr.toList) = false := by
  intro y hy
  obtain ⟨x, hx, rfl⟩ := List.mem_map.1 hy
  simp only [IV.toStr]
  have li : ∀ c ∈ w_in.data.toList, 97 ≤ c.toNat := by decide
  have ni := fun n => ne_num li (itoa_ne n) (itoaB_num n)
  have np := fun n => ne_num li (printB_ne n) (printB_num n)
  have dd : ∀ {a b : ByteArray}, a.data.toList ≠ b.data.toList → (a.toList == b.toList) = false := fun h => beq_no (fun e => h (by rw [e]))
  unfold headW at hx
  cases h1 : (q.k == 1) <;> rw [h1] at hx <;> simp only [cond_true, cond_false] at hx
  · cases h2 : (q.k == 2) <;> rw [h2] at hx <;> simp only [cond_true, cond_false, List.mem_cons, List.not_mem_nil, or_false] at hx
    · rcases hx with rfl | rfl | rfl | rfl
      · cases q.fl <;> exact dd (by decide)
      · exact ni _
      · exact dd (by decide)
      · exact ni _
    · rcases hx with rfl | rfl
      · exact dd (by decide)
      · exact ni _
  · simp only [List.mem_cons, List.not_mem_nil, or_false] at hx
    rcases hx with rfl | rfl | rfl | rfl | rfl | rfl
    · exact dd (by decide)
    · exact ni _
    · exact dd (by decide)
    · exact np _
    · exact dd (by decide)
    · exact np _

/-- A query's head, read back out of its words. -/
theorem head_words (q : Qy) (hc : InR q.c) (hlo : InR q.lo) (hhi : InR q.hi) (hft : InR q.ft) (hk : q.k = 1 ∨ q.k = 2 ∨ q.k = 3) (n1 : q.k ≠ 1 → q.lo = 0 ∧ q.hi = 0) (n3 : q.k ≠ 3 → q.ft = 0 ∧ q.fl = false) :
    headQ ((headW q).map IV.str) = ⟨q.k, q.c, 0, 0, 0, 0, 0, 0, 0, 0, 0, 0, q.lo, q.hi, q.ft, q.fl, 0⟩ := by
  have dd : ∀ {a b : ByteArray}, a.data.toList ≠ b.data.toList → (a.toList == b.toList) = false := fun h => beq_no (fun e => h (by rw [e]))
  obtain ⟨k, c, a0, b0, a1, b1, a2, b2, a3, b3, a4, b4, lo, hi, ft, fl, bu⟩ := q
  simp only at hc hlo hhi hft hk n1 n3 ⊢
  rcases hk with rfl | rfl | rfl
  · obtain ⟨rfl, rfl⟩ := n3 (by decide)
    show headQ [IV.str w_range, IV.str (itoaB c), IV.str w_from, IV.str (printB lo), IV.str w_to, IV.str (printB hi)] = _
    unfold headQ
    rw [show wAt [IV.str w_range, IV.str (itoaB c), IV.str w_from, IV.str (printB lo), IV.str w_to, IV.str (printB hi)] 0 = w_range from rfl, beq_yes, cond_true,
      show wAt [IV.str w_range, IV.str (itoaB c), IV.str w_from, IV.str (printB lo), IV.str w_to, IV.str (printB hi)] 1 = itoaB c from rfl, show wAt [IV.str w_range, IV.str (itoaB c), IV.str w_from, IV.str (printB lo), IV.str w_to, IV.str (printB hi)] 3 = printB lo from rfl,
      show wAt [IV.str w_range, IV.str (itoaB c), IV.str w_from, IV.str (printB lo), IV.str w_to, IV.str (printB hi)] 5 = printB hi from rfl, count_num hc, scan_num hlo, scan_num hhi]
  · obtain ⟨rfl, rfl⟩ := n3 (by decide)
    obtain ⟨rfl, rfl⟩ := n1 (by decide)
    show headQ [IV.str w_best, IV.str (itoaB c)] = _
    unfold headQ
    rw [show wAt [IV.str w_best, IV.str (itoaB c)] 0 = w_best from rfl, dd (show w_best.data.toList ≠ w_range.data.toList by decide), cond_false, beq_yes, cond_true, show wAt [IV.str w_best, IV.str (itoaB c)] 1 = itoaB c from rfl, count_num hc]
  · obtain ⟨rfl, rfl⟩ := n1 (by decide)
    cases fl with
    | true =>
      show headQ [IV.str w_falls, IV.str (itoaB c), IV.str w_by, IV.str (itoaB ft)] = _
      unfold headQ
      rw [show wAt [IV.str w_falls, IV.str (itoaB c), IV.str w_by, IV.str (itoaB ft)] 0 = w_falls from rfl, dd (show w_falls.data.toList ≠ w_range.data.toList by decide), cond_false, dd (show w_falls.data.toList ≠ w_best.data.toList by decide), cond_false, dd (show w_falls.data.toList ≠ w_rises.data.toList by decide), beq_yes, Bool.false_or, cond_true,
        show wAt [IV.str w_falls, IV.str (itoaB c), IV.str w_by, IV.str (itoaB ft)] 1 = itoaB c from rfl, show wAt [IV.str w_falls, IV.str (itoaB c), IV.str w_by, IV.str (itoaB ft)] 3 = itoaB ft from rfl, count_num hc, count_num hft]
    | false =>
      show headQ [IV.str w_rises, IV.str (itoaB c), IV.str w_by, IV.str (itoaB ft)] = _
      unfold headQ
      rw [show wAt [IV.str w_rises, IV.str (itoaB c), IV.str w_by, IV.str (itoaB ft)] 0 = w_rises from rfl, dd (show w_rises.data.toList ≠ w_range.data.toList by decide), cond_false, dd (show w_rises.data.toList ≠ w_best.data.toList by decide), cond_false, dd (show w_rises.data.toList ≠ w_falls.data.toList by decide), beq_yes, Bool.or_false, cond_true,
        show wAt [IV.str w_rises, IV.str (itoaB c), IV.str w_by, IV.str (itoaB ft)] 1 = itoaB c from rfl, show wAt [IV.str w_rises, IV.str (itoaB c), IV.str w_by, IV.str (itoaB ft)] 3 = itoaB ft from rfl, count_num hc, count_num hft]

theorem wAt_app (A B : List IV) (i : Nat) : wAt (A ++ B) (A.length + i) = wAt B i := by
  unfold wAt
  congr 1
  rw [List.getD, List.getElem?_append_right (by omega), Nat.add_sub_cancel_left]
  rfl

def tailW (q : Qy) (D : Nat) : List IV := (w_in :: ((q.spans.take D).map fun s => spanW s.1 s.2) ++ [w_budget, itoaB q.bu]).map IV.str
theorem wordsQ_map (q : Qy) (D : Nat) : (wordsQ q D).map IV.str = (headW q).map IV.str ++ tailW q D := by
  unfold wordsQ tailW
  simp

/-- A query, read back out of its words. -/
theorem raw_words (q : Qy) (hc : InR q.c) (hlo : InR q.lo) (hhi : InR q.hi) (hft : InR q.ft) (hbu : InR q.bu) (hsp : ∀ s ∈ q.spans, InR s.1 ∧ InR s.2) (D : Nat) (h1 : 1 ≤ D) (h4 : D ≤ 4) (hk : q.k = 1 ∨ q.k = 2 ∨ q.k = 3) (ht : q = told q D) :
    rawQ ((wordsQ q D).map IV.str) (headW q).length D = q := by
  rw [wordsQ_map]
  have ht' := ht
  have n1 : q.k ≠ 1 → q.lo = 0 ∧ q.hi = 0 := fun hn => by
    have e : (q.k == 1) = false := beq_eq_false_iff_ne.2 hn
    have a := congrArg Qy.lo ht'
    have b := congrArg Qy.hi ht'
    simp only [told, e, cond_false] at a b
    exact ⟨a, b⟩
  have n3 : q.k ≠ 3 → q.ft = 0 ∧ q.fl = false := fun hn => by
    have e : (q.k == 3) = false := beq_eq_false_iff_ne.2 hn
    have a := congrArg Qy.ft ht'
    have b := congrArg Qy.fl ht'
    simp only [told, e, cond_false] at a b
    exact ⟨a, b⟩
  have hh := head_words q hc hlo hhi hft hk n1 n3
  have hlen : ((headW q).map IV.str).length = (headW q).length := List.length_map ..
  generalize hA : (headW q).map IV.str = A at hh hlen
  have htk : List.take (headW q).length (A ++ tailW q D) = A := by rw [← hlen]; exact List.take_left
  have spA_of : ∀ (i : Nat) (a b : Int), InR a → wAt (tailW q D) i = spanW a b → spA (A ++ tailW q D) ((headW q).length + i) = a := fun i a b ha e => by
    unfold spA
    rw [← hlen, wAt_app, e, (span_cut a b).1]
    exact scan_num ha
  have spB_of : ∀ (i : Nat) (a b : Int), InR b → wAt (tailW q D) i = spanW a b → spB (A ++ tailW q D) ((headW q).length + i) = b := fun i a b hb e => by
    unfold spB
    rw [← hlen, wAt_app, e, (span_cut a b).2]
    exact scan_num hb
  have hlast : (A ++ tailW q D).length - 1 = (headW q).length + ((tailW q D).length - 1) := by
    rw [List.length_append, hlen]
    have : 0 < (tailW q D).length := by unfold tailW; simp
    omega
  unfold rawQ
  rw [htk, hh, hlast, ← hlen, wAt_app, hlen]
  clear htk hh hlast
  obtain ⟨k, c, a0, b0, a1, b1, a2, b2, a3, b3, a4, b4, lo, hi, ft, fl, bu⟩ := q
  have s0 := hsp (a0, b0) (by simp [Qy.spans])
  have s1 := hsp (a1, b1) (by simp [Qy.spans])
  have s2 := hsp (a2, b2) (by simp [Qy.spans])
  have s3 := hsp (a3, b3) (by simp [Qy.spans])
  simp only [told, Qy.mk.injEq, true_and] at ht
  obtain ⟨t1, t2, t3, t4, t5, t6, t7, t8, t9, t10, _⟩ := ht
  have hD : D = 1 ∨ D = 2 ∨ D = 3 ∨ D = 4 := by omega
  have n45 : a4 = 0 ∧ b4 = 0 := by
    rw [decide_eq_false (show ¬ (4 : Int) < D by omega)] at t9 t10
    exact ⟨t9, t10⟩
  obtain ⟨rfl, rfl⟩ := n45
  have hbu : InR bu := hbu
  rcases hD with rfl | rfl | rfl | rfl
  · simp only [show decide ((1 : Int) < ((1 : Nat) : Int)) = false from rfl, show decide ((2 : Int) < ((1 : Nat) : Int)) = false from rfl, show decide ((3 : Int) < ((1 : Nat) : Int)) = false from rfl, cond_false] at t3 t4 t5 t6 t7 t8
    subst t3 t4 t5 t6 t7 t8
    rw [spA_of 1 a0 b0 s0.1 rfl, spB_of 1 a0 b0 s0.2 rfl, show wAt (tailW ⟨k, c, a0, b0, 0, 0, 0, 0, 0, 0, 0, 0, lo, hi, ft, fl, bu⟩ 1) ((tailW ⟨k, c, a0, b0, 0, 0, 0, 0, 0, 0, 0, 0, lo, hi, ft, fl, bu⟩ 1).length - 1) = itoaB bu from rfl, count_num hbu]
    rfl
  · simp only [show decide ((2 : Int) < ((2 : Nat) : Int)) = false from rfl, show decide ((3 : Int) < ((2 : Nat) : Int)) = false from rfl, cond_false] at t5 t6 t7 t8
    subst t5 t6 t7 t8
    rw [spA_of 1 a0 b0 s0.1 rfl, spB_of 1 a0 b0 s0.2 rfl, spA_of 2 a1 b1 s1.1 rfl, spB_of 2 a1 b1 s1.2 rfl, show wAt (tailW ⟨k, c, a0, b0, a1, b1, 0, 0, 0, 0, 0, 0, lo, hi, ft, fl, bu⟩ 2) ((tailW ⟨k, c, a0, b0, a1, b1, 0, 0, 0, 0, 0, 0, lo, hi, ft, fl, bu⟩ 2).length - 1) = itoaB bu from rfl, count_num hbu]
    rfl
  · simp only [show decide ((3 : Int) < ((3 : Nat) : Int)) = false from rfl, cond_false] at t7 t8
    subst t7 t8
    rw [spA_of 1 a0 b0 s0.1 rfl, spB_of 1 a0 b0 s0.2 rfl, spA_of 2 a1 b1 s1.1 rfl, spB_of 2 a1 b1 s1.2 rfl, spA_of 3 a2 b2 s2.1 rfl, spB_of 3 a2 b2 s2.2 rfl, show wAt (tailW ⟨k, c, a0, b0, a1, b1, a2, b2, 0, 0, 0, 0, lo, hi, ft, fl, bu⟩ 3) ((tailW ⟨k, c, a0, b0, a1, b1, a2, b2, 0, 0, 0, 0, lo, hi, ft, fl, bu⟩ 3).length - 1) = itoaB bu from rfl, count_num hbu]
    rfl
  · rw [spA_of 1 a0 b0 s0.1 rfl, spB_of 1 a0 b0 s0.2 rfl, spA_of 2 a1 b1 s1.1 rfl, spB_of 2 a1 b1 s1.2 rfl, spA_of 3 a2 b2 s2.1 rfl, spB_of 3 a2 b2 s2.2 rfl, spA_of 4 a3 b3 s3.1 rfl, spB_of 4 a3 b3 s3.2 rfl, show wAt (tailW ⟨k, c, a0, b0, a1, b1, a2, b2, a3, b3, 0, 0, lo, hi, ft, fl, bu⟩ 4) ((tailW ⟨k, c, a0, b0, a1, b1, a2, b2, a3, b3, 0, 0, lo, hi, ft, fl, bu⟩ 4).length - 1) = itoaB bu from rfl, count_num hbu]
    rfl

/-! ### a query's text -/
theorem okQ_kind {q : Qy} {d : Int} (h : okQ q d = true) : 1 ≤ d ∧ d ≤ 4 ∧ q = told q d ∧ smallB q.c = true ∧ smallB q.ft = true ∧ smallB q.bu = true ∧ (q.k = 1 ∨ q.k = 2 ∨ q.k = 3) := by
  unfold okQ at h
  simp only [Bool.and_eq_true, Bool.not_eq_true', decide_eq_false_iff_not, Bool.or_eq_true, beq_iff_eq] at h
  obtain ⟨⟨h1, h2⟩, h3, h4, h5, h6, h7⟩ := h
  exact ⟨by omega, by omega, Qy.eq_of h3, h4, h5, h6, h7⟩
theorem wordsQ_ne (q : Qy) (D : Nat) : wordsQ q D ≠ [] := by
  unfold wordsQ
  simp
/-- A query that can be printed comes back out of its text. -/
theorem ask_print {q : Qy} {d : Int} (hc : InR q.c) (hlo : InR q.lo) (hhi : InR q.hi) (hft : InR q.ft) (hbu : InR q.bu) (hsp : ∀ s ∈ q.spans, InR s.1 ∧ InR s.2) (h : okQ q d = true) : askOK (printQ q d) = true ∧ askQ (printQ q d) = q ∧ askD (printQ q d) = d := by
  obtain ⟨h1, h4, ht, _, _, _, hk⟩ := okQ_kind h
  obtain ⟨D, rfl⟩ : ∃ D : Nat, d = D := ⟨d.toNat, by omega⟩
  have hp : printQ q (D : Int) = joinB (wordsQ q D) w_space := by
    unfold printQ
    rw [h]
    rfl
  have hline : lineW (printQ q (D : Int)) = (wordsQ q D).map IV.str := by
    rw [hp]
    exact line_join _ (wordsQ_ne q D) (words_no32 q D)
  have hI : lineI (printQ q (D : Int)) = ((headW q).length : Int) := by
    unfold lineI
    rw [hline, wordsQ_map]
    show idxS ((headW q).map IV.str ++ IV.str w_in :: _) w_in 0 = _
    rw [idxS_app w_in _ _ 0 (head_in q), List.length_map]
    omega
  have hD : lineD (printQ q (D : Int)) = (D : Int) := by
    unfold lineD
    rw [hline, hI, List.length_map]
    have : (wordsQ q D).length = (headW q).length + 1 + D + 2 := by
      unfold wordsQ
      simp only [List.length_append, List.length_cons, List.length_map, List.length_take, List.length_nil, Qy.spans]
      omega
    rw [this]
    simp only [ic]
    omega
  have hQ : lineQ (printQ q (D : Int)) = q := by
    unfold lineQ
    rw [hline, hI, hD]
    exact raw_words q hc hlo hhi hft hbu hsp D (by omega) (by omega) hk ht
  have hok : askOK (printQ q (D : Int)) = true := by
    unfold askOK
    rw [hI, hD, hQ, decide_eq_false (show ¬ ((headW q).length : Int) < 0 by omega), decide_eq_false (show ¬ (D : Int) < 1 by omega), decide_eq_false (show ¬ (D : Int) > 4 by omega), beq_yes]
    rfl
  refine ⟨hok, ?_, ?_⟩
  · unfold askQ
    rw [hok, hQ]
    rfl
  · unfold askD
    rw [hok, hD]
    rfl
theorem ask_only {s : ByteArray} (h : askOK s = true) : printQ (askQ s) (askD s) = s ∧ 1 ≤ askD s ∧ askD s ≤ 4 := by
  unfold askQ askD
  rw [h]
  unfold askOK at h
  simp only [Bool.and_eq_true, Bool.not_eq_true', decide_eq_false_iff_not] at h
  obtain ⟨⟨h1, h2, h3⟩, h4⟩ := h
  rw [bytes_beq] at h4
  exact ⟨of_decide_eq_true h4, by simp only [cond_true]; omega, by simp only [cond_true]; omega⟩
theorem ask_none {s : ByteArray} (h : askOK s = false) : askQ s = Qy.none ∧ askD s = 0 := by
  unfold askQ askD
  rw [h]
  exact ⟨rfl, rfl⟩
theorem print_bad {q : Qy} {d : Int} (h : okQ q d = false) : printQ q d = w_none := by
  unfold printQ
  rw [h]
  rfl
theorem print_pos' {q : Qy} {d : Int} (h : okQ q d = true) : 0 < (printQ q d).size := by
  have hp : printQ q d = joinB (wordsQ q d.toNat) w_space := by
    unfold printQ
    rw [h]
    rfl
  rw [hp, size_len]
  show 0 < (Lib.join ((wordsQ q d.toNat).map (·.data.toList)) [32]).length
  have : ∃ x r, (wordsQ q d.toNat).map (·.data.toList) = x :: r ∧ x ≠ [] := by
    unfold wordsQ headW
    cases (q.k == 1) <;> cases (q.k == 2) <;> cases q.fl <;> exact ⟨_, _, rfl, by decide⟩
  obtain ⟨x, r, e, hx⟩ := this
  rw [e, Lib.join_cons, List.length_append]
  have := List.length_pos_iff.2 hx
  omega
theorem none_bad : askOK w_none = false := by kernel_rfl

end Go.FM

/-
  NORMAL FORMS: what the functions' runs come to (written by a program of this claim's own, checked by the kernel).
-/
namespace Go.FM
open Go Go.Proofs

/-! ### copse/copselaw11.AskRuns -/
def E_copselaw11_AskRuns (N : Nat) : Env := mkE [(9, S_ask_Parse), (8, S_ask_Print)] [] 45 N

theorem nf_copselaw11_AskRuns (N : Nat) : evFun (E_copselaw11_AskRuns N) c_copselaw11_AskRuns [.tmp 0] [[.bool]] [] =
  (some ((.bool true), [])) := by kernel_rfl

/-! ### copse/copselaw11.AskBack -/
def E_copselaw11_AskBack (N : Nat) : Env := mkE [(9, S_ask_Parse), (8, S_ask_Print), (7, S_copsekeep_Ask_Query), (6, S_copsekeep_Forest_Model), (10, S_copselaw11_AskRuns)] [] 78 N

theorem nf_copselaw11_AskBack (N : Nat) (f_Dim : Int) (f_Classes : Int) (f_Bias : List IV) (f_Trees : List IV) (a1_Dim : Int) (a1_Classes : Int) (a1_Bias : List IV) (a1_Trees : List IV) (a2_Kind : Int) (a2_Class : Int) (a2_Lo : Int) (a2_Size : Int) (a2_Feature : Int) (a2_Budget : Int) (a2_Falls : Bool) (a2_Spans : List IV) (a3_Kind : Int) (a3_Class : Int) (a3_Lo : Int) (a3_Size : Int) (a3_Feature : Int) (a3_Budget : Int) (a3_Falls : Bool) (a3_Spans : List IV) : evFun (E_copselaw11_AskBack N) c_copselaw11_AskBack [.tmp 8] [[.bool]] [(.agg [(.int .i64 f_Dim), (.int .i64 f_Classes), (.list false [.int .i64] f_Bias), (.list true [.int .i64, .list false [.int .i64], .list false [.int .i64], .list false [.int .i64], .list false [.int .i64]] f_Trees)]), (.agg [(.int .i64 a1_Dim), (.int .i64 a1_Classes), (.list false [.int .i64] a1_Bias), (.list true [.int .i64, .list false [.int .i64], .list false [.int .i64], .list false [.int .i64], .list false [.int .i64]] a1_Trees)]), (.agg [(.int .i64 a2_Kind), (.int .i64 a2_Class), (.int .i64 a2_Lo), (.int .i64 a2_Size), (.int .i64 a2_Feature), (.int .i64 a2_Budget), (.bool a2_Falls), (.list false [.int .i64] a2_Spans)]), (.agg [(.int .i64 a3_Kind), (.int .i64 a3_Class), (.int .i64 a3_Lo), (.int .i64 a3_Size), (.int .i64 a3_Feature), (.int .i64 a3_Budget), (.bool a3_Falls), (.list false [.int .i64] a3_Spans)])] =
  (cond (decide (1 ≤ dimF f_Dim) && decide (dimF f_Dim ≤ 4) && (decide (1 ≤ clsF f_Classes) && decide (clsF f_Classes ≤ 3)))
  (cond (decide (1 ≤ dimF a1_Dim) && decide (dimF a1_Dim ≤ 4) && (decide (1 ≤ clsF a1_Classes) && decide (clsF a1_Classes ≤ 3)))
    (cond (decide (ByteArray.size (printQ (queryA { k := a2_Kind, c := a2_Class, lo := a2_Lo, size := a2_Size, ft := a2_Feature, bu := a2_Budget, fl := a2_Falls, sp := a2_Spans } (dimF f_Dim) (clsF f_Classes)) (dimF f_Dim)) < 4294967281))
      (cond (askOK (printQ (queryA { k := a2_Kind, c := a2_Class, lo := a2_Lo, size := a2_Size, ft := a2_Feature, bu := a2_Budget, fl := a2_Falls, sp := a2_Spans } (dimF f_Dim) (clsF f_Classes)) (dimF f_Dim)))
        (cond (Qy.eq (askQ (printQ (queryA { k := a2_Kind, c := a2_Class, lo := a2_Lo, size := a2_Size, ft := a2_Feature, bu := a2_Budget, fl := a2_Falls, sp := a2_Spans } (dimF f_Dim) (clsF f_Classes)) (dimF f_Dim))) (queryA { k := a2_Kind, c := a2_Class, lo := a2_Lo, size := a2_Size, ft := a2_Feature, bu := a2_Budget, fl := a2_Falls, sp := a2_Spans } (dimF f_Dim) (clsF f_Classes)))
          (cond (askD (printQ (queryA { k := a2_Kind, c := a2_Class, lo := a2_Lo, size := a2_Size, ft := a2_Feature, bu := a2_Budget, fl := a2_Falls, sp := a2_Spans } (dimF f_Dim) (clsF f_Classes)) (dimF f_Dim)) == dimF f_Dim)
            (cond (decide (ic (ByteArray.size (printQ (queryA { k := a2_Kind, c := a2_Class, lo := a2_Lo, size := a2_Size, ft := a2_Feature, bu := a2_Budget, fl := a2_Falls, sp := a2_Spans } (dimF f_Dim) (clsF f_Classes)) (dimF f_Dim))) > 0))
              (cond (Qy.eq (queryA { k := a2_Kind, c := a2_Class, lo := a2_Lo, size := a2_Size, ft := a2_Feature, bu := a2_Budget, fl := a2_Falls, sp := a2_Spans } (dimF f_Dim) (clsF f_Classes)) (queryA { k := a3_Kind, c := a3_Class, lo := a3_Lo, size := a3_Size, ft := a3_Feature, bu := a3_Budget, fl := a3_Falls, sp := a3_Spans } (dimF a1_Dim) (clsF a1_Classes)))
                (cond ((ByteArray.toList (printQ (queryA { k := a2_Kind, c := a2_Class, lo := a2_Lo, size := a2_Size, ft := a2_Feature, bu := a2_Budget, fl := a2_Falls, sp := a2_Spans } (dimF f_Dim) (clsF f_Classes)) (dimF f_Dim)) == ByteArray.toList (printQ (queryA { k := a3_Kind, c := a3_Class, lo := a3_Lo, size := a3_Size, ft := a3_Feature, bu := a3_Budget, fl := a3_Falls, sp := a3_Spans } (dimF a1_Dim) (clsF a1_Classes)) (dimF a1_Dim))) == (dimF f_Dim == dimF a1_Dim))
                  (some ((.bool true), []))
                  (some ((.bool false), [])))
                (cond ((ByteArray.toList (printQ (queryA { k := a2_Kind, c := a2_Class, lo := a2_Lo, size := a2_Size, ft := a2_Feature, bu := a2_Budget, fl := a2_Falls, sp := a2_Spans } (dimF f_Dim) (clsF f_Classes)) (dimF f_Dim)) == ByteArray.toList (printQ (queryA { k := a3_Kind, c := a3_Class, lo := a3_Lo, size := a3_Size, ft := a3_Feature, bu := a3_Budget, fl := a3_Falls, sp := a3_Spans } (dimF a1_Dim) (clsF a1_Classes)) (dimF a1_Dim))) == false)
                  (some ((.bool true), []))
                  (some ((.bool false), []))))
              (some ((.bool false), [])))
            (some ((.bool false), [])))
          (some ((.bool false), [])))
        (some ((.bool false), [])))
      none)
    none)
  none) := by kernel_rfl

end Go.FM

/-
  NORMAL FORMS: what the functions' runs come to (written by a program of this claim's own, checked by the kernel).
-/
namespace Go.FM
open Go Go.Proofs

/-! ### copse/copselaw11.AskOnly -/
def E_copselaw11_AskOnly (N : Nat) : Env := mkE [(9, S_ask_Parse), (8, S_ask_Print), (11, S_copsebook_Within), (7, S_copsekeep_Ask_Query), (6, S_copsekeep_Forest_Model), (10, S_copselaw11_AskRuns)] [] 117 N

def askK (tt : ByteArray) (a3 : Int) : Int := withinZ a3 0 (IntKind.wrap IntKind.i64 (ic (ByteArray.size tt) - 1))
def askTail (t : ByteArray) : Res :=
  (cond (decide (ByteArray.size t < 4294967281))
    (cond (askOK t)
      (cond (ByteArray.toList (printQ (askQ t) (askD t)) == ByteArray.toList t)
        (cond (decide (askD t ≥ 1)) (cond (decide (askD t ≤ 4)) (some ((.bool true), [])) (some ((.bool false), []))) (some ((.bool false), [])))
        (some ((.bool false), [])))
      (cond (Qy.k (askQ t) == 0 && (Qy.c (askQ t) == 0 && (Qy.a0 (askQ t) == 0 && (Qy.b0 (askQ t) == 0 && (Qy.a1 (askQ t) == 0 && (Qy.b1 (askQ t) == 0 && (Qy.a2 (askQ t) == 0 && (Qy.b2 (askQ t) == 0 && (Qy.a3 (askQ t) == 0 && (Qy.b3 (askQ t) == 0 && (Qy.a4 (askQ t) == 0 && (Qy.b4 (askQ t) == 0 && (Qy.lo (askQ t) == 0 && (Qy.hi (askQ t) == 0 && (Qy.ft (askQ t) == 0 && (Qy.fl (askQ t) == false && (Qy.bu (askQ t) == 0 && true)))))))))))))))))
        (cond (askD t == 0) (some ((.bool true), [])) (some ((.bool false), [])))
        (some ((.bool false), []))))
    none)
def askArms (tt a2 : ByteArray) (a3 a4 a5 : Int) : Res :=
  (cond (decide (withinM 0 (IntKind.wrap IntKind.i64 (ic (ByteArray.size tt) - 1)) = 0))
    none
    (cond (withinZ a5 0 4 == 0)
      (cond (decide (0 ≤ askK tt a3) && decide (askK tt a3 ≤ ic (ByteArray.size tt)))
        (cond (decide (ByteArray.size (ByteArray.extract tt 0 (Int.toNat (askK tt a3))) + ByteArray.size (strOfNums (List.map IV.toInt (List.drop 0 (List.take 1 [IV.int a4])))) ≤ strMax))
          (cond (decide (0 ≤ IntKind.wrap IntKind.i64 (askK tt a3 + 1)) && decide (IntKind.wrap IntKind.i64 (askK tt a3 + 1) ≤ ic (ByteArray.size tt)))
            (cond (decide (ByteArray.size (ByteArray.extract tt 0 (Int.toNat (askK tt a3)) ++ strOfNums (List.map IV.toInt (List.drop 0 (List.take 1 [IV.int a4])))) + ByteArray.size (ByteArray.extract tt (Int.toNat (IntKind.wrap IntKind.i64 (askK tt a3 + 1))) (ByteArray.size tt)) ≤ strMax))
              (askTail (ByteArray.extract tt 0 (Int.toNat (askK tt a3)) ++ strOfNums (List.map IV.toInt (List.drop 0 (List.take 1 [IV.int a4]))) ++ ByteArray.extract tt (Int.toNat (IntKind.wrap IntKind.i64 (askK tt a3 + 1))) (ByteArray.size tt)))
              none)
            none)
          none)
        none)
      (cond (withinZ a5 0 4 == 1)
        (cond (decide (0 ≤ askK tt a3) && decide (askK tt a3 ≤ ic (ByteArray.size tt)))
          (cond (decide (ByteArray.size (ByteArray.extract tt 0 (Int.toNat (askK tt a3))) + ByteArray.size (strOfNums (List.map IV.toInt (List.drop 0 (List.take 1 [IV.int a4])))) ≤ strMax))
            (cond (decide (0 ≤ askK tt a3) && decide (askK tt a3 ≤ ic (ByteArray.size tt)))
              (cond (decide (ByteArray.size (ByteArray.extract tt 0 (Int.toNat (askK tt a3)) ++ strOfNums (List.map IV.toInt (List.drop 0 (List.take 1 [IV.int a4])))) + ByteArray.size (ByteArray.extract tt (Int.toNat (askK tt a3)) (ByteArray.size tt)) ≤ strMax))
                (askTail (ByteArray.extract tt 0 (Int.toNat (askK tt a3)) ++ strOfNums (List.map IV.toInt (List.drop 0 (List.take 1 [IV.int a4]))) ++ ByteArray.extract tt (Int.toNat (askK tt a3)) (ByteArray.size tt)))
                none)
              none)
            none)
          none)
        (cond (withinZ a5 0 4 == 2)
          (cond (decide (0 ≤ askK tt a3) && decide (askK tt a3 ≤ ic (ByteArray.size tt)))
            (cond (decide (0 ≤ IntKind.wrap IntKind.i64 (askK tt a3 + 1)) && decide (IntKind.wrap IntKind.i64 (askK tt a3 + 1) ≤ ic (ByteArray.size tt)))
              (cond (decide (ByteArray.size (ByteArray.extract tt 0 (Int.toNat (askK tt a3))) + ByteArray.size (ByteArray.extract tt (Int.toNat (IntKind.wrap IntKind.i64 (askK tt a3 + 1))) (ByteArray.size tt)) ≤ strMax))
                (askTail (ByteArray.extract tt 0 (Int.toNat (askK tt a3)) ++ ByteArray.extract tt (Int.toNat (IntKind.wrap IntKind.i64 (askK tt a3 + 1))) (ByteArray.size tt)))
                none)
              none)
            none)
          (cond (withinZ a5 0 4 == 3)
            (cond (decide (0 ≤ askK tt a3) && decide (askK tt a3 ≤ ic (ByteArray.size tt)))
              (askTail (ByteArray.extract tt 0 (Int.toNat (askK tt a3))))
              none)
            (cond (decide (0 ≤ min (ic (ByteArray.size a2)) 60) && decide (min (ic (ByteArray.size a2)) 60 ≤ ic (ByteArray.size a2)))
              (askTail (ByteArray.extract a2 0 (Int.toNat (min (ic (ByteArray.size a2)) 60))))
              none))))))

theorem nf_copselaw11_AskOnly (N : Nat) (f_Dim : Int) (f_Classes : Int) (f_Bias : List IV) (f_Trees : List IV) (a1_Kind : Int) (a1_Class : Int) (a1_Lo : Int) (a1_Size : Int) (a1_Feature : Int) (a1_Budget : Int) (a1_Falls : Bool) (a1_Spans : List IV) (a2 : ByteArray) (a3 : Int) (a4 : Int) (a5 : Int) : evFun (E_copselaw11_AskOnly N) c_copselaw11_AskOnly [.tmp 12] [[.bool]] [(.agg [(.int .i64 f_Dim), (.int .i64 f_Classes), (.list false [.int .i64] f_Bias), (.list true [.int .i64, .list false [.int .i64], .list false [.int .i64], .list false [.int .i64], .list false [.int .i64]] f_Trees)]), (.agg [(.int .i64 a1_Kind), (.int .i64 a1_Class), (.int .i64 a1_Lo), (.int .i64 a1_Size), (.int .i64 a1_Feature), (.int .i64 a1_Budget), (.bool a1_Falls), (.list false [.int .i64] a1_Spans)]), (.str a2), (.int .i64 a3), (.int .u8 a4), (.int .i64 a5)] = 
  (cond (decide (1 ≤ dimF f_Dim) && decide (dimF f_Dim ≤ 4) && (decide (1 ≤ clsF f_Classes) && decide (clsF f_Classes ≤ 3)))
    (cond (decide (ic (ByteArray.size (printQ (queryA { k := a1_Kind, c := a1_Class, lo := a1_Lo, size := a1_Size, ft := a1_Feature, bu := a1_Budget, fl := a1_Falls, sp := a1_Spans } (dimF f_Dim) (clsF f_Classes)) (dimF f_Dim))) < 1)) (some ((.bool false), [])) (askArms (printQ (queryA { k := a1_Kind, c := a1_Class, lo := a1_Lo, size := a1_Size, ft := a1_Feature, bu := a1_Budget, fl := a1_Falls, sp := a1_Spans } (dimF f_Dim) (clsF f_Classes)) (dimF f_Dim)) a2 a3 a4 a5))
    none) := by kernel_rfl

end Go.FM

/-
  NORMAL FORMS: what the functions' runs come to (written by a program of this claim's own, checked by the kernel).
-/
namespace Go.FM
open Go Go.Proofs

/-! ### copse/copselaw11.AskKinds -/
def E_copselaw11_AskKinds (N : Nat) : Env := mkE [(8, S_ask_Print), (11, S_copsebook_Within), (7, S_copsekeep_Ask_Query), (6, S_copsekeep_Forest_Model), (10, S_copselaw11_AskRuns)] [(13, ⟨[2, 6, 7, 8, 9, 10, 11, 12], [7, 8], []⟩)] 114 N

theorem nf_copselaw11_AskKinds (N : Nat) (f_Dim : Int) (f_Classes : Int) (f_Bias : List IV) (f_Trees : List IV) (a1_Kind : Int) (a1_Class : Int) (a1_Lo : Int) (a1_Size : Int) (a1_Feature : Int) (a1_Budget : Int) (a1_Falls : Bool) (a1_Spans : List IV) (a2 : Int) : evFun (E_copselaw11_AskKinds N) c_copselaw11_AskKinds [.tmp 6] [[.bool]] [(.agg [(.int .i64 f_Dim), (.int .i64 f_Classes), (.list false [.int .i64] f_Bias), (.list true [.int .i64, .list false [.int .i64], .list false [.int .i64], .list false [.int .i64], .list false [.int .i64]] f_Trees)]), (.agg [(.int .i64 a1_Kind), (.int .i64 a1_Class), (.int .i64 a1_Lo), (.int .i64 a1_Size), (.int .i64 a1_Feature), (.int .i64 a1_Budget), (.bool a1_Falls), (.list false [.int .i64] a1_Spans)]), (.int .i64 a2)] =
  (cond (decide (1 ≤ dimF f_Dim) && decide (dimF f_Dim ≤ 4) && (decide (1 ≤ clsF f_Classes) && decide (clsF f_Classes ≤ 3)))
  (cond (Qy.k (queryA { k := a1_Kind, c := a1_Class, lo := a1_Lo, size := a1_Size, ft := a1_Feature, bu := a1_Budget, fl := a1_Falls, sp := a1_Spans } (dimF f_Dim) (clsF f_Classes)) == 2)
    (lpE (E_copselaw11_AskKinds N) (subC c_copselaw11_AskKinds [1, 1, 1, 1, 1, 1, 1, 0, 1, 0, 0]) ⟨[2, 6, 7, 8, 9, 10, 11, 12], [7, 8], []⟩ N ⟨[(2, (.int .i64 a2)), (6, (.bool false)), (7, (.ptr 7 0 0)), (8, (.ptr 8 0 0)), (9, (.str (printQ (queryA { k := a1_Kind, c := a1_Class, lo := a1_Lo, size := a1_Size, ft := a1_Feature, bu := a1_Budget, fl := a1_Falls, sp := a1_Spans } (dimF f_Dim) (clsF f_Classes)) (dimF f_Dim)))), (10, (.str ({ data := #[98, 101, 115, 116, 32] }))), (11, (.int .i64 0)), (12, (.int .i64 0))], [(7, (some (.box [(.int .i64 (dimF f_Dim)), (.int .i64 (clsF f_Classes)), (.int .i64 (biasF f_Classes f_Bias 0)), (.int .i64 (biasF f_Classes f_Bias 1)), (.int .i64 (biasF f_Classes f_Bias 2)), (.list true [(.int .i64), (.list false [(.int .u64)])] (treesF f_Dim f_Classes f_Trees))]))), (8, (some (.box [(.int .i64 (Qy.k (queryA { k := a1_Kind, c := a1_Class, lo := a1_Lo, size := a1_Size, ft := a1_Feature, bu := a1_Budget, fl := a1_Falls, sp := a1_Spans } (dimF f_Dim) (clsF f_Classes)))), (.int .i64 (Qy.c (queryA { k := a1_Kind, c := a1_Class, lo := a1_Lo, size := a1_Size, ft := a1_Feature, bu := a1_Budget, fl := a1_Falls, sp := a1_Spans } (dimF f_Dim) (clsF f_Classes)))), (.int .i64 (Qy.a0 (queryA { k := a1_Kind, c := a1_Class, lo := a1_Lo, size := a1_Size, ft := a1_Feature, bu := a1_Budget, fl := a1_Falls, sp := a1_Spans } (dimF f_Dim) (clsF f_Classes)))), (.int .i64 (Qy.b0 (queryA { k := a1_Kind, c := a1_Class, lo := a1_Lo, size := a1_Size, ft := a1_Feature, bu := a1_Budget, fl := a1_Falls, sp := a1_Spans } (dimF f_Dim) (clsF f_Classes)))), (.int .i64 (Qy.a1 (queryA { k := a1_Kind, c := a1_Class, lo := a1_Lo, size := a1_Size, ft := a1_Feature, bu := a1_Budget, fl := a1_Falls, sp := a1_Spans } (dimF f_Dim) (clsF f_Classes)))), (.int .i64 (Qy.b1 (queryA { k := a1_Kind, c := a1_Class, lo := a1_Lo, size := a1_Size, ft := a1_Feature, bu := a1_Budget, fl := a1_Falls, sp := a1_Spans } (dimF f_Dim) (clsF f_Classes)))), (.int .i64 (Qy.a2 (queryA { k := a1_Kind, c := a1_Class, lo := a1_Lo, size := a1_Size, ft := a1_Feature, bu := a1_Budget, fl := a1_Falls, sp := a1_Spans } (dimF f_Dim) (clsF f_Classes)))), (.int .i64 (Qy.b2 (queryA { k := a1_Kind, c := a1_Class, lo := a1_Lo, size := a1_Size, ft := a1_Feature, bu := a1_Budget, fl := a1_Falls, sp := a1_Spans } (dimF f_Dim) (clsF f_Classes)))), (.int .i64 (Qy.a3 (queryA { k := a1_Kind, c := a1_Class, lo := a1_Lo, size := a1_Size, ft := a1_Feature, bu := a1_Budget, fl := a1_Falls, sp := a1_Spans } (dimF f_Dim) (clsF f_Classes)))), (.int .i64 (Qy.b3 (queryA { k := a1_Kind, c := a1_Class, lo := a1_Lo, size := a1_Size, ft := a1_Feature, bu := a1_Budget, fl := a1_Falls, sp := a1_Spans } (dimF f_Dim) (clsF f_Classes)))), (.int .i64 (Qy.a4 (queryA { k := a1_Kind, c := a1_Class, lo := a1_Lo, size := a1_Size, ft := a1_Feature, bu := a1_Budget, fl := a1_Falls, sp := a1_Spans } (dimF f_Dim) (clsF f_Classes)))), (.int .i64 (Qy.b4 (queryA { k := a1_Kind, c := a1_Class, lo := a1_Lo, size := a1_Size, ft := a1_Feature, bu := a1_Budget, fl := a1_Falls, sp := a1_Spans } (dimF f_Dim) (clsF f_Classes)))), (.int .i64 (Qy.lo (queryA { k := a1_Kind, c := a1_Class, lo := a1_Lo, size := a1_Size, ft := a1_Feature, bu := a1_Budget, fl := a1_Falls, sp := a1_Spans } (dimF f_Dim) (clsF f_Classes)))), (.int .i64 (Qy.hi (queryA { k := a1_Kind, c := a1_Class, lo := a1_Lo, size := a1_Size, ft := a1_Feature, bu := a1_Budget, fl := a1_Falls, sp := a1_Spans } (dimF f_Dim) (clsF f_Classes)))), (.int .i64 (Qy.ft (queryA { k := a1_Kind, c := a1_Class, lo := a1_Lo, size := a1_Size, ft := a1_Feature, bu := a1_Budget, fl := a1_Falls, sp := a1_Spans } (dimF f_Dim) (clsF f_Classes)))), (.bool (Qy.fl (queryA { k := a1_Kind, c := a1_Class, lo := a1_Lo, size := a1_Size, ft := a1_Feature, bu := a1_Budget, fl := a1_Falls, sp := a1_Spans } (dimF f_Dim) (clsF f_Classes)))), (.int .i64 (Qy.bu (queryA { k := a1_Kind, c := a1_Class, lo := a1_Lo, size := a1_Size, ft := a1_Feature, bu := a1_Budget, fl := a1_Falls, sp := a1_Spans } (dimF f_Dim) (clsF f_Classes))))])))]⟩ (kBlock 1 (kSq (E_copselaw11_AskKinds N) (subC c_copselaw11_AskKinds [1, 1, 1, 1, 1, 1, 1, 1]) (outT (E_copselaw11_AskKinds N) none [(ResultVar.tmp 6)] [[.bool]]))))
    (cond (Qy.k (queryA { k := a1_Kind, c := a1_Class, lo := a1_Lo, size := a1_Size, ft := a1_Feature, bu := a1_Budget, fl := a1_Falls, sp := a1_Spans } (dimF f_Dim) (clsF f_Classes)) == 3)
      (cond (Qy.fl (queryA { k := a1_Kind, c := a1_Class, lo := a1_Lo, size := a1_Size, ft := a1_Feature, bu := a1_Budget, fl := a1_Falls, sp := a1_Spans } (dimF f_Dim) (clsF f_Classes)))
        (lpE (E_copselaw11_AskKinds N) (subC c_copselaw11_AskKinds [1, 1, 1, 1, 1, 1, 1, 0, 1, 0, 0]) ⟨[2, 6, 7, 8, 9, 10, 11, 12], [7, 8], []⟩ N ⟨[(2, (.int .i64 a2)), (6, (.bool false)), (7, (.ptr 7 0 0)), (8, (.ptr 8 0 0)), (9, (.str (printQ (queryA { k := a1_Kind, c := a1_Class, lo := a1_Lo, size := a1_Size, ft := a1_Feature, bu := a1_Budget, fl := a1_Falls, sp := a1_Spans } (dimF f_Dim) (clsF f_Classes)) (dimF f_Dim)))), (10, (.str ({ data := #[102, 97, 108, 108, 115, 32] }))), (11, (.int .i64 0)), (12, (.int .i64 0))], [(7, (some (.box [(.int .i64 (dimF f_Dim)), (.int .i64 (clsF f_Classes)), (.int .i64 (biasF f_Classes f_Bias 0)), (.int .i64 (biasF f_Classes f_Bias 1)), (.int .i64 (biasF f_Classes f_Bias 2)), (.list true [(.int .i64), (.list false [(.int .u64)])] (treesF f_Dim f_Classes f_Trees))]))), (8, (some (.box [(.int .i64 (Qy.k (queryA { k := a1_Kind, c := a1_Class, lo := a1_Lo, size := a1_Size, ft := a1_Feature, bu := a1_Budget, fl := a1_Falls, sp := a1_Spans } (dimF f_Dim) (clsF f_Classes)))), (.int .i64 (Qy.c (queryA { k := a1_Kind, c := a1_Class, lo := a1_Lo, size := a1_Size, ft := a1_Feature, bu := a1_Budget, fl := a1_Falls, sp := a1_Spans } (dimF f_Dim) (clsF f_Classes)))), (.int .i64 (Qy.a0 (queryA { k := a1_Kind, c := a1_Class, lo := a1_Lo, size := a1_Size, ft := a1_Feature, bu := a1_Budget, fl := a1_Falls, sp := a1_Spans } (dimF f_Dim) (clsF f_Classes)))), (.int .i64 (Qy.b0 (queryA { k := a1_Kind, c := a1_Class, lo := a1_Lo, size := a1_Size, ft := a1_Feature, bu := a1_Budget, fl := a1_Falls, sp := a1_Spans } (dimF f_Dim) (clsF f_Classes)))), (.int .i64 (Qy.a1 (queryA { k := a1_Kind, c := a1_Class, lo := a1_Lo, size := a1_Size, ft := a1_Feature, bu := a1_Budget, fl := a1_Falls, sp := a1_Spans } (dimF f_Dim) (clsF f_Classes)))), (.int .i64 (Qy.b1 (queryA { k := a1_Kind, c := a1_Class, lo := a1_Lo, size := a1_Size, ft := a1_Feature, bu := a1_Budget, fl := a1_Falls, sp := a1_Spans } (dimF f_Dim) (clsF f_Classes)))), (.int .i64 (Qy.a2 (queryA { k := a1_Kind, c := a1_Class, lo := a1_Lo, size := a1_Size, ft := a1_Feature, bu := a1_Budget, fl := a1_Falls, sp := a1_Spans } (dimF f_Dim) (clsF f_Classes)))), (.int .i64 (Qy.b2 (queryA { k := a1_Kind, c := a1_Class, lo := a1_Lo, size := a1_Size, ft := a1_Feature, bu := a1_Budget, fl := a1_Falls, sp := a1_Spans } (dimF f_Dim) (clsF f_Classes)))), (.int .i64 (Qy.a3 (queryA { k := a1_Kind, c := a1_Class, lo := a1_Lo, size := a1_Size, ft := a1_Feature, bu := a1_Budget, fl := a1_Falls, sp := a1_Spans } (dimF f_Dim) (clsF f_Classes)))), (.int .i64 (Qy.b3 (queryA { k := a1_Kind, c := a1_Class, lo := a1_Lo, size := a1_Size, ft := a1_Feature, bu := a1_Budget, fl := a1_Falls, sp := a1_Spans } (dimF f_Dim) (clsF f_Classes)))), (.int .i64 (Qy.a4 (queryA { k := a1_Kind, c := a1_Class, lo := a1_Lo, size := a1_Size, ft := a1_Feature, bu := a1_Budget, fl := a1_Falls, sp := a1_Spans } (dimF f_Dim) (clsF f_Classes)))), (.int .i64 (Qy.b4 (queryA { k := a1_Kind, c := a1_Class, lo := a1_Lo, size := a1_Size, ft := a1_Feature, bu := a1_Budget, fl := a1_Falls, sp := a1_Spans } (dimF f_Dim) (clsF f_Classes)))), (.int .i64 (Qy.lo (queryA { k := a1_Kind, c := a1_Class, lo := a1_Lo, size := a1_Size, ft := a1_Feature, bu := a1_Budget, fl := a1_Falls, sp := a1_Spans } (dimF f_Dim) (clsF f_Classes)))), (.int .i64 (Qy.hi (queryA { k := a1_Kind, c := a1_Class, lo := a1_Lo, size := a1_Size, ft := a1_Feature, bu := a1_Budget, fl := a1_Falls, sp := a1_Spans } (dimF f_Dim) (clsF f_Classes)))), (.int .i64 (Qy.ft (queryA { k := a1_Kind, c := a1_Class, lo := a1_Lo, size := a1_Size, ft := a1_Feature, bu := a1_Budget, fl := a1_Falls, sp := a1_Spans } (dimF f_Dim) (clsF f_Classes)))), (.bool (Qy.fl (queryA { k := a1_Kind, c := a1_Class, lo := a1_Lo, size := a1_Size, ft := a1_Feature, bu := a1_Budget, fl := a1_Falls, sp := a1_Spans } (dimF f_Dim) (clsF f_Classes)))), (.int .i64 (Qy.bu (queryA { k := a1_Kind, c := a1_Class, lo := a1_Lo, size := a1_Size, ft := a1_Feature, bu := a1_Budget, fl := a1_Falls, sp := a1_Spans } (dimF f_Dim) (clsF f_Classes))))])))]⟩ (kBlock 1 (kSq (E_copselaw11_AskKinds N) (subC c_copselaw11_AskKinds [1, 1, 1, 1, 1, 1, 1, 1]) (outT (E_copselaw11_AskKinds N) none [(ResultVar.tmp 6)] [[.bool]]))))
        (cond (Qy.k (queryA { k := a1_Kind, c := a1_Class, lo := a1_Lo, size := a1_Size, ft := a1_Feature, bu := a1_Budget, fl := a1_Falls, sp := a1_Spans } (dimF f_Dim) (clsF f_Classes)) == 3)
          (lpE (E_copselaw11_AskKinds N) (subC c_copselaw11_AskKinds [1, 1, 1, 1, 1, 1, 1, 0, 1, 0, 0]) ⟨[2, 6, 7, 8, 9, 10, 11, 12], [7, 8], []⟩ N ⟨[(2, (.int .i64 a2)), (6, (.bool false)), (7, (.ptr 7 0 0)), (8, (.ptr 8 0 0)), (9, (.str (printQ (queryA { k := a1_Kind, c := a1_Class, lo := a1_Lo, size := a1_Size, ft := a1_Feature, bu := a1_Budget, fl := a1_Falls, sp := a1_Spans } (dimF f_Dim) (clsF f_Classes)) (dimF f_Dim)))), (10, (.str ({ data := #[114, 105, 115, 101, 115, 32] }))), (11, (.int .i64 0)), (12, (.int .i64 0))], [(7, (some (.box [(.int .i64 (dimF f_Dim)), (.int .i64 (clsF f_Classes)), (.int .i64 (biasF f_Classes f_Bias 0)), (.int .i64 (biasF f_Classes f_Bias 1)), (.int .i64 (biasF f_Classes f_Bias 2)), (.list true [(.int .i64), (.list false [(.int .u64)])] (treesF f_Dim f_Classes f_Trees))]))), (8, (some (.box [(.int .i64 (Qy.k (queryA { k := a1_Kind, c := a1_Class, lo := a1_Lo, size := a1_Size, ft := a1_Feature, bu := a1_Budget, fl := a1_Falls, sp := a1_Spans } (dimF f_Dim) (clsF f_Classes)))), (.int .i64 (Qy.c (queryA { k := a1_Kind, c := a1_Class, lo := a1_Lo, size := a1_Size, ft := a1_Feature, bu := a1_Budget, fl := a1_Falls, sp := a1_Spans } (dimF f_Dim) (clsF f_Classes)))), (.int .i64 (Qy.a0 (queryA { k := a1_Kind, c := a1_Class, lo := a1_Lo, size := a1_Size, ft := a1_Feature, bu := a1_Budget, fl := a1_Falls, sp := a1_Spans } (dimF f_Dim) (clsF f_Classes)))), (.int .i64 (Qy.b0 (queryA { k := a1_Kind, c := a1_Class, lo := a1_Lo, size := a1_Size, ft := a1_Feature, bu := a1_Budget, fl := a1_Falls, sp := a1_Spans } (dimF f_Dim) (clsF f_Classes)))), (.int .i64 (Qy.a1 (queryA { k := a1_Kind, c := a1_Class, lo := a1_Lo, size := a1_Size, ft := a1_Feature, bu := a1_Budget, fl := a1_Falls, sp := a1_Spans } (dimF f_Dim) (clsF f_Classes)))), (.int .i64 (Qy.b1 (queryA { k := a1_Kind, c := a1_Class, lo := a1_Lo, size := a1_Size, ft := a1_Feature, bu := a1_Budget, fl := a1_Falls, sp := a1_Spans } (dimF f_Dim) (clsF f_Classes)))), (.int .i64 (Qy.a2 (queryA { k := a1_Kind, c := a1_Class, lo := a1_Lo, size := a1_Size, ft := a1_Feature, bu := a1_Budget, fl := a1_Falls, sp := a1_Spans } (dimF f_Dim) (clsF f_Classes)))), (.int .i64 (Qy.b2 (queryA { k := a1_Kind, c := a1_Class, lo := a1_Lo, size := a1_Size, ft := a1_Feature, bu := a1_Budget, fl := a1_Falls, sp := a1_Spans } (dimF f_Dim) (clsF f_Classes)))), (.int .i64 (Qy.a3 (queryA { k := a1_Kind, c := a1_Class, lo := a1_Lo, size := a1_Size, ft := a1_Feature, bu := a1_Budget, fl := a1_Falls, sp := a1_Spans } (dimF f_Dim) (clsF f_Classes)))), (.int .i64 (Qy.b3 (queryA { k := a1_Kind, c := a1_Class, lo := a1_Lo, size := a1_Size, ft := a1_Feature, bu := a1_Budget, fl := a1_Falls, sp := a1_Spans } (dimF f_Dim) (clsF f_Classes)))), (.int .i64 (Qy.a4 (queryA { k := a1_Kind, c := a1_Class, lo := a1_Lo, size := a1_Size, ft := a1_Feature, bu := a1_Budget, fl := a1_Falls, sp := a1_Spans } (dimF f_Dim) (clsF f_Classes)))), (.int .i64 (Qy.b4 (queryA { k := a1_Kind, c := a1_Class, lo := a1_Lo, size := a1_Size, ft := a1_Feature, bu := a1_Budget, fl := a1_Falls, sp := a1_Spans } (dimF f_Dim) (clsF f_Classes)))), (.int .i64 (Qy.lo (queryA { k := a1_Kind, c := a1_Class, lo := a1_Lo, size := a1_Size, ft := a1_Feature, bu := a1_Budget, fl := a1_Falls, sp := a1_Spans } (dimF f_Dim) (clsF f_Classes)))), (.int .i64 (Qy.hi (queryA { k := a1_Kind, c := a1_Class, lo := a1_Lo, size := a1_Size, ft := a1_Feature, bu := a1_Budget, fl := a1_Falls, sp := a1_Spans } (dimF f_Dim) (clsF f_Classes)))), (.int .i64 (Qy.ft (queryA { k := a1_Kind, c := a1_Class, lo := a1_Lo, size := a1_Size, ft := a1_Feature, bu := a1_Budget, fl := a1_Falls, sp := a1_Spans } (dimF f_Dim) (clsF f_Classes)))), (.bool (Qy.fl (queryA { k := a1_Kind, c := a1_Class, lo := a1_Lo, size := a1_Size, ft := a1_Feature, bu := a1_Budget, fl := a1_Falls, sp := a1_Spans } (dimF f_Dim) (clsF f_Classes)))), (.int .i64 (Qy.bu (queryA { k := a1_Kind, c := a1_Class, lo := a1_Lo, size := a1_Size, ft := a1_Feature, bu := a1_Budget, fl := a1_Falls, sp := a1_Spans } (dimF f_Dim) (clsF f_Classes))))])))]⟩ (kBlock 1 (kSq (E_copselaw11_AskKinds N) (subC c_copselaw11_AskKinds [1, 1, 1, 1, 1, 1, 1, 1]) (outT (E_copselaw11_AskKinds N) none [(ResultVar.tmp 6)] [[.bool]]))))
          (lpE (E_copselaw11_AskKinds N) (subC c_copselaw11_AskKinds [1, 1, 1, 1, 1, 1, 1, 0, 1, 0, 0]) ⟨[2, 6, 7, 8, 9, 10, 11, 12], [7, 8], []⟩ N ⟨[(2, (.int .i64 a2)), (6, (.bool false)), (7, (.ptr 7 0 0)), (8, (.ptr 8 0 0)), (9, (.str (printQ (queryA { k := a1_Kind, c := a1_Class, lo := a1_Lo, size := a1_Size, ft := a1_Feature, bu := a1_Budget, fl := a1_Falls, sp := a1_Spans } (dimF f_Dim) (clsF f_Classes)) (dimF f_Dim)))), (10, (.str ({ data := #[114, 97, 110, 103, 101, 32] }))), (11, (.int .i64 0)), (12, (.int .i64 0))], [(7, (some (.box [(.int .i64 (dimF f_Dim)), (.int .i64 (clsF f_Classes)), (.int .i64 (biasF f_Classes f_Bias 0)), (.int .i64 (biasF f_Classes f_Bias 1)), (.int .i64 (biasF f_Classes f_Bias 2)), (.list true [(.int .i64), (.list false [(.int .u64)])] (treesF f_Dim f_Classes f_Trees))]))), (8, (some (.box [(.int .i64 (Qy.k (queryA { k := a1_Kind, c := a1_Class, lo := a1_Lo, size := a1_Size, ft := a1_Feature, bu := a1_Budget, fl := a1_Falls, sp := a1_Spans } (dimF f_Dim) (clsF f_Classes)))), (.int .i64 (Qy.c (queryA { k := a1_Kind, c := a1_Class, lo := a1_Lo, size := a1_Size, ft := a1_Feature, bu := a1_Budget, fl := a1_Falls, sp := a1_Spans } (dimF f_Dim) (clsF f_Classes)))), (.int .i64 (Qy.a0 (queryA { k := a1_Kind, c := a1_Class, lo := a1_Lo, size := a1_Size, ft := a1_Feature, bu := a1_Budget, fl := a1_Falls, sp := a1_Spans } (dimF f_Dim) (clsF f_Classes)))), (.int .i64 (Qy.b0 (queryA { k := a1_Kind, c := a1_Class, lo := a1_Lo, size := a1_Size, ft := a1_Feature, bu := a1_Budget, fl := a1_Falls, sp := a1_Spans } (dimF f_Dim) (clsF f_Classes)))), (.int .i64 (Qy.a1 (queryA { k := a1_Kind, c := a1_Class, lo := a1_Lo, size := a1_Size, ft := a1_Feature, bu := a1_Budget, fl := a1_Falls, sp := a1_Spans } (dimF f_Dim) (clsF f_Classes)))), (.int .i64 (Qy.b1 (queryA { k := a1_Kind, c := a1_Class, lo := a1_Lo, size := a1_Size, ft := a1_Feature, bu := a1_Budget, fl := a1_Falls, sp := a1_Spans } (dimF f_Dim) (clsF f_Classes)))), (.int .i64 (Qy.a2 (queryA { k := a1_Kind, c := a1_Class, lo := a1_Lo, size := a1_Size, ft := a1_Feature, bu := a1_Budget, fl := a1_Falls, sp := a1_Spans } (dimF f_Dim) (clsF f_Classes)))), (.int .i64 (Qy.b2 (queryA { k := a1_Kind, c := a1_Class, lo := a1_Lo, size := a1_Size, ft := a1_Feature, bu := a1_Budget, fl := a1_Falls, sp := a1_Spans } (dimF f_Dim) (clsF f_Classes)))), (.int .i64 (Qy.a3 (queryA { k := a1_Kind, c := a1_Class, lo := a1_Lo, size := a1_Size, ft := a1_Feature, bu := a1_Budget, fl := a1_Falls, sp := a1_Spans } (dimF f_Dim) (clsF f_Classes)))), (.int .i64 (Qy.b3 (queryA { k := a1_Kind, c := a1_Class, lo := a1_Lo, size := a1_Size, ft := a1_Feature, bu := a1_Budget, fl := a1_Falls, sp := a1_Spans } (dimF f_Dim) (clsF f_Classes)))), (.int .i64 (Qy.a4 (queryA { k := a1_Kind, c := a1_Class, lo := a1_Lo, size := a1_Size, ft := a1_Feature, bu := a1_Budget, fl := a1_Falls, sp := a1_Spans } (dimF f_Dim) (clsF f_Classes)))), (.int .i64 (Qy.b4 (queryA { k := a1_Kind, c := a1_Class, lo := a1_Lo, size := a1_Size, ft := a1_Feature, bu := a1_Budget, fl := a1_Falls, sp := a1_Spans } (dimF f_Dim) (clsF f_Classes)))), (.int .i64 (Qy.lo (queryA { k := a1_Kind, c := a1_Class, lo := a1_Lo, size := a1_Size, ft := a1_Feature, bu := a1_Budget, fl := a1_Falls, sp := a1_Spans } (dimF f_Dim) (clsF f_Classes)))), (.int .i64 (Qy.hi (queryA { k := a1_Kind, c := a1_Class, lo := a1_Lo, size := a1_Size, ft := a1_Feature, bu := a1_Budget, fl := a1_Falls, sp := a1_Spans } (dimF f_Dim) (clsF f_Classes)))), (.int .i64 (Qy.ft (queryA { k := a1_Kind, c := a1_Class, lo := a1_Lo, size := a1_Size, ft := a1_Feature, bu := a1_Budget, fl := a1_Falls, sp := a1_Spans } (dimF f_Dim) (clsF f_Classes)))), (.bool (Qy.fl (queryA { k := a1_Kind, c := a1_Class, lo := a1_Lo, size := a1_Size, ft := a1_Feature, bu := a1_Budget, fl := a1_Falls, sp := a1_Spans } (dimF f_Dim) (clsF f_Classes)))), (.int .i64 (Qy.bu (queryA { k := a1_Kind, c := a1_Class, lo := a1_Lo, size := a1_Size, ft := a1_Feature, bu := a1_Budget, fl := a1_Falls, sp := a1_Spans } (dimF f_Dim) (clsF f_Classes))))])))]⟩ (kBlock 1 (kSq (E_copselaw11_AskKinds N) (subC c_copselaw11_AskKinds [1, 1, 1, 1, 1, 1, 1, 1]) (outT (E_copselaw11_AskKinds N) none [(ResultVar.tmp 6)] [[.bool]]))))))
      (cond (Qy.k (queryA { k := a1_Kind, c := a1_Class, lo := a1_Lo, size := a1_Size, ft := a1_Feature, bu := a1_Budget, fl := a1_Falls, sp := a1_Spans } (dimF f_Dim) (clsF f_Classes)) == 3)
        (lpE (E_copselaw11_AskKinds N) (subC c_copselaw11_AskKinds [1, 1, 1, 1, 1, 1, 1, 0, 1, 0, 0]) ⟨[2, 6, 7, 8, 9, 10, 11, 12], [7, 8], []⟩ N ⟨[(2, (.int .i64 a2)), (6, (.bool false)), (7, (.ptr 7 0 0)), (8, (.ptr 8 0 0)), (9, (.str (printQ (queryA { k := a1_Kind, c := a1_Class, lo := a1_Lo, size := a1_Size, ft := a1_Feature, bu := a1_Budget, fl := a1_Falls, sp := a1_Spans } (dimF f_Dim) (clsF f_Classes)) (dimF f_Dim)))), (10, (.str ({ data := #[114, 105, 115, 101, 115, 32] }))), (11, (.int .i64 0)), (12, (.int .i64 0))], [(7, (some (.box [(.int .i64 (dimF f_Dim)), (.int .i64 (clsF f_Classes)), (.int .i64 (biasF f_Classes f_Bias 0)), (.int .i64 (biasF f_Classes f_Bias 1)), (.int .i64 (biasF f_Classes f_Bias 2)), (.list true [(.int .i64), (.list false [(.int .u64)])] (treesF f_Dim f_Classes f_Trees))]))), (8, (some (.box [(.int .i64 (Qy.k (queryA { k := a1_Kind, c := a1_Class, lo := a1_Lo, size := a1_Size, ft := a1_Feature, bu := a1_Budget, fl := a1_Falls, sp := a1_Spans } (dimF f_Dim) (clsF f_Classes)))), (.int .i64 (Qy.c (queryA { k := a1_Kind, c := a1_Class, lo := a1_Lo, size := a1_Size, ft := a1_Feature, bu := a1_Budget, fl := a1_Falls, sp := a1_Spans } (dimF f_Dim) (clsF f_Classes)))), (.int .i64 (Qy.a0 (queryA { k := a1_Kind, c := a1_Class, lo := a1_Lo, size := a1_Size, ft := a1_Feature, bu := a1_Budget, fl := a1_Falls, sp := a1_Spans } (dimF f_Dim) (clsF f_Classes)))), (.int .i64 (Qy.b0 (queryA { k := a1_Kind, c := a1_Class, lo := a1_Lo, size := a1_Size, ft := a1_Feature, bu := a1_Budget, fl := a1_Falls, sp := a1_Spans } (dimF f_Dim) (clsF f_Classes)))), (.int .i64 (Qy.a1 (queryA { k := a1_Kind, c := a1_Class, lo := a1_Lo, size := a1_Size, ft := a1_Feature, bu := a1_Budget, fl := a1_Falls, sp := a1_Spans } (dimF f_Dim) (clsF f_Classes)))), (.int .i64 (Qy.b1 (queryA { k := a1_Kind, c := a1_Class, lo := a1_Lo, size := a1_Size, ft := a1_Feature, bu := a1_Budget, fl := a1_Falls, sp := a1_Spans } (dimF f_Dim) (clsF f_Classes)))), (.int .i64 (Qy.a2 (queryA { k := a1_Kind, c := a1_Class, lo := a1_Lo, size := a1_Size, ft := a1_Feature, bu := a1_Budget, fl := a1_Falls, sp := a1_Spans } (dimF f_Dim) (clsF f_Classes)))), (.int .i64 (Qy.b2 (queryA { k := a1_Kind, c := a1_Class, lo := a1_Lo, size := a1_Size, ft := a1_Feature, bu := a1_Budget, fl := a1_Falls, sp := a1_Spans } (dimF f_Dim) (clsF f_Classes)))), (.int .i64 (Qy.a3 (queryA { k := a1_Kind, c := a1_Class, lo := a1_Lo, size := a1_Size, ft := a1_Feature, bu := a1_Budget, fl := a1_Falls, sp := a1_Spans } (dimF f_Dim) (clsF f_Classes)))), (.int .i64 (Qy.b3 (queryA { k := a1_Kind, c := a1_Class, lo := a1_Lo, size := a1_Size, ft := a1_Feature, bu := a1_Budget, fl := a1_Falls, sp := a1_Spans } (dimF f_Dim) (clsF f_Classes)))), (.int .i64 (Qy.a4 (queryA { k := a1_Kind, c := a1_Class, lo := a1_Lo, size := a1_Size, ft := a1_Feature, bu := a1_Budget, fl := a1_Falls, sp := a1_Spans } (dimF f_Dim) (clsF f_Classes)))), (.int .i64 (Qy.b4 (queryA { k := a1_Kind, c := a1_Class, lo := a1_Lo, size := a1_Size, ft := a1_Feature, bu := a1_Budget, fl := a1_Falls, sp := a1_Spans } (dimF f_Dim) (clsF f_Classes)))), (.int .i64 (Qy.lo (queryA { k := a1_Kind, c := a1_Class, lo := a1_Lo, size := a1_Size, ft := a1_Feature, bu := a1_Budget, fl := a1_Falls, sp := a1_Spans } (dimF f_Dim) (clsF f_Classes)))), (.int .i64 (Qy.hi (queryA { k := a1_Kind, c := a1_Class, lo := a1_Lo, size := a1_Size, ft := a1_Feature, bu := a1_Budget, fl := a1_Falls, sp := a1_Spans } (dimF f_Dim) (clsF f_Classes)))), (.int .i64 (Qy.ft (queryA { k := a1_Kind, c := a1_Class, lo := a1_Lo, size := a1_Size, ft := a1_Feature, bu := a1_Budget, fl := a1_Falls, sp := a1_Spans } (dimF f_Dim) (clsF f_Classes)))), (.bool (Qy.fl (queryA { k := a1_Kind, c := a1_Class, lo := a1_Lo, size := a1_Size, ft := a1_Feature, bu := a1_Budget, fl := a1_Falls, sp := a1_Spans } (dimF f_Dim) (clsF f_Classes)))), (.int .i64 (Qy.bu (queryA { k := a1_Kind, c := a1_Class, lo := a1_Lo, size := a1_Size, ft := a1_Feature, bu := a1_Budget, fl := a1_Falls, sp := a1_Spans } (dimF f_Dim) (clsF f_Classes))))])))]⟩ (kBlock 1 (kSq (E_copselaw11_AskKinds N) (subC c_copselaw11_AskKinds [1, 1, 1, 1, 1, 1, 1, 1]) (outT (E_copselaw11_AskKinds N) none [(ResultVar.tmp 6)] [[.bool]]))))
        (lpE (E_copselaw11_AskKinds N) (subC c_copselaw11_AskKinds [1, 1, 1, 1, 1, 1, 1, 0, 1, 0, 0]) ⟨[2, 6, 7, 8, 9, 10, 11, 12], [7, 8], []⟩ N ⟨[(2, (.int .i64 a2)), (6, (.bool false)), (7, (.ptr 7 0 0)), (8, (.ptr 8 0 0)), (9, (.str (printQ (queryA { k := a1_Kind, c := a1_Class, lo := a1_Lo, size := a1_Size, ft := a1_Feature, bu := a1_Budget, fl := a1_Falls, sp := a1_Spans } (dimF f_Dim) (clsF f_Classes)) (dimF f_Dim)))), (10, (.str ({ data := #[114, 97, 110, 103, 101, 32] }))), (11, (.int .i64 0)), (12, (.int .i64 0))], [(7, (some (.box [(.int .i64 (dimF f_Dim)), (.int .i64 (clsF f_Classes)), (.int .i64 (biasF f_Classes f_Bias 0)), (.int .i64 (biasF f_Classes f_Bias 1)), (.int .i64 (biasF f_Classes f_Bias 2)), (.list true [(.int .i64), (.list false [(.int .u64)])] (treesF f_Dim f_Classes f_Trees))]))), (8, (some (.box [(.int .i64 (Qy.k (queryA { k := a1_Kind, c := a1_Class, lo := a1_Lo, size := a1_Size, ft := a1_Feature, bu := a1_Budget, fl := a1_Falls, sp := a1_Spans } (dimF f_Dim) (clsF f_Classes)))), (.int .i64 (Qy.c (queryA { k := a1_Kind, c := a1_Class, lo := a1_Lo, size := a1_Size, ft := a1_Feature, bu := a1_Budget, fl := a1_Falls, sp := a1_Spans } (dimF f_Dim) (clsF f_Classes)))), (.int .i64 (Qy.a0 (queryA { k := a1_Kind, c := a1_Class, lo := a1_Lo, size := a1_Size, ft := a1_Feature, bu := a1_Budget, fl := a1_Falls, sp := a1_Spans } (dimF f_Dim) (clsF f_Classes)))), (.int .i64 (Qy.b0 (queryA { k := a1_Kind, c := a1_Class, lo := a1_Lo, size := a1_Size, ft := a1_Feature, bu := a1_Budget, fl := a1_Falls, sp := a1_Spans } (dimF f_Dim) (clsF f_Classes)))), (.int .i64 (Qy.a1 (queryA { k := a1_Kind, c := a1_Class, lo := a1_Lo, size := a1_Size, ft := a1_Feature, bu := a1_Budget, fl := a1_Falls, sp := a1_Spans } (dimF f_Dim) (clsF f_Classes)))), (.int .i64 (Qy.b1 (queryA { k := a1_Kind, c := a1_Class, lo := a1_Lo, size := a1_Size, ft := a1_Feature, bu := a1_Budget, fl := a1_Falls, sp := a1_Spans } (dimF f_Dim) (clsF f_Classes)))), (.int .i64 (Qy.a2 (queryA { k := a1_Kind, c := a1_Class, lo := a1_Lo, size := a1_Size, ft := a1_Feature, bu := a1_Budget, fl := a1_Falls, sp := a1_Spans } (dimF f_Dim) (clsF f_Classes)))), (.int .i64 (Qy.b2 (queryA { k := a1_Kind, c := a1_Class, lo := a1_Lo, size := a1_Size, ft := a1_Feature, bu := a1_Budget, fl := a1_Falls, sp := a1_Spans } (dimF f_Dim) (clsF f_Classes)))), (.int .i64 (Qy.a3 (queryA { k := a1_Kind, c := a1_Class, lo := a1_Lo, size := a1_Size, ft := a1_Feature, bu := a1_Budget, fl := a1_Falls, sp := a1_Spans } (dimF f_Dim) (clsF f_Classes)))), (.int .i64 (Qy.b3 (queryA { k := a1_Kind, c := a1_Class, lo := a1_Lo, size := a1_Size, ft := a1_Feature, bu := a1_Budget, fl := a1_Falls, sp := a1_Spans } (dimF f_Dim) (clsF f_Classes)))), (.int .i64 (Qy.a4 (queryA { k := a1_Kind, c := a1_Class, lo := a1_Lo, size := a1_Size, ft := a1_Feature, bu := a1_Budget, fl := a1_Falls, sp := a1_Spans } (dimF f_Dim) (clsF f_Classes)))), (.int .i64 (Qy.b4 (queryA { k := a1_Kind, c := a1_Class, lo := a1_Lo, size := a1_Size, ft := a1_Feature, bu := a1_Budget, fl := a1_Falls, sp := a1_Spans } (dimF f_Dim) (clsF f_Classes)))), (.int .i64 (Qy.lo (queryA { k := a1_Kind, c := a1_Class, lo := a1_Lo, size := a1_Size, ft := a1_Feature, bu := a1_Budget, fl := a1_Falls, sp := a1_Spans } (dimF f_Dim) (clsF f_Classes)))), (.int .i64 (Qy.hi (queryA { k := a1_Kind, c := a1_Class, lo := a1_Lo, size := a1_Size, ft := a1_Feature, bu := a1_Budget, fl := a1_Falls, sp := a1_Spans } (dimF f_Dim) (clsF f_Classes)))), (.int .i64 (Qy.ft (queryA { k := a1_Kind, c := a1_Class, lo := a1_Lo, size := a1_Size, ft := a1_Feature, bu := a1_Budget, fl := a1_Falls, sp := a1_Spans } (dimF f_Dim) (clsF f_Classes)))), (.bool (Qy.fl (queryA { k := a1_Kind, c := a1_Class, lo := a1_Lo, size := a1_Size, ft := a1_Feature, bu := a1_Budget, fl := a1_Falls, sp := a1_Spans } (dimF f_Dim) (clsF f_Classes)))), (.int .i64 (Qy.bu (queryA { k := a1_Kind, c := a1_Class, lo := a1_Lo, size := a1_Size, ft := a1_Feature, bu := a1_Budget, fl := a1_Falls, sp := a1_Spans } (dimF f_Dim) (clsF f_Classes))))])))]⟩ (kBlock 1 (kSq (E_copselaw11_AskKinds N) (subC c_copselaw11_AskKinds [1, 1, 1, 1, 1, 1, 1, 1]) (outT (E_copselaw11_AskKinds N) none [(ResultVar.tmp 6)] [[.bool]])))))))
  none) := by kernel_rfl

theorem st_copselaw11_AskKinds_1 (N : Nat) (x2 : Int) (b6 : Bool) (s9 : ByteArray) (s10 : ByteArray) (x11 : Int) (x12 : Int) (xo7_0 : Int) (xo7_1 : Int) (xo7_2 : Int) (xo7_3 : Int) (xo7_4 : Int) (lo7_5 : List IV) (xo8_0 : Int) (xo8_1 : Int) (xo8_2 : Int) (xo8_3 : Int) (xo8_4 : Int) (xo8_5 : Int) (xo8_6 : Int) (xo8_7 : Int) (xo8_8 : Int) (xo8_9 : Int) (xo8_10 : Int) (xo8_11 : Int) (xo8_12 : Int) (xo8_13 : Int) (xo8_14 : Int) (bo8_15 : Bool) (xo8_16 : Int) (again : St → Res) (k : Out → St → Res) : rnd (E_copselaw11_AskKinds N) (subC c_copselaw11_AskKinds [1, 1, 1, 1, 1, 1, 1, 0, 1, 0, 0])
    ⟨[(2, (.int .i64 x2)), (6, (.bool b6)), (7, (.ptr 7 0 0)), (8, (.ptr 8 0 0)), (9, (.str s9)), (10, (.str s10)), (11, (.int .i64 x11)), (12, (.int .i64 x12))], [(7, (some (.box [(.int .i64 xo7_0), (.int .i64 xo7_1), (.int .i64 xo7_2), (.int .i64 xo7_3), (.int .i64 xo7_4), (.list true [(.int .i64), (.list false [(.int .u64)])] lo7_5)]))), (8, (some (.box [(.int .i64 xo8_0), (.int .i64 xo8_1), (.int .i64 xo8_2), (.int .i64 xo8_3), (.int .i64 xo8_4), (.int .i64 xo8_5), (.int .i64 xo8_6), (.int .i64 xo8_7), (.int .i64 xo8_8), (.int .i64 xo8_9), (.int .i64 xo8_10), (.int .i64 xo8_11), (.int .i64 xo8_12), (.int .i64 xo8_13), (.int .i64 xo8_14), (.bool bo8_15), (.int .i64 xo8_16)])))]⟩
    (kLoop again ⟨[2, 6, 7, 8, 9, 10, 11, 12], [7, 8], []⟩ k) =
  (cond (decide (IntKind.wrap IntKind.i64 (x12 + 1) < ic (ByteArray.size s9)))
  (cond (decide (0 ≤ x12) && (decide (x12 ≤ IntKind.wrap IntKind.i64 (x12 + 2)) && decide (IntKind.wrap IntKind.i64 (x12 + 2) ≤ ic (ByteArray.size s9))))
    (cond (ByteArray.toList (ByteArray.extract s9 (Int.toNat x12) (Int.toNat (IntKind.wrap IntKind.i64 (x12 + 2)))) == ByteArray.toList { data := #[46, 46] })
      (again ⟨[(2, (.int .i64 x2)), (6, (.bool b6)), (7, (.ptr 7 0 0)), (8, (.ptr 8 0 0)), (9, (.str s9)), (10, (.str s10)), (11, (.int .i64 (IntKind.wrap IntKind.i64 (x11 + 1)))), (12, (.int .i64 (IntKind.wrap IntKind.i64 (x12 + 1))))], [(7, (some (.box [(.int .i64 xo7_0), (.int .i64 xo7_1), (.int .i64 xo7_2), (.int .i64 xo7_3), (.int .i64 xo7_4), (.list true [(.int .i64), (.list false [(.int .u64)])] lo7_5)]))), (8, (some (.box [(.int .i64 xo8_0), (.int .i64 xo8_1), (.int .i64 xo8_2), (.int .i64 xo8_3), (.int .i64 xo8_4), (.int .i64 xo8_5), (.int .i64 xo8_6), (.int .i64 xo8_7), (.int .i64 xo8_8), (.int .i64 xo8_9), (.int .i64 xo8_10), (.int .i64 xo8_11), (.int .i64 xo8_12), (.int .i64 xo8_13), (.int .i64 xo8_14), (.bool bo8_15), (.int .i64 xo8_16)])))]⟩)
      (again ⟨[(2, (.int .i64 x2)), (6, (.bool b6)), (7, (.ptr 7 0 0)), (8, (.ptr 8 0 0)), (9, (.str s9)), (10, (.str s10)), (11, (.int .i64 x11)), (12, (.int .i64 (IntKind.wrap IntKind.i64 (x12 + 1))))], [(7, (some (.box [(.int .i64 xo7_0), (.int .i64 xo7_1), (.int .i64 xo7_2), (.int .i64 xo7_3), (.int .i64 xo7_4), (.list true [(.int .i64), (.list false [(.int .u64)])] lo7_5)]))), (8, (some (.box [(.int .i64 xo8_0), (.int .i64 xo8_1), (.int .i64 xo8_2), (.int .i64 xo8_3), (.int .i64 xo8_4), (.int .i64 xo8_5), (.int .i64 xo8_6), (.int .i64 xo8_7), (.int .i64 xo8_8), (.int .i64 xo8_9), (.int .i64 xo8_10), (.int .i64 xo8_11), (.int .i64 xo8_12), (.int .i64 xo8_13), (.int .i64 xo8_14), (.bool bo8_15), (.int .i64 xo8_16)])))]⟩))
    none)
  (k (.exit 1) ⟨[(2, (.int .i64 x2)), (6, (.bool b6)), (7, (.ptr 7 0 0)), (8, (.ptr 8 0 0)), (9, (.str s9)), (10, (.str s10)), (11, (.int .i64 x11)), (12, (.int .i64 x12))], [(7, (some (.box [(.int .i64 xo7_0), (.int .i64 xo7_1), (.int .i64 xo7_2), (.int .i64 xo7_3), (.int .i64 xo7_4), (.list true [(.int .i64), (.list false [(.int .u64)])] lo7_5)]))), (8, (some (.box [(.int .i64 xo8_0), (.int .i64 xo8_1), (.int .i64 xo8_2), (.int .i64 xo8_3), (.int .i64 xo8_4), (.int .i64 xo8_5), (.int .i64 xo8_6), (.int .i64 xo8_7), (.int .i64 xo8_8), (.int .i64 xo8_9), (.int .i64 xo8_10), (.int .i64 xo8_11), (.int .i64 xo8_12), (.int .i64 xo8_13), (.int .i64 xo8_14), (.bool bo8_15), (.int .i64 xo8_16)])))]⟩)) := by kernel_rfl

theorem ex_copselaw11_AskKinds_1_1 (N : Nat) (x2 : Int) (b6 : Bool) (s9 : ByteArray) (s10 : ByteArray) (x11 : Int) (x12 : Int) (xo7_0 : Int) (xo7_1 : Int) (xo7_2 : Int) (xo7_3 : Int) (xo7_4 : Int) (lo7_5 : List IV) (xo8_0 : Int) (xo8_1 : Int) (xo8_2 : Int) (xo8_3 : Int) (xo8_4 : Int) (xo8_5 : Int) (xo8_6 : Int) (xo8_7 : Int) (xo8_8 : Int) (xo8_9 : Int) (xo8_10 : Int) (xo8_11 : Int) (xo8_12 : Int) (xo8_13 : Int) (xo8_14 : Int) (bo8_15 : Bool) (xo8_16 : Int) : (kBlock 1 (kSq (E_copselaw11_AskKinds N) (subC c_copselaw11_AskKinds [1, 1, 1, 1, 1, 1, 1, 1]) (outT (E_copselaw11_AskKinds N) none [(ResultVar.tmp 6)] [[.bool]]))) (.exit 1)
    ⟨[(2, (.int .i64 x2)), (6, (.bool b6)), (7, (.ptr 7 0 0)), (8, (.ptr 8 0 0)), (9, (.str s9)), (10, (.str s10)), (11, (.int .i64 x11)), (12, (.int .i64 x12))], [(7, (some (.box [(.int .i64 xo7_0), (.int .i64 xo7_1), (.int .i64 xo7_2), (.int .i64 xo7_3), (.int .i64 xo7_4), (.list true [(.int .i64), (.list false [(.int .u64)])] lo7_5)]))), (8, (some (.box [(.int .i64 xo8_0), (.int .i64 xo8_1), (.int .i64 xo8_2), (.int .i64 xo8_3), (.int .i64 xo8_4), (.int .i64 xo8_5), (.int .i64 xo8_6), (.int .i64 xo8_7), (.int .i64 xo8_8), (.int .i64 xo8_9), (.int .i64 xo8_10), (.int .i64 xo8_11), (.int .i64 xo8_12), (.int .i64 xo8_13), (.int .i64 xo8_14), (.bool bo8_15), (.int .i64 xo8_16)])))]⟩ =
  (cond (decide (ic (ByteArray.size s9) > ic (ByteArray.size s10)))
  (cond (decide (0 ≤ ic (ByteArray.size s10)) && decide (ic (ByteArray.size s10) ≤ ic (ByteArray.size s9)))
    (cond (ByteArray.toList (ByteArray.extract s9 0 (Int.toNat (ic (ByteArray.size s10)))) == ByteArray.toList s10)
      (cond (x11 == xo7_0)
        (cond (ByteArray.toList (printQ { k := xo8_0, c := xo8_1, a0 := xo8_2, b0 := xo8_3, a1 := xo8_4, b1 := xo8_5, a2 := xo8_6, b2 := xo8_7, a3 := xo8_8, b3 := xo8_9, a4 := xo8_10, b4 := xo8_11, lo := xo8_12, hi := xo8_13, ft := xo8_14, fl := bo8_15, bu := xo8_16 } (IntKind.wrap IntKind.i64 (5 + withinZ x2 0 99))) == ByteArray.toList { data := #[] })
          (cond (ByteArray.toList (printQ { k := IntKind.wrap IntKind.i64 (4 + withinZ x2 0 99), c := xo8_1, a0 := xo8_2, b0 := xo8_3, a1 := xo8_4, b1 := xo8_5, a2 := xo8_6, b2 := xo8_7, a3 := xo8_8, b3 := xo8_9, a4 := xo8_10, b4 := xo8_11, lo := xo8_12, hi := xo8_13, ft := xo8_14, fl := bo8_15, bu := xo8_16 } xo7_0) == ByteArray.toList { data := #[] })
            (cond (ByteArray.toList (printQ { k := xo8_0, c := IntKind.wrap IntKind.i64 (-1 - withinZ x2 0 99), a0 := xo8_2, b0 := xo8_3, a1 := xo8_4, b1 := xo8_5, a2 := xo8_6, b2 := xo8_7, a3 := xo8_8, b3 := xo8_9, a4 := xo8_10, b4 := xo8_11, lo := xo8_12, hi := xo8_13, ft := xo8_14, fl := bo8_15, bu := xo8_16 } xo7_0) == ByteArray.toList { data := #[] })
              (some ((.bool true), []))
              (some ((.bool false), [])))
            (some ((.bool false), [])))
          (some ((.bool false), [])))
        (some ((.bool false), [])))
      (some ((.bool false), [])))
    none)
  (some ((.bool false), []))) := by kernel_rfl

end Go.FM

/-
  ask's LAWS COME TO true (2): a query that is printed; AskRuns.
-/
namespace Go.FM
open Go Go.Proofs

set_option maxRecDepth 100000 in
theorem snd_copselaw11_AskRuns : SndR PR B0 10 S_copselaw11_AskRuns := by
  refine snd_mk [(9, S_ask_Parse), (8, S_ask_Print)] [] S_copselaw11_AskRuns [[.bool]] Tryz.func10 h_copselaw11_AskRuns ⟨snd_ask_Parse, snd_ask_Print, trivial⟩ ?_
  intro vs r hwf h
  unfold S_copselaw11_AskRuns at h
  split at h
  · refine ⟨0, ?_⟩
    rw [← h]
    exact nf_copselaw11_AskRuns 0
  · simp [R.get] at h

theorem printQ_size {q : Qy} (hq : q.In) (d : Int) : (printQ q d).size ≤ 2000 := by
  cases h : okQ q d with
  | false => rw [print_bad h]; decide
  | true =>
    obtain ⟨h1, h4, _, _, _, _, hk⟩ := okQ_kind h
    have hp : printQ q d = joinB (wordsQ q d.toNat) w_space := by
      unfold printQ
      rw [h]
      rfl
    have zi : ∀ {n : Int}, InR n → (itoaB n).size ≤ 100 := fun h => by have := itoaB_in h; omega
    have zp : ∀ {n : Int}, InR n → (printB n).size ≤ 100 := fun h => by have := (print_len _ h).2; omega
    have hl : (wordsQ q d.toNat).length ≤ 15 := by
      unfold wordsQ headW
      simp only [List.length_append, List.length_cons, List.length_map, List.length_take, List.length_nil, Qy.spans]
      cases (q.k == 1) <;> cases (q.k == 2) <;> simp only [cond_true, cond_false, List.length_cons, List.length_nil] <;> omega
    have hz := join_size (wordsQ q d.toNat) (fun w hw => by
      unfold wordsQ at hw
      rcases List.mem_append.1 hw with hw | hw
      · rcases List.mem_append.1 hw with hw | hw
        · unfold headW at hw
          cases h1 : (q.k == 1) <;> rw [h1] at hw <;> simp only [cond_true, cond_false] at hw
          · cases h2 : (q.k == 2) <;> rw [h2] at hw <;> simp only [cond_true, cond_false, List.mem_cons, List.not_mem_nil, or_false] at hw
            · rcases hw with rfl | rfl | rfl | rfl
              · cases q.fl <;> decide
              · exact zi hq.c
              · decide
              · exact zi hq.ft
            · rcases hw with rfl | rfl
              · decide
              · exact zi hq.c
          · simp only [List.mem_cons, List.not_mem_nil, or_false] at hw
            rcases hw with rfl | rfl | rfl | rfl | rfl | rfl
            · decide
            · exact zi hq.c
            · decide
            · exact zp hq.lo
            · decide
            · exact zp hq.hi
        · rcases List.mem_cons.1 hw with rfl | hw
          · decide
          · obtain ⟨s, hs, rfl⟩ := List.mem_map.1 hw
            have hs := List.mem_of_mem_take hs
            have hin : InR s.1 ∧ InR s.2 := by
              simp only [Qy.spans, List.mem_cons, List.not_mem_nil, or_false] at hs
              rcases hs with rfl | rfl | rfl | rfl | rfl
              · exact ⟨hq.a0, hq.b0⟩
              · exact ⟨hq.a1, hq.b1⟩
              · exact ⟨hq.a2, hq.b2⟩
              · exact ⟨hq.a3, hq.b3⟩
              · exact ⟨hq.a4, hq.b4⟩
            have := spanW_size hin.1 hin.2
            omega
      · simp only [List.mem_cons, List.not_mem_nil, or_false] at hw
        rcases hw with rfl | rfl
        · decide
        · exact zi hq.bu)
    rw [hp]
    omega
theorem Qy.In.sp {q : Qy} (hq : q.In) : ∀ s ∈ q.spans, InR s.1 ∧ InR s.2 := by
  intro s hs
  simp only [Qy.spans, List.mem_cons, List.not_mem_nil, or_false] at hs
  rcases hs with rfl | rfl | rfl | rfl | rfl
  · exact ⟨hq.a0, hq.b0⟩
  · exact ⟨hq.a1, hq.b1⟩
  · exact ⟨hq.a2, hq.b2⟩
  · exact ⟨hq.a3, hq.b3⟩
  · exact ⟨hq.a4, hq.b4⟩

/-- What makes a query one that is printed. -/
theorem okQ_of {q : Qy} {d : Int} (h1 : 1 ≤ d) (h4 : d ≤ 4) (hc : smallB q.c = true) (hf : smallB q.ft = true) (hb : smallB q.bu = true)
    (hk : (q.k = 1 ∧ q.ft = 0 ∧ q.fl = false) ∨ (q.k = 2 ∧ q.lo = 0 ∧ q.hi = 0 ∧ q.ft = 0 ∧ q.fl = false) ∨ (q.k = 3 ∧ q.lo = 0 ∧ q.hi = 0))
    (z0 : (0 : Int) < d ∨ (q.a0 = 0 ∧ q.b0 = 0)) (z1 : (1 : Int) < d ∨ (q.a1 = 0 ∧ q.b1 = 0)) (z2 : (2 : Int) < d ∨ (q.a2 = 0 ∧ q.b2 = 0)) (z3 : (3 : Int) < d ∨ (q.a3 = 0 ∧ q.b3 = 0)) (z4 : (4 : Int) < d ∨ (q.a4 = 0 ∧ q.b4 = 0)) : okQ q d = true := by
  have cz : ∀ (x : Int) (j : Int), (j < d ∨ x = 0) → cond (decide (j < d)) x 0 = x := fun x j h => by
    rcases h with h | h
    · rw [decide_eq_true h]; rfl
    · subst h; cases decide (j < d) <;> rfl
  have ht : told q d = q := by
    obtain ⟨k, c, a0, b0, a1, b1, a2, b2, a3, b3, a4, b4, lo, hi, ft, fl, bu⟩ := q
    simp only at hk z0 z1 z2 z3 z4
    simp only [told, Qy.mk.injEq, true_and]
    refine ⟨cz _ _ (z0.imp_right (·.1)), cz _ _ (z0.imp_right (·.2)), cz _ _ (z1.imp_right (·.1)), cz _ _ (z1.imp_right (·.2)), cz _ _ (z2.imp_right (·.1)), cz _ _ (z2.imp_right (·.2)), cz _ _ (z3.imp_right (·.1)), cz _ _ (z3.imp_right (·.2)), cz _ _ (z4.imp_right (·.1)), cz _ _ (z4.imp_right (·.2)), ?_⟩
    rcases hk with ⟨rfl, rfl, rfl⟩ | ⟨rfl, rfl, rfl, rfl, rfl⟩ | ⟨rfl, rfl, rfl⟩ <;> exact ⟨rfl, rfl, rfl, rfl, trivial⟩
  have hk3 : (q.k == 1 || (q.k == 2 || q.k == 3)) = true := by
    rcases hk with ⟨h, _⟩ | ⟨h, _⟩ | ⟨h, _⟩ <;> rw [h] <;> rfl
  unfold okQ
  rw [ht, Qy.eq_self, hc, hf, hb, hk3, decide_eq_false (show ¬ d < 1 by omega), decide_eq_false (show ¬ d > 4 by omega)]
  rfl


end Go.FM

/-
  A QUERY OF NUMBERS IS ONE THAT IS PRINTED: plain law.
-/
namespace Go.FM
open Go Go.Proofs

theorem dimF_in (d : Int) : 1 ≤ dimF d ∧ dimF d ≤ 3 := (within_in (n := d) (lo := 1) (hi := 3) (by omega) (by omega) (by omega)).2
theorem clsF_in (d : Int) : 1 ≤ clsF d ∧ clsF d ≤ 3 := (within_in (n := d) (lo := 1) (hi := 3) (by omega) (by omega) (by omega)).2
theorem regA_in (d : Int) (l : List IV) (i : Int) : -2 ≤ regA d l i ∧ regA d l i ≤ 9 := by
  unfold regA
  have := (within_in (n := pickZ l (2 * i)) (lo := -2) (hi := 9) (by omega) (by omega) (by omega)).2
  cases decide (i < d) <;> simp only [cond_true, cond_false] <;> omega
theorem regB_in (d : Int) (l : List IV) (i : Int) : -2 ≤ regB d l i ∧ regB d l i ≤ 20 := by
  unfold regB
  have := (within_in (n := pickZ l (2 * i)) (lo := -2) (hi := 9) (by omega) (by omega) (by omega)).2
  have := (within_in (n := pickZ l (2 * i + 1)) (lo := 0) (hi := 11) (by omega) (by omega) (by omega)).2
  cases decide (i < d) <;> simp only [cond_true, cond_false] <;> omega
theorem reg_out {d : Int} (l : List IV) {i : Int} (h : d ≤ i) : regA d l i = 0 ∧ regB d l i = 0 := by
  unfold regA regB
  rw [decide_eq_false (show ¬ i < d by omega)]
  exact ⟨rfl, rfl⟩
theorem kindA_in (a : Ak) (cls : Int) : kindA a cls = 1 ∨ kindA a cls = 2 ∨ kindA a cls = 3 := by
  unfold kindA
  have := (within_in (n := a.k) (lo := 1) (hi := 3) (by omega) (by omega) (by omega)).2
  cases (withinZ a.k 1 3 == 2 && decide (cls < 2)) with
  | true => exact .inl rfl
  | false =>
    rw [condF]
    omega
theorem small_of {n : Int} (h0 : 0 ≤ n) (h1 : n ≤ 1073741824) : smallB n = true := by
  unfold smallB
  rw [decide_eq_true h0, decide_eq_true h1]
  rfl
theorem query_ok (a : Ak) {dim cls : Int} (hd : 1 ≤ dim ∧ dim ≤ 4) (hc : 1 ≤ cls ∧ cls ≤ 3) : okQ (queryA a dim cls) dim = true := by
  have c1 := (within_in (n := a.c) (lo := 0) (hi := cls - 1) (by omega) (by omega) (by omega)).2
  have f1 := (within_in (n := a.ft) (lo := 0) (hi := dim - 1) (by omega) (by omega) (by omega)).2
  have b1 := (within_in (n := a.bu) (lo := 0) (hi := 65536) (by omega) (by omega) (by omega)).2
  refine okQ_of hd.1 hd.2 (small_of (by show 0 ≤ withinZ a.c 0 (cls - 1); omega) (by show withinZ a.c 0 (cls - 1) ≤ _; omega)) ?_ (small_of b1.1 (by show withinZ a.bu 0 65536 ≤ _; omega)) ?_ ?_ ?_ ?_ ?_ ?_
  · show smallB (cond (kindA a cls == 3) (withinZ a.ft 0 (dim - 1)) 0) = true
    cases (kindA a cls == 3) with
    | true => exact small_of (n := withinZ a.ft 0 (dim - 1)) f1.1 (by omega)
    | false => rfl
  · show (kindA a cls = 1 ∧ cond (kindA a cls == 3) (withinZ a.ft 0 (dim - 1)) 0 = 0 ∧ cond (kindA a cls == 3) a.fl false = false) ∨
      (kindA a cls = 2 ∧ cond (kindA a cls == 1) (loA a) 0 = 0 ∧ cond (kindA a cls == 1) (loA a + withinZ a.size 0 18000) 0 = 0 ∧ cond (kindA a cls == 3) (withinZ a.ft 0 (dim - 1)) 0 = 0 ∧ cond (kindA a cls == 3) a.fl false = false) ∨
      (kindA a cls = 3 ∧ cond (kindA a cls == 1) (loA a) 0 = 0 ∧ cond (kindA a cls == 1) (loA a + withinZ a.size 0 18000) 0 = 0)
    rcases kindA_in a cls with h | h | h <;> rw [h]
    · exact .inl ⟨rfl, rfl, rfl⟩
    · exact .inr (.inl ⟨rfl, rfl, rfl, rfl, rfl⟩)
    · exact .inr (.inr ⟨rfl, rfl, rfl⟩)
  · exact .inl (by omega)
  · rcases Int.lt_or_le 1 dim with h | h
    · exact .inl h
    · exact .inr (reg_out a.sp h)
  · rcases Int.lt_or_le 2 dim with h | h
    · exact .inl h
    · exact .inr (reg_out a.sp h)
  · rcases Int.lt_or_le 3 dim with h | h
    · exact .inl h
    · exact .inr (reg_out a.sp h)
  · exact .inr ⟨rfl, rfl⟩
theorem query_in (a : Ak) {dim cls : Int} (hd : 1 ≤ dim ∧ dim ≤ 4) (hc : 1 ≤ cls ∧ cls ≤ 3) : (queryA a dim cls).In := by
  have c1 := (within_in (n := a.c) (lo := 0) (hi := cls - 1) (by omega) (by omega) (by omega)).2
  have f1 := (within_in (n := a.ft) (lo := 0) (hi := dim - 1) (by omega) (by omega) (by omega)).2
  have b1 := (within_in (n := a.bu) (lo := 0) (hi := 65536) (by omega) (by omega) (by omega)).2
  have l1 := (within_in (n := a.lo) (lo := -9000) (hi := 9000) (by omega) (by omega) (by omega)).2
  have s1 := (within_in (n := a.size) (lo := 0) (hi := 18000) (by omega) (by omega) (by omega)).2
  have k1 := kindA_in a cls
  have A := fun i => regA_in dim a.sp i
  have B := fun i => regB_in dim a.sp i
  have zA : ∀ i, InR (regA dim a.sp i) := fun i => by have := A i; unfold InR; omega
  have zB : ∀ i, InR (regB dim a.sp i) := fun i => by have := B i; unfold InR; omega
  refine ⟨?_, ?_, zA 0, zB 0, zA 1, zB 1, zA 2, zB 2, zA 3, zB 3, ?_, ?_, ?_, ?_, ?_, ?_⟩
  · show InR (kindA a cls); unfold InR; omega
  · show InR (withinZ a.c 0 (cls - 1)); unfold InR; omega
  · show InR 0; unfold InR; omega
  · show InR 0; unfold InR; omega
  · show InR (cond (kindA a cls == 1) (loA a) 0)
    unfold loA InR
    cases (kindA a cls == 1) <;> simp only [cond_true, cond_false] <;> omega
  · show InR (cond (kindA a cls == 1) (loA a + withinZ a.size 0 18000) 0)
    unfold loA InR
    cases (kindA a cls == 1) <;> simp only [cond_true, cond_false] <;> omega
  · show InR (cond (kindA a cls == 3) (withinZ a.ft 0 (dim - 1)) 0)
    unfold InR
    cases (kindA a cls == 3) <;> simp only [cond_true, cond_false] <;> omega
  · show InR (withinZ a.bu 0 65536); unfold InR; omega

/-- Two queries have one text just if they and their dims are the same. -/
theorem print_iffQ {q r : Qy} {d e : Int} (hq : q.In) (hr : r.In) (oq : okQ q d = true) (or' : okQ r e = true) : ((printQ q d).toList == (printQ r e).toList) = (q.eq r && (d == e)) := by
  obtain ⟨_, p2, p3⟩ := ask_print hq.c hq.lo hq.hi hq.ft hq.bu hq.sp oq
  obtain ⟨_, r2, r3⟩ := ask_print hr.c hr.lo hr.hi hr.ft hr.bu hr.sp or'
  cases h : ((printQ q d).toList == (printQ r e).toList) with
  | true =>
    have hb : printQ q d = printQ r e := by
      rw [bytes_beq] at h
      exact of_decide_eq_true h
    rw [hb] at p2 p3
    rw [p2] at r2
    rw [p3] at r3
    subst r2 r3
    rw [Qy.eq_self, beq_self_eq_true]
    rfl
  | false =>
    cases hh : (q.eq r && (d == e)) with
    | false => rfl
    | true =>
      rw [Bool.and_eq_true, beq_iff_eq] at hh
      rw [Qy.eq_of hh.1, hh.2, beq_self_eq_true] at h
      cases h

end Go.FM

/-
  ask's LAWS COME TO true (3): AskBack, AskOnly.
-/
namespace Go.FM
open Go Go.Proofs

def S_copselaw11_AskBack : RSpec
  | [.agg [.int .i64 _, .int .i64 _, .list false [.int .i64] _, .list true [.int .i64, .list false [.int .i64], .list false [.int .i64], .list false [.int .i64], .list false [.int .i64]] _],
     .agg [.int .i64 _, .int .i64 _, .list false [.int .i64] _, .list true [.int .i64, .list false [.int .i64], .list false [.int .i64], .list false [.int .i64], .list false [.int .i64]] _],
     .agg [.int .i64 _, .int .i64 _, .int .i64 _, .int .i64 _, .int .i64 _, .int .i64 _, .bool _, .list false [.int .i64] _],
     .agg [.int .i64 _, .int .i64 _, .int .i64 _, .int .i64 _, .int .i64 _, .int .i64 _, .bool _, .list false [.int .i64] _]] => .ok (.bool true) []
  | _ => .no
def S_copselaw11_AskOnly : RSpec
  | [.agg [.int .i64 _, .int .i64 _, .list false [.int .i64] _, .list true [.int .i64, .list false [.int .i64], .list false [.int .i64], .list false [.int .i64], .list false [.int .i64]] _],
     .agg [.int .i64 _, .int .i64 _, .int .i64 _, .int .i64 _, .int .i64 _, .int .i64 _, .bool _, .list false [.int .i64] _], .str _, .int .i64 _, .int .u8 _, .int .i64 _] => .ok (.bool true) []
  | _ => .no

theorem dim_ok (d c : Int) : (decide (1 ≤ dimF d) && decide (dimF d ≤ 4) && (decide (1 ≤ clsF c) && decide (clsF c ≤ 3))) = true := by
  have h1 := dimF_in d
  have h2 := clsF_in c
  rw [decide_eq_true h1.1, decide_eq_true (show dimF d ≤ 4 by omega), decide_eq_true h2.1, decide_eq_true h2.2]
  rfl

set_option maxRecDepth 100000 in
set_option maxHeartbeats 1000000 in
theorem snd_copselaw11_AskBack : SndR PR B0 3 S_copselaw11_AskBack := by
  refine snd_mk [(9, S_ask_Parse), (8, S_ask_Print), (7, S_copsekeep_Ask_Query), (6, S_copsekeep_Forest_Model), (10, S_copselaw11_AskRuns)] [] S_copselaw11_AskBack [[.bool]] Tryz.func3 h_copselaw11_AskBack ⟨snd_ask_Parse, snd_ask_Print, snd_copsekeep_Ask_Query, snd_copsekeep_Forest_Model, snd_copselaw11_AskRuns, trivial⟩ ?_
  intro vs r hwf h
  unfold S_copselaw11_AskBack at h
  split at h
  · rename_i d c bi ts d' c' bi' ts' k1 c1 l1 s1 f1 b1 x1 p1 k2 c2 l2 s2 f2 b2 x2 p2
    refine ⟨0, ?_⟩
    rw [R.get_ok] at h
    rw [← h]
    refine (nf_copselaw11_AskBack 0 d c bi ts d' c' bi' ts' k1 c1 l1 s1 f1 b1 x1 p1 k2 c2 l2 s2 f2 b2 x2 p2).trans ?_
    rw [dim_ok, dim_ok, condT, condT]
    have hd := dimF_in d
    have hc := clsF_in c
    have hd' := dimF_in d'
    have hc' := clsF_in c'
    have oq := query_ok ⟨k1, c1, l1, s1, f1, b1, x1, p1⟩ (dim := dimF d) (cls := clsF c) ⟨hd.1, by omega⟩ hc
    have oq' := query_ok ⟨k2, c2, l2, s2, f2, b2, x2, p2⟩ (dim := dimF d') (cls := clsF c') ⟨hd'.1, by omega⟩ hc'
    have hq := query_in ⟨k1, c1, l1, s1, f1, b1, x1, p1⟩ (dim := dimF d) (cls := clsF c) ⟨hd.1, by omega⟩ hc
    have hq' := query_in ⟨k2, c2, l2, s2, f2, b2, x2, p2⟩ (dim := dimF d') (cls := clsF c') ⟨hd'.1, by omega⟩ hc'
    generalize queryA ⟨k1, c1, l1, s1, f1, b1, x1, p1⟩ (dimF d) (clsF c) = q at oq hq ⊢
    generalize queryA ⟨k2, c2, l2, s2, f2, b2, x2, p2⟩ (dimF d') (clsF c') = q' at oq' hq' ⊢
    have hz := printQ_size hq (dimF d)
    have hpos := print_pos' oq
    obtain ⟨a1, a2, a3⟩ := ask_print hq.c hq.lo hq.hi hq.ft hq.bu hq.sp oq
    have hi := print_iffQ hq hq' oq oq'
    rw [decide_eq_true (show ByteArray.size (printQ q (dimF d)) < 4294967281 by omega), condT, a1, condT, a2, a3, Qy.eq_self, condT, beq_self_eq_true, condT, decide_eq_true (show ic (ByteArray.size (printQ q (dimF d))) > 0 by simp only [ic]; omega), condT, hi]
    cases q.eq q' with
    | true =>
      rw [condT, Bool.true_and]
      cases (dimF d == dimF d') <;> rfl
    | false => rw [condF, Bool.false_and]; rfl
  · simp [R.get] at h

/-! ### any text -/
theorem askTail_true {t : ByteArray} (h : t.size < 4294967281) : askTail t = some (.bool true, []) := by
  unfold askTail
  rw [decide_eq_true h, condT]
  cases hp : askOK t with
  | true =>
    obtain ⟨h1, h2, h3⟩ := ask_only hp
    rw [condT, h1, beq_self_eq_true, condT, decide_eq_true (show askD t ≥ 1 from h2), decide_eq_true h3, condT, condT]
  | false =>
    obtain ⟨h1, h2⟩ := ask_none hp
    rw [condF, h1, h2]
    rfl

theorem xx_size (x : Int) : (strOfNums (List.map IV.toInt (List.drop 0 (List.take 1 [IV.int x])))).size = 1 := rfl
theorem ext_size (s : ByteArray) (a b : Nat) : (s.extract a b).size = min b s.size - a := ByteArray.size_extract

theorem askArms_true {tt a1 : ByteArray} (a2 a3 a4 : Int) (h0 : 1 ≤ tt.size) (h1 : tt.size ≤ 4000000) : askArms tt a1 a2 a3 a4 = some (.bool true, []) := by
  have e0 : IntKind.wrap IntKind.i64 (ic tt.size - 1) = ic tt.size - 1 := wrap_id (by simp only [ic]; omega) (by simp only [ic]; omega)
  obtain ⟨m0, k0, k1⟩ := within_in (n := a2) (lo := 0) (hi := ic tt.size - 1) (by simp only [ic]; omega) (by omega) (by simp only [ic]; omega)
  have hK : askK tt a2 = withinZ a2 0 (ic tt.size - 1) := by unfold askK; rw [e0]
  rw [← hK] at k0 k1
  simp only [ic] at k1
  unfold askArms
  rw [e0, m0, decide_eq_false (show ¬ ic tt.size - 1 - 0 + 1 = 0 by simp only [ic]; omega), condF]
  generalize askK tt a2 = K at k0 k1 ⊢
  have eK : IntKind.wrap IntKind.i64 (K + 1) = K + 1 := wrap_id (by omega) (by omega)
  rw [eK]
  have d1 : decide (0 ≤ K) = true := decide_eq_true k0
  have d2 : decide (K ≤ ic tt.size) = true := decide_eq_true (by simp only [ic]; omega)
  have d3 : decide (0 ≤ K + 1) = true := decide_eq_true (by omega)
  have d4 : decide (K + 1 ≤ ic tt.size) = true := decide_eq_true (by simp only [ic]; omega)
  have d5 : decide (0 ≤ min (ic a1.size) 60) = true := decide_eq_true (by simp only [ic]; omega)
  have d6 : decide (min (ic a1.size) 60 ≤ ic a1.size) = true := decide_eq_true (by simp only [ic]; omega)
  simp only [d1, d2, d3, d4, d5, d6, Bool.and_self, cond_true, ByteArray.size_append, ext_size, xx_size]
  have m : strMax = 140737488355327 := rfl
  rw [decide_eq_true (show min K.toNat tt.size - 0 + 1 ≤ strMax by omega), decide_eq_true (show min K.toNat tt.size - 0 + 1 + (min tt.size tt.size - (K + 1).toNat) ≤ strMax by omega),
    decide_eq_true (show min K.toNat tt.size - 0 + 1 + (min tt.size tt.size - K.toNat) ≤ strMax by omega), decide_eq_true (show min K.toNat tt.size - 0 + (min tt.size tt.size - (K + 1).toNat) ≤ strMax by omega)]
  simp only [cond_true]
  rw [askTail_true (t := _ ++ _ ++ _) (by simp only [ByteArray.size_append, ext_size, xx_size]; omega), askTail_true (t := _ ++ _ ++ _) (by simp only [ByteArray.size_append, ext_size, xx_size]; omega), askTail_true (t := _ ++ _) (by simp only [ByteArray.size_append, ext_size]; omega),
    askTail_true (by simp only [ext_size]; omega), askTail_true (by simp only [ext_size]; omega)]
  simp only [Bool.cond_self]

set_option maxRecDepth 100000 in
set_option maxHeartbeats 1000000 in
theorem snd_copselaw11_AskOnly : SndR PR B0 4 S_copselaw11_AskOnly := by
  refine snd_mk [(9, S_ask_Parse), (8, S_ask_Print), (11, S_copsebook_Within), (7, S_copsekeep_Ask_Query), (6, S_copsekeep_Forest_Model), (10, S_copselaw11_AskRuns)] [] S_copselaw11_AskOnly [[.bool]] Tryz.func4 h_copselaw11_AskOnly ⟨snd_ask_Parse, snd_ask_Print, snd_copsebook_Within, snd_copsekeep_Ask_Query, snd_copsekeep_Forest_Model, snd_copselaw11_AskRuns, trivial⟩ ?_
  intro vs r hwf h
  unfold S_copselaw11_AskOnly at h
  split at h
  · rename_i d c bi ts k1 c1 l1 s1 f1 b1 x1 p1 a2 a3 a4 a5
    refine ⟨0, ?_⟩
    rw [R.get_ok] at h
    rw [← h]
    refine (nf_copselaw11_AskOnly 0 d c bi ts k1 c1 l1 s1 f1 b1 x1 p1 a2 a3 a4 a5).trans ?_
    rw [dim_ok, condT]
    have hd := dimF_in d
    have hc := clsF_in c
    have oq := query_ok ⟨k1, c1, l1, s1, f1, b1, x1, p1⟩ (dim := dimF d) (cls := clsF c) ⟨hd.1, by omega⟩ hc
    have hq := query_in ⟨k1, c1, l1, s1, f1, b1, x1, p1⟩ (dim := dimF d) (cls := clsF c) ⟨hd.1, by omega⟩ hc
    generalize queryA ⟨k1, c1, l1, s1, f1, b1, x1, p1⟩ (dimF d) (clsF c) = q at oq hq ⊢
    have hz := printQ_size hq (dimF d)
    have hpos := print_pos' oq
    rw [decide_eq_false (show ¬ ic (ByteArray.size (printQ q (dimF d))) < 1 by simp only [ic]; omega), condF]
    exact askArms_true a3 a4 a5 (by omega) (by omega)
  · simp [R.get] at h

end Go.FM

/-
  ask's LAWS COME TO true (4): AskKinds.
-/
namespace Go.FM
open Go Go.Proofs

def S_copselaw11_AskKinds : RSpec
  | [.agg [.int .i64 _, .int .i64 _, .list false [.int .i64] _, .list true [.int .i64, .list false [.int .i64], .list false [.int .i64], .list false [.int .i64], .list false [.int .i64]] _],
     .agg [.int .i64 _, .int .i64 _, .int .i64 _, .int .i64 _, .int .i64 _, .int .i64 _, .bool _, .list false [.int .i64] _], .int .i64 _] => .ok (.bool true) []
  | _ => .no

/-! ### how often two points stand -/
def cntDD : List UInt8 → Nat
  | a :: b :: r => cond (a == 46 && b == 46) 1 0 + cntDD (b :: r)
  | _ => 0
theorem cnt_no : ∀ {l : List UInt8}, noDD l = true → cntDD l = 0
  | [], _ => rfl
  | [_], _ => rfl
  | a :: b :: r, h => by
    simp only [noDD, Bool.and_eq_true, Bool.not_eq_true'] at h
    simp only [cntDD, h.1, cond_false, Nat.zero_add]
    exact cnt_no h.2
theorem cnt_space : ∀ (l r : List UInt8), cntDD (l ++ 32 :: r) = cntDD l + cntDD r
  | [], [] => rfl
  | [], c :: r => by
    have e : ((32 : UInt8) == 46) = false := by decide
    simp only [List.nil_append, cntDD, e, Bool.false_and, cond_false]
  | [a], r => by
    have e : ((32 : UInt8) == 46) = false := by decide
    have := cnt_space [] r
    simp only [List.nil_append] at this
    simp only [List.cons_append, List.nil_append, cntDD, e, Bool.and_false, cond_false]
    rw [this]
    simp only [cntDD, Nat.zero_add]
  | a :: b :: l, r => by
    have := cnt_space (b :: l) r
    simp only [List.cons_append] at this ⊢
    simp only [cntDD]
    rw [this]
    omega
theorem cnt_dots : ∀ {w : List UInt8} (c : UInt8) (r : List UInt8), noDD w = true → c ≠ 46 → cntDD (w ++ 46 :: 46 :: c :: r) = 1 + cntDD (c :: r)
  | [], c, r, _, hc => by
    have e : (c == 46) = false := beq_eq_false_iff_ne.2 hc
    simp only [List.nil_append, cntDD, e, Bool.and_false, cond_false]
    simp
  | [a], c, r, h, hc => by
    have e : (c == 46) = false := beq_eq_false_iff_ne.2 hc
    simp only [noDD, Bool.not_eq_true'] at h
    simp only [List.cons_append, List.nil_append, cntDD, e, h, Bool.and_false, Bool.false_and, cond_false]
    simp
  | a :: b :: l, c, r, h, hc => by
    simp only [noDD, Bool.and_eq_true, Bool.not_eq_true'] at h
    have := cnt_dots (w := b :: l) c r h.2 hc
    simp only [List.cons_append] at this ⊢
    simp only [cntDD, h.1, cond_false]
    rw [this]
    omega
theorem print_firstC (n : Int) : ∃ c r, printL n = c :: r ∧ c ≠ 46 := by
  unfold printL
  split
  · exact ⟨_, _, rfl, by decide⟩
  · obtain ⟨c, r, h, h1, _⟩ := size_first n.natAbs
    exact ⟨c, r, h, fun e => by subst e; revert h1; decide⟩
theorem cnt_span (a b : Int) : cntDD (spanW a b).data.toList = 1 := by
  have e : (spanW a b).data.toList = printL a ++ 46 :: 46 :: printL b := by
    unfold spanW
    simp [printB]
  obtain ⟨c, r, h, hc⟩ := print_firstC b
  have hb := cnt_no (noDD_print b)
  rw [e, h, cnt_dots c r (noDD_print a) hc, ← h, hb]
theorem cnt_join : ∀ (x : List UInt8) (r : List (List UInt8)), cntDD (Lib.join (x :: r) [32]) = ((x :: r).map cntDD).sum
  | x, [] => by simp [Lib.join]
  | x, y :: r => by
    rw [join_two, cnt_space, cnt_join y r]
    simp
theorem itoa_dots (n : Int) : cntDD (itoaB n).data.toList = 0 := cnt_no (noDD_plain (fun c hc e => by
  subst e
  have := itoa_ch n _ hc
  revert this
  decide))
theorem printB_dots (n : Int) : cntDD (printB n).data.toList = 0 := cnt_no (noDD_print n)
theorem cnt_head (q : Qy) : ((headW q).map fun w => cntDD w.data.toList).sum = 0 := by
  unfold headW
  have z1 : cntDD w_range.data.toList = 0 := by decide
  have z2 : cntDD w_best.data.toList = 0 := by decide
  have z3 : cntDD w_falls.data.toList = 0 := by decide
  have z4 : cntDD w_rises.data.toList = 0 := by decide
  have z5 : cntDD w_from.data.toList = 0 := by decide
  have z6 : cntDD w_to.data.toList = 0 := by decide
  have z7 : cntDD w_by.data.toList = 0 := by decide
  cases (q.k == 1) with
  | true => simp only [cond_true, List.map_cons, List.map_nil, List.sum_cons, List.sum_nil, z1, z5, z6, itoa_dots, printB_dots, Nat.add_zero]
  | false =>
    cases (q.k == 2) with
    | true => simp only [cond_true, cond_false, List.map_cons, List.map_nil, List.sum_cons, List.sum_nil, z2, itoa_dots, Nat.add_zero]
    | false => cases q.fl <;> simp only [cond_true, cond_false, List.map_cons, List.map_nil, List.sum_cons, List.sum_nil, z3, z4, z7, itoa_dots, Nat.add_zero]
theorem cnt_spans : ∀ (l : List (Int × Int)), ((l.map fun s => spanW s.1 s.2).map fun w => cntDD w.data.toList).sum = l.length
  | [] => rfl
  | s :: l => by
    simp only [List.map_cons, List.sum_cons, cnt_span, List.length_cons]
    rw [cnt_spans l]
    omega
theorem cnt_words (q : Qy) (D : Nat) (h : D ≤ 5) : ((wordsQ q D).map fun w => cntDD w.data.toList).sum = D := by
  unfold wordsQ
  have z1 : cntDD w_in.data.toList = 0 := by decide
  have z2 : cntDD w_budget.data.toList = 0 := by decide
  simp only [List.map_append, List.sum_append, List.map_cons, List.sum_cons, List.map_nil, List.sum_nil, z1, z2, itoa_dots, cnt_head, cnt_spans, List.length_take, Qy.spans, List.length_cons, List.length_nil]
  omega
theorem print_join {q : Qy} {d : Int} (h : okQ q d = true) : printQ q d = joinB (wordsQ q d.toNat) w_space := by
  unfold printQ
  rw [h]
  rfl
theorem cnt_print {q : Qy} {d : Int} (h : okQ q d = true) : (cntDD (printQ q d).data.toList : Int) = d := by
  obtain ⟨h1, h4, _⟩ := okQ_kind h
  rw [print_join h]
  show (cntDD (Lib.join ((wordsQ q d.toNat).map (·.data.toList)) [32]) : Int) = d
  have hc := cnt_words q d.toNat (by omega)
  have hn := wordsQ_ne q d.toNat
  cases hw : wordsQ q d.toNat with
  | nil => exact absurd hw hn
  | cons x r =>
    rw [hw] at hc
    rw [List.map_cons, cnt_join]
    have : ((x.data.toList :: r.map (·.data.toList)).map cntDD).sum = ((x :: r).map fun w => cntDD w.data.toList).sum := by
      simp only [List.map_cons, List.map_map]
      rfl
    rw [this, hc]
    omega

/-! ### the first word -/
theorem print_word {q : Qy} {d : Int} (h : okQ q d = true) (w : ByteArray) (hw : ∃ x r, headW q = x :: itoaB q.c :: r ∧ w.data.toList = x.data.toList ++ [32]) :
    w.size < (printQ q d).size ∧ (printQ q d).extract 0 w.size = w := by
  obtain ⟨x, r, hh, hx⟩ := hw
  have hl : (printQ q d).data.toList = w.data.toList ++ Lib.join (((itoaB q.c :: r) ++ w_in :: ((q.spans.take d.toNat).map fun s => spanW s.1 s.2) ++ [w_budget, itoaB q.bu]).map (·.data.toList)) [32] := by
    rw [print_join h]
    show Lib.join ((wordsQ q d.toNat).map (·.data.toList)) [32] = _
    unfold wordsQ
    rw [hh]
    simp only [List.cons_append, List.map_cons]
    rw [join_two, hx]
    simp
  have hp : 0 < (Lib.join (((itoaB q.c :: r) ++ w_in :: ((q.spans.take d.toNat).map fun s => spanW s.1 s.2) ++ [w_budget, itoaB q.bu]).map (·.data.toList)) [32]).length := by
    simp only [List.cons_append, List.map_cons]
    rw [Lib.join_cons, List.length_append]
    have := List.length_pos_iff.2 (itoa_ne q.c)
    show 0 < (Lib.itoa q.c).length + _
    omega
  constructor
  · rw [size_len, size_len, hl, List.length_append]
    omega
  · apply bytes_ext
    rw [ByteArray.data_extract, Array.toList_extract, hl, size_len]
    simp [List.extract_eq_take_drop]

/-! ### the walk -/
abbrev stKd (x2 : Int) (s9 s10 : ByteArray) (x11 x12 : Int) (m0 m1 m2 m3 m4 : Int) (ts : List IV) (q : Qy) : St :=
  ⟨[(2, (.int .i64 x2)), (6, (.bool false)), (7, (.ptr 7 0 0)), (8, (.ptr 8 0 0)), (9, (.str s9)), (10, (.str s10)), (11, (.int .i64 x11)), (12, (.int .i64 x12))], [(7, (some (.box [(.int .i64 m0), (.int .i64 m1), (.int .i64 m2), (.int .i64 m3), (.int .i64 m4), (.list true [(.int .i64), (.list false [(.int .u64)])] ts)]))), (8, (some (.box [(.int .i64 q.k), (.int .i64 q.c), (.int .i64 q.a0), (.int .i64 q.b0), (.int .i64 q.a1), (.int .i64 q.b1), (.int .i64 q.a2), (.int .i64 q.b2), (.int .i64 q.a3), (.int .i64 q.b3), (.int .i64 q.a4), (.int .i64 q.b4), (.int .i64 q.lo), (.int .i64 q.hi), (.int .i64 q.ft), (.bool q.fl), (.int .i64 q.bu)])))]⟩

theorem ext_two {s : ByteArray} {i : Nat} {a b : UInt8} {r : List UInt8} (h : s.data.toList.drop i = a :: b :: r) : ((s.extract i (i + 2)).toList == ByteArray.toList { data := #[46, 46] }) = (a == 46 && b == 46) := by
  rw [bytes_beq]
  have e : (s.extract i (i + 2)).data.toList = [a, b] := by
    rw [ByteArray.data_extract, Array.toList_extract, List.extract_eq_take_drop, h]
    have : i + 2 - i = 2 := by omega
    rw [this]
    rfl
  cases ha : (a == 46 && b == 46) with
  | true =>
    rw [Bool.and_eq_true, beq_iff_eq, beq_iff_eq] at ha
    exact decide_eq_true (bytes_ext (by rw [e, ha.1, ha.2]))
  | false =>
    refine decide_eq_false fun hh => ?_
    rw [hh] at e
    have e : [(46 : UInt8), 46] = [a, b] := e
    injection e with e1 e2
    injection e2 with e2 _
    subst e1 e2
    cases ha

theorem kinds_run (N : Nat) (x2 : Int) (s w : ByteArray) (hs : s.size ≤ 4000) (m0 m1 m2 m3 m4 : Int) (ts : List IV) (q : Qy) (K : Out → St → Res) : ∀ (m i n : Nat) (c : Nat), i + m = s.size → m < n → c ≤ i →
    ∃ j, lpE (E_copselaw11_AskKinds N) (subC c_copselaw11_AskKinds [1, 1, 1, 1, 1, 1, 1, 0, 1, 0, 0]) ⟨[2, 6, 7, 8, 9, 10, 11, 12], [7, 8], []⟩ n (stKd x2 s w (c : Int) (i : Int) m0 m1 m2 m3 m4 ts q) K =
      K (.exit 1) (stKd x2 s w ((c + cntDD (s.data.toList.drop i) : Nat) : Int) j m0 m1 m2 m3 m4 ts q)
  | m, i, 0, c, _, h, _ => absurd h (by omega)
  | m, i, n + 1, c, hm, hn, hc => by
    rw [lpE_succ, st_copselaw11_AskKinds_1]
    have e1 : IntKind.wrap IntKind.i64 ((i : Int) + 1) = ((i + 1 : Nat) : Int) := by
      rw [wrap_id (by omega) (by omega)]
      omega
    have e2 : IntKind.wrap IntKind.i64 ((i : Int) + 2) = ((i + 2 : Nat) : Int) := by
      rw [wrap_id (by omega) (by omega)]
      omega
    have e3 : IntKind.wrap IntKind.i64 ((c : Int) + 1) = ((c + 1 : Nat) : Int) := by
      rw [wrap_id (by omega) (by omega)]
      omega
    rw [e1, e2, e3]
    by_cases hlt : i + 1 < s.size
    · rw [decide_eq_true (show ((i + 1 : Nat) : Int) < ic s.size by simp only [ic]; omega), condT, decide_eq_true (show (0 : Int) ≤ (i : Int) by omega), decide_eq_true (show (i : Int) ≤ ((i + 2 : Nat) : Int) by omega), decide_eq_true (show ((i + 2 : Nat) : Int) ≤ ic s.size by simp only [ic]; omega)]
      simp only [Bool.and_self, condT, Int.toNat_natCast]
      have hd : ∃ a b r, s.data.toList.drop i = a :: b :: r ∧ s.data.toList.drop (i + 1) = b :: r := by
        have hl : (s.data.toList.drop i).length = s.size - i := by rw [List.length_drop, ← size_len]
        cases h1 : s.data.toList.drop i with
        | nil => rw [h1] at hl; simp at hl; omega
        | cons a t =>
          cases t with
          | nil => rw [h1] at hl; simp at hl; omega
          | cons b r =>
            refine ⟨a, b, r, rfl, ?_⟩
            rw [← List.drop_drop, h1]
            rfl
      obtain ⟨a, b, r, h1, h2⟩ := hd
      rw [ext_two h1, h1]
      simp only [cntDD]
      cases hab : (a == 46 && b == 46) with
      | true =>
        rw [condT]
        obtain ⟨j, hj⟩ := kinds_run N x2 s w hs m0 m1 m2 m3 m4 ts q K (m - 1) (i + 1) n (c + 1) (by omega) (by omega) (by omega)
        refine ⟨j, hj.trans ?_⟩
        rw [h2, condT, Nat.add_assoc]
      | false =>
        rw [condF]
        obtain ⟨j, hj⟩ := kinds_run N x2 s w hs m0 m1 m2 m3 m4 ts q K (m - 1) (i + 1) n c (by omega) (by omega) (by omega)
        refine ⟨j, hj.trans ?_⟩
        rw [h2, condF, Nat.zero_add]
    · rw [decide_eq_false (show ¬ ((i + 1 : Nat) : Int) < ic s.size by simp only [ic]; omega), condF]
      refine ⟨(i : Int), ?_⟩
      have : cntDD (s.data.toList.drop i) = 0 := by
        have hl : (s.data.toList.drop i).length = s.size - i := by rw [List.length_drop, ← size_len]
        cases h1 : s.data.toList.drop i with
        | nil => rfl
        | cons a t =>
          cases t with
          | nil => rfl
          | cons b r => rw [h1] at hl; simp at hl; omega
      rw [this]
      rfl

theorem kinds_exit (N : Nat) (x2 : Int) (w : ByteArray) (j m1 m2 m3 m4 : Int) (ts : List IV) {q : Qy} {d : Int} (h : okQ q d = true) (hw : ∃ x r, headW q = x :: itoaB q.c :: r ∧ w.data.toList = x.data.toList ++ [32]) :
    (kBlock 1 (kSq (E_copselaw11_AskKinds N) (subC c_copselaw11_AskKinds [1, 1, 1, 1, 1, 1, 1, 1]) (outT (E_copselaw11_AskKinds N) none [(ResultVar.tmp 6)] [[.bool]]))) (.exit 1) (stKd x2 (printQ q d) w d j d m1 m2 m3 m4 ts q) = some (.bool true, []) := by
  refine (ex_copselaw11_AskKinds_1_1 N x2 false (printQ q d) w d j d m1 m2 m3 m4 ts q.k q.c q.a0 q.b0 q.a1 q.b1 q.a2 q.b2 q.a3 q.b3 q.a4 q.b4 q.lo q.hi q.ft q.fl q.bu).trans ?_
  obtain ⟨w1, w2⟩ := print_word h w hw
  have bad : ∀ (p : Qy) (e : Int), (4 < e ∨ p.c < 0 ∨ 3 < p.k) → (ByteArray.toList (printQ p e) == ByteArray.toList { data := #[] }) = true := fun p e hp => by
    cases ho : okQ p e with
    | false => rw [print_bad ho]; exact beq_yes _
    | true =>
      exfalso
      obtain ⟨h1, h4, _, hc, _, _, hk⟩ := okQ_kind ho
      unfold smallB at hc
      simp only [Bool.and_eq_true, decide_eq_true_eq] at hc
      omega
  obtain ⟨_, k0, k1⟩ := within_in (n := x2) (lo := 0) (hi := 99) (by decide) (by decide) (by decide)
  generalize withinZ x2 0 99 = n at k0 k1 ⊢
  have e1 : IntKind.wrap IntKind.i64 (5 + n) = 5 + n := wrap_id (by omega) (by omega)
  have e2 : IntKind.wrap IntKind.i64 (4 + n) = 4 + n := wrap_id (by omega) (by omega)
  have e3 : IntKind.wrap IntKind.i64 (-1 - n) = -1 - n := wrap_id (by omega) (by omega)
  rw [e1, e2, e3, bad _ _ (.inl (by omega)), bad _ _ (.inr (.inr (show (3 : Int) < 4 + n by omega))), bad _ _ (.inr (.inl (show -1 - n < 0 by omega))),
    decide_eq_true (show ic (ByteArray.size (printQ q d)) > ic w.size by simp only [ic]; omega), condT, decide_eq_true (show (0 : Int) ≤ ic w.size by simp only [ic]; omega), decide_eq_true (show ic w.size ≤ ic (ByteArray.size (printQ q d)) by simp only [ic]; omega)]
  have e4 : (ic w.size).toNat = w.size := by simp only [ic]; omega
  rw [e4, w2, beq_yes, beq_self_eq_true]
  rfl

theorem kinds_all (N : Nat) (x2 : Int) (w : ByteArray) (m1 m2 m3 m4 : Int) (ts : List IV) {q : Qy} {d : Int} (hq : q.In) (h : okQ q d = true) (hN : (printQ q d).size < N) (hw : ∃ x r, headW q = x :: itoaB q.c :: r ∧ w.data.toList = x.data.toList ++ [32]) :
    lpE (E_copselaw11_AskKinds N) (subC c_copselaw11_AskKinds [1, 1, 1, 1, 1, 1, 1, 0, 1, 0, 0]) ⟨[2, 6, 7, 8, 9, 10, 11, 12], [7, 8], []⟩ N (stKd x2 (printQ q d) w 0 0 d m1 m2 m3 m4 ts q) (kBlock 1 (kSq (E_copselaw11_AskKinds N) (subC c_copselaw11_AskKinds [1, 1, 1, 1, 1, 1, 1, 1]) (outT (E_copselaw11_AskKinds N) none [(ResultVar.tmp 6)] [[.bool]]))) = some (.bool true, []) := by
  obtain ⟨j, hj⟩ := kinds_run N x2 (printQ q d) w (Nat.le_trans (printQ_size hq d) (by omega)) d m1 m2 m3 m4 ts q (kBlock 1 (kSq (E_copselaw11_AskKinds N) (subC c_copselaw11_AskKinds [1, 1, 1, 1, 1, 1, 1, 1]) (outT (E_copselaw11_AskKinds N) none [(ResultVar.tmp 6)] [[.bool]]))) (printQ q d).size 0 N 0 (by omega) hN (by omega)
  refine hj.trans ?_
  have : ((0 + cntDD ((printQ q d).data.toList.drop 0) : Nat) : Int) = d := by
    rw [List.drop_zero, Nat.zero_add]
    exact cnt_print h
  rw [this]
  exact kinds_exit N x2 w j m1 m2 m3 m4 ts h hw

set_option maxRecDepth 100000 in
set_option maxHeartbeats 1000000 in
theorem snd_copselaw11_AskKinds : SndR PR B0 5 S_copselaw11_AskKinds := by
  refine snd_mk [(8, S_ask_Print), (11, S_copsebook_Within), (7, S_copsekeep_Ask_Query), (6, S_copsekeep_Forest_Model), (10, S_copselaw11_AskRuns)] [(13, ⟨[2, 6, 7, 8, 9, 10, 11, 12], [7, 8], []⟩)] S_copselaw11_AskKinds [[.bool]] Tryz.func5 h_copselaw11_AskKinds ⟨snd_ask_Print, snd_copsebook_Within, snd_copsekeep_Ask_Query, snd_copsekeep_Forest_Model, snd_copselaw11_AskRuns, trivial⟩ ?_
  intro vs r hwf h
  unfold S_copselaw11_AskKinds at h
  split at h
  · rename_i d c bi ts k1 c1 l1 s1 f1 b1 x1 p1 a2
    refine ⟨4000, ?_⟩
    rw [R.get_ok] at h
    rw [← h]
    refine (nf_copselaw11_AskKinds 4000 d c bi ts k1 c1 l1 s1 f1 b1 x1 p1 a2).trans ?_
    rw [dim_ok, condT]
    have hd := dimF_in d
    have hc := clsF_in c
    have oq := query_ok ⟨k1, c1, l1, s1, f1, b1, x1, p1⟩ (dim := dimF d) (cls := clsF c) ⟨hd.1, by omega⟩ hc
    have hq := query_in ⟨k1, c1, l1, s1, f1, b1, x1, p1⟩ (dim := dimF d) (cls := clsF c) ⟨hd.1, by omega⟩ hc
    generalize queryA ⟨k1, c1, l1, s1, f1, b1, x1, p1⟩ (dimF d) (clsF c) = q at oq hq ⊢
    have hz := printQ_size hq (dimF d)
    have T := fun w hw => kinds_all 4000 a2 w (clsF c) (biasF c bi 0) (biasF c bi 1) (biasF c bi 2) (treesF d c ts) hq oq (by omega) hw
    obtain ⟨_, _, _, _, _, _, hk⟩ := okQ_kind oq
    rcases hk with hk | hk | hk
    · have e2 : (q.k == 2) = false := by rw [hk]; rfl
      have e3 : (q.k == 3) = false := by rw [hk]; rfl
      rw [e2, e3, condF, condF, condF]
      exact T { data := #[114, 97, 110, 103, 101, 32] } ⟨w_range, _, by unfold headW; rw [hk]; rfl, rfl⟩
    · have e2 : (q.k == 2) = true := by rw [hk]; rfl
      rw [e2, condT]
      exact T { data := #[98, 101, 115, 116, 32] } ⟨w_best, _, by unfold headW; rw [hk]; rfl, rfl⟩
    · have e2 : (q.k == 2) = false := by rw [hk]; rfl
      have e3 : (q.k == 3) = true := by rw [hk]; rfl
      rw [e2, e3, condF, condT, condT]
      cases hf : q.fl with
      | true =>
        rw [condT]
        have := T { data := #[102, 97, 108, 108, 115, 32] } ⟨w_falls, _, by unfold headW; rw [hk, hf]; rfl, rfl⟩
        unfold stKd at this
        rw [hf] at this
        exact this
      | false =>
        rw [condF]
        have := T { data := #[114, 105, 115, 101, 115, 32] } ⟨w_rises, _, by unfold headW; rw [hk, hf]; rfl, rfl⟩
        unfold stKd at this
        rw [hf] at this
        exact this
  · simp [R.get] at h

end Go.FM
