/-
  THE FUNCTIONS OF leaves, bound, couple, goal, grid COME TO WHAT IS SAID.

-/
import Derived.Test.YtlfpmpdmoggdhaaLab
import Derived.Test.YtlfpmpdmoggdhaaLaa
import Derived.Lib.AppendIntMem
import Derived.Deep.LoopGhost
import Derived.Lib.Walk
import Derived.Lib.SliceRun

/-
  THE FUNCTIONS OF leaves, bound, couple, goal, grid COME TO WHAT IS SAID.
-/
namespace Go.FM
open Go Go.Proofs

/-! ### trees that are right -/
theorem nodesB_at {dim n : Int} : ∀ {l : List IV} {i k : Nat} (hk : k < l.length), nodesB dim n i l = true → nodeB (l[k]).toInt = true ∧ forkB dim n (i + k) (nodeN (l[k]).toInt) = true
  | [], i, k, hk, _ => absurd hk (Nat.not_lt_zero k)
  | w :: r, i, 0, hk, h => by
    rw [nodesB] at h
    simp only [Bool.and_eq_true] at h
    exact h.1
  | w :: r, i, k + 1, hk, h => by
    rw [nodesB, Bool.and_eq_true] at h
    have := nodesB_at (k := k) (by simpa using hk) h.2
    rw [show i + 1 + k = i + (k + 1) by omega] at this
    exact this
theorem treeB_parts {l : List IV} {dim : Int} (h : treeB l dim = true) : (1 ≤ l.length ∧ l.length ≤ 31) ∧ (∀ k (hk : k < l.length), nodeB (l[k]).toInt = true ∧ forkB dim (ic l.length) k (nodeN (l[k]).toInt) = true) ∧ onceB l = true := by
  unfold treeB at h
  simp only [Bool.and_eq_true] at h
  refine ⟨⟨Nat.le_of_ble_eq_true h.1.1, Nat.le_of_ble_eq_true h.1.2⟩, fun k hk => ?_, h.2.2⟩
  have := nodesB_at hk h.2.1
  rwa [Nat.zero_add] at this
theorem forkB_parts {dim n : Int} {i : Nat} {x : Nd} (h : forkB dim n i x = true) (hl : x.lf = false) : x.f < dim ∧ x.l ≠ x.r ∧ ((i : Int) < x.l ∧ (i : Int) < x.r) ∧ (x.l < n ∧ x.r < n) := by
  unfold forkB at h
  rw [hl, condF] at h
  simp only [Bool.and_eq_true, Bool.not_eq_true', decide_eq_false_iff_not, beq_eq_false_iff_ne] at h
  obtain ⟨h1, h2, h3, h4⟩ := h
  exact ⟨by omega, h2, by omega, by omega⟩
theorem treeB_mono {l : List IV} {d e : Int} (h : treeB l d = true) (hde : d ≤ e) : treeB l e = true := by
  have key : ∀ (l : List IV) (n : Int) (i : Nat), nodesB d n i l = true → nodesB e n i l = true := by
    intro l n
    induction l with
    | nil => intro _ _; rfl
    | cons w r ih =>
      intro i h
      rw [nodesB] at h ⊢
      simp only [Bool.and_eq_true] at h ⊢
      refine ⟨⟨h.1.1, ?_⟩, ih _ h.2⟩
      have h2 := h.1.2
      unfold forkB at h2 ⊢
      cases hl : (nodeN w.toInt).lf with
      | true => rfl
      | false =>
        rw [hl, condF] at h2
        rw [condF]
        simp only [Bool.and_eq_true, Bool.not_eq_true', decide_eq_false_iff_not] at h2 ⊢
        exact ⟨by omega, h2.2⟩
  unfold treeB at h ⊢
  simp only [Bool.and_eq_true] at h ⊢
  exact ⟨h.1, key _ _ _ h.2.1, h.2.2⟩

/-! ### leaves -/
abbrev kpL : KP := ⟨[4, 5, 6, 24, 25, 26], [20, 500], [⟨(.tmp 6), 500, 127, true, kPiece⟩]⟩
abbrev xstL (l : List IV) (i : Int) (own out : List IV) : St :=
  ⟨[(4, .zs), (5, (.row 20 0 l.length)), (6, (.row 500 0 out.length)), (24, (.list false [(.int .u64)] l)), (25, (.int .i64 (ic (List.length l)))), (26, (.int .i64 i))], [(20, (some (.row true 30 true kBox own))), (500, (some (.row true 127 true kPiece out)))]⟩
theorem leaves_run (N : Nat) (l : List IV) (ht : treeB l 4 = true) : ∀ (m i n : Nat) (own out : List IV), i + m = l.length → m < n → own.length = l.length → out.length ≤ i →
    lpE (E_leaves_List N) (subC c_leaves_List [1, 1, 1, 1, 1, 0, 1, 0, 0]) kpL n (xstL l (i : Int) own out) (kBlock 0 (kSq (E_leaves_List N) (subC c_leaves_List [1, 1, 1, 1, 1, 1]) (outT (E_leaves_List N) none [(ResultVar.tmp 4)] [[(.list true kPiece)]]))) =
      some (.list true kPiece (lvRun (l.drop i) i own out), [])
  | m, i, 0, _, _, _, h, _, _ => absurd h (by omega)
  | 0, i, n + 1, own, out, hd, _, _, _ => by
    have hi : i = l.length := by omega
    subst hi
    rw [lpE_succ, st_leaves_List_1, idx_ge (Nat.le_refl _), condF, ex_leaves_List_1_1, List.drop_length, lvRun, List.drop_zero, List.take_length]
  | m + 1, i, n + 1, own, out, hd, hn, ho, hu => by
    obtain ⟨⟨l1, l31⟩, hat, _⟩ := treeB_parts ht
    have hi : i < l.length := by omega
    have ei : IntKind.wrap IntKind.i64 ((i : Int) + 1) = ((i + 1 : Nat) : Int) := succ_w (by omega)
    obtain ⟨hb, hf⟩ := hat i hi
    have io : decide ((i : Int) < ic (l.length - 0)) = true := idx_lt hi
    rw [lpE_succ, st_leaves_List_1, ei, idx_lt hi, condT, idx_0, Bool.and_self, condT, getD_i hi, io, Bool.and_self, Int.toNat_natCast, List.drop_eq_getElem_cons hi, lvRun]
    simp only [Nat.zero_add]
    cases hl : (nodeN (l[i]).toInt).lf with
    | true =>
      rw [Bool.not_true, condF, condT, condT, Bool.true_and]
      have e1 : lvStep (nodeN (l[i]).toInt) i own = own := by unfold lvStep; rw [hl, condT]
      rw [e1]
      cases (bxI (own.getD i default)).emp with
      | true => exact leaves_run N l ht m (i + 1) n own out (by omega) (by omega) ho (by omega)
      | false =>
        have ih := leaves_run N l ht m (i + 1) n own (out ++ [pcI (bxI (own.getD i default)) (nodeN (l[i]).toInt).v]) (by omega) (by omega) ho (by rw [List.length_append]; simp; omega)
        unfold xstL at ih
        rw [List.length_append, List.length_singleton] at ih
        rw [Bool.not_false, condT, condT, decide_eq_true (show (out.length + 1) * 88 ≤ bytesMax by unfold bytesMax; omega), condT, List.take_length]
        exact ih
    | false =>
      obtain ⟨f4, _, _, ⟨ln, rn⟩⟩ := forkB_parts hf hl
      obtain ⟨⟨f0, _⟩, ⟨a1, _⟩, ⟨b1, _⟩, _⟩ := node_fork hb hl
      have hp : inPl (nodeN (l[i]).toInt).f = true := by unfold inPl; rw [decide_eq_true f0, decide_eq_true (by omega)]; rfl
      have el : (decide (0 ≤ (nodeN (l[i]).toInt).l) && decide ((nodeN (l[i]).toInt).l < ic (l.length - 0))) = true := by rw [decide_eq_true (by omega), decide_eq_true (show (nodeN (l[i]).toInt).l < ic (l.length - 0) from ln)]; rfl
      have er : (decide (0 ≤ (nodeN (l[i]).toInt).r) && decide ((nodeN (l[i]).toInt).r < ic (l.length - 0))) = true := by rw [decide_eq_true (by omega), decide_eq_true (show (nodeN (l[i]).toInt).r < ic (l.length - 0) from rn)]; rfl
      rw [Bool.not_false, condT, condT, hp, condT, el, condT, er, condT, Bool.false_and, condF]
      have e1 : lvStep (nodeN (l[i]).toInt) i own = (own.set (nodeN (l[i]).toInt).l.toNat ((bxI (own.getD i default)).cutL (nodeN (l[i]).toInt).f (nodeN (l[i]).toInt).a).I).set (nodeN (l[i]).toInt).r.toNat ((bxI (own.getD i default)).cutH (nodeN (l[i]).toInt).f (nodeN (l[i]).toInt).a).I := by unfold lvStep; rw [hl, condF]
      rw [e1]
      exact leaves_run N l ht m (i + 1) n _ out (by omega) (by omega) (by rw [List.length_set, List.length_set]; exact ho) (by omega)
set_option maxRecDepth 100000 in
theorem snd_leaves_List : SndR PR B0 68 S_leaves_List := by
  refine snd_mk [(32, S_box_Cut), (40, S_box_Empty), (66, S_node_Unpack), (52, S_tree_Right)] [(7, ⟨[4, 5, 6, 24, 25, 26], [20, 500], [⟨.tmp 6, 500, 127, true, [.int .i64, .int .i64, .int .i64, .int .i64, .int .i64, .int .i64, .int .i64, .int .i64, .int .i64, .int .i64, .int .i64]⟩]⟩)] S_leaves_List [[.list true [.int .i64, .int .i64, .int .i64, .int .i64, .int .i64, .int .i64, .int .i64, .int .i64, .int .i64, .int .i64, .int .i64]]] Try.func68 h_leaves_List ⟨snd_box_Cut, snd_box_Empty, snd_node_Unpack, snd_tree_Right, trivial⟩ ?_
  intro vs r hwf h
  unfold S_leaves_List at h
  split at h
  · rename_i l b
    replace h := withB_get h
    obtain ⟨b, rfl, h⟩ := h
    rw [R.get_ok] at h
    refine ⟨40, ?_⟩
    rw [← h]
    refine (nf_leaves_List 40 l b).trans ?_
    unfold leavesF
    cases ht : treeB l 4 with
    | false => rfl
    | true =>
      rw [Bool.not_true, condF, Bool.true_and]
      cases b.emp with
      | true => rfl
      | false =>
        obtain ⟨⟨l1, l31⟩, _, _⟩ := treeB_parts ht
        have run := leaves_run 40 l ht l.length 0 40 ((List.replicate l.length bx0.I).set 0 b.I) [] (by omega) (by omega) (by simp) (Nat.zero_le _)
        rw [condF, decide_eq_true (show (0 : Int) ≤ ic l.length by simp only [ic]; omega), decide_eq_true (show ic l.length = ic l.length from rfl), decide_eq_true (show ic l.length * ic 80 ≤ ic bytesMax by unfold bytesMax; simp only [ic]; omega), Bool.and_self, Bool.and_self, condT,
          decide_eq_true (show 0 ≤ 0 from Nat.le_refl 0), decide_eq_true (show (0 : Int) < ic (Int.toNat (ic l.length) - 0) by simp only [ic]; omega), Bool.and_self, condT]
        exact run
  · simp [R.get] at h

/-! ### the least and the greatest -/
abbrev xstTr (l : List IV) (lo hi i : Int) : St := ⟨[(4, (.int .i64 0)), (5, (.int .i64 0)), (6, (.bool false)), (8, (.int .i64 lo)), (9, (.int .i64 hi)), (26, (.list true kPiece l)), (27, (.int .i64 (ic (List.length l)))), (28, (.int .i64 i))], []⟩
theorem bound_run (N : Nat) (l : List IV) (hl : l.length ≤ strMax) : ∀ (m i n : Nat) (lo hi : Int), i + m = l.length → m < n →
    lpE (E_bound_Tree N) (subC c_bound_Tree [1, 1, 1, 1, 0, 1, 0, 0]) ⟨[4, 5, 6, 8, 9, 26, 27, 28], [], []⟩ n (xstTr l lo hi (i : Int)) (kBlock 0 (kSq (E_bound_Tree N) (subC c_bound_Tree [1, 1, 1, 1, 1]) (outT (E_bound_Tree N) none [(ResultVar.tmp 4), (ResultVar.tmp 5), (ResultVar.tmp 6)] [[(.int .i64)], [(.int .i64)], [.bool]]))) =
      some (.tup [.int .i64 (minV (l.drop i) lo), .int .i64 (maxV (l.drop i) hi), .bool true], [])
  | m, i, 0, _, _, _, h => absurd h (by omega)
  | 0, i, n + 1, lo, hi, hd, _ => by
    have hi : i = l.length := by omega
    subst hi
    rw [lpE_succ, st_bound_Tree_1, idx_ge (Nat.le_refl _), condF, List.drop_length]
    exact ex_bound_Tree_1_1 N _ _ _ _ _ l _ _
  | m + 1, i, n + 1, lo, hi, hd, hn => by
    have hi : i < l.length := by omega
    have mx : strMax = 140737488355327 := rfl
    have ei : IntKind.wrap IntKind.i64 ((i : Int) + 1) = ((i + 1 : Nat) : Int) := succ_w (by omega)
    rw [lpE_succ, st_bound_Tree_1, ei, idx_lt hi, condT, idx_0, Bool.and_self, condT, getD_i hi, List.drop_eq_getElem_cons hi, minV, maxV]
    exact bound_run N l hl m (i + 1) n _ _ (by omega) (by omega)
theorem lvRun_len : ∀ (l : List IV) (i : Nat) (own out : List IV), (lvRun l i own out).length ≤ out.length + l.length
  | [], _, _, out => Nat.le_refl _
  | w :: r, i, own, out => by
    rw [lvRun]
    have := lvRun_len r (i + 1) (lvStep (nodeN w.toInt) i own) (cond ((nodeN w.toInt).lf && !(bxI (own.getD i default)).emp) (out ++ [pcI (bxI (own.getD i default)) (nodeN w.toInt).v]) out)
    refine Nat.le_trans this ?_
    cases ((nodeN w.toInt).lf && !(bxI (own.getD i default)).emp) with
    | true => rw [condT, List.length_append, List.length_singleton, List.length_cons]; omega
    | false => rw [condF, List.length_cons]; omega
theorem leaves_len (l : List IV) (b : Bx) : (leavesF l b).length ≤ 31 := by
  unfold leavesF
  cases ht : treeB l 4 with
  | false => exact Nat.zero_le _
  | true =>
    cases b.emp with
    | true => exact Nat.zero_le _
    | false =>
      have := lvRun_len l 0 ((List.replicate l.length bx0.I).set 0 b.I) []
      have h2 := (treeB_parts ht).1.2
      simp only [List.length_nil, Nat.zero_add] at this
      exact Nat.le_trans this h2
set_option maxRecDepth 100000 in
theorem snd_bound_Tree : SndR PR B0 55 S_bound_Tree := by
  refine snd_mk [(68, S_leaves_List)] [(6, ⟨[4, 5, 6, 8, 9, 26, 27, 28], [], []⟩)] S_bound_Tree [[.int .i64], [.int .i64], [.bool]] Try.func55 h_bound_Tree ⟨snd_leaves_List, trivial⟩ ?_
  intro vs r hwf h
  unfold S_bound_Tree at h
  split at h
  · rename_i l b
    replace h := withB_get h
    obtain ⟨b, rfl, h⟩ := h
    rw [R.get_ok] at h
    refine ⟨40, ?_⟩
    rw [← h]
    refine (nf_bound_Tree 40 l b).trans ?_
    have h31 := leaves_len l b
    unfold tLo tHi tOK psLo psHi
    generalize leavesF l b = ps at h31 ⊢
    cases ps with
    | nil => rfl
    | cons x r =>
      have run := bound_run 40 (x :: r) (Nat.le_trans h31 (by decide)) (x :: r).length 0 40 (pcV x) (pcV x) (by omega) (by omega)
      have e0 : (ic (x :: r).length == 0) = false := by
        simp only [ic, List.length_cons, beq_eq_false_iff_ne]
        omega
      have e1 : (decide (0 ≤ 0) && decide (0 < ic (x :: r).length)) = true := by
        rw [decide_eq_true (show 0 ≤ 0 from Nat.le_refl 0), decide_eq_true (show 0 < ic (x :: r).length by simp only [ic, List.length_cons]; omega)]
        rfl
      rw [e0, condF, e1, condT, condT]
      exact run
  · simp [R.get] at h
theorem minV_in {l : List IV} : ∀ {a : Int}, fits32 a = true → (∀ x ∈ l, fits32 (pcV x) = true) → fits32 (minV l a) = true := by
  induction l with
  | nil => intro a h _; exact h
  | cons x r ih =>
    intro a h hx
    rw [minV]
    refine ih ?_ fun y hy => hx y (List.mem_cons_of_mem _ hy)
    have := fits32_in h
    have := fits32_in (hx x (List.mem_cons_self ..))
    unfold fits32
    rw [decide_eq_true (by omega), decide_eq_true (by omega)]
    rfl
theorem maxV_in {l : List IV} : ∀ {a : Int}, fits32 a = true → (∀ x ∈ l, fits32 (pcV x) = true) → fits32 (maxV l a) = true := by
  induction l with
  | nil => intro a h _; exact h
  | cons x r ih =>
    intro a h hx
    rw [maxV]
    refine ih ?_ fun y hy => hx y (List.mem_cons_of_mem _ hy)
    have := fits32_in h
    have := fits32_in (hx x (List.mem_cons_self ..))
    unfold fits32
    rw [decide_eq_true (by omega), decide_eq_true (by omega)]
    rfl
theorem lvRun_fits : ∀ (l : List IV) (i : Nat) (own out : List IV), (∀ x ∈ out, fits32 (pcV x) = true) → ∀ x ∈ lvRun l i own out, fits32 (pcV x) = true
  | [], _, _, _, h => h
  | w :: r, i, own, out, h => by
    rw [lvRun]
    refine lvRun_fits r (i + 1) _ _ ?_
    cases ((nodeN w.toInt).lf && !(bxI (own.getD i default)).emp) with
    | true =>
      intro x hx
      rcases List.mem_append.1 hx with hx | hx
      · exact h x hx
      · obtain rfl := List.mem_singleton.1 hx
        exact node_val _
    | false => exact h
theorem leaves_fits (l : List IV) (b : Bx) : ∀ x ∈ leavesF l b, fits32 (pcV x) = true := by
  unfold leavesF
  cases (treeB l 4 && !b.emp) with
  | true => exact lvRun_fits _ _ _ _ (fun x hx => by cases hx)
  | false => intro x hx; cases hx
theorem t_in (l : List IV) (b : Bx) : fits32 (tLo l b) = true ∧ fits32 (tHi l b) = true := by
  unfold tLo tHi tOK
  have hf := leaves_fits l b
  generalize leavesF l b = ps at hf ⊢
  cases ps with
  | nil => exact ⟨rfl, rfl⟩
  | cons x r => exact ⟨minV_in (hf x (List.mem_cons_self ..)) hf, maxV_in (hf x (List.mem_cons_self ..)) hf⟩

/-! ### sums -/
abbrev xstS2 (ts : List IV) (b : Bx) (k lo hi i : Int) : St := ⟨[(1, (.int .i64 k)), (5, (.ptr 5 0 0)), (6, (.int .i64 0)), (7, (.int .i64 0)), (8, (.bool false)), (9, (.int .i64 lo)), (10, (.int .i64 hi)), (42, (.list true kTree ts)), (43, (.int .i64 (ic (List.length ts)))), (44, (.int .i64 i))], [(5, (some (.box (Bx.cs b))))]⟩
theorem sum_run (N : Nat) (ts : List IV) (b : Bx) (k : Int) (hts : ts.length ≤ 8) : ∀ (m i n : Nat) (lo hi : Int), i + m = ts.length → m < n → (-2147483648 * (i + 1) ≤ lo ∧ lo ≤ 2147483648 * (i + 1)) → (-2147483648 * (i + 1) ≤ hi ∧ hi ≤ 2147483648 * (i + 1)) →
    lpE (E_bound_Sum N) (subC c_bound_Sum [1, 1, 1, 0, 1, 0, 0]) ⟨[1, 5, 6, 7, 8, 9, 10, 42, 43, 44], [5], []⟩ n (xstS2 ts b k lo hi (i : Int)) (kBlock 0 (kSq (E_bound_Sum N) (subC c_bound_Sum [1, 1, 1, 1]) (outT (E_bound_Sum N) none [(ResultVar.tmp 6), (ResultVar.tmp 7), (ResultVar.tmp 8)] [[(.int .i64)], [(.int .i64)], [.bool]]))) =
      some (.tup [.int .i64 (sumT (fun l => tLo l b) k (ts.drop i) lo), .int .i64 (sumT (fun l => tHi l b) k (ts.drop i) hi), .bool true], [])
  | m, i, 0, _, _, _, h, _, _ => absurd h (by omega)
  | 0, i, n + 1, lo, hi, hd, _, _, _ => by
    have hlt : i = ts.length := by omega
    subst hlt
    rw [lpE_succ, st_bound_Sum_1, idx_ge (Nat.le_refl _), condF, List.drop_length]
    exact ex_bound_Sum_1_1 N b _ _ _ _ _ _ _ _ _
  | m + 1, i, n + 1, lo, hi, hd, hn, h1, h2 => by
    have hlt : i < ts.length := by omega
    have ei : IntKind.wrap IntKind.i64 ((i : Int) + 1) = ((i + 1 : Nat) : Int) := succ_w (by omega)
    rw [lpE_succ, st_bound_Sum_1, ei, idx_lt hlt, condT, idx_0, Bool.and_self, condT, getD_i hlt, List.drop_eq_getElem_cons hlt, sumT, sumT]
    obtain ⟨q1, q2⟩ := t_in (tNds ts[i]) b
    have q1 := fits32_in q1
    have q2 := fits32_in q2
    have en : ((ts[i].cell 0).toInt != k) = !((ts[i].cell 0).toInt == k) := rfl
    rw [en]
    cases ((ts[i].cell 0).toInt == k) with
    | true =>
      rw [Bool.not_true, condF, condT, condT]
      have ew : IntKind.wrap IntKind.i64 (lo + tLo (tNds ts[i]) b) = lo + tLo (tNds ts[i]) b := wrap_id (by omega) (by omega)
      have ew2 : IntKind.wrap IntKind.i64 (hi + tHi (tNds ts[i]) b) = hi + tHi (tNds ts[i]) b := wrap_id (by omega) (by omega)
      have ih := sum_run N ts b k hts m (i + 1) n (lo + tLo (tNds ts[i]) b) (hi + tHi (tNds ts[i]) b) (by omega) (by omega) (by omega) (by omega)
      rw [← ew, ← ew2] at ih
      refine Eq.trans ih ?_
      rw [ew, ew2]
    | false =>
      rw [Bool.not_false, condT, condF, condF]
      exact sum_run N ts b k hts m (i + 1) n lo hi (by omega) (by omega) (by omega) (by omega)
set_option maxRecDepth 100000 in
theorem snd_bound_Sum : SndR PR B0 41 S_bound_Sum := by
  refine snd_mk [(55, S_bound_Tree), (40, S_box_Empty), (36, S_model_Right)] [(5, ⟨[1, 5, 6, 7, 8, 9, 10, 42, 43, 44], [5], []⟩)] S_bound_Sum [[.int .i64], [.int .i64], [.bool]] Try.func41 h_bound_Sum ⟨snd_bound_Tree, snd_box_Empty, snd_model_Right, trivial⟩ ?_
  intro vs r hwf h
  unfold S_bound_Sum at h
  split at h
  · rename_i m k b
    replace h := withM_get h
    obtain ⟨m, rfl, h⟩ := h
    replace h := withB_get h
    obtain ⟨b, rfl, h⟩ := h
    rw [R.get_ok] at h
    refine ⟨10, ?_⟩
    rw [← h]
    refine (nf_bound_Sum 10 m k b).trans ?_
    unfold sLo sHi sOK
    cases hm : modelB m with
    | false => rfl
    | true =>
      rw [Bool.not_true, condF]
      cases h0 : decide (k < 0) with
      | true =>
        have : clsOK m k = false := by unfold clsOK; rw [decide_eq_false (show ¬ 0 ≤ k by have := of_decide_eq_true h0; omega)]; rfl
        rw [this]
        rfl
      | false =>
        rw [condF]
        cases h1 : decide (k ≥ m.c) with
        | true =>
          have : clsOK m k = false := by unfold clsOK; rw [decide_eq_false (show ¬ k < m.c by have := of_decide_eq_true h1; omega), Bool.and_false]
          rw [this]
          rfl
        | false =>
          have hc : clsOK m k = true := by unfold clsOK; rw [decide_eq_true (show 0 ≤ k by have := of_decide_eq_false h0; omega), decide_eq_true (show k < m.c by have := of_decide_eq_false h1; omega)]; rfl
          rw [condF, hc]
          cases b.emp with
          | true => rfl
          | false =>
            have hb := bias_in hm k
            have run := sum_run 10 m.ts b k (modelB_parts hm).2.2.1 m.ts.length 0 10 (biasOf m k) (biasOf m k) (by omega) (by have := (modelB_parts hm).2.2.1; omega) (by omega) (by omega)
            rw [condF]
            rcases cls_cases hm hc with rfl | rfl | rfl <;> exact run
  · simp [R.get] at h
theorem sumT_in (g : List IV → Int) (hg : ∀ l, -2147483648 ≤ g l ∧ g l ≤ 2147483648) (k : Int) : ∀ (ts : List IV) (s : Int) (n : Nat), (-2147483648 * (n : Int) ≤ s ∧ s ≤ 2147483648 * (n : Int)) → -2147483648 * ((n + ts.length : Nat) : Int) ≤ sumT g k ts s ∧ sumT g k ts s ≤ 2147483648 * ((n + ts.length : Nat) : Int)
  | [], s, n, h => by
    rw [sumT]
    simpa using h
  | t :: r, s, n, h => by
    rw [sumT]
    have h1 := hg (tNds t)
    have := sumT_in g hg k r (cond (tCls t == k) (s + g (tNds t)) s) (n + 1) (by cases (tCls t == k) <;> simp only [cond_true, cond_false] <;> omega)
    rw [List.length_cons]
    rw [show n + 1 + r.length = n + (r.length + 1) by omega] at this
    exact this
theorem s_in {m : Md} (k : Int) (b : Bx) : (-34359738368 ≤ sLo m k b ∧ sLo m k b ≤ 34359738368) ∧ (-34359738368 ≤ sHi m k b ∧ sHi m k b ≤ 34359738368) := by
  unfold sLo sHi
  cases hs : sOK m k b with
  | false => simp only [cond_false]; omega
  | true =>
    unfold sOK at hs
    simp only [Bool.and_eq_true] at hs
    have hb := bias_in hs.1 k
    have h8 := (modelB_parts hs.1).2.2.1
    have h1 := sumT_in (fun l => tLo l b) (fun l => by have := fits32_in (t_in l b).1; omega) k m.ts (biasOf m k) 1 (by omega)
    have h2 := sumT_in (fun l => tHi l b) (fun l => by have := fits32_in (t_in l b).2; omega) k m.ts (biasOf m k) 1 (by omega)
    rw [condT, condT]
    omega

/-! ### margins -/
abbrev xstM (m : Md) (b : Bx) (k lo a : Int) (z : Bool) (i : Int) : St := ⟨[(1, (.int .i64 k)), (3, (.ptr 3 0 0)), (5, (.ptr 5 0 0)), (6, (.int .i64 0)), (7, (.bool false)), (8, (.int .i64 lo)), (11, (.int .i64 a)), (12, (.bool z)), (33, (.int .i64 (Md.c m))), (34, (.int .i64 i))], [(3, (some (.box (Md.cs m)))), (5, (some (.box (Bx.cs b))))]⟩
theorem marg_run (N : Nat) (m : Md) (b : Bx) (k : Int) (hc : 0 ≤ m.c ∧ m.c ≤ 3) (lo : Int) (hlo : -34359738368 ≤ lo ∧ lo ≤ 34359738368) : ∀ (d i n : Nat) (a : Int) (z : Bool), ((i + d : Nat) : Int) = m.c → d < n →
    lpE (E_bound_Margin N) (subC c_bound_Margin [1, 1, 1, 1, 0, 1, 0, 0]) ⟨[1, 3, 5, 6, 7, 8, 11, 12, 33, 34], [3, 5], []⟩ n (xstM m b k lo a z (i : Int)) (kBlock 0 (kSq (E_bound_Margin N) (subC c_bound_Margin [1, 1, 1, 1, 1]) (outT (E_bound_Margin N) none [(ResultVar.tmp 6), (ResultVar.tmp 7)] [[(.int .i64)], [.bool]]))) =
      some (.tup [.int .i64 (margR m k lo b d (i : Int) a z), .bool true], [])
  | d, i, 0, _, _, _, h => absurd h (by omega)
  | 0, i, n + 1, a, z, hd, _ => by
    rw [lpE_succ, st_bound_Margin_1, decide_eq_false (show ¬ (i : Int) < m.c by omega), condF]
    exact ex_bound_Margin_1_1 N m b _ _ _ _ _ _ _ _
  | d + 1, i, n + 1, a, z, hd, hn => by
    have ei : IntKind.wrap IntKind.i64 ((i : Int) + 1) = ((i + 1 : Nat) : Int) := succ_w (by omega)
    have hs := (s_in (m := m) (i : Int) b).2
    have ew : IntKind.wrap IntKind.i64 (lo - sHi m (i : Int) b) = lo - sHi m (i : Int) b := wrap_id (by omega) (by omega)
    have ec : (i : Int) + 1 = ((i + 1 : Nat) : Int) := by omega
    rw [lpE_succ, st_bound_Margin_1, ei, ew, decide_eq_true (show (i : Int) < m.c by omega), condT, margR, ec]
    have ih := fun a z => marg_run N m b k hc lo hlo d (i + 1) n a z (by omega) (by omega)
    cases ((i : Int) == k) with
    | true => exact ih a z
    | false =>
      rw [condF, condF]
      cases z with
      | false => exact ih _ true
      | true =>
        rw [Bool.not_true, condF, Bool.false_or]
        cases decide (lo - sHi m (i : Int) b < a) with
        | true => exact ih _ true
        | false => exact ih a true
set_option maxRecDepth 100000 in
theorem snd_bound_Margin : SndR PR B0 42 S_bound_Margin := by
  refine snd_mk [(41, S_bound_Sum)] [(6, ⟨[1, 3, 5, 6, 7, 8, 11, 12, 33, 34], [3, 5], []⟩)] S_bound_Margin [[.int .i64], [.bool]] Try.func42 h_bound_Margin ⟨snd_bound_Sum, trivial⟩ ?_
  intro vs r hwf h
  unfold S_bound_Margin at h
  split at h
  · rename_i m k b
    replace h := withM_get h
    obtain ⟨m, rfl, h⟩ := h
    replace h := withB_get h
    obtain ⟨b, rfl, h⟩ := h
    rw [R.get_ok] at h
    refine ⟨10, ?_⟩
    rw [← h]
    refine (nf_bound_Margin 10 m k b).trans ?_
    unfold marg mgOK
    cases hs : sOK m k b with
    | false => rfl
    | true =>
      have hm : modelB m = true := by unfold sOK at hs; simp only [Bool.and_eq_true] at hs; exact hs.1
      have hc := (modelB_parts hm).2.1
      rw [Bool.not_true, condF]
      cases h2 : decide (m.c < 2) with
      | true => rw [decide_eq_false (show ¬ m.c ≥ 2 by have := of_decide_eq_true h2; omega)]; rfl
      | false =>
        rw [decide_eq_true (show m.c ≥ 2 by have := of_decide_eq_false h2; omega), condF]
        exact marg_run 10 m b k (by omega) (sLo m k b) (s_in k b).1 m.c.toNat 0 10 0 false (by omega) (by omega)
  · simp [R.get] at h
set_option maxRecDepth 100000 in
theorem snd_couple_Change : SndR PR B0 44 S_couple_Change := by
  refine snd_mk [(41, S_bound_Sum), (57, S_couple_First), (58, S_couple_Second), (56, S_couple_pairs)] [] S_couple_Change [[.int .i64], [.int .i64], [.bool]] Try.func44 h_couple_Change ⟨snd_bound_Sum, snd_couple_First, snd_couple_Second, snd_couple_pairs, trivial⟩ ?_
  intro vs r hwf h
  unfold S_couple_Change at h
  split at h
  · rename_i m q b
    replace h := withM_get h
    obtain ⟨m, rfl, h⟩ := h
    replace h := withQ_get h
    obtain ⟨q, rfl, h⟩ := h
    replace h := withB_get h
    obtain ⟨b, rfl, h⟩ := h
    rw [R.get_ok] at h
    refine ⟨0, ?_⟩
    rw [← h]
    refine (nf_couple_Change 0 m q b).trans ?_
    have h1 := s_in (m := m) q.c (firstB q b)
    have h2 := s_in (m := m) q.c (secondB q b)
    rw [wrap_id (n := sLo m q.c (secondB q b) - sHi m q.c (firstB q b)) (by omega) (by omega), wrap_id (n := sHi m q.c (secondB q b) - sLo m q.c (firstB q b)) (by omega) (by omega)]
    unfold chLo chHi chOK
    cases paired q <;> cases sOK m q.c (firstB q b) <;> cases sOK m q.c (secondB q b) <;> rfl
  · simp [R.get] at h

/-! ### goals -/
set_option maxRecDepth 100000 in
theorem snd_goal_Closed : SndR PR B0 29 S_goal_Closed := by
  refine snd_mk [(42, S_bound_Margin), (41, S_bound_Sum), (40, S_box_Empty), (44, S_couple_Change), (43, S_couple_Ordered), (24, S_query_Right)] [] S_goal_Closed [[.bool]] Try.func29 h_goal_Closed ⟨snd_bound_Margin, snd_bound_Sum, snd_box_Empty, snd_couple_Change, snd_couple_Ordered, snd_query_Right, trivial⟩ ?_
  intro vs r hwf h
  unfold S_goal_Closed at h
  split at h
  · rename_i m q b
    replace h := withM_get h
    obtain ⟨m, rfl, h⟩ := h
    replace h := withQ_get h
    obtain ⟨q, rfl, h⟩ := h
    replace h := withB_get h
    obtain ⟨b, rfl, h⟩ := h
    rw [R.get_ok] at h
    refine ⟨0, ?_⟩
    rw [← h]
    refine (nf_goal_Closed 0 m q b).trans ?_
    unfold closedF
    cases rightQ m q <;> cases b.emp <;> cases (q.k == 1) <;> cases (q.k == 2) <;> cases sOK m q.c b <;> cases decide (q.lo ≤ sLo m q.c b) <;> cases mgOK m q.c b <;> cases ordered q b <;> cases q.fl <;> cases chOK m q b <;> rfl
  · simp [R.get] at h
set_option maxRecDepth 100000 in
theorem snd_goal_Corner : SndR PR B0 30 S_goal_Corner := by
  refine snd_mk [(45, S_box_Low)] [] S_goal_Corner [[.int .i64, .int .i64, .int .i64, .int .i64], [.int .i64]] Try.func30 h_goal_Corner ⟨snd_box_Low, trivial⟩ ?_
  intro vs r hwf h
  unfold S_goal_Corner at h
  split at h
  · rename_i b
    replace h := withB_get h
    obtain ⟨b, rfl, h⟩ := h
    rw [R.get_ok] at h
    exact ⟨0, (nf_goal_Corner 0 b).trans h⟩
  · simp [R.get] at h

/-! ### thresholds -/
set_option maxRecDepth 100000 in
theorem snd_grid_feature : SndR PR B0 59 S_grid_feature := by
  refine snd_mk [] [] S_grid_feature [[.int .i64]] Try.func59 h_grid_feature trivial ?_
  intro vs r hwf h
  unfold S_grid_feature at h
  split at h
  · rename_i q i
    replace h := withQ_get h
    obtain ⟨q, rfl, h⟩ := h
    rw [R.get_ok] at h
    refine ⟨0, ?_⟩
    rw [← h]
    refine (nf_grid_feature 0 q i).trans ?_
    unfold featG
    cases decide (i ≥ 0) <;> cases decide (i < 4) <;> cases (i == 4) <;> cases (q.k == 3) <;> rfl
  · simp [R.get] at h
def cutRs (m : Md) (f : Int) (s : Sp) : Res :=
  cond (decide (f < 0)) (some (.list false [.int .i64] [], []))
    (cond (modelB m)
      (cond (Nat.beq (iZ (thrZ m.ts f)).length (iZ (thrZ m.ts f)).length)
        (cond (Nat.ble (iZ (keepZ s.lo s.hi ((iZ (thrZ m.ts f)).map IV.toInt))).length (iZ (thrZ m.ts f)).length)
          (some (.list false [.int .i64] (List.drop 0 (List.take (iZ (keepZ s.lo s.hi ((iZ (thrZ m.ts f)).map IV.toInt))).length (iZ (keepZ s.lo s.hi ((iZ (thrZ m.ts f)).map IV.toInt))))), [])) none) none) none)
theorem cutRs_eq {m : Md} (hm : modelB m = true) (f : Int) (s : Sp) : cutRs m f s = some (.list false [.int .i64] (iZ (cond (decide (f < 0)) [] (keepZ s.lo s.hi (thrZ m.ts f)))), []) := by
  unfold cutRs
  cases decide (f < 0) with
  | true => rfl
  | false =>
    rw [condF, hm, condT, Nat.beq_refl, condT, iZ_toInt, condF]
    have hle : (iZ (keepZ s.lo s.hi (thrZ m.ts f))).length ≤ (iZ (thrZ m.ts f)).length := by
      rw [iZ_len, iZ_len]
      exact List.length_filter_le ..
    rw [Nat.ble_eq_true_of_le hle, condT, List.drop_zero, List.take_length]
theorem run_grid_Cuts (m : Md) (q : Qy) (b : Bx) : ∀ i : Nat, i < 5 → evFun (E_grid_Cuts 0) c_grid_Cuts [.tmp 8] [[.list false [.int .i64]]] [m.V, q.V, b.V, .int .i64 (i : Int)] = cutRs m (featG q (i : Int)) (b.g i)
  | 0, _ => by kernel_rfl
  | 1, _ => by kernel_rfl
  | 2, _ => by kernel_rfl
  | 3, _ => by kernel_rfl
  | 4, _ => by kernel_rfl
  | i + 5, h => absurd h (by omega)
abbrev kpT1 : KP := ⟨[1, 4, 5, 16, 17, 18], [500], [⟨(.tmp 5), 500, 3, false, [(.int .i64)]⟩]⟩
abbrev kpT2 : KP := ⟨[1, 4, 5, 16, 17, 18, 23, 24, 25], [500], [⟨(.tmp 5), 500, 3, false, [(.int .i64)]⟩]⟩
abbrev xstT2 (f : Int) (ts : List IV) (i : Int) (W : List IV) (j : Int) (O : List IV) : St :=
  ⟨[(1, (.int .i64 f)), (4, .zs), (5, (.row 500 0 O.length)), (16, (.list true kTree ts)), (17, (.int .i64 (ic ts.length))), (18, (.int .i64 i)), (23, (.list false [(.int .u64)] W)), (24, (.int .i64 (ic W.length))), (25, (.int .i64 j))], [(500, (some (.row true 3 false [(.int .i64)] O)))]⟩
theorem thr_nodes (N : Nat) (f : Int) (ts : List IV) (i : Int) (W : List IV) (hW : W.length ≤ 31) (K : Out → St → Res) : ∀ (m j n : Nat) (O : List IV), j + m = W.length → m < n → O.length + m ≤ 1000 →
    lpE (E_model_Thresholds N) (subC c_model_Thresholds [1, 1, 1, 0, 1, 0, 0, 1, 1, 0, 0, 1, 1, 0, 0]) kpT2 n (xstT2 f ts i W (j : Int) O) K = K (.exit 2) (xstT2 f ts i W (ic W.length) (O ++ iZ ((W.drop j).flatMap (thrN f))))
  | m, j, 0, _, _, h, _ => absurd h (by omega)
  | 0, j, n + 1, O, hd, _, _ => by
    have hj : j = W.length := by omega
    subst hj
    rw [lpE_succ, st_model_Thresholds_2, idx_ge (Nat.le_refl _), condF, List.drop_length]
    show K (.exit 2) _ = K (.exit 2) (xstT2 f ts i W (ic W.length) (O ++ []))
    rw [List.append_nil]
  | m + 1, j, n + 1, O, hd, hn, hO => by
    have hj : j < W.length := by omega
    have ej : IntKind.wrap IntKind.i64 ((j : Int) + 1) = ((j + 1 : Nat) : Int) := succ_w (by omega)
    rw [lpE_succ, st_model_Thresholds_2, ej, idx_lt hj, condT, idx_0, Bool.and_self, condT, getD_i hj, List.drop_eq_getElem_cons hj, List.flatMap_cons]
    unfold thrN
    cases (nodeN (W[j]).toInt).lf with
    | true =>
      rw [Bool.not_true, condF, Bool.false_and, condF, List.nil_append]
      exact thr_nodes N f ts i W hW K m (j + 1) n O (by omega) (by omega) (by omega)
    | false =>
      rw [Bool.not_false, condT, Bool.true_and]
      cases ((nodeN (W[j]).toInt).f == f) with
      | false =>
        rw [condF, condF, List.nil_append]
        exact thr_nodes N f ts i W hW K m (j + 1) n O (by omega) (by omega) (by omega)
      | true =>
        rw [condT, condT, decide_eq_true (show (O.length + 1) * 8 ≤ bytesMax by unfold bytesMax; omega), condT, List.take_length]
        have ih := thr_nodes N f ts i W hW K m (j + 1) n (O ++ [IV.int (nodeN (W[j]).toInt).a]) (by omega) (by omega) (by rw [List.length_append, List.length_singleton]; omega)
        rw [List.append_assoc] at ih
        unfold xstT2 at ih ⊢
        rw [List.length_append, List.length_singleton] at ih
        exact ih
abbrev xstT1 (f : Int) (ts : List IV) (i : Int) (O : List IV) : St :=
  ⟨[(1, (.int .i64 f)), (4, .zs), (5, (.row 500 0 O.length)), (16, (.list true kTree ts)), (17, (.int .i64 (ic ts.length))), (18, (.int .i64 i))], [(500, (some (.row true 3 false [(.int .i64)] O)))]⟩
theorem thrN_len (f : Int) : ∀ W : List IV, (W.flatMap (thrN f)).length ≤ W.length
  | [] => Nat.le_refl _
  | w :: r => by
    rw [List.flatMap_cons, List.length_append, List.length_cons]
    have := thrN_len f r
    unfold thrN at this ⊢
    cases (!(nodeN w.toInt).lf && (nodeN w.toInt).f == f) <;> simp only [cond_true, cond_false, List.length_nil, List.length_singleton] <;> omega
theorem treeOK_parts {d c : Int} {t : IV} (h : treeOK d c t = true) : (0 ≤ tCls t ∧ tCls t < c) ∧ treeB (tNds t) d = true := by
  unfold treeOK at h
  simp only [Bool.and_eq_true, Bool.not_eq_true', decide_eq_false_iff_not] at h
  exact ⟨⟨by show 0 ≤ (t.cell 0).toInt; omega, by show (t.cell 0).toInt < c; omega⟩, h.2.2⟩
theorem tree_len {d c : Int} {ts : List IV} (h : ts.all (treeOK d c) = true) {t : IV} (ht : t ∈ ts) : (tNds t).length ≤ 31 := by
  have := (treeOK_parts (List.all_eq_true.1 h t ht)).2
  exact (treeB_parts this).1.2
theorem thr_trees (N : Nat) (hN : 40 ≤ N) (f : Int) (ts : List IV) (hts : ts.length ≤ 8) (hW : ∀ t ∈ ts, (tNds t).length ≤ 31) (K : Out → St → Res) : ∀ (m i n : Nat) (O : List IV), i + m = ts.length → m < n → O.length ≤ 31 * i →
    lpE (E_model_Thresholds N) (subC c_model_Thresholds [1, 1, 1, 0, 1, 0, 0]) kpT1 n (xstT1 f ts (i : Int) O) K = K (.exit 0) (xstT1 f ts (ic ts.length) (O ++ iZ (thrRaw (ts.drop i) f)))
  | m, i, 0, _, _, h, _ => absurd h (by omega)
  | 0, i, n + 1, O, hd, _, _ => by
    have hi : i = ts.length := by omega
    subst hi
    rw [lpE_succ, st_model_Thresholds_1, idx_ge (Nat.le_refl _), condF, List.drop_length]
    show K (.exit 0) _ = K (.exit 0) (xstT1 f ts (ic ts.length) (O ++ []))
    rw [List.append_nil]
  | m + 1, i, n + 1, O, hd, hn, hO => by
    have hi : i < ts.length := by omega
    have ei : IntKind.wrap IntKind.i64 ((i : Int) + 1) = ((i + 1 : Nat) : Int) := succ_w (by omega)
    have hw := hW ts[i] (List.getElem_mem hi)
    have hl := thrN_len f (tNds ts[i])
    rw [lpE_succ, st_model_Thresholds_1, idx_lt hi, condT, idx_0, Bool.and_self, condT, getD_i hi, List.drop_eq_getElem_cons hi]
    refine (thr_nodes N f ts (i : Int) (tNds ts[i]) hw _ (tNds ts[i]).length 0 N O (by omega) (by omega) (by omega)).trans ?_
    rw [ex_model_Thresholds_2_1, ei, List.drop_zero]
    have ih := thr_trees N hN f ts hts hW K m (i + 1) n (O ++ iZ ((tNds ts[i]).flatMap (thrN f))) (by omega) (by omega) (by rw [List.length_append, iZ_len]; omega)
    have e : thrRaw (ts[i] :: ts.drop (i + 1)) f = (tNds ts[i]).flatMap (thrN f) ++ thrRaw (ts.drop (i + 1)) f := by unfold thrRaw; rw [List.flatMap_cons]
    rw [e]
    have e2 : iZ ((tNds ts[i]).flatMap (thrN f) ++ thrRaw (ts.drop (i + 1)) f) = iZ ((tNds ts[i]).flatMap (thrN f)) ++ iZ (thrRaw (ts.drop (i + 1)) f) := by unfold iZ; rw [List.map_append]
    rw [e2, ← List.append_assoc]
    exact ih
set_option maxRecDepth 100000 in
theorem snd_model_Thresholds : SndR PR B0 61 S_model_Thresholds := by
  refine snd_mkI [(36, S_model_Right), (66, S_node_Unpack)] [(71, ipCompact), (70, ipSort)] [(5, kpT1), (8, kpT2)] S_model_Thresholds [] Try.func61 h_model_Thresholds ⟨snd_model_Right, snd_node_Unpack, trivial⟩ ⟨snd_ipCompact, snd_ipSort, trivial⟩ ?_
  intro vs r hwf h
  unfold S_model_Thresholds at h
  split at h
  · rename_i m f
    replace h := withM_get h
    obtain ⟨m, rfl, h⟩ := h
    cases hm : modelB m with
    | false => rw [hm] at h; simp [R.get] at h
    | true =>
      rw [hm, R.get_br, condT, R.get_ok] at h
      refine ⟨40, ?_⟩
      rw [← h]
      refine (nf_model_Thresholds 40 m f).trans ?_
      have hmp := modelB_parts hm
      rw [hm, Bool.not_true, condF]
      refine (thr_trees 40 (by omega) f m.ts hmp.2.2.1 (fun t ht => tree_len hmp.2.2.2.2 ht) _ m.ts.length 0 40 [] (by omega) (by have := hmp.2.2.1; omega) (Nat.zero_le _)).trans ?_
      rw [List.drop_zero, List.nil_append, ex_model_Thresholds_1_1, Nat.beq_refl, condT, iZ_toInt]
      have e1 : (iZ (sortZ (thrRaw m.ts f))).length = (iZ (thrRaw m.ts f)).length := by rw [iZ_len, iZ_len]; exact (sortZ_perm _).length_eq
      have e2 : (iZ (cmpZ (sortZ (thrRaw m.ts f)))).length ≤ (iZ (thrRaw m.ts f)).length := by rw [← e1, iZ_len, iZ_len]; exact cmpZ_len _
      rw [e1, Nat.beq_refl, condT, condT, iZ_toInt, Nat.ble_eq_true_of_le e2, condT, List.take_length]
      rfl
  · simp [R.get] at h

set_option maxRecDepth 100000 in
theorem snd_grid_Cuts : SndR PR B0 46 S_grid_Cuts := by
  refine snd_mkI [(59, S_grid_feature), (61, S_model_Thresholds)] [(60, ipDelete)] [] S_grid_Cuts [[.list false [.int .i64]]] Try.func46 h_grid_Cuts ⟨snd_grid_feature, snd_model_Thresholds, trivial⟩ ⟨snd_ipDelete, trivial⟩ ?_
  intro vs r hwf h
  unfold S_grid_Cuts at h
  split at h
  · rename_i m q b i
    replace h := withM_get h
    obtain ⟨m, rfl, h⟩ := h
    replace h := withQ_get h
    obtain ⟨q, rfl, h⟩ := h
    replace h := withB_get h
    obtain ⟨b, rfl, h⟩ := h
    cases hg : (modelB m && inPl i) with
    | false => rw [hg] at h; simp [R.get] at h
    | true =>
    rw [hg, R.get_br, condT, R.get_ok] at h
    rw [Bool.and_eq_true] at hg
    refine ⟨0, ?_⟩
    rw [← h]
    have key : ∀ k : Nat, k < 5 → evFun (E_grid_Cuts 0) c_grid_Cuts [.tmp 8] [[.list false [.int .i64]]] [m.V, q.V, b.V, .int .i64 (k : Int)] = some (.list false [.int .i64] (iZ (cutsZ m q b k)), []) := fun k hk => by
      rw [run_grid_Cuts m q b k hk, cutRs_eq hg.1]
      rfl
    rcases inPl_cases hg.2 with rfl | rfl | rfl | rfl | rfl
    · exact key 0 (by omega)
    · exact key 1 (by omega)
    · exact key 2 (by omega)
    · exact key 3 (by omega)
    · exact key 4 (by omega)
  · simp [R.get] at h
/-! ### where a box is cut -/
abbrev xstP (m : Md) (q : Qy) (b : Bx) (i : Int) : St := ⟨[(3, (.ptr 3 0 0)), (4, (.ptr 4 0 0)), (5, (.ptr 5 0 0)), (6, (.int .i64 0)), (7, (.int .i64 0)), (8, (.bool false)), (11, (.int .i64 i))], [(3, (some (.box (Md.cs m)))), (4, (some (.box (Qy.cs q)))), (5, (some (.box (Bx.cs b))))]⟩
theorem cuts_len {m : Md} (hm : modelB m = true) (q : Qy) (b : Bx) (i : Nat) : (cutsZ m q b i).length ≤ 248 := by
  have key : ∀ (ts : List IV) (f : Int), (∀ t ∈ ts, (tNds t).length ≤ 31) → (thrRaw ts f).length ≤ 31 * ts.length := by
    intro ts f
    induction ts with
    | nil => intro _; exact Nat.le_refl _
    | cons t r ih =>
      intro ht
      have h1 := ih fun u hu => ht u (List.mem_cons_of_mem _ hu)
      have h2 := thrN_len f (tNds t)
      have h3 := ht t (List.mem_cons_self ..)
      unfold thrRaw at h1 ⊢
      rw [List.flatMap_cons, List.length_append, List.length_cons]
      omega
  have hmp := modelB_parts hm
  have h1 := key m.ts (featG q (i : Int)) fun t ht => tree_len hmp.2.2.2.2 ht
  unfold cutsZ
  cases decide (featG q (i : Int) < 0) with
  | true => exact Nat.zero_le _
  | false =>
    rw [condF]
    have h2 : (keepZ (b.g i).lo (b.g i).hi (thrZ m.ts (featG q (i : Int)))).length ≤ (thrZ m.ts (featG q (i : Int))).length := List.length_filter_le ..
    have h3 : (thrZ m.ts (featG q (i : Int))).length ≤ (thrRaw m.ts (featG q (i : Int))).length := by
      unfold thrZ
      exact Nat.le_trans (cmpZ_len _) (Nat.le_of_eq (sortZ_perm _).length_eq)
    have := hmp.2.2.1
    omega
theorem split_run (N : Nat) (m : Md) (hm : modelB m = true) (q : Qy) (b : Bx) : ∀ (d i n : Nat), i + d = 5 → d < n →
    lpE (E_goal_Split N) (subC c_goal_Split [1, 0, 1, 0, 0]) ⟨[3, 4, 5, 6, 7, 8, 11], [3, 4, 5], []⟩ n (xstP m q b (i : Int)) (kBlock 0 (kSq (E_goal_Split N) (subC c_goal_Split [1, 1]) (outT (E_goal_Split N) none [(ResultVar.tmp 6), (ResultVar.tmp 7), (ResultVar.tmp 8)] [[(.int .i64)], [(.int .i64)], [.bool]]))) =
      some (.tup [.int .i64 (spI (spR m q b d i)), .int .i64 (spAt (spR m q b d i)), .bool (spR m q b d i).isSome], [])
  | d, i, 0, _, h => absurd h (by omega)
  | 0, i, n + 1, hd, _ => by
    have hi : i = 5 := by omega
    subst hi
    rw [lpE_succ, st_goal_Split_1, decide_eq_false (show ¬ ((5 : Nat) : Int) < 5 by omega), condF]
    exact ex_goal_Split_1_1 N m q b _ _ _ _
  | d + 1, i, n + 1, hd, hn => by
    have hp : inPl (i : Int) = true := by unfold inPl; rw [decide_eq_true (show (0 : Int) ≤ (i : Int) by omega), decide_eq_true (show (i : Int) < 5 by omega)]; rfl
    have ei : IntKind.wrap IntKind.i64 ((i : Int) + 1) = ((i + 1 : Nat) : Int) := succ_w (by omega)
    have hc := cuts_len hm q b i
    rw [lpE_succ, st_goal_Split_1, ei, decide_eq_true (show (i : Int) < 5 by omega), condT, hm, hp, Bool.and_self, condT, Int.toNat_natCast, spR, iZ_len]
    generalize cutsZ m q b i = cs at hc ⊢
    have ed : decide (ic cs.length > 0) = decide (cs.length > 0) := by rw [Bool.eq_iff_iff]; simp
    rw [ed]
    cases hpos : decide (cs.length > 0) with
    | true =>
      have hpos := of_decide_eq_true hpos
      have ew : IntKind.wrap IntKind.i64 (Int.tdiv (IntKind.wrap IntKind.i64 (ic cs.length - 1)) 2) = (((cs.length - 1) / 2 : Nat) : Int) := by
        have e1 : IntKind.wrap IntKind.i64 (ic cs.length - 1) = ((cs.length - 1 : Nat) : Int) := by rw [wrap_id (by simp only [ic]; omega) (by simp only [ic]; omega)]; simp only [ic]; omega
        have e2 : Int.tdiv ((cs.length - 1 : Nat) : Int) 2 = (((cs.length - 1) / 2 : Nat) : Int) := by
          rw [Int.tdiv_eq_ediv_of_nonneg (by omega)]
          omega
        rw [e1, e2, wrap_id (by omega) (by omega)]
      have hlt : (cs.length - 1) / 2 < cs.length := by omega
      rw [condT, ew, idx_0, decide_eq_true (show (((cs.length - 1) / 2 : Nat) : Int) < ic cs.length by simp only [ic]; omega), Bool.and_self, condT, condT, Int.toNat_natCast]
      have eg : IV.toInt (List.getD (iZ cs) ((cs.length - 1) / 2) default) = cs.getD ((cs.length - 1) / 2) 0 := by
        unfold iZ
        rw [List.getD_eq_getElem?_getD, List.getD_eq_getElem?_getD, List.getElem?_map, List.getElem?_eq_getElem hlt]
        rfl
      rw [eg]
      exact ex_goal_Split_1_2 N m q b _ _ _ _
    | false =>
      rw [condF, condF]
      exact split_run N m hm q b d (i + 1) n (by omega) (by omega)
set_option maxRecDepth 100000 in
theorem snd_goal_Split : SndR PR B0 31 S_goal_Split := by
  refine snd_mk [(46, S_grid_Cuts)] [(2, ⟨[3, 4, 5, 6, 7, 8, 11], [3, 4, 5], []⟩)] S_goal_Split [[.int .i64], [.int .i64], [.bool]] Try.func31 h_goal_Split ⟨snd_grid_Cuts, trivial⟩ ?_
  intro vs r hwf h
  unfold S_goal_Split at h
  split at h
  · rename_i m q b
    replace h := withM_get h
    obtain ⟨m, rfl, h⟩ := h
    replace h := withQ_get h
    obtain ⟨q, rfl, h⟩ := h
    replace h := withB_get h
    obtain ⟨b, rfl, h⟩ := h
    cases hg : (modelB m) with
    | false => rw [hg] at h; simp [R.get] at h
    | true =>
    rw [hg, R.get_br, condT, R.get_ok] at h
    refine ⟨10, ?_⟩
    rw [← h]
    exact (nf_goal_Split 10 m q b).trans (split_run 10 m hg q b 5 0 10 rfl (by omega))
  · simp [R.get] at h
end Go.FM

/-
  NORMAL FORMS: what the functions' runs come to (written by a program of this claim's own, checked by the kernel).
-/
namespace Go.FM
open Go Go.Proofs

/-! ### copse/search.New -/
def E_search_New (N : Nat) : Env := mkE [(24, S_query_Right), (13, S_query_Start)] [] 26 N

theorem nf_search_New (N : Nat) (m : Md) (q : Qy) : evFun (E_search_New N) c_search_New [.tmp 4] [[.list false []]] [(Md.V m), (Qy.V q)] =
  (cond (!rightQ m q)
  (some ((.bor (seCs m q [.zs, .zs, (.int .i64 4), .zs, (.int .i64 0), (.int .i64 0), (.int .i64 0), (.int .i64 0), (.int .i64 0), (.int .i64 0), (.int .i64 0)])), []))
  (some ((.bor (seCs m q [(.vec 30 true kBox [(Bx.I (startB q))]), .zs, (.int .i64 0), .zs, (.int .i64 0), (.int .i64 0), (.int .i64 0), (.int .i64 0), (.int .i64 0), (.int .i64 0), (.int .i64 0)])), []))) := by kernel_rfl

/-! ### (*copse/search.Search).Left -/
def E_search_Search_Left (N : Nat) : Env := mkE [] [] 8 N

theorem nf_search_Search_Leftt0 (N : Nat) (m : Md) (q : Qy) (left : List IV) (proof : List IV) (k : Int) (w0 : Int) (w1 : Int) (w2 : Int) (w3 : Int) (tw : Int) (vs : Int) (sp : Int) : evFun (E_search_Search_Left N) c_search_Search_Left [.tmp 2] [[.int .i64]] [(.bor (seCs m q [.vec 30 true kBox left, .vec 82 true kStep proof, .int .i64 k, .zs, .int .i64 w0, .int .i64 w1, .int .i64 w2, .int .i64 w3, .int .i64 tw, .int .i64 vs, .int .i64 sp]))] =
  (some ((.int .i64 (ic (List.length left - 0))), [(seCs m q [(.vec 30 true kBox (List.take (List.length left) left)), (.vec 82 true kStep (List.take (List.length proof) proof)), (.int .i64 k), .zs, (.int .i64 w0), (.int .i64 w1), (.int .i64 w2), (.int .i64 w3), (.int .i64 tw), (.int .i64 vs), (.int .i64 sp)])])) := by kernel_rfl

/-! ### (*copse/search.Search).Left -/
theorem nf_search_Search_Leftt1 (N : Nat) (m : Md) (q : Qy) (left : List IV) (k : Int) (w0 : Int) (w1 : Int) (w2 : Int) (w3 : Int) (tw : Int) (vs : Int) (sp : Int) : evFun (E_search_Search_Left N) c_search_Search_Left [.tmp 2] [[.int .i64]] [(.bor (seCs m q [.vec 30 true kBox left, .zs, .int .i64 k, .zs, .int .i64 w0, .int .i64 w1, .int .i64 w2, .int .i64 w3, .int .i64 tw, .int .i64 vs, .int .i64 sp]))] =
  (some ((.int .i64 (ic (List.length left - 0))), [(seCs m q [(.vec 30 true kBox (List.take (List.length left) left)), .zs, (.int .i64 k), .zs, (.int .i64 w0), (.int .i64 w1), (.int .i64 w2), (.int .i64 w3), (.int .i64 tw), (.int .i64 vs), (.int .i64 sp)])])) := by kernel_rfl

/-! ### (*copse/search.Search).Left -/
theorem nf_search_Search_Leftt2 (N : Nat) (m : Md) (q : Qy) (left : List IV) (proof : List IV) (vp : List IV) (k : Int) (w0 : Int) (w1 : Int) (w2 : Int) (w3 : Int) (tw : Int) (vs : Int) (sp : Int) : evFun (E_search_Search_Left N) c_search_Search_Left [.tmp 2] [[.int .i64]] [(.bor (seCs m q [.vec 30 true kBox left, .list true kStep proof, .int .i64 k, .list true kStep vp, .int .i64 w0, .int .i64 w1, .int .i64 w2, .int .i64 w3, .int .i64 tw, .int .i64 vs, .int .i64 sp]))] =
  (some ((.int .i64 (ic (List.length left - 0))), [(seCs m q [(.vec 30 true kBox (List.take (List.length left) left)), (.list true kStep proof), (.int .i64 k), (.list true kStep vp), (.int .i64 w0), (.int .i64 w1), (.int .i64 w2), (.int .i64 w3), (.int .i64 tw), (.int .i64 vs), (.int .i64 sp)])])) := by kernel_rfl

/-! ### (*copse/search.Search).Left -/
theorem nf_search_Search_Leftt3 (N : Nat) (m : Md) (q : Qy) (k : Int) (w0 : Int) (w1 : Int) (w2 : Int) (w3 : Int) (tw : Int) (vs : Int) (sp : Int) : evFun (E_search_Search_Left N) c_search_Search_Left [.tmp 2] [[.int .i64]] [(.bor (seCs m q [.zs, .zs, .int .i64 k, .zs, .int .i64 w0, .int .i64 w1, .int .i64 w2, .int .i64 w3, .int .i64 tw, .int .i64 vs, .int .i64 sp]))] =
  (some ((.int .i64 0), [(seCs m q [.zs, .zs, (.int .i64 k), .zs, (.int .i64 w0), (.int .i64 w1), (.int .i64 w2), (.int .i64 w3), (.int .i64 tw), (.int .i64 vs), (.int .i64 sp)])])) := by kernel_rfl

/-! ### (*copse/search.Search).Verdict -/
def E_search_Search_Verdict (N : Nat) : Env := mkE [(34, S_slices_Clone_apiStepapiStep)] [] 22 N

theorem nf_search_Search_Verdictt0 (N : Nat) (m : Md) (q : Qy) (left : List IV) (proof : List IV) (k : Int) (w0 : Int) (w1 : Int) (w2 : Int) (w3 : Int) (tw : Int) (vs : Int) (sp : Int) : evFun (E_search_Search_Verdict N) c_search_Search_Verdict [.cell 2 37] [[.int .i64, .list true [.bool, .int .i64, .int .i64], .int .i64, .int .i64, .int .i64, .int .i64, .int .i64, .int .i64]] [(.bor (seCs m q [.vec 30 true kBox left, .vec 82 true kStep proof, .int .i64 k, .zs, .int .i64 w0, .int .i64 w1, .int .i64 w2, .int .i64 w3, .int .i64 tw, .int .i64 vs, .int .i64 sp]))] =
  (cond (k == 0)
  (some ((.agg [(.int .i64 3), (.list true kStep []), (.int .i64 w0), (.int .i64 w1), (.int .i64 w2), (.int .i64 w3), (.int .i64 tw), (.int .i64 sp)]), [(seCs m q [(.vec 30 true kBox (List.take (List.length left) left)), (.vec 82 true kStep (List.take (List.length proof) proof)), (.int .i64 k), .zs, (.int .i64 w0), (.int .i64 w1), (.int .i64 w2), (.int .i64 w3), (.int .i64 tw), (.int .i64 vs), (.int .i64 sp)])]))
  (some ((.agg [(.int .i64 k), (.list true kStep []), (.int .i64 w0), (.int .i64 w1), (.int .i64 w2), (.int .i64 w3), (.int .i64 tw), (.int .i64 sp)]), [(seCs m q [(.vec 30 true kBox (List.take (List.length left) left)), (.vec 82 true kStep (List.take (List.length proof) proof)), (.int .i64 k), .zs, (.int .i64 w0), (.int .i64 w1), (.int .i64 w2), (.int .i64 w3), (.int .i64 tw), (.int .i64 vs), (.int .i64 sp)])]))) := by kernel_rfl

/-! ### (*copse/search.Search).Verdict -/
theorem nf_search_Search_Verdictt1 (N : Nat) (m : Md) (q : Qy) (left : List IV) (k : Int) (w0 : Int) (w1 : Int) (w2 : Int) (w3 : Int) (tw : Int) (vs : Int) (sp : Int) : evFun (E_search_Search_Verdict N) c_search_Search_Verdict [.cell 2 37] [[.int .i64, .list true [.bool, .int .i64, .int .i64], .int .i64, .int .i64, .int .i64, .int .i64, .int .i64, .int .i64]] [(.bor (seCs m q [.vec 30 true kBox left, .zs, .int .i64 k, .zs, .int .i64 w0, .int .i64 w1, .int .i64 w2, .int .i64 w3, .int .i64 tw, .int .i64 vs, .int .i64 sp]))] =
  (cond (k == 0)
  (some ((.agg [(.int .i64 3), (.list true kStep []), (.int .i64 w0), (.int .i64 w1), (.int .i64 w2), (.int .i64 w3), (.int .i64 tw), (.int .i64 sp)]), [(seCs m q [(.vec 30 true kBox (List.take (List.length left) left)), .zs, (.int .i64 k), .zs, (.int .i64 w0), (.int .i64 w1), (.int .i64 w2), (.int .i64 w3), (.int .i64 tw), (.int .i64 vs), (.int .i64 sp)])]))
  (some ((.agg [(.int .i64 k), (.list true kStep []), (.int .i64 w0), (.int .i64 w1), (.int .i64 w2), (.int .i64 w3), (.int .i64 tw), (.int .i64 sp)]), [(seCs m q [(.vec 30 true kBox (List.take (List.length left) left)), .zs, (.int .i64 k), .zs, (.int .i64 w0), (.int .i64 w1), (.int .i64 w2), (.int .i64 w3), (.int .i64 tw), (.int .i64 vs), (.int .i64 sp)])]))) := by kernel_rfl

/-! ### (*copse/search.Search).Verdict -/
theorem nf_search_Search_Verdictt2 (N : Nat) (m : Md) (q : Qy) (left : List IV) (proof : List IV) (vp : List IV) (k : Int) (w0 : Int) (w1 : Int) (w2 : Int) (w3 : Int) (tw : Int) (vs : Int) (sp : Int) : evFun (E_search_Search_Verdict N) c_search_Search_Verdict [.cell 2 37] [[.int .i64, .list true [.bool, .int .i64, .int .i64], .int .i64, .int .i64, .int .i64, .int .i64, .int .i64, .int .i64]] [(.bor (seCs m q [.vec 30 true kBox left, .list true kStep proof, .int .i64 k, .list true kStep vp, .int .i64 w0, .int .i64 w1, .int .i64 w2, .int .i64 w3, .int .i64 tw, .int .i64 vs, .int .i64 sp]))] =
  (cond (k == 0)
  (cond (Nat.ble (List.length vp) 100000)
   (some ((.agg [(.int .i64 3), (.list true kStep (List.drop 0 (List.take (List.length vp) vp))), (.int .i64 w0), (.int .i64 w1), (.int .i64 w2), (.int .i64 w3), (.int .i64 tw), (.int .i64 sp)]), [(seCs m q [(.vec 30 true kBox (List.take (List.length left) left)), (.list true kStep proof), (.int .i64 k), (.list true kStep vp), (.int .i64 w0), (.int .i64 w1), (.int .i64 w2), (.int .i64 w3), (.int .i64 tw), (.int .i64 vs), (.int .i64 sp)])]))
   none)
  (cond (Nat.ble (List.length vp) 100000)
   (some ((.agg [(.int .i64 k), (.list true kStep (List.drop 0 (List.take (List.length vp) vp))), (.int .i64 w0), (.int .i64 w1), (.int .i64 w2), (.int .i64 w3), (.int .i64 tw), (.int .i64 sp)]), [(seCs m q [(.vec 30 true kBox (List.take (List.length left) left)), (.list true kStep proof), (.int .i64 k), (.list true kStep vp), (.int .i64 w0), (.int .i64 w1), (.int .i64 w2), (.int .i64 w3), (.int .i64 tw), (.int .i64 vs), (.int .i64 sp)])]))
   none)) := by kernel_rfl

/-! ### (*copse/search.Search).Verdict -/
theorem nf_search_Search_Verdictt3 (N : Nat) (m : Md) (q : Qy) (k : Int) (w0 : Int) (w1 : Int) (w2 : Int) (w3 : Int) (tw : Int) (vs : Int) (sp : Int) : evFun (E_search_Search_Verdict N) c_search_Search_Verdict [.cell 2 37] [[.int .i64, .list true [.bool, .int .i64, .int .i64], .int .i64, .int .i64, .int .i64, .int .i64, .int .i64, .int .i64]] [(.bor (seCs m q [.zs, .zs, .int .i64 k, .zs, .int .i64 w0, .int .i64 w1, .int .i64 w2, .int .i64 w3, .int .i64 tw, .int .i64 vs, .int .i64 sp]))] =
  (cond (k == 0)
  (some ((.agg [(.int .i64 3), (.list true kStep []), (.int .i64 w0), (.int .i64 w1), (.int .i64 w2), (.int .i64 w3), (.int .i64 tw), (.int .i64 sp)]), [(seCs m q [.zs, .zs, (.int .i64 k), .zs, (.int .i64 w0), (.int .i64 w1), (.int .i64 w2), (.int .i64 w3), (.int .i64 tw), (.int .i64 vs), (.int .i64 sp)])]))
  (some ((.agg [(.int .i64 k), (.list true kStep []), (.int .i64 w0), (.int .i64 w1), (.int .i64 w2), (.int .i64 w3), (.int .i64 tw), (.int .i64 sp)]), [(seCs m q [.zs, .zs, (.int .i64 k), .zs, (.int .i64 w0), (.int .i64 w1), (.int .i64 w2), (.int .i64 w3), (.int .i64 tw), (.int .i64 vs), (.int .i64 sp)])]))) := by kernel_rfl

/-! ### (*copse/search.Search).Step -/
def E_search_Search_Step (N : Nat) : Env := mkE [(32, S_box_Cut), (29, S_goal_Closed), (30, S_goal_Corner), (31, S_goal_Split), (12, S_query_Breaks)] [] 165 N

theorem nf_search_Search_Stept0 (N : Nat) (m : Md) (q : Qy) (left : List IV) (proof : List IV) (k : Int) (w0 : Int) (w1 : Int) (w2 : Int) (w3 : Int) (tw : Int) (vs : Int) (sp : Int) : evFun (E_search_Search_Step N) c_search_Search_Step [.tmp 2] [[.bool]] [(.bor (seCs m q [.vec 30 true kBox left, .vec 82 true kStep proof, .int .i64 k, .zs, .int .i64 w0, .int .i64 w1, .int .i64 w2, .int .i64 w3, .int .i64 tw, .int .i64 vs, .int .i64 sp]))] =
  (cond (k != 0)
  (some ((.bool false), [(seCs m q [(.vec 30 true kBox (List.take (List.length left) left)), (.vec 82 true kStep (List.take (List.length proof) proof)), (.int .i64 k), .zs, (.int .i64 w0), (.int .i64 w1), (.int .i64 w2), (.int .i64 w3), (.int .i64 tw), (.int .i64 vs), (.int .i64 sp)])]))
  (cond (decide (sp ≥ Qy.bu q))
   (some ((.bool false), [(seCs m q [(.vec 30 true kBox (List.take (List.length left) left)), (.vec 82 true kStep (List.take (List.length proof) proof)), (.int .i64 k), .zs, (.int .i64 w0), (.int .i64 w1), (.int .i64 w2), (.int .i64 w3), (.int .i64 tw), (.int .i64 vs), (.int .i64 sp)])]))
   (cond (decide (0 ≤ IntKind.wrap IntKind.i64 (ic (List.length left - 0) - 1)) && decide (IntKind.wrap IntKind.i64 (ic (List.length left - 0) - 1) < ic (List.length left - 0)))
    (cond (decide (0 ≤ IntKind.wrap IntKind.i64 (ic (List.length left - 0) - 1)) && decide (IntKind.wrap IntKind.i64 (ic (List.length left - 0) - 1) ≤ ic (List.length left - 0)))
     (cond (closedF m q (bxI (List.getD left (0 + Int.toNat (IntKind.wrap IntKind.i64 (ic (List.length left - 0) - 1))) default)))
      (cond (decide ((List.length proof + 1) * 24 ≤ bytesMax))
       (cond (ic (0 + Int.toNat (IntKind.wrap IntKind.i64 (ic (List.length left - 0) - 1)) - 0) == 0)
        (some ((.bool true), [(seCs m q [(.vec 30 true kBox (List.take (0 + Int.toNat (IntKind.wrap IntKind.i64 (ic (List.length left - 0) - 1))) left)), (.list true kStep (List.drop 0 (List.take (List.length proof + 1) (List.take (List.length proof) proof ++ [IV.agg [IV.bool true, IV.int 0, IV.int 0]])))), (.int .i64 1), (.list true kStep (List.drop 0 (List.take (List.length proof + 1) (List.take (List.length proof) proof ++ [IV.agg [IV.bool true, IV.int 0, IV.int 0]])))), (.int .i64 0), (.int .i64 0), (.int .i64 0), (.int .i64 0), (.int .i64 0), (.int .i64 0), (.int .i64 (IntKind.wrap IntKind.i64 (sp + 1)))])]))
        (some ((.bool true), [(seCs m q [(.vec 30 true kBox (List.take (0 + Int.toNat (IntKind.wrap IntKind.i64 (ic (List.length left - 0) - 1))) left)), (.vec 82 true kStep (List.take (List.length proof + 1) (List.take (List.length proof) proof ++ [IV.agg [IV.bool true, IV.int 0, IV.int 0]]))), (.int .i64 k), .zs, (.int .i64 w0), (.int .i64 w1), (.int .i64 w2), (.int .i64 w3), (.int .i64 tw), (.int .i64 vs), (.int .i64 (IntKind.wrap IntKind.i64 (sp + 1)))])])))
       none)
      (cond (breaksF m q (Bx.low (bxI (List.getD left (0 + Int.toNat (IntKind.wrap IntKind.i64 (ic (List.length left - 0) - 1))) default))) (Sp.hi (Bx.s4 (bxI (List.getD left (0 + Int.toNat (IntKind.wrap IntKind.i64 (ic (List.length left - 0) - 1))) default)))))
       (some ((.bool true), [(seCs m q [(.vec 30 true kBox (List.take (0 + Int.toNat (IntKind.wrap IntKind.i64 (ic (List.length left - 0) - 1))) left)), (.vec 82 true kStep (List.take (List.length proof) proof)), (.int .i64 2), .zs, (.int .i64 (Pt.p0 (Bx.low (bxI (List.getD left (0 + Int.toNat (IntKind.wrap IntKind.i64 (ic (List.length left - 0) - 1))) default))))), (.int .i64 (Pt.p1 (Bx.low (bxI (List.getD left (0 + Int.toNat (IntKind.wrap IntKind.i64 (ic (List.length left - 0) - 1))) default))))), (.int .i64 (Pt.p2 (Bx.low (bxI (List.getD left (0 + Int.toNat (IntKind.wrap IntKind.i64 (ic (List.length left - 0) - 1))) default))))), (.int .i64 (Pt.p3 (Bx.low (bxI (List.getD left (0 + Int.toNat (IntKind.wrap IntKind.i64 (ic (List.length left - 0) - 1))) default))))), (.int .i64 (Sp.hi (Bx.s4 (bxI (List.getD left (0 + Int.toNat (IntKind.wrap IntKind.i64 (ic (List.length left - 0) - 1))) default))))), (.int .i64 0), (.int .i64 (IntKind.wrap IntKind.i64 (sp + 1)))])]))
       (cond (modelB m)
        (cond (!Option.isSome (splitF m q (bxI (List.getD left (0 + Int.toNat (IntKind.wrap IntKind.i64 (ic (List.length left - 0) - 1))) default))))
         (some ((.bool true), [(seCs m q [(.vec 30 true kBox (List.take (0 + Int.toNat (IntKind.wrap IntKind.i64 (ic (List.length left - 0) - 1))) left)), (.vec 82 true kStep (List.take (List.length proof) proof)), (.int .i64 3), .zs, (.int .i64 0), (.int .i64 0), (.int .i64 0), (.int .i64 0), (.int .i64 0), (.int .i64 0), (.int .i64 (IntKind.wrap IntKind.i64 (sp + 1)))])]))
         (cond (inPl (spI (splitF m q (bxI (List.getD left (0 + Int.toNat (IntKind.wrap IntKind.i64 (ic (List.length left - 0) - 1))) default)))))
          (cond (decide ((0 + Int.toNat (IntKind.wrap IntKind.i64 (ic (List.length left - 0) - 1)) + 2) * 80 ≤ bytesMax))
           (cond (decide ((List.length proof + 1) * 24 ≤ bytesMax))
            (some ((.bool true), [(seCs m q [(.vec 30 true kBox (List.take (0 + Int.toNat (IntKind.wrap IntKind.i64 (ic (List.length left - 0) - 1)) + 2) (List.take (0 + Int.toNat (IntKind.wrap IntKind.i64 (ic (List.length left - 0) - 1))) left ++ [(Bx.I (Bx.cutH (bxI (List.getD left (0 + Int.toNat (IntKind.wrap IntKind.i64 (ic (List.length left - 0) - 1))) default)) (spI (splitF m q (bxI (List.getD left (0 + Int.toNat (IntKind.wrap IntKind.i64 (ic (List.length left - 0) - 1))) default)))) (spAt (splitF m q (bxI (List.getD left (0 + Int.toNat (IntKind.wrap IntKind.i64 (ic (List.length left - 0) - 1))) default)))))), (Bx.I (Bx.cutL (bxI (List.getD left (0 + Int.toNat (IntKind.wrap IntKind.i64 (ic (List.length left - 0) - 1))) default)) (spI (splitF m q (bxI (List.getD left (0 + Int.toNat (IntKind.wrap IntKind.i64 (ic (List.length left - 0) - 1))) default)))) (spAt (splitF m q (bxI (List.getD left (0 + Int.toNat (IntKind.wrap IntKind.i64 (ic (List.length left - 0) - 1))) default))))))]))), (.vec 82 true kStep (List.take (List.length proof + 1) (List.take (List.length proof) proof ++ [IV.agg [IV.bool false, IV.int (spI (splitF m q (bxI (List.getD left (0 + Int.toNat (IntKind.wrap IntKind.i64 (ic (List.length left - 0) - 1))) default)))), IV.int (spAt (splitF m q (bxI (List.getD left (0 + Int.toNat (IntKind.wrap IntKind.i64 (ic (List.length left - 0) - 1))) default))))]]))), (.int .i64 k), .zs, (.int .i64 w0), (.int .i64 w1), (.int .i64 w2), (.int .i64 w3), (.int .i64 tw), (.int .i64 vs), (.int .i64 (IntKind.wrap IntKind.i64 (sp + 1)))])]))
            none)
           none)
          none))
        none)))
     none)
    none))) := by kernel_rfl

/-! ### (*copse/search.Search).Step -/
theorem nf_search_Search_Stept1 (N : Nat) (m : Md) (q : Qy) (left : List IV) (k : Int) (w0 : Int) (w1 : Int) (w2 : Int) (w3 : Int) (tw : Int) (vs : Int) (sp : Int) : evFun (E_search_Search_Step N) c_search_Search_Step [.tmp 2] [[.bool]] [(.bor (seCs m q [.vec 30 true kBox left, .zs, .int .i64 k, .zs, .int .i64 w0, .int .i64 w1, .int .i64 w2, .int .i64 w3, .int .i64 tw, .int .i64 vs, .int .i64 sp]))] =
  (cond (k != 0)
  (some ((.bool false), [(seCs m q [(.vec 30 true kBox (List.take (List.length left) left)), .zs, (.int .i64 k), .zs, (.int .i64 w0), (.int .i64 w1), (.int .i64 w2), (.int .i64 w3), (.int .i64 tw), (.int .i64 vs), (.int .i64 sp)])]))
  (cond (decide (sp ≥ Qy.bu q))
   (some ((.bool false), [(seCs m q [(.vec 30 true kBox (List.take (List.length left) left)), .zs, (.int .i64 k), .zs, (.int .i64 w0), (.int .i64 w1), (.int .i64 w2), (.int .i64 w3), (.int .i64 tw), (.int .i64 vs), (.int .i64 sp)])]))
   (cond (decide (0 ≤ IntKind.wrap IntKind.i64 (ic (List.length left - 0) - 1)) && decide (IntKind.wrap IntKind.i64 (ic (List.length left - 0) - 1) < ic (List.length left - 0)))
    (cond (decide (0 ≤ IntKind.wrap IntKind.i64 (ic (List.length left - 0) - 1)) && decide (IntKind.wrap IntKind.i64 (ic (List.length left - 0) - 1) ≤ ic (List.length left - 0)))
     (cond (closedF m q (bxI (List.getD left (0 + Int.toNat (IntKind.wrap IntKind.i64 (ic (List.length left - 0) - 1))) default)))
      (cond (ic (0 + Int.toNat (IntKind.wrap IntKind.i64 (ic (List.length left - 0) - 1)) - 0) == 0)
       (some ((.bool true), [(seCs m q [(.vec 30 true kBox (List.take (0 + Int.toNat (IntKind.wrap IntKind.i64 (ic (List.length left - 0) - 1))) left)), (.list true kStep [(IV.agg [IV.bool true, IV.int 0, IV.int 0])]), (.int .i64 1), (.list true kStep [(IV.agg [IV.bool true, IV.int 0, IV.int 0])]), (.int .i64 0), (.int .i64 0), (.int .i64 0), (.int .i64 0), (.int .i64 0), (.int .i64 0), (.int .i64 (IntKind.wrap IntKind.i64 (sp + 1)))])]))
       (some ((.bool true), [(seCs m q [(.vec 30 true kBox (List.take (0 + Int.toNat (IntKind.wrap IntKind.i64 (ic (List.length left - 0) - 1))) left)), (.vec 82 true kStep [(IV.agg [IV.bool true, IV.int 0, IV.int 0])]), (.int .i64 k), .zs, (.int .i64 w0), (.int .i64 w1), (.int .i64 w2), (.int .i64 w3), (.int .i64 tw), (.int .i64 vs), (.int .i64 (IntKind.wrap IntKind.i64 (sp + 1)))])])))
      (cond (breaksF m q (Bx.low (bxI (List.getD left (0 + Int.toNat (IntKind.wrap IntKind.i64 (ic (List.length left - 0) - 1))) default))) (Sp.hi (Bx.s4 (bxI (List.getD left (0 + Int.toNat (IntKind.wrap IntKind.i64 (ic (List.length left - 0) - 1))) default)))))
       (some ((.bool true), [(seCs m q [(.vec 30 true kBox (List.take (0 + Int.toNat (IntKind.wrap IntKind.i64 (ic (List.length left - 0) - 1))) left)), .zs, (.int .i64 2), .zs, (.int .i64 (Pt.p0 (Bx.low (bxI (List.getD left (0 + Int.toNat (IntKind.wrap IntKind.i64 (ic (List.length left - 0) - 1))) default))))), (.int .i64 (Pt.p1 (Bx.low (bxI (List.getD left (0 + Int.toNat (IntKind.wrap IntKind.i64 (ic (List.length left - 0) - 1))) default))))), (.int .i64 (Pt.p2 (Bx.low (bxI (List.getD left (0 + Int.toNat (IntKind.wrap IntKind.i64 (ic (List.length left - 0) - 1))) default))))), (.int .i64 (Pt.p3 (Bx.low (bxI (List.getD left (0 + Int.toNat (IntKind.wrap IntKind.i64 (ic (List.length left - 0) - 1))) default))))), (.int .i64 (Sp.hi (Bx.s4 (bxI (List.getD left (0 + Int.toNat (IntKind.wrap IntKind.i64 (ic (List.length left - 0) - 1))) default))))), (.int .i64 0), (.int .i64 (IntKind.wrap IntKind.i64 (sp + 1)))])]))
       (cond (modelB m)
        (cond (!Option.isSome (splitF m q (bxI (List.getD left (0 + Int.toNat (IntKind.wrap IntKind.i64 (ic (List.length left - 0) - 1))) default))))
         (some ((.bool true), [(seCs m q [(.vec 30 true kBox (List.take (0 + Int.toNat (IntKind.wrap IntKind.i64 (ic (List.length left - 0) - 1))) left)), .zs, (.int .i64 3), .zs, (.int .i64 0), (.int .i64 0), (.int .i64 0), (.int .i64 0), (.int .i64 0), (.int .i64 0), (.int .i64 (IntKind.wrap IntKind.i64 (sp + 1)))])]))
         (cond (inPl (spI (splitF m q (bxI (List.getD left (0 + Int.toNat (IntKind.wrap IntKind.i64 (ic (List.length left - 0) - 1))) default)))))
          (cond (decide ((0 + Int.toNat (IntKind.wrap IntKind.i64 (ic (List.length left - 0) - 1)) + 2) * 80 ≤ bytesMax))
           (some ((.bool true), [(seCs m q [(.vec 30 true kBox (List.take (0 + Int.toNat (IntKind.wrap IntKind.i64 (ic (List.length left - 0) - 1)) + 2) (List.take (0 + Int.toNat (IntKind.wrap IntKind.i64 (ic (List.length left - 0) - 1))) left ++ [(Bx.I (Bx.cutH (bxI (List.getD left (0 + Int.toNat (IntKind.wrap IntKind.i64 (ic (List.length left - 0) - 1))) default)) (spI (splitF m q (bxI (List.getD left (0 + Int.toNat (IntKind.wrap IntKind.i64 (ic (List.length left - 0) - 1))) default)))) (spAt (splitF m q (bxI (List.getD left (0 + Int.toNat (IntKind.wrap IntKind.i64 (ic (List.length left - 0) - 1))) default)))))), (Bx.I (Bx.cutL (bxI (List.getD left (0 + Int.toNat (IntKind.wrap IntKind.i64 (ic (List.length left - 0) - 1))) default)) (spI (splitF m q (bxI (List.getD left (0 + Int.toNat (IntKind.wrap IntKind.i64 (ic (List.length left - 0) - 1))) default)))) (spAt (splitF m q (bxI (List.getD left (0 + Int.toNat (IntKind.wrap IntKind.i64 (ic (List.length left - 0) - 1))) default))))))]))), (.vec 82 true kStep [(IV.agg [IV.bool false, IV.int (spI (splitF m q (bxI (List.getD left (0 + Int.toNat (IntKind.wrap IntKind.i64 (ic (List.length left - 0) - 1))) default)))), IV.int (spAt (splitF m q (bxI (List.getD left (0 + Int.toNat (IntKind.wrap IntKind.i64 (ic (List.length left - 0) - 1))) default))))])]), (.int .i64 k), .zs, (.int .i64 w0), (.int .i64 w1), (.int .i64 w2), (.int .i64 w3), (.int .i64 tw), (.int .i64 vs), (.int .i64 (IntKind.wrap IntKind.i64 (sp + 1)))])]))
           none)
          none))
        none)))
     none)
    none))) := by kernel_rfl

/-! ### (*copse/search.Search).Step -/
theorem nf_search_Search_Stept2 (N : Nat) (m : Md) (q : Qy) (left : List IV) (proof : List IV) (vp : List IV) (k : Int) (w0 : Int) (w1 : Int) (w2 : Int) (w3 : Int) (tw : Int) (vs : Int) (sp : Int) : evFun (E_search_Search_Step N) c_search_Search_Step [.tmp 2] [[.bool]] [(.bor (seCs m q [.vec 30 true kBox left, .list true kStep proof, .int .i64 k, .list true kStep vp, .int .i64 w0, .int .i64 w1, .int .i64 w2, .int .i64 w3, .int .i64 tw, .int .i64 vs, .int .i64 sp]))] =
  (cond (k != 0)
  (some ((.bool false), [(seCs m q [(.vec 30 true kBox (List.take (List.length left) left)), (.list true kStep proof), (.int .i64 k), (.list true kStep vp), (.int .i64 w0), (.int .i64 w1), (.int .i64 w2), (.int .i64 w3), (.int .i64 tw), (.int .i64 vs), (.int .i64 sp)])]))
  (cond (decide (sp ≥ Qy.bu q))
   (some ((.bool false), [(seCs m q [(.vec 30 true kBox (List.take (List.length left) left)), (.list true kStep proof), (.int .i64 k), (.list true kStep vp), (.int .i64 w0), (.int .i64 w1), (.int .i64 w2), (.int .i64 w3), (.int .i64 tw), (.int .i64 vs), (.int .i64 sp)])]))
   (cond (decide (0 ≤ IntKind.wrap IntKind.i64 (ic (List.length left - 0) - 1)) && decide (IntKind.wrap IntKind.i64 (ic (List.length left - 0) - 1) < ic (List.length left - 0)))
    (cond (decide (0 ≤ IntKind.wrap IntKind.i64 (ic (List.length left - 0) - 1)) && decide (IntKind.wrap IntKind.i64 (ic (List.length left - 0) - 1) ≤ ic (List.length left - 0)))
     (cond (closedF m q (bxI (List.getD left (0 + Int.toNat (IntKind.wrap IntKind.i64 (ic (List.length left - 0) - 1))) default)))
      none
      (cond (breaksF m q (Bx.low (bxI (List.getD left (0 + Int.toNat (IntKind.wrap IntKind.i64 (ic (List.length left - 0) - 1))) default))) (Sp.hi (Bx.s4 (bxI (List.getD left (0 + Int.toNat (IntKind.wrap IntKind.i64 (ic (List.length left - 0) - 1))) default)))))
       (some ((.bool true), [(seCs m q [(.vec 30 true kBox (List.take (0 + Int.toNat (IntKind.wrap IntKind.i64 (ic (List.length left - 0) - 1))) left)), (.list true kStep proof), (.int .i64 2), .zs, (.int .i64 (Pt.p0 (Bx.low (bxI (List.getD left (0 + Int.toNat (IntKind.wrap IntKind.i64 (ic (List.length left - 0) - 1))) default))))), (.int .i64 (Pt.p1 (Bx.low (bxI (List.getD left (0 + Int.toNat (IntKind.wrap IntKind.i64 (ic (List.length left - 0) - 1))) default))))), (.int .i64 (Pt.p2 (Bx.low (bxI (List.getD left (0 + Int.toNat (IntKind.wrap IntKind.i64 (ic (List.length left - 0) - 1))) default))))), (.int .i64 (Pt.p3 (Bx.low (bxI (List.getD left (0 + Int.toNat (IntKind.wrap IntKind.i64 (ic (List.length left - 0) - 1))) default))))), (.int .i64 (Sp.hi (Bx.s4 (bxI (List.getD left (0 + Int.toNat (IntKind.wrap IntKind.i64 (ic (List.length left - 0) - 1))) default))))), (.int .i64 0), (.int .i64 (IntKind.wrap IntKind.i64 (sp + 1)))])]))
       (cond (modelB m)
        (cond (!Option.isSome (splitF m q (bxI (List.getD left (0 + Int.toNat (IntKind.wrap IntKind.i64 (ic (List.length left - 0) - 1))) default))))
         (some ((.bool true), [(seCs m q [(.vec 30 true kBox (List.take (0 + Int.toNat (IntKind.wrap IntKind.i64 (ic (List.length left - 0) - 1))) left)), (.list true kStep proof), (.int .i64 3), .zs, (.int .i64 0), (.int .i64 0), (.int .i64 0), (.int .i64 0), (.int .i64 0), (.int .i64 0), (.int .i64 (IntKind.wrap IntKind.i64 (sp + 1)))])]))
         (cond (inPl (spI (splitF m q (bxI (List.getD left (0 + Int.toNat (IntKind.wrap IntKind.i64 (ic (List.length left - 0) - 1))) default)))))
          (cond (decide ((0 + Int.toNat (IntKind.wrap IntKind.i64 (ic (List.length left - 0) - 1)) + 2) * 80 ≤ bytesMax)) none none)
          none))
        none)))
     none)
    none))) := by kernel_rfl

/-! ### (*copse/search.Search).Step -/
theorem nf_search_Search_Stept3 (N : Nat) (m : Md) (q : Qy) (k : Int) (w0 : Int) (w1 : Int) (w2 : Int) (w3 : Int) (tw : Int) (vs : Int) (sp : Int) : evFun (E_search_Search_Step N) c_search_Search_Step [.tmp 2] [[.bool]] [(.bor (seCs m q [.zs, .zs, .int .i64 k, .zs, .int .i64 w0, .int .i64 w1, .int .i64 w2, .int .i64 w3, .int .i64 tw, .int .i64 vs, .int .i64 sp]))] =
  (cond (k != 0)
  (some ((.bool false), [(seCs m q [.zs, .zs, (.int .i64 k), .zs, (.int .i64 w0), (.int .i64 w1), (.int .i64 w2), (.int .i64 w3), (.int .i64 tw), (.int .i64 vs), (.int .i64 sp)])]))
  (cond (decide (sp ≥ Qy.bu q))
   (some ((.bool false), [(seCs m q [.zs, .zs, (.int .i64 k), .zs, (.int .i64 w0), (.int .i64 w1), (.int .i64 w2), (.int .i64 w3), (.int .i64 tw), (.int .i64 vs), (.int .i64 sp)])]))
   none)) := by kernel_rfl

end Go.FM

/-
  slices.Clone OF A PROOF's STEPS: a fresh row with the same: a contract over this program.
-/
namespace Go.FM
open Go Go.Proofs Go.RowKit Go.Sort Go.Lib

theorem step_info : (PR.info? 82).map (fun i => (i.zero, i.size, i.bytes)) = some (some (.agg #[.bool false, .int .i64 0, .int .i64 0]), 3, 24) := by kernel_rfl

set_option maxHeartbeats 4000000 in
set_option maxRecDepth 100000 in
/-- slices.Clone of steps. -/
theorem clone_step (b : Addr) (n c : Nat) (news : List Value) (w : World) (hl : news.length = n * 3) (hn : n ≤ maxLen) (hbig : n * 24 ≤ 140737488355328)
    (hc : ∀ j u, news[j]? = some u → w.cell? (b.add j) = some u) (h1 : ∀ u ∈ news, u.oneCell' = true) :
    Calls Try.prog 34 #[.slice (some b) n c] w fun e w' => ∃ v', e = .returned v' ∧ w'.ownsRow w.heap.size 82 3 v' n news ∧ Below w.heap.size w w' := by
  obtain ⟨i0, hi, hz0, hz1, hz2⟩ : ∃ i, PR.info? 82 = some i ∧ i.zero = some (.agg #[.bool false, .int .i64 0, .int .i64 0]) ∧ i.size = 3 ∧ i.bytes = 24 := by
    have h := step_info
    rw [Option.map_eq_some_iff] at h
    obtain ⟨i, hi, he⟩ := h
    simp only [Prod.mk.injEq] at he
    exact ⟨i, hi, he⟩
  have qS : ∀ (w : World) (a : Option Addr) (n c n' c' : Nat), (binOp .eql 33 (.slice a n c) (.slice none n' c')).run Try.prog w = .ok (.bool a.isNone) w := fun w a n c n' c' => Lib.run_eql_slice_nil w _ _ a n c n' c' Try.underlying33
  have A : Aside (∀ j u, news[j]? = some u → w.cell? (b.add j) = some u) := hc
  clear hc
  go_enter Try.func34, Try.ntmps34
  go_wp2_with (at_builtin; refine wpList_append_own _ rfl _ _ 33 rfl w.heap.size 82 i0 (.agg #[.bool false, .int .i64 0, .int .i64 0]) 3 24 Try.underlying33 hi hz0 hz1 hz2 rfl (by decide) _ _ _ rfl (World.ownsRow_made w #[] 0 (Nat.le_refl _) (Nat.zero_le _) (by simp)) b n c news rfl ?qc1 ?qc2 ?qc3 ?qc4 ?qc5 ?qc6 ?_)
  case qc1 => exact hl
  case qc2 =>
    intro j u hj
    exact Lib.cell?_alloc_some _ (A.out j u hj)
  case qc3 => exact h1
  case qc4 => rw [Nat.zero_add]; exact hn
  case qc5 => rw [Nat.zero_add]; exact hbig
  case qc6 => simp
  intro v' w1 hown hgrow hnil
  go_wp2
  go_ret
  refine ⟨v', rfl, by simpa using hown, ?_⟩
  exact ((Below.refl _ w).alloc (Nat.le_refl _) _).grown hgrow (by simp) (by intro k hk; simp [Value.ownBlock] at hk; omega)

set_option maxHeartbeats 1000000 in
set_option maxRecDepth 100000 in
theorem clone_step_nil (n c : Nat) (w : World) : Calls Try.prog 34 #[.slice none n c] w fun e w' => e = .returned (.slice none 0 0) ∧ w' = w := by
  have qS : ∀ (w : World) (a : Option Addr) (n c n' c' : Nat), (binOp .eql 33 (.slice a n c) (.slice none n' c')).run Try.prog w = .ok (.bool a.isNone) w := fun w a n c n' c' => Lib.run_eql_slice_nil w _ _ a n c n' c' Try.underlying33
  go_enter Try.func34, Try.ntmps34
  go_wp2
  go_ret
  exact ⟨rfl, rfl⟩

def stCell (y : IV) : Nat → Value
  | 0 => .bool (stSum y)
  | 1 => .int .i64 (stPlace y)
  | _ => .int .i64 (stAt y)
def stCells (l : List IV) : List Value := l.flatMap fun y => [stCell y 0, stCell y 1, stCell y 2]
theorem stCells_len : ∀ l : List IV, (stCells l).length = l.length * 3
  | [] => rfl
  | y :: r => by
    have := stCells_len r
    unfold stCells at this ⊢
    rw [List.flatMap_cons, List.length_append, this, List.length_cons]
    simp
    omega
theorem stCells_at : ∀ (l : List IV) (j : Nat) (u : Value), (stCells l)[j]? = some u → ∃ i y k, j = i * 3 + k ∧ k < 3 ∧ l[i]? = some y ∧ u = stCell y k
  | [], j, u, h => by simp [stCells] at h
  | y :: r, j, u, h => by
    have e : stCells (y :: r) = [stCell y 0, stCell y 1, stCell y 2] ++ stCells r := by unfold stCells; rw [List.flatMap_cons]
    rw [e] at h
    match j, h with
    | 0, h => exact ⟨0, y, 0, rfl, by omega, rfl, by simpa using h.symm⟩
    | 1, h => exact ⟨0, y, 1, rfl, by omega, rfl, by simpa using h.symm⟩
    | 2, h => exact ⟨0, y, 2, rfl, by omega, rfl, by simpa using h.symm⟩
    | j + 3, h =>
      obtain ⟨i, z, k, rfl, hk, hi, hu⟩ := stCells_at r j u (by simpa using h)
      exact ⟨i + 1, z, k, by omega, hk, by simpa using hi, hu⟩
theorem stCells_get (l : List IV) (i : Nat) (y : IV) (hy : l[i]? = some y) (k : Nat) (hk : k < 3) : (stCells l)[i * 3 + k]? = some (stCell y k) := by
  have hi : i < l.length := (List.getElem?_eq_some_iff.1 hy).1
  have hlt : i * 3 + k < (stCells l).length := by rw [stCells_len]; omega
  obtain ⟨i', y', k', h1, h2, h3, h4⟩ := stCells_at l (i * 3 + k) _ (List.getElem?_eq_getElem hlt)
  obtain rfl : i' = i := by omega
  obtain rfl : k' = k := by omega
  rw [hy] at h3
  simp only [Option.some.injEq] at h3
  subst h3
  rw [List.getElem?_eq_getElem hlt, h4]

set_option maxRecDepth 100000 in
theorem snd_slices_Clone_apiStepapiStep : SndR PR B0 34 S_slices_Clone_apiStepapiStep := by
  intro w X γ vs xs r out hsp hg hx hR hV
  unfold S_slices_Clone_apiStepapiStep at hsp
  simp only at hsp
  split at hsp
  · rename_i l
    cases hc : Nat.ble l.length 100000 with
    | false => rw [hc] at hsp; simp [R.get] at hsp
    | true =>
      rw [hc] at hsp
      have hc := Nat.le_of_ble_eq_true hc
      simp only [R.get, Option.some.injEq, Prod.mk.injEq] at hsp
      obtain ⟨rfl, rfl⟩ := hsp
      obtain ⟨x0, rfl⟩ : ∃ x0, xs = [x0] := by
        have := hV.length
        simp at this
        match xs, this with
        | [a], _ => exact ⟨a, rfl⟩
      simp only [List.map_cons, List.map_nil, entV, VRels, VRel, and_true] at hV
      simp only [Kd.Rel, IV.toList] at hV
      obtain ⟨p, c, rfl, hc1, hc2, hc3, hcell⟩ := hV
      have key : ∀ i y, l[i]? = some y → ∃ b o, p = some ⟨b, o, none⟩ ∧ (∀ k, k < 3 → w.cell? ⟨b, o + i * 3 + k, none⟩ = some (stCell y k)) ∧ (IntKind.i64.min ≤ stPlace y ∧ stPlace y ≤ IntKind.i64.max) ∧ (IntKind.i64.min ≤ stAt y ∧ stAt y ≤ IntKind.i64.max) := fun i y hy => by
        obtain ⟨b, o, rfl, _, _, hr⟩ := hcell i y hy
        simp only [Kd.RelAll, and_true, List.length_cons, List.length_nil, Nat.zero_add, Nat.add_zero] at hr
        obtain ⟨⟨u0, a0, b0⟩, ⟨u1, a1, b1⟩, ⟨u2, a2, b2⟩⟩ := hr
        simp only [Kd.Rel, cellOf] at b0 b1 b2
        refine ⟨b, o, rfl, fun k hk => ?_, b1.2, b2.2⟩
        match k, hk with
        | 0, _ => rw [b0] at a0; exact a0
        | 1, _ => rw [b1.1] at a1; exact a1
        | 2, _ => rw [b2.1] at a2; exact a2
      have hel : ∀ (w' : World) (O : Nat → Prop) i y, l[i]? = some y → Kd.RelAll w' O kStep (cellOf true y) 0 (fun j u => (stCells l)[i * kStep.length + j]? = some u) := fun w' O i y hy => by
        obtain ⟨_, _, _, _, k1, k2⟩ := key i y hy
        simp only [Kd.RelAll, List.length_cons, List.length_nil, Nat.zero_add, Nat.add_zero, and_true]
        have g := stCells_get l i y hy
        refine ⟨⟨_, g 0 (by omega), ?_⟩, ⟨_, g 1 (by omega), ?_⟩, ⟨_, g 2 (by omega), ?_⟩⟩
        · simp only [Kd.Rel, cellOf, stCell, stSum]
        · simp only [Kd.Rel, cellOf, stCell, stPlace]; exact ⟨trivial, k1⟩
        · simp only [Kd.Rel, cellOf, stCell, stAt]; exact ⟨trivial, k2⟩
      refine snd_fresh hR rfl (by decide) (by decide) hc3 (Does.of_calls Try.func34 (by kernel_rfl) (by kernel_rfl) ?_)
      cases p with
      | none =>
        have h0 : l = [] := by
          cases l with
          | nil => rfl
          | cons y r =>
            obtain ⟨b, o, hp, _⟩ := key 0 y rfl
            cases hp
        subst h0
        refine (clone_step_nil _ c w).mono ?_
        rintro e w' ⟨rfl, rfl⟩
        exact ⟨_, [], rfl, Keep.refl _ _, ⟨rfl, .inl ⟨rfl, rfl⟩⟩, hel _⟩
      | some a =>
        refine (clone_step a l.length c (stCells l) w (stCells_len l) (by unfold maxLen; omega) (by omega) (fun j u hj => ?_) (fun u hu => ?_)).mono ?_
        · obtain ⟨i, y, k, rfl, hk, hi, rfl⟩ := stCells_at l j u hj
          obtain ⟨b, o, hp, hu, _⟩ := key i y hi
          simp only [Option.some.injEq] at hp
          subst hp
          rw [Addr.add_lit, ← Nat.add_assoc]
          exact hu k hk
        · obtain ⟨j, hj⟩ := List.getElem?_of_mem hu
          obtain ⟨i, y, k, _, hk, _, rfl⟩ := stCells_at l j u hj
          match k, hk with
          | 0, _ => rfl
          | 1, _ => rfl
          | 2, _ => rfl
        · rintro e w' ⟨v', rfl, hown, hw⟩
          exact ⟨v', _, rfl, Keep.below hw, hown, hel _⟩
  · simp [R.get] at hsp
end Go.FM

/-
  THE FUNCTIONS OF search COME TO WHAT IS SAID.
-/
namespace Go.FM
open Go Go.Proofs

/-! ### a search's cells, read -/
theorem mdOf_eq {l : List V} {m : Md} (h : mdOf? l = some m) : l = m.cs := by
  unfold mdOf? at h
  split at h
  · simp only [Option.some.injEq] at h
    subst h
    rfl
  · cases h
theorem qyOf_eq {l : List V} {q : Qy} (h : qyOf? l = some q) : l = q.cs := by
  unfold qyOf? at h
  split at h
  · simp only [Option.some.injEq] at h
    subst h
    rfl
  · cases h
theorem seOf_eq {l r : List V} {m : Md} {q : Qy} (h : seOf? l = some (m, q, r)) : l = seCs m q r := by
  unfold seOf? at h
  split at h
  · rename_i m' q' h1 h2
    simp only [Option.some.injEq, Prod.mk.injEq] at h
    obtain ⟨rfl, rfl, rfl⟩ := h
    unfold seCs
    rw [← mdOf_eq h1, ← qyOf_eq h2, List.take_append_drop, List.take_append_drop]
  · cases h
/-- What the four shapes of a search's cells keep. -/
def srWf (t : Nat) (s : Sr) : Prop := t ≤ 3 ∧ (t = 3 → s.left = []) ∧ (t = 1 ∨ t = 3 → s.proof = []) ∧ (t ≠ 2 → s.v.proof = [])
theorem srT_eq {r : List V} {t : Nat} {s : Sr} (h : srT? r = some (t, s)) (m : Md) (q : Qy) : seCs m q r = srV t m q s ∧ srWf t s := by
  unfold srT? at h
  split at h
  case h_5 => cases h
  all_goals
    simp only [Option.some.injEq, Prod.mk.injEq] at h
    obtain ⟨rfl, rfl⟩ := h
    refine ⟨rfl, by omega, ?_, ?_, ?_⟩ <;> intro h <;> first | rfl | (exfalso; omega)
theorem withSr_get {v : V} {k : Nat → Md → Qy → Sr → R} {z : V × List (List V)} (h : (withSr v k).get = some z) : ∃ t m q s, v = .bor (srV t m q s) ∧ srWf t s ∧ (k t m q s).get = some z := by
  unfold withSr at h
  split at h
  · rename_i l
    split at h
    · rename_i m q r hl
      split at h
      · rename_i t s hr
        obtain ⟨e, hw⟩ := srT_eq hr m q
        exact ⟨t, m, q, s, by rw [seOf_eq hl, e], hw, h⟩
      · simp [R.get] at h
    · simp [R.get] at h
  · simp [R.get] at h

set_option maxRecDepth 100000 in
theorem snd_search_New : SndR PR B0 14 S_search_New := by
  refine snd_mk [(24, S_query_Right), (13, S_query_Start)] [] S_search_New [[.list false []]] Try.func14 h_search_New ⟨snd_query_Right, snd_query_Start, trivial⟩ ?_
  intro vs r hwf h
  unfold S_search_New at h
  split at h
  · rename_i m q
    replace h := withM_get h
    obtain ⟨m, rfl, h⟩ := h
    replace h := withQ_get h
    obtain ⟨q, rfl, h⟩ := h
    refine ⟨0, (nf_search_New 0 m q).trans ?_⟩
    cases hr : rightQ m q with
    | true => rw [hr, R.get_br, condT, R.get_ok] at h; exact h
    | false => rw [hr, R.get_br, condF, R.get_ok] at h; exact h
  · simp [R.get] at h
set_option maxRecDepth 100000 in
theorem snd_search_Search_Left : SndR PR B0 19 S_search_Search_Left := by
  refine snd_mk [] [] S_search_Search_Left [[.int .i64]] Try.func19 h_search_Search_Left trivial ?_
  intro vs r hwf h
  unfold S_search_Search_Left at h
  split at h
  · replace h := withSr_get h
    obtain ⟨t, m, q, s, rfl, hw, h⟩ := h
    rw [R.get_ok] at h
    refine ⟨0, ?_⟩
    rw [← h]
    obtain ⟨left, proof, ⟨k, vp, a, b, c, d, tw, vs⟩, sp⟩ := s
    match t, hw with
    | 0, _ =>
      refine (nf_search_Search_Leftt0 0 m q left proof k a b c d tw vs sp).trans ?_
      rw [List.take_length, List.take_length]
      rfl
    | 1, _ =>
      refine (nf_search_Search_Leftt1 0 m q left k a b c d tw vs sp).trans ?_
      rw [List.take_length]
      rfl
    | 2, _ =>
      refine (nf_search_Search_Leftt2 0 m q left proof vp k a b c d tw vs sp).trans ?_
      rw [List.take_length]
      rfl
    | 3, hw =>
      obtain rfl : left = [] := hw.2.1 rfl
      exact nf_search_Search_Leftt3 0 m q k a b c d tw vs sp
    | t + 4, hw => exact absurd hw.1 (by omega)
  · simp [R.get] at h
set_option maxRecDepth 100000 in
theorem snd_search_Search_Verdict : SndR PR B0 17 S_search_Search_Verdict := by
  refine snd_mk [(34, S_slices_Clone_apiStepapiStep)] [] S_search_Search_Verdict [[.int .i64, .list true [.bool, .int .i64, .int .i64], .int .i64, .int .i64, .int .i64, .int .i64, .int .i64, .int .i64]] Try.func17 h_search_Search_Verdict ⟨snd_slices_Clone_apiStepapiStep, trivial⟩ ?_
  intro vs r hwf h
  unfold S_search_Search_Verdict at h
  split at h
  · replace h := withSr_get h
    obtain ⟨t, m, q, s, rfl, hw, h⟩ := h
    cases hg : Nat.ble s.v.proof.length 100000 with
    | false => rw [hg] at h; simp [R.get] at h
    | true =>
      rw [hg, R.get_br, condT, R.get_ok] at h
      refine ⟨0, ?_⟩
      rw [← h]
      obtain ⟨left, proof, ⟨k, vp, a, b, c, d, tw, vs⟩, sp⟩ := s
      replace hg : Nat.ble vp.length 100000 = true := hg
      match t, hw with
      | 0, hw =>
        obtain rfl : vp = [] := hw.2.2.2 (by omega)
        refine (nf_search_Search_Verdictt0 0 m q left proof k a b c d tw vs sp).trans ?_
        rw [List.take_length, List.take_length]
        unfold verdS
        cases (k == 0) <;> rfl
      | 1, hw =>
        obtain rfl : vp = [] := hw.2.2.2 (by omega)
        refine (nf_search_Search_Verdictt1 0 m q left k a b c d tw vs sp).trans ?_
        rw [List.take_length]
        unfold verdS
        cases (k == 0) <;> rfl
      | 2, _ =>
        refine (nf_search_Search_Verdictt2 0 m q left proof vp k a b c d tw vs sp).trans ?_
        rw [List.take_length, hg, condT, condT, List.drop_zero, List.take_length]
        unfold verdS
        cases (k == 0) <;> rfl
      | 3, hw =>
        obtain rfl : vp = [] := hw.2.2.2 (by omega)
        refine (nf_search_Search_Verdictt3 0 m q k a b c d tw vs sp).trans ?_
        unfold verdS
        cases (k == 0) <;> rfl
      | t + 4, hw => exact absurd hw.1 (by omega)
  · simp [R.get] at h

/-! ### a step -/
theorem spR_in (m : Md) (q : Qy) (b : Bx) : ∀ (d i : Nat), i + d = 5 → (spR m q b d i).isSome = true → inPl (spI (spR m q b d i)) = true
  | 0, i, _, h => by rw [spR] at h; cases h
  | d + 1, i, hd, h => by
    rw [spR] at h ⊢
    cases hc : decide ((cutsZ m q b i).length > 0) with
    | true =>
      rw [condT]
      show inPl (i : Int) = true
      unfold inPl
      rw [decide_eq_true (show (0 : Int) ≤ (i : Int) by omega), decide_eq_true (show (i : Int) < 5 by omega)]
      rfl
    | false =>
      rw [hc, condF] at h
      rw [condF]
      exact spR_in m q b d (i + 1) (by omega) h
set_option maxRecDepth 100000 in
theorem snd_search_Search_Step : SndR PR B0 15 S_search_Search_Step := by
  refine snd_mk [(32, S_box_Cut), (29, S_goal_Closed), (30, S_goal_Corner), (31, S_goal_Split), (12, S_query_Breaks)] [] S_search_Search_Step [[.bool]] Try.func15 h_search_Search_Step ⟨snd_box_Cut, snd_goal_Closed, snd_goal_Corner, snd_goal_Split, snd_query_Breaks, trivial⟩ ?_
  intro vs r hwf h
  unfold S_search_Search_Step at h
  split at h
  · replace h := withSr_get h
    obtain ⟨t, m, q, s, rfl, hw, h⟩ := h
    refine ⟨0, ?_⟩
    obtain ⟨left, proof, ⟨k, vp, a, b, c, d, tw, vs⟩, sp⟩ := s
    cases ho : overS q ⟨left, proof, ⟨k, vp, a, b, c, d, tw, vs⟩, sp⟩ with
    | true =>
      rw [ho, R.get_br, condT, R.get_ok] at h
      rw [← h]
      have hk : (k != 0) = true ∨ (k != 0) = false ∧ decide (sp ≥ q.bu) = true := by
        unfold overS at ho
        have e : (k != 0) = !(k == 0) := rfl
        rw [e]
        cases hk : (k == 0) with
        | false => exact .inl rfl
        | true =>
          replace ho : (!(k == 0) || decide (sp ≥ q.bu)) = true := ho
          rw [hk, Bool.not_true, Bool.false_or] at ho
          exact .inr ⟨rfl, ho⟩
      match t, hw with
      | 0, hw =>
        refine (nf_search_Search_Stept0 0 m q left proof k a b c d tw vs sp).trans ?_
        rcases hk with hk | ⟨hk, hs⟩
        · rw [hk, condT, List.take_length, List.take_length]; rfl
        · rw [hk, condF, hs, condT, List.take_length, List.take_length]; rfl
      | 1, hw =>
        refine (nf_search_Search_Stept1 0 m q left k a b c d tw vs sp).trans ?_
        rcases hk with hk | ⟨hk, hs⟩
        · rw [hk, condT, List.take_length]; rfl
        · rw [hk, condF, hs, condT, List.take_length]; rfl
      | 2, hw =>
        refine (nf_search_Search_Stept2 0 m q left proof vp k a b c d tw vs sp).trans ?_
        rcases hk with hk | ⟨hk, hs⟩
        · rw [hk, condT, List.take_length]; rfl
        · rw [hk, condF, hs, condT, List.take_length]; rfl
      | 3, hw =>
        refine (nf_search_Search_Stept3 0 m q k a b c d tw vs sp).trans ?_
        rcases hk with hk | ⟨hk, hs⟩
        · rw [hk, condT]; rfl
        · rw [hk, condF, hs, condT]; rfl
      | t + 4, hw => exact absurd hw.1 (by omega)
    | false =>
      rw [ho, R.get_br, condF] at h
      unfold overS at ho
      replace ho : (!(k == 0) || decide (sp ≥ q.bu)) = false := ho
      rw [Bool.or_eq_false_iff] at ho
      have hk : (k != 0) = false := ho.1
      have hsp : decide (sp ≥ q.bu) = false := ho.2
      cases hg : (Nat.ble t 1 && (rightQ m q && (decide (0 ≤ sp) && (Nat.blt 0 left.length && (Nat.ble left.length 100000 && Nat.ble proof.length 100000))))) with
      | false =>
        replace h : (R.br (Nat.ble t 1 && (rightQ m q && (decide (0 ≤ sp) && (Nat.blt 0 left.length && (Nat.ble left.length 100000 && Nat.ble proof.length 100000))))) _ R.no).get = some r := h
        rw [hg] at h
        simp [R.get] at h
      | true =>
        replace h : (R.br (Nat.ble t 1 && (rightQ m q && (decide (0 ≤ sp) && (Nat.blt 0 left.length && (Nat.ble left.length 100000 && Nat.ble proof.length 100000))))) _ R.no).get = some r := h
        rw [hg, R.get_br, condT] at h
        have hst : some (.bool true, [srV (stepT m q t ⟨left, proof, ⟨k, vp, a, b, c, d, tw, vs⟩, sp⟩) m q (stepF m q ⟨left, proof, ⟨k, vp, a, b, c, d, tw, vs⟩, sp⟩)]) = some r := by
          rw [← h]
          unfold stepT
          simp only [R.get_br, R.get_ok]
          cases closedF m q (topB left) with
          | true => cases (ic (left.length - 1) == 0) <;> rfl
          | false =>
            cases breaksF m q (topB left).low (topB left).s4.hi with
            | true => rfl
            | false => cases (splitF m q (topB left)).isSome <;> rfl
        rw [← hst]
        simp only [Bool.and_eq_true] at hg
        obtain ⟨ht, hr, h0, hl, hl5, hp5⟩ := hg
        obtain ⟨hm, _, ⟨_, hbu⟩, _, _⟩ := rightQ_parts hr
        have h0 := of_decide_eq_true h0
        have hs1 := of_decide_eq_false hsp
        have hl : 0 < left.length := Nat.le_of_ble_eq_true hl
        have hl5 := Nat.le_of_ble_eq_true hl5
        have hp5 := Nat.le_of_ble_eq_true hp5
        have esp : IntKind.wrap IntKind.i64 (sp + 1) = sp + 1 := wrap_id (by omega) (by omega)
        have etop : IntKind.wrap IntKind.i64 (ic (left.length - 0) - 1) = ((left.length - 1 : Nat) : Int) := by
          rw [wrap_id (by simp only [ic]; omega) (by simp only [ic]; omega)]
          simp only [ic]
          omega
        have ed : (decide (0 ≤ ((left.length - 1 : Nat) : Int)) && decide (((left.length - 1 : Nat) : Int) < ic (left.length - 0))) = true := by
          rw [decide_eq_true (by omega), decide_eq_true (by simp only [ic]; omega)]
          rfl
        have ee : (decide (0 ≤ ((left.length - 1 : Nat) : Int)) && decide (((left.length - 1 : Nat) : Int) ≤ ic (left.length - 0))) = true := by
          rw [decide_eq_true (by omega), decide_eq_true (by simp only [ic]; omega)]
          rfl
        have epop : left.take (left.length - 1 + 2) = left.take (left.length - 1 + 2) := rfl
        have hlen : (popL left).length = left.length - 1 := by unfold popL; rw [List.length_take]; omega
        have htk : ∀ (x y : IV), List.take (left.length - 1 + 2) (List.take (left.length - 1) left ++ [x, y]) = popL left ++ [x, y] := fun x y => List.take_of_length_le (by rw [List.length_append]; unfold popL at hlen; rw [hlen]; simp)
        have hb80 : decide ((left.length - 1 + 2) * 80 ≤ bytesMax) = true := decide_eq_true (by unfold bytesMax; omega)
        have hin := spR_in m q (topB left) 5 0 rfl
        replace hin : (splitF m q (topB left)).isSome = true → inPl (spI (splitF m q (topB left))) = true := hin
        match t, ht, hw with
        | 0, _, _ =>
          have hb24 : decide ((proof.length + 1) * 24 ≤ bytesMax) = true := decide_eq_true (by unfold bytesMax; omega)
          have htp : ∀ x : IV, List.take (proof.length + 1) (proof ++ [x]) = proof ++ [x] := fun x => List.take_of_length_le (by rw [List.length_append]; simp)
          refine (nf_search_Search_Stept0 0 m q left proof k a b c d tw vs sp).trans ?_
          rw [hk, condF, hsp, condF, etop, ed, condT, ee, condT, esp, Int.toNat_natCast]
          simp only [Nat.zero_add, Nat.sub_zero, List.take_length]
          rw [hb24, hb80, hm]
          unfold stepF stepT
          show cond (closedF m q (topB left)) _ (cond (breaksF m q (topB left).low (topB left).s4.hi) _ _) = _
          cases closedF m q (topB left) with
          | true =>
            simp only [htp, List.drop_zero]
            rw [condT, condT]
            show cond (ic (left.length - 1) == 0) _ _ = _
            cases (ic (left.length - 1) == 0) <;> rfl
          | false =>
            rw [condF]
            cases breaksF m q (topB left).low (topB left).s4.hi with
            | true => rfl
            | false =>
              rw [condF, condT]
              show cond (!(splitF m q (topB left)).isSome) _ (cond (inPl (spI (splitF m q (topB left)))) _ _) = _
              cases hs : (splitF m q (topB left)).isSome with
              | false => rfl
              | true =>
                rw [Bool.not_true, condF, hin hs, condT, condT, condT]
                simp only [htp, htk]
                rfl
        | 1, _, hw =>
          obtain rfl : proof = [] := hw.2.2.1 (.inl rfl)
          refine (nf_search_Search_Stept1 0 m q left k a b c d tw vs sp).trans ?_
          rw [hk, condF, hsp, condF, etop, ed, condT, ee, condT, esp, Int.toNat_natCast]
          simp only [Nat.zero_add, Nat.sub_zero]
          rw [hb80, hm]
          unfold stepF stepT
          show cond (closedF m q (topB left)) _ (cond (breaksF m q (topB left).low (topB left).s4.hi) _ _) = _
          cases closedF m q (topB left) with
          | true =>
            rw [condT]
            show cond (ic (left.length - 1) == 0) _ _ = _
            cases (ic (left.length - 1) == 0) <;> rfl
          | false =>
            rw [condF]
            cases breaksF m q (topB left).low (topB left).s4.hi with
            | true => rfl
            | false =>
              rw [condF, condT]
              show cond (!(splitF m q (topB left)).isSome) _ (cond (inPl (spI (splitF m q (topB left)))) _ _) = _
              cases hs : (splitF m q (topB left)).isSome with
              | false => rfl
              | true =>
                rw [Bool.not_true, condF, hin hs, condT, condT]
                simp only [htk]
                rfl
        | t + 2, ht, _ => exact absurd (Nat.le_of_ble_eq_true ht) (by omega)
  · simp [R.get] at h
end Go.FM

/-
  NORMAL FORMS: what the functions' runs come to (written by a program of this claim's own, checked by the kernel).
-/
namespace Go.FM
open Go Go.Proofs

/-! ### copse/search.Run -/
def E_search_Run (N : Nat) : Env := mkE [(14, S_search_New), (15, S_search_Search_Step), (17, S_search_Search_Verdict)] [(2, ⟨[4, 5], [4, 8, 500, 501], [⟨.cell 8 23, 500, 30, true, kBox⟩, ⟨.cell 8 24, 501, 82, true, kStep⟩]⟩)] 13 N
--RKS search_Run [[.int .i64, .list true [.bool, .int .i64, .int .i64], .int .i64, .int .i64, .int .i64, .int .i64, .int .i64, .int .i64]]

end Go.FM

/-
  search.Run COMES TO WHAT IS SAID.
-/
namespace Go.FM
open Go Go.Proofs

abbrev kpR : KP := ⟨[4, 5], [4, 8, 500, 501], [⟨.cell 8 23, 500, 30, true, kBox⟩, ⟨.cell 8 24, 501, 82, true, kStep⟩]⟩
/-- Its state at the loop's head; 'sh': the proof is shared with the verdict. -/
def runB (sh : Bool) (s : Sr) : List V := match sh with
  | false => .row 500 0 s.left.length :: .row 501 0 s.proof.length :: vdT s.v .zs s.spent
  | true => .row 500 0 s.left.length :: fStep s.proof :: vdT s.v (fStep s.v.proof) s.spent
def runP (sh : Bool) (s : Sr) : Option Ob := match sh with
  | false => some (.row true 82 true kStep s.proof)
  | true => none
def runSt (m : Md) (q : Qy) (sh : Bool) (s : Sr) : St :=
  ⟨[(4, .ptr 4 0 0), (5, .ptr 8 0 0)], [(4, some (.box [.int .i64 0, .zs, .int .i64 0, .int .i64 0, .int .i64 0, .int .i64 0, .int .i64 0, .int .i64 0])), (8, some (.box (seCs m q (runB sh s)))), (500, some (.row true 30 true kBox s.left)), (501, runP sh s)]⟩
def tkS (s : Sr) : Sr := ⟨s.left.take s.left.length, s.proof.take s.proof.length, ⟨s.v.kind, [], s.v.w0, s.v.w1, s.v.w2, s.v.w3, s.v.twin, s.v.spent⟩, s.spent⟩
def tkS2 (s : Sr) : Sr := ⟨s.left.take s.left.length, s.proof, s.v, s.spent⟩
theorem tkS_eq {s : Sr} (h : s.v.proof = []) : tkS s = s := by
  obtain ⟨left, proof, ⟨k, vp, a, b, c, d, tw, vs⟩, sp⟩ := s
  obtain rfl : vp = [] := h
  unfold tkS
  simp only [List.take_length]
theorem tkS2_eq (s : Sr) : tkS2 s = s := by
  obtain ⟨left, proof, v, sp⟩ := s
  unfold tkS2
  simp only [List.take_length]
def okS (m : Md) (q : Qy) (s : Sr) : Bool := rightQ m q && (decide (0 ≤ s.spent) && (Nat.blt 0 s.left.length && (Nat.ble s.left.length 100000 && Nat.ble s.proof.length 100000)))
noncomputable abbrev kRun (N : Nat) : Out → St → Res := kBlock 0 (kSq (E_search_Run N) (subC c_search_Run [1, 1, 1]) (outT (E_search_Run N) none [.cell 4 37] [[.int .i64, .list true kStep, .int .i64, .int .i64, .int .i64, .int .i64, .int .i64, .int .i64]]))
set_option maxRecDepth 100000 in
theorem nf_search_Run (N : Nat) (m : Md) (q : Qy) : evFun (E_search_Run N) c_search_Run [.cell 4 37] [[.int .i64, .list true [.bool, .int .i64, .int .i64], .int .i64, .int .i64, .int .i64, .int .i64, .int .i64, .int .i64]] [m.V, q.V] =
    cond (rightQ m q) (lpE (E_search_Run N) (subC c_search_Run [1, 1, 0, 0, 0]) kpR N (runSt m q false ⟨[(startB q).I], [], Vd.none, 0⟩) (kRun N))
      (lpE (E_search_Run N) (subC c_search_Run [1, 1, 0, 0, 0]) kpR N (runSt m q false ⟨[], [], ⟨4, [], 0, 0, 0, 0, 0, 0⟩, 0⟩) (kRun N)) := by kernel_rfl
set_option maxRecDepth 100000 in
theorem st_run_own (N : Nat) (m : Md) (q : Qy) (s : Sr) (again : St → Res) (k : Out → St → Res) : rnd (E_search_Run N) (subC c_search_Run [1, 1, 0, 0, 0]) (runSt m q false s) (kLoop again kpR k) =
    cond (overS q (tkS s)) (k (.exit 0) (runSt m q false (tkS s)))
      (cond (okS m q (tkS s))
        (cond (closedF m q (topB (tkS s).left)) (cond (ic ((tkS s).left.length - 1) == 0) (again (runSt m q true (stepF m q (tkS s)))) (again (runSt m q false (stepF m q (tkS s)))))
          (cond (breaksF m q (topB (tkS s).left).low (topB (tkS s).left).s4.hi) (again (runSt m q false (stepF m q (tkS s))))
            (cond (splitF m q (topB (tkS s).left)).isSome (again (runSt m q false (stepF m q (tkS s)))) (again (runSt m q false (stepF m q (tkS s))))))) none) := by kernel_rfl
set_option maxRecDepth 100000 in
theorem st_run_shared (N : Nat) (m : Md) (q : Qy) (s : Sr) (again : St → Res) (k : Out → St → Res) : rnd (E_search_Run N) (subC c_search_Run [1, 1, 0, 0, 0]) (runSt m q true s) (kLoop again kpR k) =
    cond (overS q (tkS2 s)) (k (.exit 0) (runSt m q true (tkS2 s))) none := by kernel_rfl
set_option maxRecDepth 100000 in
theorem ex_run_own (N : Nat) (m : Md) (q : Qy) (s : Sr) : kRun N (.exit 0) (runSt m q false s) = some ((verdS (tkS s)).V, []) := by kernel_rfl
set_option maxRecDepth 100000 in
theorem ex_run_shared (N : Nat) (m : Md) (q : Qy) (s : Sr) : kRun N (.exit 0) (runSt m q true s) = cond (Nat.ble s.v.proof.length 100000) (some ((verdS (tkS2 s)).V, [])) none := by kernel_rfl

/-! ### the run -/
structure SrInv (q : Qy) (sh : Bool) (s : Sr) : Prop where
  sp0 : 0 ≤ s.spent
  sp1 : s.spent ≤ max 0 q.bu
  left : (s.left.length : Int) ≤ s.spent + 1
  proof : (s.proof.length : Int) ≤ s.spent
  vp : (s.v.proof.length : Int) ≤ s.spent
  own : sh = false → s.v.proof = []
  open_ : s.v.kind = 0 → 0 < s.left.length
  shut : sh = true → s.v.kind ≠ 0
theorem popL_len (l : List IV) : (popL l).length = l.length - 1 := by
  unfold popL
  rw [List.length_take]
  omega
/-- A step keeps it. -/
theorem SrInv.step {m : Md} {q : Qy} {s : Sr} (h : SrInv q false s) (ho : overS q s = false) :
    SrInv q (closedF m q (topB s.left) && (ic (s.left.length - 1) == 0)) (stepF m q s) ∧ (stepF m q s).spent = s.spent + 1 := by
  unfold overS at ho
  rw [Bool.or_eq_false_iff] at ho
  have hk : s.v.kind = 0 := by simpa using ho.1
  have hs := of_decide_eq_false ho.2
  have h1 := h.sp0
  have h2 := h.left
  have h3 := h.proof
  have h4 := h.vp
  have h5 := h.own rfl
  have h6 := h.open_ hk
  have hp := popL_len s.left
  have h5' : s.v.proof.length = 0 := by rw [h5]; rfl
  unfold stepF
  cases closedF m q (topB s.left) with
  | true =>
    rw [condT]
    cases he : (ic (s.left.length - 1) == 0) with
    | true =>
      refine ⟨⟨?_, ?_, ?_, ?_, ?_, fun h => (by cases h), fun h => (by cases h), fun _ => (show (1 : Int) ≠ 0 by decide)⟩, rfl⟩ <;> simp only [cond_true, List.length_append, List.length_singleton] <;> omega
    | false =>
      have hne : s.left.length - 1 ≠ 0 := by simpa [ic] using he
      refine ⟨⟨?_, ?_, ?_, ?_, ?_, fun _ => h5, fun _ => ?_, fun h => (by cases h)⟩, rfl⟩ <;> simp only [cond_false, List.length_append, List.length_singleton] <;> omega
  | false =>
    rw [condF, Bool.false_and]
    cases breaksF m q (topB s.left).low (topB s.left).s4.hi with
    | true => refine ⟨⟨?_, ?_, ?_, ?_, ?_, fun _ => rfl, fun h => (by cases h), fun h => (by cases h)⟩, rfl⟩ <;> simp only [cond_true, List.length_nil] <;> omega
    | false =>
      rw [condF]
      cases (splitF m q (topB s.left)).isSome with
      | true => refine ⟨⟨?_, ?_, ?_, ?_, ?_, fun _ => h5, fun _ => ?_, fun h => (by cases h)⟩, rfl⟩ <;> simp only [cond_true, List.length_append, List.length_singleton, List.length_cons, List.length_nil] <;> omega
      | false => refine ⟨⟨?_, ?_, ?_, ?_, ?_, fun _ => rfl, fun h => (by cases h), fun h => (by cases h)⟩, rfl⟩ <;> simp only [cond_false, List.length_nil] <;> omega
theorem okS_of {m : Md} {q : Qy} {s : Sr} (hr : rightQ m q = true) (h : SrInv q false s) (hk : s.v.kind = 0) : okS m q s = true := by
  have hb := (rightQ_parts hr).2.2.1
  have h1 := h.sp0
  have h2 := h.left
  have h3 := h.proof
  have h6 := h.open_ hk
  have h7 := h.sp1
  unfold okS
  rw [hr, decide_eq_true h1, Nat.ble_eq_true_of_le (show s.left.length ≤ 100000 by omega), Nat.ble_eq_true_of_le (show s.proof.length ≤ 100000 by omega)]
  have : Nat.blt 0 s.left.length = true := Nat.ble_eq_true_of_le h6
  rw [this]
  rfl
theorem run_run (N : Nat) (m : Md) (q : Qy) (hr : rightQ m q = true) (K : Out → St → Res) : ∀ (d n : Nat) (sh : Bool) (s : Sr), SrInv q sh s → q.bu < s.spent + d → d < n →
    ∃ sh', SrInv q sh' (runS m q d s) ∧ lpE (E_search_Run N) (subC c_search_Run [1, 1, 0, 0, 0]) kpR n (runSt m q sh s) K = K (.exit 0) (runSt m q sh' (runS m q d s))
  | d, 0, sh, s, _, _, h => absurd h (by omega)
  | 0, n + 1, sh, s, hi, hd, _ => by
    have h1 := hi.sp1
    have h2 := hi.sp0
    have h3 := (rightQ_parts hr).2.2.1
    omega
  | d + 1, n + 1, sh, s, hi, hd, hn => by
    rw [runS]
    cases ho : overS q s with
    | true =>
      rw [condT]
      refine ⟨sh, hi, ?_⟩
      cases sh with
      | false => rw [lpE_succ, st_run_own, tkS_eq (hi.own rfl), ho, condT]
      | true => rw [lpE_succ, st_run_shared, tkS2_eq, ho, condT]
    | false =>
      rw [condF]
      cases sh with
      | true =>
        unfold overS at ho
        rw [Bool.or_eq_false_iff] at ho
        have := hi.shut rfl
        simp at ho
        exact absurd ho.1 this
      | false =>
        obtain ⟨hi', hs'⟩ := hi.step (m := m) ho
        have hk : s.v.kind = 0 := by
          unfold overS at ho
          rw [Bool.or_eq_false_iff] at ho
          simpa using ho.1
        obtain ⟨sh', hi2, hrun⟩ := run_run N m q hr K d n _ (stepF m q s) hi' (by rw [hs']; omega) (by omega)
        refine ⟨sh', hi2, ?_⟩
        rw [← hrun, lpE_succ, st_run_own, tkS_eq (hi.own rfl), ho, condF, okS_of hr hi hk, condT]
        cases closedF m q (topB s.left) with
        | true =>
          rw [condT, Bool.true_and]
          cases (ic (s.left.length - 1) == 0) <;> rfl
        | false =>
          rw [condF, Bool.false_and]
          cases breaksF m q (topB s.left).low (topB s.left).s4.hi with
          | true => rfl
          | false => cases (splitF m q (topB s.left)).isSome <;> rfl
theorem new_inv {m : Md} {q : Qy} (hr : rightQ m q = true) : SrInv q false ⟨[(startB q).I], [], Vd.none, 0⟩ :=
  ⟨Int.le_refl _, by have := (rightQ_parts hr).2.2.1; show (0 : Int) ≤ _; omega, by simp, by simp, by simp [Vd.none], fun _ => rfl, fun _ => by simp, fun h => by cases h⟩
set_option maxRecDepth 100000 in
theorem snd_search_Run : SndR PR B0 8 S_search_Run := by
  refine snd_mk [(14, S_search_New), (15, S_search_Search_Step), (17, S_search_Search_Verdict)] [(2, ⟨[4, 5], [4, 8, 500, 501], [⟨.cell 8 23, 500, 30, true, kBox⟩, ⟨.cell 8 24, 501, 82, true, kStep⟩]⟩)] S_search_Run [[.int .i64, .list true [.bool, .int .i64, .int .i64], .int .i64, .int .i64, .int .i64, .int .i64, .int .i64, .int .i64]] Try.func8 h_search_Run ⟨snd_search_New, snd_search_Search_Step, snd_search_Search_Verdict, trivial⟩ ?_
  intro vs r hwf h
  unfold S_search_Run at h
  split at h
  · rename_i m q
    replace h := withM_get h
    obtain ⟨m, rfl, h⟩ := h
    replace h := withQ_get h
    obtain ⟨q, rfl, h⟩ := h
    rw [R.get_ok] at h
    refine ⟨70000, ?_⟩
    rw [← h]
    refine (nf_search_Run 70000 m q).trans ?_
    unfold runF newS
    cases hr : rightQ m q with
    | true =>
      have hb := (rightQ_parts hr).2.2.1
      rw [condT, condT]
      obtain ⟨sh', hi, hrun⟩ := run_run 70000 m q hr (kRun 70000) (q.bu.toNat + 1) 70000 false _ (new_inv hr) (by show q.bu < 0 + _; omega) (by omega)
      rw [hrun]
      generalize runS m q (q.bu.toNat + 1) _ = s at hi ⊢
      cases sh' with
      | false => rw [ex_run_own, tkS_eq (hi.own rfl)]
      | true =>
        have h1 := hi.vp
        have h2 := hi.sp1
        rw [ex_run_shared, tkS2_eq, Nat.ble_eq_true_of_le (show s.v.proof.length ≤ 100000 by omega), condT]
    | false =>
      rw [condF, condF]
      have e : overS q ⟨[], [], ⟨4, [], 0, 0, 0, 0, 0, 0⟩, 0⟩ = true := rfl
      rw [lpE_succ, st_run_own, tkS_eq rfl, e, condT, ex_run_own, tkS_eq rfl, runS, e, condT]
  · simp [R.get] at h
end Go.FM

/-
  WHAT ELSE THE STATEMENTS ABOUT SEARCHES CALL: specifications. Of no program.
-/
namespace Go.FM
open Go

def threeM : Md := ⟨1, 1, 3, 0, 0, [.agg [.int 0, .list [.int (packW false 0 0 5 1 2), .int (packW true 10 0 0 0 0), .int (packW true 20 0 0 0 0)]]]⟩
def S_copsekeep_Three : RSpec
  | [] => .ok threeM.V []
  | _ => .no
def insZ1 (b : Bx) (l : List IV) (i : Nat) : Int := withinZ (pickZ l (i : Int)) (b.g i).lo (max (b.g i).lo (b.g i).hi)
def insOK (b : Bx) (i : Nat) : Bool := decide (withinM (b.g i).lo (max (b.g i).lo (b.g i).hi) = 0)
def insideP (b : Bx) (l : List IV) : Pt := ⟨insZ1 b l 0, insZ1 b l 1, insZ1 b l 2, insZ1 b l 3⟩
def S_copsekeep_Inside : RSpec
  | [b, .list false [.int .i64] l] => withB b fun b => .br (!(insOK b 0) && (!(insOK b 1) && (!(insOK b 2) && !(insOK b 3)))) (.ok (insideP b l).V []) .no
  | _ => .no
def S_copselaw22_SearchRuns : RSpec
  | [] => .ok (.bool true) []
  | _ => .no
end Go.FM

/-
  NORMAL FORMS: what the functions' runs come to (written by a program of this claim's own, checked by the kernel).
-/
namespace Go.FM
open Go Go.Proofs

/-! ### copse/copsekeep.Three -/
def E_copsekeep_Three (N : Nat) : Env := mkE [(20, S_copseref6_Pack)] [] 14 N

theorem nf_copsekeep_Three (N : Nat) : evFun (E_copsekeep_Three N) c_copsekeep_Three [.cell 0 25] [[.int .i64, .int .i64, .int .i64, .int .i64, .int .i64, .list true [.int .i64, .list false [.int .u64]]]] [] =
  (some ((.agg [(.int .i64 1), (.int .i64 1), (.int .i64 3), (.int .i64 0), (.int .i64 0), (.list true kTree [(IV.agg [IV.int 0, IV.list [IV.int (packW false 0 0 5 1 2), IV.int (packW true 10 0 0 0 0), IV.int (packW true 20 0 0 0 0)]])])]), [])) := by kernel_rfl

/-! ### copse/copsekeep.Inside -/
def E_copsekeep_Inside (N : Nat) : Env := mkE [(18, S_copsebook_Within), (21, S_copsekeep_pick)] [(3, ⟨[1, 2, 4, 5, 7], [2, 4, 5], []⟩)] 31 N
--RKS copsekeep_Inside [[.int .i64, .int .i64, .int .i64, .int .i64]]

/-! ### copse/copsebook.Same<copse/api.Step> -/
def E_copsebook_Same_apiStep (N : Nat) : Env := mkE [] [(4, ⟨[0, 1, 4, 5], [], []⟩)] 26 N

theorem nf_copsebook_Same_apiStep (N : Nat) (a : List IV) (b : List IV) : evFun (E_copsebook_Same_apiStep N) c_copsebook_Same_apiStep [.tmp 4] [[.bool]] [(.list true [.bool, .int .i64, .int .i64] a), (.list true [.bool, .int .i64, .int .i64] b)] =
  (cond (ic (List.length a) != ic (List.length b))
  (some ((.bool false), []))
  (lpE (E_copsebook_Same_apiStep N) (subC c_copsebook_Same_apiStep [1, 1, 0, 1, 0, 0]) ⟨[0, 1, 4, 5], [], []⟩ N ⟨[(0, (.list true kStep a)), (1, (.list true kStep b)), (4, (.bool false)), (5, (.int .i64 0))], []⟩ (kBlock 0 (kSq (E_copsebook_Same_apiStep N) (subC c_copsebook_Same_apiStep [1, 1, 1]) (outT (E_copsebook_Same_apiStep N) none [(ResultVar.tmp 4)] [[.bool]]))))) := by kernel_rfl

theorem st_copsebook_Same_apiStep_1 (N : Nat) (l0 : List IV) (l1 : List IV) (b4 : Bool) (x5 : Int) (again : St → Res) (k : Out → St → Res) : rnd (E_copsebook_Same_apiStep N) (subC c_copsebook_Same_apiStep [1, 1, 0, 1, 0, 0])
    ⟨[(0, (.list true kStep l0)), (1, (.list true kStep l1)), (4, (.bool b4)), (5, (.int .i64 x5))], []⟩
    (kLoop again ⟨[0, 1, 4, 5], [], []⟩ k) =
  (cond (decide (x5 < ic (List.length l0)))
  (cond (decide (0 ≤ x5) && decide (x5 < ic (List.length l0)))
   (cond (decide (0 ≤ x5) && decide (x5 < ic (List.length l1)))
    (cond (! (IV.toBool (IV.cell (List.getD l0 (Int.toNat x5) default) 0) == IV.toBool (IV.cell (List.getD l1 (Int.toNat x5) default) 0) && (IV.toInt (IV.cell (List.getD l0 (Int.toNat x5) default) 1) == IV.toInt (IV.cell (List.getD l1 (Int.toNat x5) default) 1) && (IV.toInt (IV.cell (List.getD l0 (Int.toNat x5) default) 2) == IV.toInt (IV.cell (List.getD l1 (Int.toNat x5) default) 2) && true))))
     (k .ret ⟨[(0, (.list true kStep l0)), (1, (.list true kStep l1)), (4, (.bool false)), (5, (.int .i64 x5))], []⟩)
     (again ⟨[(0, (.list true kStep l0)), (1, (.list true kStep l1)), (4, (.bool b4)), (5, (.int .i64 (IntKind.wrap IntKind.i64 (x5 + 1))))], []⟩))
    none)
   none)
  (k (.exit 0) ⟨[(0, (.list true kStep l0)), (1, (.list true kStep l1)), (4, (.bool b4)), (5, (.int .i64 x5))], []⟩)) := by kernel_rfl

theorem ex_copsebook_Same_apiStep_1_1 (N : Nat) (l0 : List IV) (l1 : List IV) (b4 : Bool) (x5 : Int) : (kBlock 0 (kSq (E_copsebook_Same_apiStep N) (subC c_copsebook_Same_apiStep [1, 1, 1]) (outT (E_copsebook_Same_apiStep N) none [(ResultVar.tmp 4)] [[.bool]]))) (.exit 0)
    ⟨[(0, (.list true kStep l0)), (1, (.list true kStep l1)), (4, (.bool b4)), (5, (.int .i64 x5))], []⟩ =
  (some ((.bool true), [])) := by kernel_rfl

theorem ex_copsebook_Same_apiStep_1_2 (N : Nat) (l0 : List IV) (l1 : List IV) (b4 : Bool) (x5 : Int) : (kBlock 0 (kSq (E_copsebook_Same_apiStep N) (subC c_copsebook_Same_apiStep [1, 1, 1]) (outT (E_copsebook_Same_apiStep N) none [(ResultVar.tmp 4)] [[.bool]]))) .ret
    ⟨[(0, (.list true kStep l0)), (1, (.list true kStep l1)), (4, (.bool b4)), (5, (.int .i64 x5))], []⟩ =
  (some ((.bool b4), [])) := by kernel_rfl

/-! ### copse/copsekeep.Verdicts -/
def E_copsekeep_Verdicts (N : Nat) : Env := mkE [(33, S_copsebook_Same_apiStep)] [] 38 N

theorem nf_copsekeep_Verdicts (N : Nat) (a : Vd) (b : Vd) : evFun (E_copsekeep_Verdicts N) c_copsekeep_Verdicts [.tmp 4] [[.bool]] [(Vd.V a), (Vd.V b)] =
  (cond (Vd.kind a == Vd.kind b)
  (cond (sameB (Vd.proof a) (Vd.proof b))
   (cond (Vd.w0 a == Vd.w0 b && (Vd.w1 a == Vd.w1 b && (Vd.w2 a == Vd.w2 b && (Vd.w3 a == Vd.w3 b && true))))
    (cond (Vd.twin a == Vd.twin b) (some ((.bool (Vd.spent a == Vd.spent b)), [])) (some ((.bool false), [])))
    (some ((.bool false), [])))
   (some ((.bool false), [])))
  (some ((.bool false), []))) := by kernel_rfl

/-! ### copse/copselaw22.SearchRuns -/
def E_copselaw22_SearchRuns (N : Nat) : Env := mkE [(7, S_copsekeep_Three), (8, S_search_Run)] [] 60 N

theorem nf_copselaw22_SearchRuns (N : Nat) : evFun (E_copselaw22_SearchRuns N) c_copselaw22_SearchRuns [.tmp 0] [[.bool]] [] =
  (some ((.bool true), [])) := by kernel_rfl

end Go.FM

/-
  copsekeep.Three AND copselaw22.SearchRuns COME TO WHAT IS SAID.
-/
namespace Go.FM
open Go Go.Proofs

set_option maxRecDepth 100000 in
theorem snd_copsekeep_Three : SndR PR B0 7 S_copsekeep_Three := by
  refine snd_mk [(20, S_copseref6_Pack)] [] S_copsekeep_Three [[.int .i64, .int .i64, .int .i64, .int .i64, .int .i64, .list true [.int .i64, .list false [.int .u64]]]] Try.func7 h_copsekeep_Three ⟨snd_copseref6_Pack, trivial⟩ ?_
  intro vs r hwf h
  unfold S_copsekeep_Three at h
  split at h
  · skip
    rw [R.get_ok] at h
    refine ⟨0, (nf_copsekeep_Three 0).trans ?_⟩
    rw [← h]
    rfl
  · simp [R.get] at h
set_option maxRecDepth 100000 in
theorem snd_copselaw22_SearchRuns : SndR PR B0 3 S_copselaw22_SearchRuns := by
  refine snd_mk [(7, S_copsekeep_Three), (8, S_search_Run)] [] S_copselaw22_SearchRuns [[.bool]] Try.func3 h_copselaw22_SearchRuns ⟨snd_copsekeep_Three, snd_search_Run, trivial⟩ ?_
  intro vs r hwf h
  unfold S_copselaw22_SearchRuns at h
  split at h
  · skip
    rw [R.get_ok] at h
    refine ⟨0, (nf_copselaw22_SearchRuns 0).trans ?_⟩
    rw [← h]
  · simp [R.get] at h
end Go.FM

/-
  NORMAL FORMS: what the functions' runs come to (written by a program of this claim's own, checked by the kernel).
-/
namespace Go.FM
open Go Go.Proofs

/-! ### (copse/copsekeep.Tree).Nodes -/
def E_copsekeep_Tree_Nodes (N : Nat) : Env := mkE [(18, S_copsebook_Within), (21, S_copsekeep_pick), (20, S_copseref6_Pack)] [(4, ⟨[1, 2, 4, 5, 6, 7], [2, 500, 501], [⟨.tmp 5, 500, 63, true, [.bool, .int .i64, .int .i64, .int .i64, .int .i64, .int .i64]⟩, ⟨.tmp 6, 501, 3, false, [.int .i64]⟩]⟩), (14, ⟨[4, 11, 100, 101, 102], [500, 502], [⟨.tmp 11, 502, 60, false, [.int .u64]⟩]⟩)] 113 N

theorem nf_copsekeep_Tree_Nodes (N : Nat) (t_Class : Int) (t_Part : List IV) (t_By : List IV) (t_At : List IV) (t_Val : List IV) (a1 : Int) : evFun (E_copsekeep_Tree_Nodes N) c_copsekeep_Tree_Nodes [.tmp 4] [[.list false [.int .u64]]] [(.agg [(.int .i64 t_Class), (.list false [.int .i64] t_Part), (.list false [.int .i64] t_By), (.list false [.int .i64] t_At), (.list false [.int .i64] t_Val)]), (.int .i64 a1)] =
  (lpE (E_copsekeep_Tree_Nodes N) (subC c_copsekeep_Tree_Nodes [1, 1, 1, 0, 1, 0, 0]) ⟨[1, 2, 4, 5, 6, 7], [2, 500, 501], [⟨(.tmp 5), 500, 63, true, [.bool, (.int .i64), (.int .i64), (.int .i64), (.int .i64), (.int .i64)]⟩, ⟨(.tmp 6), 501, 3, false, [(.int .i64)]⟩]⟩ N ⟨[(1, (.int .i64 a1)), (2, (.ptr 2 0 0)), (4, .zs), (5, (.row 500 0 1)), (6, (.row 501 0 1)), (7, (.int .i64 0))], [(2, (some (.box [(.int .i64 t_Class), (.list false [(.int .i64)] t_Part), (.list false [(.int .i64)] t_By), (.list false [(.int .i64)] t_At), (.list false [(.int .i64)] t_Val)]))), (500, (some (.row true 63 true [.bool, (.int .i64), (.int .i64), (.int .i64), (.int .i64), (.int .i64)] [(IV.agg [IV.bool true, IV.int (withinZ (pickZ t_Val 0) (-3000) 3000), IV.int 0, IV.int 0, IV.int 0, IV.int 0])]))), (501, (some (.row true 3 false [(.int .i64)] [(IV.int 0)])))]⟩ (kBlock 0 (kSq (E_copsekeep_Tree_Nodes N) (subC c_copsekeep_Tree_Nodes [1, 1, 1, 1]) (outT (E_copsekeep_Tree_Nodes N) none [(ResultVar.tmp 4)] [[(.list false [(.int .u64)])]])))) := by kernel_rfl

theorem st_copsekeep_Tree_Nodes_1 (N : Nat) (x1 : Int) (n5 : Nat) (n6 : Nat) (x7 : Int) (xo2_0 : Int) (lo2_1 : List IV) (lo2_2 : List IV) (lo2_3 : List IV) (lo2_4 : List IV) (lo500 : List IV) (lo501 : List IV) (again : St → Res) (k : Out → St → Res) : rnd (E_copsekeep_Tree_Nodes N) (subC c_copsekeep_Tree_Nodes [1, 1, 1, 0, 1, 0, 0])
    ⟨[(1, (.int .i64 x1)), (2, (.ptr 2 0 0)), (4, .zs), (5, (.row 500 0 n5)), (6, (.row 501 0 n6)), (7, (.int .i64 x7))], [(2, (some (.box [(.int .i64 xo2_0), (.list false [(.int .i64)] lo2_1), (.list false [(.int .i64)] lo2_2), (.list false [(.int .i64)] lo2_3), (.list false [(.int .i64)] lo2_4)]))), (500, (some (.row true 63 true [.bool, (.int .i64), (.int .i64), (.int .i64), (.int .i64), (.int .i64)] lo500))), (501, (some (.row true 3 false [(.int .i64)] lo501)))]⟩
    (kLoop again ⟨[1, 2, 4, 5, 6, 7], [2, 500, 501], [⟨(.tmp 5), 500, 63, true, [.bool, (.int .i64), (.int .i64), (.int .i64), (.int .i64), (.int .i64)]⟩, ⟨(.tmp 6), 501, 3, false, [(.int .i64)]⟩]⟩ k) =
  (cond (decide (x7 < ic (List.length lo2_1)))
  (cond (decide (x7 < 7))
   (cond (decide (0 ≤ x7) && decide (x7 < ic (List.length lo2_1)))
    (cond (decide (withinM 0 (IntKind.wrap IntKind.i64 (ic (n6 - 0) - 1)) = 0))
     none
     (cond (decide (0 ≤ withinZ (IV.toInt (List.getD lo2_1 (Int.toNat x7) default)) 0 (IntKind.wrap IntKind.i64 (ic (n6 - 0) - 1))) && decide (withinZ (IV.toInt (List.getD lo2_1 (Int.toNat x7) default)) 0 (IntKind.wrap IntKind.i64 (ic (n6 - 0) - 1)) < ic (n6 - 0)))
      (cond (decide (0 ≤ x7))
       (cond (decide (withinM 0 (IntKind.wrap IntKind.i64 (x1 - 1)) = 0))
        none
        (cond (decide (0 ≤ x7))
         (cond (decide (0 ≤ IV.toInt (List.getD lo501 (0 + Int.toNat (withinZ (IV.toInt (List.getD lo2_1 (Int.toNat x7) default)) 0 (IntKind.wrap IntKind.i64 (ic (n6 - 0) - 1)))) default)) && decide (IV.toInt (List.getD lo501 (0 + Int.toNat (withinZ (IV.toInt (List.getD lo2_1 (Int.toNat x7) default)) 0 (IntKind.wrap IntKind.i64 (ic (n6 - 0) - 1)))) default) < ic (n5 - 0)))
          (cond (decide (0 ≤ IntKind.wrap IntKind.i64 (IntKind.wrap IntKind.i64 (2 * x7) + 1)))
           (cond (decide (0 ≤ IntKind.wrap IntKind.i64 (IntKind.wrap IntKind.i64 (2 * x7) + 2)))
            (cond (decide ((n5 + List.length (List.drop 0 (List.take 2 [IV.agg [IV.bool true, IV.int (withinZ (pickZ lo2_4 (IntKind.wrap IntKind.i64 (IntKind.wrap IntKind.i64 (2 * x7) + 1))) (-3000) 3000), IV.int 0, IV.int 0, IV.int 0, IV.int 0], IV.agg [IV.bool true, IV.int (withinZ (pickZ lo2_4 (IntKind.wrap IntKind.i64 (IntKind.wrap IntKind.i64 (2 * x7) + 2))) (-3000) 3000), IV.int 0, IV.int 0, IV.int 0, IV.int 0]]))) * TI.bytes (Env.tyd (E_copsekeep_Tree_Nodes N) 63) ≤ bytesMax))
             (cond (decide (0 ≤ withinZ (IV.toInt (List.getD lo2_1 (Int.toNat x7) default)) 0 (IntKind.wrap IntKind.i64 (ic (n6 - 0) - 1))) && decide (withinZ (IV.toInt (List.getD lo2_1 (Int.toNat x7) default)) 0 (IntKind.wrap IntKind.i64 (ic (n6 - 0) - 1)) ≤ ic (n6 - 0)))
              (cond (decide ((0 + List.length (List.drop 0 (List.take (0 + Int.toNat (withinZ (IV.toInt (List.getD lo2_1 (Int.toNat x7) default)) 0 (IntKind.wrap IntKind.i64 (ic (n6 - 0) - 1)))) lo501))) * TI.bytes (Env.tyd (E_copsekeep_Tree_Nodes N) 3) ≤ bytesMax))
               (cond (decide (0 ≤ IntKind.wrap IntKind.i64 (withinZ (IV.toInt (List.getD lo2_1 (Int.toNat x7) default)) 0 (IntKind.wrap IntKind.i64 (ic (n6 - 0) - 1)) + 1)) && decide (IntKind.wrap IntKind.i64 (withinZ (IV.toInt (List.getD lo2_1 (Int.toNat x7) default)) 0 (IntKind.wrap IntKind.i64 (ic (n6 - 0) - 1)) + 1) ≤ ic (n6 - 0)))
                (cond (decide ((0 + List.length (List.drop 0 (List.take (0 + Int.toNat (withinZ (IV.toInt (List.getD lo2_1 (Int.toNat x7) default)) 0 (IntKind.wrap IntKind.i64 (ic (n6 - 0) - 1)))) lo501)) + List.length (List.drop (0 + Int.toNat (IntKind.wrap IntKind.i64 (withinZ (IV.toInt (List.getD lo2_1 (Int.toNat x7) default)) 0 (IntKind.wrap IntKind.i64 (ic (n6 - 0) - 1)) + 1))) (List.take (0 + (n6 - 0)) lo501))) * TI.bytes (Env.tyd (E_copsekeep_Tree_Nodes N) 3) ≤ bytesMax))
                 (cond (decide ((0 + List.length (List.drop 0 (List.take (0 + Int.toNat (withinZ (IV.toInt (List.getD lo2_1 (Int.toNat x7) default)) 0 (IntKind.wrap IntKind.i64 (ic (n6 - 0) - 1)))) lo501)) + List.length (List.drop (0 + Int.toNat (IntKind.wrap IntKind.i64 (withinZ (IV.toInt (List.getD lo2_1 (Int.toNat x7) default)) 0 (IntKind.wrap IntKind.i64 (ic (n6 - 0) - 1)) + 1))) (List.take (0 + (n6 - 0)) lo501)) + List.length (List.drop 0 (List.take 2 [IV.int (ic (n5 - 0)), IV.int (IntKind.wrap IntKind.i64 (ic (n5 - 0) + 1))]))) * TI.bytes (Env.tyd (E_copsekeep_Tree_Nodes N) 3) ≤ bytesMax))
                  (again ⟨[(1, (.int .i64 x1)), (2, (.ptr 2 0 0)), (4, .zs), (5, (.row 500 0 (n5 + List.length (List.drop 0 (List.take 2 [IV.agg [IV.bool true, IV.int (withinZ (pickZ lo2_4 (IntKind.wrap IntKind.i64 (IntKind.wrap IntKind.i64 (2 * x7) + 1))) (-3000) 3000), IV.int 0, IV.int 0, IV.int 0, IV.int 0], IV.agg [IV.bool true, IV.int (withinZ (pickZ lo2_4 (IntKind.wrap IntKind.i64 (IntKind.wrap IntKind.i64 (2 * x7) + 2))) (-3000) 3000), IV.int 0, IV.int 0, IV.int 0, IV.int 0]]))))), (6, (.row 501 0 (0 + List.length (List.drop 0 (List.take (0 + Int.toNat (withinZ (IV.toInt (List.getD lo2_1 (Int.toNat x7) default)) 0 (IntKind.wrap IntKind.i64 (ic (n6 - 0) - 1)))) lo501)) + List.length (List.drop (0 + Int.toNat (IntKind.wrap IntKind.i64 (withinZ (IV.toInt (List.getD lo2_1 (Int.toNat x7) default)) 0 (IntKind.wrap IntKind.i64 (ic (n6 - 0) - 1)) + 1))) (List.take (0 + (n6 - 0)) lo501)) + List.length (List.drop 0 (List.take 2 [IV.int (ic (n5 - 0)), IV.int (IntKind.wrap IntKind.i64 (ic (n5 - 0) + 1))]))))), (7, (.int .i64 (IntKind.wrap IntKind.i64 (x7 + 1))))], [(2, (some (.box [(.int .i64 xo2_0), (.list false [(.int .i64)] lo2_1), (.list false [(.int .i64)] lo2_2), (.list false [(.int .i64)] lo2_3), (.list false [(.int .i64)] lo2_4)]))), (500, (some (.row true 63 true [.bool, (.int .i64), (.int .i64), (.int .i64), (.int .i64), (.int .i64)] (List.take n5 (List.set lo500 (0 + Int.toNat (IV.toInt (List.getD lo501 (0 + Int.toNat (withinZ (IV.toInt (List.getD lo2_1 (Int.toNat x7) default)) 0 (IntKind.wrap IntKind.i64 (ic (n6 - 0) - 1)))) default))) (putIV true [Kd.bool, Kd.int IntKind.i64, Kd.int IntKind.i64, Kd.int IntKind.i64, Kd.int IntKind.i64, Kd.int IntKind.i64] (List.getD lo500 (0 + Int.toNat (IV.toInt (List.getD lo501 (0 + Int.toNat (withinZ (IV.toInt (List.getD lo2_1 (Int.toNat x7) default)) 0 (IntKind.wrap IntKind.i64 (ic (n6 - 0) - 1)))) default))) default) 0 [IV.bool false, IV.int 0, IV.int (withinZ (pickZ lo2_2 x7) 0 (IntKind.wrap IntKind.i64 (x1 - 1))), IV.int (withinZ (pickZ lo2_3 x7) 0 9), IV.int (ic (n5 - 0)), IV.int (IntKind.wrap IntKind.i64 (ic (n5 - 0) + 1))])) ++ List.drop 0 (List.take 2 [IV.agg [IV.bool true, IV.int (withinZ (pickZ lo2_4 (IntKind.wrap IntKind.i64 (IntKind.wrap IntKind.i64 (2 * x7) + 1))) (-3000) 3000), IV.int 0, IV.int 0, IV.int 0, IV.int 0], IV.agg [IV.bool true, IV.int (withinZ (pickZ lo2_4 (IntKind.wrap IntKind.i64 (IntKind.wrap IntKind.i64 (2 * x7) + 2))) (-3000) 3000), IV.int 0, IV.int 0, IV.int 0, IV.int 0]]))))), (501, (some (.row true 3 false [(.int .i64)] (List.take (0 + List.length (List.drop 0 (List.take (0 + Int.toNat (withinZ (IV.toInt (List.getD lo2_1 (Int.toNat x7) default)) 0 (IntKind.wrap IntKind.i64 (ic (n6 - 0) - 1)))) lo501)) + List.length (List.drop (0 + Int.toNat (IntKind.wrap IntKind.i64 (withinZ (IV.toInt (List.getD lo2_1 (Int.toNat x7) default)) 0 (IntKind.wrap IntKind.i64 (ic (n6 - 0) - 1)) + 1))) (List.take (0 + (n6 - 0)) lo501))) (List.take (0 + List.length (List.drop 0 (List.take (0 + Int.toNat (withinZ (IV.toInt (List.getD lo2_1 (Int.toNat x7) default)) 0 (IntKind.wrap IntKind.i64 (ic (n6 - 0) - 1)))) lo501))) (List.take 0 [] ++ List.drop 0 (List.take (0 + Int.toNat (withinZ (IV.toInt (List.getD lo2_1 (Int.toNat x7) default)) 0 (IntKind.wrap IntKind.i64 (ic (n6 - 0) - 1)))) lo501)) ++ List.drop (0 + Int.toNat (IntKind.wrap IntKind.i64 (withinZ (IV.toInt (List.getD lo2_1 (Int.toNat x7) default)) 0 (IntKind.wrap IntKind.i64 (ic (n6 - 0) - 1)) + 1))) (List.take (0 + (n6 - 0)) lo501)) ++ List.drop 0 (List.take 2 [IV.int (ic (n5 - 0)), IV.int (IntKind.wrap IntKind.i64 (ic (n5 - 0) + 1))])))))]⟩)
                  none)
                 none)
                none)
               none)
              none)
             none)
            none)
           none)
          none)
         none))
       none)
      none))
    none)
   (k (.exit 0) ⟨[(1, (.int .i64 x1)), (2, (.ptr 2 0 0)), (4, .zs), (5, (.row 500 0 n5)), (6, (.row 501 0 n6)), (7, (.int .i64 x7))], [(2, (some (.box [(.int .i64 xo2_0), (.list false [(.int .i64)] lo2_1), (.list false [(.int .i64)] lo2_2), (.list false [(.int .i64)] lo2_3), (.list false [(.int .i64)] lo2_4)]))), (500, (some (.row true 63 true [.bool, (.int .i64), (.int .i64), (.int .i64), (.int .i64), (.int .i64)] lo500))), (501, (some (.row true 3 false [(.int .i64)] lo501)))]⟩))
  (k (.exit 0) ⟨[(1, (.int .i64 x1)), (2, (.ptr 2 0 0)), (4, .zs), (5, (.row 500 0 n5)), (6, (.row 501 0 n6)), (7, (.int .i64 x7))], [(2, (some (.box [(.int .i64 xo2_0), (.list false [(.int .i64)] lo2_1), (.list false [(.int .i64)] lo2_2), (.list false [(.int .i64)] lo2_3), (.list false [(.int .i64)] lo2_4)]))), (500, (some (.row true 63 true [.bool, (.int .i64), (.int .i64), (.int .i64), (.int .i64), (.int .i64)] lo500))), (501, (some (.row true 3 false [(.int .i64)] lo501)))]⟩)) := by kernel_rfl

theorem ex_copsekeep_Tree_Nodes_1_1 (N : Nat) (x1 : Int) (n5 : Nat) (n6 : Nat) (x7 : Int) (xo2_0 : Int) (lo2_1 : List IV) (lo2_2 : List IV) (lo2_3 : List IV) (lo2_4 : List IV) (lo500 : List IV) (lo501 : List IV) : (kBlock 0 (kSq (E_copsekeep_Tree_Nodes N) (subC c_copsekeep_Tree_Nodes [1, 1, 1, 1]) (outT (E_copsekeep_Tree_Nodes N) none [(ResultVar.tmp 4)] [[(.list false [(.int .u64)])]]))) (.exit 0)
    ⟨[(1, (.int .i64 x1)), (2, (.ptr 2 0 0)), (4, .zs), (5, (.row 500 0 n5)), (6, (.row 501 0 n6)), (7, (.int .i64 x7))], [(2, (some (.box [(.int .i64 xo2_0), (.list false [(.int .i64)] lo2_1), (.list false [(.int .i64)] lo2_2), (.list false [(.int .i64)] lo2_3), (.list false [(.int .i64)] lo2_4)]))), (500, (some (.row true 63 true [.bool, (.int .i64), (.int .i64), (.int .i64), (.int .i64), (.int .i64)] lo500))), (501, (some (.row true 3 false [(.int .i64)] lo501)))]⟩ =
  (lpE (E_copsekeep_Tree_Nodes N) (subC c_copsekeep_Tree_Nodes [1, 1, 1, 1, 1, 0, 1, 0, 0]) ⟨[4, 11, 100, 101, 102], [500, 502], [⟨(.tmp 11), 502, 60, false, [(.int .u64)]⟩]⟩ N ⟨[(4, .zs), (11, (.row 502 0 0)), (100, (.row 500 0 n5)), (101, (.int .i64 (ic (n5 - 0)))), (102, (.int .i64 0))], [(500, (some (.row true 63 true [.bool, (.int .i64), (.int .i64), (.int .i64), (.int .i64), (.int .i64)] lo500))), (502, (some (.row true 60 false [(.int .u64)] [])))]⟩ (kBlock 2 (kSq (E_copsekeep_Tree_Nodes N) (subC c_copsekeep_Tree_Nodes [1, 1, 1, 1, 1, 1]) (outT (E_copsekeep_Tree_Nodes N) none [(ResultVar.tmp 4)] [[(.list false [(.int .u64)])]])))) := by kernel_rfl

theorem st_copsekeep_Tree_Nodes_2 (N : Nat) (n11 : Nat) (n100 : Nat) (x101 : Int) (x102 : Int) (lo500 : List IV) (lo502 : List IV) (again : St → Res) (k : Out → St → Res) : rnd (E_copsekeep_Tree_Nodes N) (subC c_copsekeep_Tree_Nodes [1, 1, 1, 1, 1, 0, 1, 0, 0])
    ⟨[(4, .zs), (11, (.row 502 0 n11)), (100, (.row 500 0 n100)), (101, (.int .i64 x101)), (102, (.int .i64 x102))], [(500, (some (.row true 63 true [.bool, (.int .i64), (.int .i64), (.int .i64), (.int .i64), (.int .i64)] lo500))), (502, (some (.row true 60 false [(.int .u64)] lo502)))]⟩
    (kLoop again ⟨[4, 11, 100, 101, 102], [500, 502], [⟨(.tmp 11), 502, 60, false, [(.int .u64)]⟩]⟩ k) =
  (cond (decide (x102 < x101))
  (cond (decide (0 ≤ x102) && decide (x102 < ic (n100 - 0)))
   (cond (decide ((n11 + List.length (List.drop 0 (List.take 1 [IV.int (packW (IV.toBool (IV.cell (List.getD lo500 (0 + Int.toNat x102) default) 0)) (IV.toInt (IV.cell (List.getD lo500 (0 + Int.toNat x102) default) 1)) (IV.toInt (IV.cell (List.getD lo500 (0 + Int.toNat x102) default) 2)) (IV.toInt (IV.cell (List.getD lo500 (0 + Int.toNat x102) default) 3)) (IV.toInt (IV.cell (List.getD lo500 (0 + Int.toNat x102) default) 4)) (IV.toInt (IV.cell (List.getD lo500 (0 + Int.toNat x102) default) 5)))]))) * TI.bytes (Env.tyd (E_copsekeep_Tree_Nodes N) 60) ≤ bytesMax))
    (again ⟨[(4, .zs), (11, (.row 502 0 (n11 + List.length (List.drop 0 (List.take 1 [IV.int (packW (IV.toBool (IV.cell (List.getD lo500 (0 + Int.toNat x102) default) 0)) (IV.toInt (IV.cell (List.getD lo500 (0 + Int.toNat x102) default) 1)) (IV.toInt (IV.cell (List.getD lo500 (0 + Int.toNat x102) default) 2)) (IV.toInt (IV.cell (List.getD lo500 (0 + Int.toNat x102) default) 3)) (IV.toInt (IV.cell (List.getD lo500 (0 + Int.toNat x102) default) 4)) (IV.toInt (IV.cell (List.getD lo500 (0 + Int.toNat x102) default) 5)))]))))), (100, (.row 500 0 n100)), (101, (.int .i64 x101)), (102, (.int .i64 (IntKind.wrap IntKind.i64 (x102 + 1))))], [(500, (some (.row true 63 true [.bool, (.int .i64), (.int .i64), (.int .i64), (.int .i64), (.int .i64)] lo500))), (502, (some (.row true 60 false [(.int .u64)] (List.take n11 lo502 ++ List.drop 0 (List.take 1 [IV.int (packW (IV.toBool (IV.cell (List.getD lo500 (0 + Int.toNat x102) default) 0)) (IV.toInt (IV.cell (List.getD lo500 (0 + Int.toNat x102) default) 1)) (IV.toInt (IV.cell (List.getD lo500 (0 + Int.toNat x102) default) 2)) (IV.toInt (IV.cell (List.getD lo500 (0 + Int.toNat x102) default) 3)) (IV.toInt (IV.cell (List.getD lo500 (0 + Int.toNat x102) default) 4)) (IV.toInt (IV.cell (List.getD lo500 (0 + Int.toNat x102) default) 5)))])))))]⟩)
    none)
   none)
  (k (.exit 2) ⟨[(4, .zs), (11, (.row 502 0 n11)), (100, (.row 500 0 n100)), (101, (.int .i64 x101)), (102, (.int .i64 x102))], [(500, (some (.row true 63 true [.bool, (.int .i64), (.int .i64), (.int .i64), (.int .i64), (.int .i64)] lo500))), (502, (some (.row true 60 false [(.int .u64)] lo502)))]⟩)) := by kernel_rfl

theorem ex_copsekeep_Tree_Nodes_2_1 (N : Nat) (n11 : Nat) (n100 : Nat) (x101 : Int) (x102 : Int) (lo500 : List IV) (lo502 : List IV) : (kBlock 2 (kSq (E_copsekeep_Tree_Nodes N) (subC c_copsekeep_Tree_Nodes [1, 1, 1, 1, 1, 1]) (outT (E_copsekeep_Tree_Nodes N) none [(ResultVar.tmp 4)] [[(.list false [(.int .u64)])]]))) (.exit 2)
    ⟨[(4, .zs), (11, (.row 502 0 n11)), (100, (.row 500 0 n100)), (101, (.int .i64 x101)), (102, (.int .i64 x102))], [(500, (some (.row true 63 true [.bool, (.int .i64), (.int .i64), (.int .i64), (.int .i64), (.int .i64)] lo500))), (502, (some (.row true 60 false [(.int .u64)] lo502)))]⟩ =
  (some ((.list false [(.int .u64)] (List.drop 0 (List.take n11 lo502))), [])) := by kernel_rfl

end Go.FM

/-
  copsekeep's FUNCTIONS COME TO WHAT IS SAID (2): a tree's nodes.
-/
namespace Go.FM
open Go Go.Proofs

/-- What is so after i partings. -/
structure Ns.At (i : Nat) (s : Ns) : Prop where
  nl : s.nodes.length = 2 * i + 1
  ll : s.leaves.length = i + 1
  lt : ∀ x ∈ s.leaves, 0 ≤ x.toInt ∧ x.toInt < (2 * i + 1 : Nat)

theorem nsK_in {part : List IV} {i : Nat} {s : Ns} (h : s.At i) (hi : i ≤ 100) : 0 ≤ nsK part i s ∧ nsK part i s < ((i + 1 : Nat) : Int) ∧ withinM 0 (ic s.leaves.length - 1) = ((i + 1 : Nat) : Int) := by
  have e : ic s.leaves.length = ((i + 1 : Nat) : Int) := by rw [h.ll]
  obtain ⟨m, a, b⟩ := within_in (n := (part.getD i default).toInt) (lo := 0) (hi := ic s.leaves.length - 1) (by rw [e]; omega) (by omega) (by rw [e]; omega)
  unfold nsK
  rw [e] at a b m ⊢
  exact ⟨a, by omega, by rw [m]; omega⟩
theorem nsAt_in {part : List IV} {i : Nat} {s : Ns} (h : s.At i) (hi : i ≤ 100) : 0 ≤ nsAt part i s ∧ nsAt part i s < (2 * i + 1 : Nat) := by
  obtain ⟨k0, k1, _⟩ := nsK_in (part := part) h hi
  have hk : (nsK part i s).toNat < s.leaves.length := by rw [h.ll]; omega
  have e : s.leaves.getD (nsK part i s).toNat default = s.leaves[(nsK part i s).toNat] := by simp [hk]
  unfold nsAt
  rw [e]
  exact h.lt _ (List.getElem_mem hk)
theorem Ns.At.step {part byl atl val : List IV} {dim : Int} {i : Nat} {s : Ns} (h : s.At i) (hi : i ≤ 100) : (nsStep part byl atl val dim i s).At (i + 1) := by
  obtain ⟨k0, k1, _⟩ := nsK_in (part := part) h hi
  refine ⟨?_, ?_, ?_⟩
  · simp only [nsStep, List.length_append, List.length_set, List.length_cons, List.length_nil, h.nl]
    omega
  · simp only [nsStep, List.length_append, List.length_take, List.length_drop, List.length_cons, List.length_nil, h.ll]
    omega
  · intro x hx
    simp only [nsStep, List.mem_append] at hx
    rcases hx with (hx | hx) | hx
    · have := h.lt x (List.mem_of_mem_take hx)
      omega
    · have := h.lt x (List.mem_of_mem_drop hx)
      omega
    · simp only [List.mem_cons, List.not_mem_nil, or_false] at hx
      rcases hx with rfl | rfl
      · simp only [IV.toInt, ic, h.nl]; omega
      · simp only [IV.toInt, ic, h.nl]; omega

abbrev kN : List Kd := [.bool, (.int .i64), (.int .i64), (.int .i64), (.int .i64), (.int .i64)]
abbrev kpN : KP := ⟨[1, 2, 4, 5, 6, 7], [2, 500, 501], [⟨(.tmp 5), 500, 63, true, [.bool, (.int .i64), (.int .i64), (.int .i64), (.int .i64), (.int .i64)]⟩, ⟨(.tmp 6), 501, 3, false, [(.int .i64)]⟩]⟩
abbrev stN (cl : Int) (part byl atl val : List IV) (dim : Int) (s : Ns) (i : Int) : St :=
  ⟨[(1, (.int .i64 dim)), (2, (.ptr 2 0 0)), (4, .zs), (5, (.row 500 0 s.nodes.length)), (6, (.row 501 0 s.leaves.length)), (7, (.int .i64 i))], [(2, (some (.box [(.int .i64 cl), (.list false [(.int .i64)] part), (.list false [(.int .i64)] byl), (.list false [(.int .i64)] atl), (.list false [(.int .i64)] val)]))), (500, (some (.row true 63 true kN s.nodes))), (501, (some (.row true 3 false [(.int .i64)] s.leaves)))]⟩

theorem node_bytes (N : Nat) : TI.bytes (Env.tyd (E_copsekeep_Tree_Nodes N) 63) = 48 := by rfl
theorem int_bytes (N : Nat) : TI.bytes (Env.tyd (E_copsekeep_Tree_Nodes N) 3) = 8 := by rfl
theorem put6 (x : IV) (a b c d e f : IV) : putIV true kN x 0 [a, b, c, d, e, f] = .agg [a, b, c, d, e, f] := rfl

set_option maxHeartbeats 4000000 in
theorem nodes_round (N : Nat) (cl : Int) (part byl atl val : List IV) (dim : Int) (h1 : 1 ≤ dim) (h4 : dim ≤ 4) (s : Ns) (i : Nat) (hs : s.At i) (hi : i < part.length) (h7 : i < 7) (again : St → Res) (k : Out → St → Res) :
    rnd (E_copsekeep_Tree_Nodes N) (subC c_copsekeep_Tree_Nodes [1, 1, 1, 0, 1, 0, 0]) (stN cl part byl atl val dim s (i : Int)) (kLoop again kpN k) = again (stN cl part byl atl val dim (nsStep part byl atl val dim i s) ((i + 1 : Nat) : Int)) := by
  refine (st_copsekeep_Tree_Nodes_1 N dim s.nodes.length s.leaves.length i cl part byl atl val s.nodes s.leaves again k).trans ?_
  obtain ⟨k0, k1, km⟩ := nsK_in (part := part) hs (by omega)
  obtain ⟨a0, a1⟩ := nsAt_in (part := part) hs (by omega)
  obtain ⟨dm, _, _⟩ := within_in (n := 0) (lo := 0) (hi := dim - 1) (by omega) (by omega) (by omega)
  have eL : ic (s.leaves.length - 0) = ic s.leaves.length := rfl
  have eN : ic (s.nodes.length - 0) = ic s.nodes.length := rfl
  have hL : ic s.leaves.length = ((i + 1 : Nat) : Int) := by rw [hs.ll]
  have hN : ic s.nodes.length = ((2 * i + 1 : Nat) : Int) := by rw [hs.nl]
  have w1 : IntKind.wrap IntKind.i64 (ic s.leaves.length - 1) = ic s.leaves.length - 1 := wrap_id (by rw [hL]; omega) (by rw [hL]; omega)
  have w2 : IntKind.wrap IntKind.i64 (dim - 1) = dim - 1 := wrap_id (by omega) (by omega)
  have w3 : IntKind.wrap IntKind.i64 (2 * (i : Int)) = 2 * (i : Int) := wrap_id (by omega) (by omega)
  have w4 : IntKind.wrap IntKind.i64 (2 * (i : Int) + 1) = 2 * (i : Int) + 1 := wrap_id (by omega) (by omega)
  have w5 : IntKind.wrap IntKind.i64 (2 * (i : Int) + 2) = 2 * (i : Int) + 2 := wrap_id (by omega) (by omega)
  have w6 : IntKind.wrap IntKind.i64 (ic s.nodes.length + 1) = ic s.nodes.length + 1 := wrap_id (by rw [hN]; omega) (by rw [hN]; omega)
  rw [eL, eN, w1, w2, w3, w4, w5, w6, Int.toNat_natCast]
  have eK : withinZ (IV.toInt (List.getD part i default)) 0 (ic s.leaves.length - 1) = nsK part i s := rfl
  rw [eK]
  have w7 : IntKind.wrap IntKind.i64 (nsK part i s + 1) = nsK part i s + 1 := wrap_id (by omega) (by omega)
  rw [w7]
  have e0 : ∀ n : Nat, 0 + n = n := Nat.zero_add
  simp only [e0]
  have eA : IV.toInt (List.getD s.leaves (nsK part i s).toNat default) = nsAt part i s := rfl
  rw [eA, node_bytes, int_bytes]
  obtain ⟨q, hq⟩ : ∃ q : Nat, nsK part i s = q := ⟨(nsK part i s).toNat, by omega⟩
  have eq1 : (nsK part i s + 1).toNat = q + 1 := by omega
  have eq0 : (nsK part i s).toNat = q := by omega
  have hq1 : q < i + 1 := by omega
  have lt2 : ∀ x y : IV, (List.drop 0 (List.take 2 [x, y])) = [x, y] := fun _ _ => rfl
  have lk : List.drop 0 (List.take q s.leaves) = List.take q s.leaves := List.drop_zero
  have lk2 : List.drop (q + 1) (List.take (s.leaves.length - 0) s.leaves) = List.drop (q + 1) s.leaves := by rw [Nat.sub_zero, List.take_length]
  rw [eq1, eq0, lt2, lt2, lk, lk2]
  have zA : (List.take q s.leaves).length = q := by rw [List.length_take, hs.ll]; omega
  have zB : (List.drop (q + 1) s.leaves).length = i - q := by rw [List.length_drop, hs.ll]; omega
  rw [zA, zB]
  simp only [List.length_cons, List.length_nil]
  rw [decide_eq_true (show (i : Int) < ic part.length by simp only [ic]; omega), decide_eq_true (show (i : Int) < 7 by omega), decide_eq_true (show 0 ≤ (i : Int) by omega), km, decide_eq_false (show ¬ ((i + 1 : Nat) : Int) = 0 by omega),
    decide_eq_true k0, decide_eq_true (show nsK part i s < ic s.leaves.length by rw [hL]; exact k1), dm, decide_eq_false (show ¬ (dim - 1 - 0 + 1 = 0) by omega), decide_eq_true a0, decide_eq_true (show nsAt part i s < ic s.nodes.length by rw [hN]; exact a1),
    decide_eq_true (show 0 ≤ 2 * (i : Int) + 1 by omega), decide_eq_true (show 0 ≤ 2 * (i : Int) + 2 by omega), decide_eq_true (show (s.nodes.length + (0 + 1 + 1)) * 48 ≤ bytesMax by rw [hs.nl]; unfold bytesMax; omega),
    decide_eq_true (show nsK part i s ≤ ic s.leaves.length by rw [hL]; omega), decide_eq_true (show q * 8 ≤ bytesMax by unfold bytesMax; omega), decide_eq_true (show 0 ≤ nsK part i s + 1 by omega), decide_eq_true (show nsK part i s + 1 ≤ ic s.leaves.length by rw [hL]; omega),
    decide_eq_true (show (q + (i - q)) * 8 ≤ bytesMax by unfold bytesMax; omega), decide_eq_true (show (q + (i - q) + (0 + 1 + 1)) * 8 ≤ bytesMax by unfold bytesMax; omega)]
  simp only [Bool.and_true, condT, condF]
  have g1 : (nsStep part byl atl val dim i s).nodes.length = s.nodes.length + (0 + 1 + 1) := by rw [(hs.step (by omega)).nl, hs.nl]; omega
  have g2 : (nsStep part byl atl val dim i s).leaves.length = q + (i - q) + (0 + 1 + 1) := by rw [(hs.step (by omega)).ll]; omega
  have g3 : (nsStep part byl atl val dim i s).nodes = List.take s.nodes.length (List.set s.nodes (nsAt part i s).toNat (putIV true kN (List.getD s.nodes (nsAt part i s).toNat default) 0 [IV.bool false, IV.int 0, IV.int (withinZ (pickZ byl (i : Int)) 0 (dim - 1)), IV.int (withinZ (pickZ atl (i : Int)) 0 9), IV.int (ic s.nodes.length), IV.int (ic s.nodes.length + 1)])) ++
      [IV.agg [IV.bool true, IV.int (withinZ (pickZ val (2 * (i : Int) + 1)) (-3000) 3000), IV.int 0, IV.int 0, IV.int 0, IV.int 0], IV.agg [IV.bool true, IV.int (withinZ (pickZ val (2 * (i : Int) + 2)) (-3000) 3000), IV.int 0, IV.int 0, IV.int 0, IV.int 0]] := by
    rw [put6, List.take_of_length_le (by rw [List.length_set]; exact Nat.le_refl _)]
    rfl
  have g4 : (nsStep part byl atl val dim i s).leaves = List.take (q + (i - q)) (List.take q (List.take 0 [] ++ List.take q s.leaves) ++ List.drop (q + 1) s.leaves) ++ [IV.int (ic s.nodes.length), IV.int (ic s.nodes.length + 1)] := by
    rw [List.take_zero, List.nil_append, List.take_take, Nat.min_self, List.take_of_length_le (by rw [List.length_append, zA, zB]; exact Nat.le_refl _)]
    show List.take (nsK part i s).toNat s.leaves ++ List.drop ((nsK part i s).toNat + 1) s.leaves ++ _ = _
    rw [eq0]
  rw [show stN cl part byl atl val dim (nsStep part byl atl val dim i s) ((i + 1 : Nat) : Int) = ⟨[(1, (.int .i64 dim)), (2, (.ptr 2 0 0)), (4, .zs), (5, (.row 500 0 (nsStep part byl atl val dim i s).nodes.length)), (6, (.row 501 0 (nsStep part byl atl val dim i s).leaves.length)), (7, (.int .i64 ((i + 1 : Nat) : Int)))], [(2, (some (.box [(.int .i64 cl), (.list false [(.int .i64)] part), (.list false [(.int .i64)] byl), (.list false [(.int .i64)] atl), (.list false [(.int .i64)] val)]))), (500, (some (.row true 63 true kN (nsStep part byl atl val dim i s).nodes))), (501, (some (.row true 3 false [(.int .i64)] (nsStep part byl atl val dim i s).leaves)))]⟩ from rfl, g1, g2, g3, g4, succ_w (by omega)]

theorem nodes_run (N : Nat) (cl : Int) (part byl atl val : List IV) (dim : Int) (h1 : 1 ≤ dim) (h4 : dim ≤ 4) (K : Out → St → Res) : ∀ (d i n : Nat) (s : Ns), i + d = min part.length 7 → d < n → s.At i →
    (∃ j, lpE (E_copsekeep_Tree_Nodes N) (subC c_copsekeep_Tree_Nodes [1, 1, 1, 0, 1, 0, 0]) kpN n (stN cl part byl atl val dim s (i : Int)) K = K (.exit 0) (stN cl part byl atl val dim (nsRun part byl atl val dim d i s) j)) ∧ (nsRun part byl atl val dim d i s).At (i + d)
  | 0, i, n + 1, s, hd, hn, hs => by
    refine ⟨⟨(i : Int), ?_⟩, hs⟩
    rw [lpE_succ]
    refine (st_copsekeep_Tree_Nodes_1 N dim s.nodes.length s.leaves.length i cl part byl atl val s.nodes s.leaves _ _).trans ?_
    by_cases hp : i < part.length
    · rw [decide_eq_true (show (i : Int) < ic part.length by simp only [ic]; omega), condT, decide_eq_false (show ¬ (i : Int) < 7 by omega), condF]
      rfl
    · rw [decide_eq_false (show ¬ (i : Int) < ic part.length by simp only [ic]; omega), condF]
      rfl
  | d + 1, i, n + 1, s, hd, hn, hs => by
    obtain ⟨⟨j, ih⟩, ih2⟩ := nodes_run N cl part byl atl val dim h1 h4 K d (i + 1) n (nsStep part byl atl val dim i s) (by omega) (by omega) (hs.step (by omega))
    refine ⟨⟨j, ?_⟩, by rw [show i + (d + 1) = i + 1 + d by omega]; exact ih2⟩
    rw [lpE_succ, nodes_round N cl part byl atl val dim h1 h4 s i hs (by omega) (by omega)]
    exact ih
  | _, _, 0, _, _, h, _ => by omega

theorem u64_bytes (N : Nat) : TI.bytes (Env.tyd (E_copsekeep_Tree_Nodes N) 60) = 8 := by rfl
abbrev kpO : KP := ⟨[4, 11, 100, 101, 102], [500, 502], [⟨(.tmp 11), 502, 60, false, [(.int .u64)]⟩]⟩
theorem out_run (N : Nat) (L : List IV) (hL : L.length ≤ 1000) : ∀ (d i n : Nat) (O : List IV), i + d = L.length → d < n → O.length = i →
    lpE (E_copsekeep_Tree_Nodes N) (subC c_copsekeep_Tree_Nodes [1, 1, 1, 1, 1, 0, 1, 0, 0]) kpO n ⟨[(4, .zs), (11, (.row 502 0 O.length)), (100, (.row 500 0 L.length)), (101, (.int .i64 (ic (L.length - 0)))), (102, (.int .i64 (i : Int)))], [(500, (some (.row true 63 true kN L))), (502, (some (.row true 60 false [(.int .u64)] O)))]⟩
      (kBlock 2 (kSq (E_copsekeep_Tree_Nodes N) (subC c_copsekeep_Tree_Nodes [1, 1, 1, 1, 1, 1]) (outT (E_copsekeep_Tree_Nodes N) none [(ResultVar.tmp 4)] [[(.list false [(.int .u64)])]]))) = some (.list false [.int .u64] (O ++ (L.drop i).map packN), [])
  | 0, i, n + 1, O, hd, hn, hO => by
    rw [lpE_succ]
    refine (st_copsekeep_Tree_Nodes_2 N O.length L.length (ic (L.length - 0)) i L O _ _).trans ?_
    rw [decide_eq_false (show ¬ (i : Int) < ic (L.length - 0) by simp only [ic]; omega), condF]
    refine (ex_copsekeep_Tree_Nodes_2_1 N O.length L.length (ic (L.length - 0)) i L O).trans ?_
    rw [List.drop_zero, List.take_length, List.drop_of_length_le (by omega), List.map_nil, List.append_nil]
  | d + 1, i, n + 1, O, hd, hn, hO => by
    have hi : i < L.length := by omega
    rw [lpE_succ]
    refine (st_copsekeep_Tree_Nodes_2 N O.length L.length (ic (L.length - 0)) i L O _ _).trans ?_
    have ih := out_run N L hL d (i + 1) n (O ++ [packN L[i]]) (by omega) (by omega) (by simp [hO])
    have l1 : ∀ x : IV, List.drop 0 (List.take 1 [x]) = [x] := fun _ => rfl
    have eg : List.getD L (0 + Int.toNat (i : Int)) default = L[i] := by rw [Nat.zero_add, Int.toNat_natCast]; simp [hi]
    rw [decide_eq_true (show (i : Int) < ic (L.length - 0) by simp only [ic]; omega), decide_eq_true (show 0 ≤ (i : Int) by omega), Bool.and_true, condT, condT, eg, l1, u64_bytes, List.length_singleton, decide_eq_true (show (O.length + 1) * 8 ≤ bytesMax by rw [hO]; unfold bytesMax; omega), condT, List.take_length, succ_w (by omega)]
    rw [List.drop_eq_getElem_cons hi, List.map_cons]
    rw [List.length_append, List.length_singleton, List.append_assoc] at ih
    exact ih
  | _, _, 0, _, _, h, _ => by omega

set_option maxRecDepth 100000 in
theorem snd_copsekeep_Tree_Nodes : SndR PR B0 22 S_copsekeep_Tree_Nodes := by
  refine snd_mk [(18, S_copsebook_Within), (21, S_copsekeep_pick), (20, S_copseref6_Pack)] [(4, kpN), (14, kpO)] S_copsekeep_Tree_Nodes [[.list false [.int .u64]]] Try.func22 h_copsekeep_Tree_Nodes
    ⟨snd_copsebook_Within, snd_copsekeep_pick, snd_copseref6_Pack, trivial⟩ ?_
  intro vs r hwf h
  unfold S_copsekeep_Tree_Nodes at h
  split at h
  · rename_i cl part byl atl val dim
    cases hc : (decide (1 ≤ dim) && decide (dim ≤ 4)) with
    | false => rw [hc] at h; simp [R.get] at h
    | true =>
      rw [hc, R.get_br, condT, R.get_ok] at h
      simp only [Bool.and_eq_true, decide_eq_true_eq] at hc
      refine ⟨30, ?_⟩
      rw [← h]
      refine (nf_copsekeep_Tree_Nodes 30 cl part byl atl val dim).trans ?_
      have h0 : (⟨[leafN (withinZ (pickZ val 0) (-3000) 3000)], [.int 0]⟩ : Ns).At 0 := ⟨rfl, rfl, fun x hx => by
        rw [List.mem_singleton] at hx
        subst hx
        exact ⟨by decide, by decide⟩⟩
      obtain ⟨⟨j, run⟩, hat⟩ := nodes_run 30 cl part byl atl val dim hc.1 hc.2 (kBlock 0 (kSq (E_copsekeep_Tree_Nodes 30) (subC c_copsekeep_Tree_Nodes [1, 1, 1, 1]) (outT (E_copsekeep_Tree_Nodes 30) none [(ResultVar.tmp 4)] [[(.list false [(.int .u64)])]]))) (min part.length 7) 0 30 _ (by omega) (by omega) h0
      refine run.trans ?_
      have e : nsRun part byl atl val dim (min part.length 7) 0 ⟨[leafN (withinZ (pickZ val 0) (-3000) 3000)], [.int 0]⟩ = nsTree part byl atl val dim := rfl
      rw [e] at hat ⊢
      have hn := hat.nl
      refine (ex_copsekeep_Tree_Nodes_1_1 30 dim (nsTree part byl atl val dim).nodes.length (nsTree part byl atl val dim).leaves.length j cl part byl atl val (nsTree part byl atl val dim).nodes (nsTree part byl atl val dim).leaves).trans ?_
      have := out_run 30 (nsTree part byl atl val dim).nodes (by omega) (nsTree part byl atl val dim).nodes.length 0 30 [] (by omega) (by omega) rfl
      rw [List.drop_zero, List.nil_append] at this
      exact this
  · simp [R.get] at h

end Go.FM

/-
  NORMAL FORMS: what the functions' runs come to (written by a program of this claim's own, checked by the kernel).
-/
namespace Go.FM
open Go Go.Proofs

/-! ### (copse/copsekeep.Forest).Model -/
def E_copsekeep_Forest_Model (N : Nat) : Env := mkE [(18, S_copsebook_Within), (22, S_copsekeep_Tree_Nodes), (21, S_copsekeep_pick)] [(3, ⟨[1, 2, 3, 14, 15], [1, 2, 3], []⟩), (8, ⟨[1, 2, 3, 5], [1, 2, 3, 500], [⟨.cell 3 5, 500, 66, true, [.int .i64, .list false [.int .u64]]⟩]⟩)] 63 N

theorem nf_copsekeep_Forest_Model (N : Nat) (f_Dim : Int) (f_Classes : Int) (f_Bias : List IV) (f_Trees : List IV) : evFun (E_copsekeep_Forest_Model N) c_copsekeep_Forest_Model [.cell 2 25] [[.int .i64, .int .i64, .int .i64, .int .i64, .int .i64, .list true [.int .i64, .list false [.int .u64]]]] [(.agg [(.int .i64 f_Dim), (.int .i64 f_Classes), (.list false [.int .i64] f_Bias), (.list true [.int .i64, .list false [.int .i64], .list false [.int .i64], .list false [.int .i64], .list false [.int .i64]] f_Trees)])] =
  (lpE (E_copsekeep_Forest_Model N) (subC c_copsekeep_Forest_Model [1, 1, 0, 1, 0, 0]) ⟨[1, 2, 3, 14, 15], [1, 2, 3], []⟩ N ⟨[(1, (.ptr 1 0 0)), (2, (.ptr 2 0 0)), (3, (.ptr 3 0 0)), (14, (.int .i64 (withinZ f_Classes 1 3))), (15, (.int .i64 0))], [(1, (some (.box [(.int .i64 f_Dim), (.int .i64 f_Classes), (.list false [(.int .i64)] f_Bias), (.list true [(.int .i64), (.list false [(.int .i64)]), (.list false [(.int .i64)]), (.list false [(.int .i64)]), (.list false [(.int .i64)])] f_Trees)]))), (2, (some (.box [(.int .i64 0), (.int .i64 0), (.int .i64 0), (.int .i64 0), (.int .i64 0), .zs]))), (3, (some (.box [(.int .i64 (withinZ f_Dim 1 3)), (.int .i64 (withinZ f_Classes 1 3)), (.int .i64 0), (.int .i64 0), (.int .i64 0), .zs])))]⟩ (kBlock 0 (kSq (E_copsekeep_Forest_Model N) (subC c_copsekeep_Forest_Model [1, 1, 1]) (outT (E_copsekeep_Forest_Model N) none [(ResultVar.cell 2 25)] [[(.int .i64), (.int .i64), (.int .i64), (.int .i64), (.int .i64), (.list true [(.int .i64), (.list false [(.int .u64)])])]])))) := by kernel_rfl

theorem st_copsekeep_Forest_Model_1 (N : Nat) (x14 : Int) (x15 : Int) (xo1_0 : Int) (xo1_1 : Int) (lo1_2 : List IV) (lo1_3 : List IV) (xo2_0 : Int) (xo2_1 : Int) (xo2_2 : Int) (xo2_3 : Int) (xo2_4 : Int) (xo3_0 : Int) (xo3_1 : Int) (xo3_2 : Int) (xo3_3 : Int) (xo3_4 : Int) (again : St → Res) (k : Out → St → Res) : rnd (E_copsekeep_Forest_Model N) (subC c_copsekeep_Forest_Model [1, 1, 0, 1, 0, 0])
    ⟨[(1, (.ptr 1 0 0)), (2, (.ptr 2 0 0)), (3, (.ptr 3 0 0)), (14, (.int .i64 x14)), (15, (.int .i64 x15))], [(1, (some (.box [(.int .i64 xo1_0), (.int .i64 xo1_1), (.list false [(.int .i64)] lo1_2), (.list true [(.int .i64), (.list false [(.int .i64)]), (.list false [(.int .i64)]), (.list false [(.int .i64)]), (.list false [(.int .i64)])] lo1_3)]))), (2, (some (.box [(.int .i64 xo2_0), (.int .i64 xo2_1), (.int .i64 xo2_2), (.int .i64 xo2_3), (.int .i64 xo2_4), .zs]))), (3, (some (.box [(.int .i64 xo3_0), (.int .i64 xo3_1), (.int .i64 xo3_2), (.int .i64 xo3_3), (.int .i64 xo3_4), .zs])))]⟩
    (kLoop again ⟨[1, 2, 3, 14, 15], [1, 2, 3], []⟩ k) =
  (cond (decide (x15 < x14))
  (cond (decide (0 ≤ x15))
   (cond (decide (x15 = ic 0))
    (again ⟨[(1, (.ptr 1 0 0)), (2, (.ptr 2 0 0)), (3, (.ptr 3 0 0)), (14, (.int .i64 x14)), (15, (.int .i64 (IntKind.wrap IntKind.i64 (x15 + 1))))], [(1, (some (.box [(.int .i64 xo1_0), (.int .i64 xo1_1), (.list false [(.int .i64)] lo1_2), (.list true [(.int .i64), (.list false [(.int .i64)]), (.list false [(.int .i64)]), (.list false [(.int .i64)]), (.list false [(.int .i64)])] lo1_3)]))), (2, (some (.box [(.int .i64 xo2_0), (.int .i64 xo2_1), (.int .i64 xo2_2), (.int .i64 xo2_3), (.int .i64 xo2_4), .zs]))), (3, (some (.box [(.int .i64 xo3_0), (.int .i64 xo3_1), (.int .i64 (withinZ (pickZ lo1_2 x15) (-500) 500)), (.int .i64 xo3_3), (.int .i64 xo3_4), .zs])))]⟩)
    (cond (decide (x15 = ic 1))
     (again ⟨[(1, (.ptr 1 0 0)), (2, (.ptr 2 0 0)), (3, (.ptr 3 0 0)), (14, (.int .i64 x14)), (15, (.int .i64 (IntKind.wrap IntKind.i64 (x15 + 1))))], [(1, (some (.box [(.int .i64 xo1_0), (.int .i64 xo1_1), (.list false [(.int .i64)] lo1_2), (.list true [(.int .i64), (.list false [(.int .i64)]), (.list false [(.int .i64)]), (.list false [(.int .i64)]), (.list false [(.int .i64)])] lo1_3)]))), (2, (some (.box [(.int .i64 xo2_0), (.int .i64 xo2_1), (.int .i64 xo2_2), (.int .i64 xo2_3), (.int .i64 xo2_4), .zs]))), (3, (some (.box [(.int .i64 xo3_0), (.int .i64 xo3_1), (.int .i64 xo3_2), (.int .i64 (withinZ (pickZ lo1_2 x15) (-500) 500)), (.int .i64 xo3_4), .zs])))]⟩)
     (cond (decide (x15 = ic 2))
      (again ⟨[(1, (.ptr 1 0 0)), (2, (.ptr 2 0 0)), (3, (.ptr 3 0 0)), (14, (.int .i64 x14)), (15, (.int .i64 (IntKind.wrap IntKind.i64 (x15 + 1))))], [(1, (some (.box [(.int .i64 xo1_0), (.int .i64 xo1_1), (.list false [(.int .i64)] lo1_2), (.list true [(.int .i64), (.list false [(.int .i64)]), (.list false [(.int .i64)]), (.list false [(.int .i64)]), (.list false [(.int .i64)])] lo1_3)]))), (2, (some (.box [(.int .i64 xo2_0), (.int .i64 xo2_1), (.int .i64 xo2_2), (.int .i64 xo2_3), (.int .i64 xo2_4), .zs]))), (3, (some (.box [(.int .i64 xo3_0), (.int .i64 xo3_1), (.int .i64 xo3_2), (.int .i64 xo3_3), (.int .i64 (withinZ (pickZ lo1_2 x15) (-500) 500)), .zs])))]⟩)
      none)))
   none)
  (k (.exit 0) ⟨[(1, (.ptr 1 0 0)), (2, (.ptr 2 0 0)), (3, (.ptr 3 0 0)), (14, (.int .i64 x14)), (15, (.int .i64 x15))], [(1, (some (.box [(.int .i64 xo1_0), (.int .i64 xo1_1), (.list false [(.int .i64)] lo1_2), (.list true [(.int .i64), (.list false [(.int .i64)]), (.list false [(.int .i64)]), (.list false [(.int .i64)]), (.list false [(.int .i64)])] lo1_3)]))), (2, (some (.box [(.int .i64 xo2_0), (.int .i64 xo2_1), (.int .i64 xo2_2), (.int .i64 xo2_3), (.int .i64 xo2_4), .zs]))), (3, (some (.box [(.int .i64 xo3_0), (.int .i64 xo3_1), (.int .i64 xo3_2), (.int .i64 xo3_3), (.int .i64 xo3_4), .zs])))]⟩)) := by kernel_rfl

theorem ex_copsekeep_Forest_Model_1_1 (N : Nat) (x14 : Int) (x15 : Int) (xo1_0 : Int) (xo1_1 : Int) (lo1_2 : List IV) (lo1_3 : List IV) (xo2_0 : Int) (xo2_1 : Int) (xo2_2 : Int) (xo2_3 : Int) (xo2_4 : Int) (xo3_0 : Int) (xo3_1 : Int) (xo3_2 : Int) (xo3_3 : Int) (xo3_4 : Int) : (kBlock 0 (kSq (E_copsekeep_Forest_Model N) (subC c_copsekeep_Forest_Model [1, 1, 1]) (outT (E_copsekeep_Forest_Model N) none [(ResultVar.cell 2 25)] [[(.int .i64), (.int .i64), (.int .i64), (.int .i64), (.int .i64), (.list true [(.int .i64), (.list false [(.int .u64)])])]]))) (.exit 0)
    ⟨[(1, (.ptr 1 0 0)), (2, (.ptr 2 0 0)), (3, (.ptr 3 0 0)), (14, (.int .i64 x14)), (15, (.int .i64 x15))], [(1, (some (.box [(.int .i64 xo1_0), (.int .i64 xo1_1), (.list false [(.int .i64)] lo1_2), (.list true [(.int .i64), (.list false [(.int .i64)]), (.list false [(.int .i64)]), (.list false [(.int .i64)]), (.list false [(.int .i64)])] lo1_3)]))), (2, (some (.box [(.int .i64 xo2_0), (.int .i64 xo2_1), (.int .i64 xo2_2), (.int .i64 xo2_3), (.int .i64 xo2_4), .zs]))), (3, (some (.box [(.int .i64 xo3_0), (.int .i64 xo3_1), (.int .i64 xo3_2), (.int .i64 xo3_3), (.int .i64 xo3_4), .zs])))]⟩ =
  (lpE (E_copsekeep_Forest_Model N) (subC c_copsekeep_Forest_Model [1, 1, 1, 0, 1, 0, 0]) ⟨[1, 2, 3, 5], [1, 2, 3, 500], [⟨(.cell 3 5), 500, 66, true, [(.int .i64), (.list false [(.int .u64)])]⟩]⟩ N ⟨[(1, (.ptr 1 0 0)), (2, (.ptr 2 0 0)), (3, (.ptr 3 0 0)), (5, (.int .i64 0))], [(1, (some (.box [(.int .i64 xo1_0), (.int .i64 xo1_1), (.list false [(.int .i64)] lo1_2), (.list true [(.int .i64), (.list false [(.int .i64)]), (.list false [(.int .i64)]), (.list false [(.int .i64)]), (.list false [(.int .i64)])] lo1_3)]))), (2, (some (.box [(.int .i64 xo2_0), (.int .i64 xo2_1), (.int .i64 xo2_2), (.int .i64 xo2_3), (.int .i64 xo2_4), .zs]))), (3, (some (.box [(.int .i64 xo3_0), (.int .i64 xo3_1), (.int .i64 xo3_2), (.int .i64 xo3_3), (.int .i64 xo3_4), (.row 500 0 0)]))), (500, (some (.row true 66 true [(.int .i64), (.list false [(.int .u64)])] [])))]⟩ (kBlock 2 (kSq (E_copsekeep_Forest_Model N) (subC c_copsekeep_Forest_Model [1, 1, 1, 1]) (outT (E_copsekeep_Forest_Model N) none [(ResultVar.cell 2 25)] [[(.int .i64), (.int .i64), (.int .i64), (.int .i64), (.int .i64), (.list true [(.int .i64), (.list false [(.int .u64)])])]])))) := by kernel_rfl

theorem st_copsekeep_Forest_Model_2 (N : Nat) (x5 : Int) (xo1_0 : Int) (xo1_1 : Int) (lo1_2 : List IV) (lo1_3 : List IV) (xo2_0 : Int) (xo2_1 : Int) (xo2_2 : Int) (xo2_3 : Int) (xo2_4 : Int) (xo3_0 : Int) (xo3_1 : Int) (xo3_2 : Int) (xo3_3 : Int) (xo3_4 : Int) (no3_5 : Nat) (lo500 : List IV) (again : St → Res) (k : Out → St → Res) : rnd (E_copsekeep_Forest_Model N) (subC c_copsekeep_Forest_Model [1, 1, 1, 0, 1, 0, 0])
    ⟨[(1, (.ptr 1 0 0)), (2, (.ptr 2 0 0)), (3, (.ptr 3 0 0)), (5, (.int .i64 x5))], [(1, (some (.box [(.int .i64 xo1_0), (.int .i64 xo1_1), (.list false [(.int .i64)] lo1_2), (.list true [(.int .i64), (.list false [(.int .i64)]), (.list false [(.int .i64)]), (.list false [(.int .i64)]), (.list false [(.int .i64)])] lo1_3)]))), (2, (some (.box [(.int .i64 xo2_0), (.int .i64 xo2_1), (.int .i64 xo2_2), (.int .i64 xo2_3), (.int .i64 xo2_4), .zs]))), (3, (some (.box [(.int .i64 xo3_0), (.int .i64 xo3_1), (.int .i64 xo3_2), (.int .i64 xo3_3), (.int .i64 xo3_4), (.row 500 0 no3_5)]))), (500, (some (.row true 66 true [(.int .i64), (.list false [(.int .u64)])] lo500)))]⟩
    (kLoop again ⟨[1, 2, 3, 5], [1, 2, 3, 500], [⟨(.cell 3 5), 500, 66, true, [(.int .i64), (.list false [(.int .u64)])]⟩]⟩ k) =
  (cond (decide (x5 < ic (List.length lo1_3)))
  (cond (decide (x5 < 4))
   (cond (decide (0 ≤ x5) && decide (x5 < ic (List.length lo1_3)))
    (cond (decide (withinM 0 (IntKind.wrap IntKind.i64 (xo3_1 - 1)) = 0))
     none
     (cond (decide (0 ≤ x5) && decide (x5 < ic (List.length lo1_3)))
      (cond (decide (1 ≤ xo3_0) && decide (xo3_0 ≤ 4))
       (cond (decide ((no3_5 + List.length (List.drop 0 (List.take 1 [IV.agg [IV.int (withinZ (IV.toInt (IV.cell (List.getD lo1_3 (Int.toNat x5) default) 0)) 0 (IntKind.wrap IntKind.i64 (xo3_1 - 1))), IV.list (nodesL (IV.toList (IV.cell (List.getD lo1_3 (Int.toNat x5) default) 1)) (IV.toList (IV.cell (List.getD lo1_3 (Int.toNat x5) default) 2)) (IV.toList (IV.cell (List.getD lo1_3 (Int.toNat x5) default) 3)) (IV.toList (IV.cell (List.getD lo1_3 (Int.toNat x5) default) 4)) xo3_0)]]))) * TI.bytes (Env.tyd (E_copsekeep_Forest_Model N) 66) ≤ bytesMax))
        (again ⟨[(1, (.ptr 1 0 0)), (2, (.ptr 2 0 0)), (3, (.ptr 3 0 0)), (5, (.int .i64 (IntKind.wrap IntKind.i64 (x5 + 1))))], [(1, (some (.box [(.int .i64 xo1_0), (.int .i64 xo1_1), (.list false [(.int .i64)] lo1_2), (.list true [(.int .i64), (.list false [(.int .i64)]), (.list false [(.int .i64)]), (.list false [(.int .i64)]), (.list false [(.int .i64)])] lo1_3)]))), (2, (some (.box [(.int .i64 xo2_0), (.int .i64 xo2_1), (.int .i64 xo2_2), (.int .i64 xo2_3), (.int .i64 xo2_4), .zs]))), (3, (some (.box [(.int .i64 xo3_0), (.int .i64 xo3_1), (.int .i64 xo3_2), (.int .i64 xo3_3), (.int .i64 xo3_4), (.row 500 0 (no3_5 + List.length (List.drop 0 (List.take 1 [IV.agg [IV.int (withinZ (IV.toInt (IV.cell (List.getD lo1_3 (Int.toNat x5) default) 0)) 0 (IntKind.wrap IntKind.i64 (xo3_1 - 1))), IV.list (nodesL (IV.toList (IV.cell (List.getD lo1_3 (Int.toNat x5) default) 1)) (IV.toList (IV.cell (List.getD lo1_3 (Int.toNat x5) default) 2)) (IV.toList (IV.cell (List.getD lo1_3 (Int.toNat x5) default) 3)) (IV.toList (IV.cell (List.getD lo1_3 (Int.toNat x5) default) 4)) xo3_0)]]))))]))), (500, (some (.row true 66 true [(.int .i64), (.list false [(.int .u64)])] (List.take no3_5 lo500 ++ List.drop 0 (List.take 1 [IV.agg [IV.int (withinZ (IV.toInt (IV.cell (List.getD lo1_3 (Int.toNat x5) default) 0)) 0 (IntKind.wrap IntKind.i64 (xo3_1 - 1))), IV.list (nodesL (IV.toList (IV.cell (List.getD lo1_3 (Int.toNat x5) default) 1)) (IV.toList (IV.cell (List.getD lo1_3 (Int.toNat x5) default) 2)) (IV.toList (IV.cell (List.getD lo1_3 (Int.toNat x5) default) 3)) (IV.toList (IV.cell (List.getD lo1_3 (Int.toNat x5) default) 4)) xo3_0)]])))))]⟩)
        none)
       none)
      none))
    none)
   (k (.exit 2) ⟨[(1, (.ptr 1 0 0)), (2, (.ptr 2 0 0)), (3, (.ptr 3 0 0)), (5, (.int .i64 x5))], [(1, (some (.box [(.int .i64 xo1_0), (.int .i64 xo1_1), (.list false [(.int .i64)] lo1_2), (.list true [(.int .i64), (.list false [(.int .i64)]), (.list false [(.int .i64)]), (.list false [(.int .i64)]), (.list false [(.int .i64)])] lo1_3)]))), (2, (some (.box [(.int .i64 xo2_0), (.int .i64 xo2_1), (.int .i64 xo2_2), (.int .i64 xo2_3), (.int .i64 xo2_4), .zs]))), (3, (some (.box [(.int .i64 xo3_0), (.int .i64 xo3_1), (.int .i64 xo3_2), (.int .i64 xo3_3), (.int .i64 xo3_4), (.row 500 0 no3_5)]))), (500, (some (.row true 66 true [(.int .i64), (.list false [(.int .u64)])] lo500)))]⟩))
  (k (.exit 2) ⟨[(1, (.ptr 1 0 0)), (2, (.ptr 2 0 0)), (3, (.ptr 3 0 0)), (5, (.int .i64 x5))], [(1, (some (.box [(.int .i64 xo1_0), (.int .i64 xo1_1), (.list false [(.int .i64)] lo1_2), (.list true [(.int .i64), (.list false [(.int .i64)]), (.list false [(.int .i64)]), (.list false [(.int .i64)]), (.list false [(.int .i64)])] lo1_3)]))), (2, (some (.box [(.int .i64 xo2_0), (.int .i64 xo2_1), (.int .i64 xo2_2), (.int .i64 xo2_3), (.int .i64 xo2_4), .zs]))), (3, (some (.box [(.int .i64 xo3_0), (.int .i64 xo3_1), (.int .i64 xo3_2), (.int .i64 xo3_3), (.int .i64 xo3_4), (.row 500 0 no3_5)]))), (500, (some (.row true 66 true [(.int .i64), (.list false [(.int .u64)])] lo500)))]⟩)) := by kernel_rfl

theorem ex_copsekeep_Forest_Model_2_1 (N : Nat) (x5 : Int) (xo1_0 : Int) (xo1_1 : Int) (lo1_2 : List IV) (lo1_3 : List IV) (xo2_0 : Int) (xo2_1 : Int) (xo2_2 : Int) (xo2_3 : Int) (xo2_4 : Int) (xo3_0 : Int) (xo3_1 : Int) (xo3_2 : Int) (xo3_3 : Int) (xo3_4 : Int) (no3_5 : Nat) (lo500 : List IV) : (kBlock 2 (kSq (E_copsekeep_Forest_Model N) (subC c_copsekeep_Forest_Model [1, 1, 1, 1]) (outT (E_copsekeep_Forest_Model N) none [(ResultVar.cell 2 25)] [[(.int .i64), (.int .i64), (.int .i64), (.int .i64), (.int .i64), (.list true [(.int .i64), (.list false [(.int .u64)])])]]))) (.exit 2)
    ⟨[(1, (.ptr 1 0 0)), (2, (.ptr 2 0 0)), (3, (.ptr 3 0 0)), (5, (.int .i64 x5))], [(1, (some (.box [(.int .i64 xo1_0), (.int .i64 xo1_1), (.list false [(.int .i64)] lo1_2), (.list true [(.int .i64), (.list false [(.int .i64)]), (.list false [(.int .i64)]), (.list false [(.int .i64)]), (.list false [(.int .i64)])] lo1_3)]))), (2, (some (.box [(.int .i64 xo2_0), (.int .i64 xo2_1), (.int .i64 xo2_2), (.int .i64 xo2_3), (.int .i64 xo2_4), .zs]))), (3, (some (.box [(.int .i64 xo3_0), (.int .i64 xo3_1), (.int .i64 xo3_2), (.int .i64 xo3_3), (.int .i64 xo3_4), (.row 500 0 no3_5)]))), (500, (some (.row true 66 true [(.int .i64), (.list false [(.int .u64)])] lo500)))]⟩ =
  (some ((.agg [(.int .i64 xo3_0), (.int .i64 xo3_1), (.int .i64 xo3_2), (.int .i64 xo3_3), (.int .i64 xo3_4), (.list true [(.int .i64), (.list false [(.int .u64)])] (List.drop 0 (List.take no3_5 lo500)))]), [])) := by kernel_rfl

end Go.FM

/-
  copsekeep's FUNCTIONS COME TO WHAT IS SAID (3): a model.
-/
namespace Go.FM
open Go Go.Proofs

abbrev kT5 : List Kd := [(.int .i64), (.list false [(.int .i64)]), (.list false [(.int .i64)]), (.list false [(.int .i64)]), (.list false [(.int .i64)])]
def bF (bias : List IV) (j : Int) : Int := withinZ (pickZ bias j) (-500) 500
abbrev boxF (d c : Int) (bias ts : List IV) : Ob := .box [(.int .i64 d), (.int .i64 c), (.list false [(.int .i64)] bias), (.list true kT5 ts)]
abbrev boxZ : Ob := .box [(.int .i64 0), (.int .i64 0), (.int .i64 0), (.int .i64 0), (.int .i64 0), .zs]
abbrev stB (d c : Int) (bias ts : List IV) (D C : Int) (i : Nat) (x : Int) : St :=
  ⟨[(1, (.ptr 1 0 0)), (2, (.ptr 2 0 0)), (3, (.ptr 3 0 0)), (14, (.int .i64 C)), (15, (.int .i64 x))], [(1, (some (boxF d c bias ts))), (2, (some boxZ)), (3, (some (.box [(.int .i64 D), (.int .i64 C), (.int .i64 (cond (Nat.blt 0 i) (bF bias 0) 0)), (.int .i64 (cond (Nat.blt 1 i) (bF bias 1) 0)), (.int .i64 (cond (Nat.blt 2 i) (bF bias 2) 0)), .zs])))]⟩
theorem bias_run (N : Nat) (d c : Int) (bias ts : List IV) (D : Int) (C : Nat) (hC : C ≤ 3) (K : Out → St → Res) : ∀ (m i n : Nat), i + m = C → m < n →
    lpE (E_copsekeep_Forest_Model N) (subC c_copsekeep_Forest_Model [1, 1, 0, 1, 0, 0]) ⟨[1, 2, 3, 14, 15], [1, 2, 3], []⟩ n (stB d c bias ts D C i (i : Int)) K = K (.exit 0) (stB d c bias ts D C C (C : Int))
  | 0, i, n + 1, hd, hn => by
    have hi : i = C := by omega
    subst hi
    rw [lpE_succ]
    refine (st_copsekeep_Forest_Model_1 N i i d c bias ts 0 0 0 0 0 D i (cond (Nat.blt 0 i) (bF bias 0) 0) (cond (Nat.blt 1 i) (bF bias 1) 0) (cond (Nat.blt 2 i) (bF bias 2) 0) _ _).trans ?_
    rw [decide_eq_false (show ¬ (i : Int) < (i : Int) by omega), condF]
  | m + 1, i, n + 1, hd, hn => by
    rw [lpE_succ]
    refine (st_copsekeep_Forest_Model_1 N C i d c bias ts 0 0 0 0 0 D C (cond (Nat.blt 0 i) (bF bias 0) 0) (cond (Nat.blt 1 i) (bF bias 1) 0) (cond (Nat.blt 2 i) (bF bias 2) 0) _ _).trans ?_
    have ih := bias_run N d c bias ts D C hC K m (i + 1) n (by omega) (by omega)
    rw [decide_eq_true (show (i : Int) < (C : Int) by omega), condT, decide_eq_true (show 0 ≤ (i : Int) by omega), condT, succ_w (by omega)]
    have hi4 : i = 0 ∨ i = 1 ∨ i = 2 := by omega
    rcases hi4 with rfl | rfl | rfl
    · rw [show decide (((0 : Nat) : Int) = ic 0) = true from rfl, condT]
      exact ih
    · rw [show decide (((1 : Nat) : Int) = ic 0) = false from rfl, show decide (((1 : Nat) : Int) = ic 1) = true from rfl, condF, condT]
      exact ih
    · rw [show decide (((2 : Nat) : Int) = ic 0) = false from rfl, show decide (((2 : Nat) : Int) = ic 1) = false from rfl, show decide (((2 : Nat) : Int) = ic 2) = true from rfl, condF, condF, condT]
      exact ih
  | _, _, 0, _, h => by omega

abbrev kMT : List Kd := [(.int .i64), (.list false [(.int .u64)])]
abbrev kpM : KP := ⟨[1, 2, 3, 5], [1, 2, 3, 500], [⟨(.cell 3 5), 500, 66, true, [(.int .i64), (.list false [(.int .u64)])]⟩]⟩
abbrev stM (d c : Int) (bias ts : List IV) (D C b0 b1 b2 : Int) (O : List IV) (x : Int) : St :=
  ⟨[(1, (.ptr 1 0 0)), (2, (.ptr 2 0 0)), (3, (.ptr 3 0 0)), (5, (.int .i64 x))], [(1, (some (boxF d c bias ts))), (2, (some boxZ)), (3, (some (.box [(.int .i64 D), (.int .i64 C), (.int .i64 b0), (.int .i64 b1), (.int .i64 b2), (.row 500 0 O.length)]))), (500, (some (.row true 66 true kMT O)))]⟩
def treeG (D C : Int) (t : IV) : IV := .agg [.int (withinZ (t.cell 0).toInt 0 (C - 1)), .list (nodesL (t.cell 1).toList (t.cell 2).toList (t.cell 3).toList (t.cell 4).toList D)]
theorem tree_bytes (N : Nat) : TI.bytes (Env.tyd (E_copsekeep_Forest_Model N) 66) = 32 := by rfl
theorem trees_run (N : Nat) (d c : Int) (bias ts : List IV) (D C b0 b1 b2 : Int) (hD : 1 ≤ D ∧ D ≤ 4) (hC : 1 ≤ C ∧ C ≤ 3) : ∀ (m i n : Nat) (O : List IV), i + m = min ts.length 4 → m < n → O.length = i →
    lpE (E_copsekeep_Forest_Model N) (subC c_copsekeep_Forest_Model [1, 1, 1, 0, 1, 0, 0]) kpM n (stM d c bias ts D C b0 b1 b2 O (i : Int)) (kBlock 2 (kSq (E_copsekeep_Forest_Model N) (subC c_copsekeep_Forest_Model [1, 1, 1, 1]) (outT (E_copsekeep_Forest_Model N) none [(ResultVar.cell 2 25)] [[(.int .i64), (.int .i64), (.int .i64), (.int .i64), (.int .i64), (.list true [(.int .i64), (.list false [(.int .u64)])])]]))) =
      some (.agg [.int .i64 D, .int .i64 C, .int .i64 b0, .int .i64 b1, .int .i64 b2, .list true kMT (O ++ ((ts.take 4).drop i).map (treeG D C))], [])
  | 0, i, n + 1, O, hd, hn, hO => by
    have fin : (kBlock 2 (kSq (E_copsekeep_Forest_Model N) (subC c_copsekeep_Forest_Model [1, 1, 1, 1]) (outT (E_copsekeep_Forest_Model N) none [(ResultVar.cell 2 25)] [[(.int .i64), (.int .i64), (.int .i64), (.int .i64), (.int .i64), (.list true [(.int .i64), (.list false [(.int .u64)])])]]))) (.exit 2) (stM d c bias ts D C b0 b1 b2 O (i : Int)) = some (.agg [.int .i64 D, .int .i64 C, .int .i64 b0, .int .i64 b1, .int .i64 b2, .list true kMT (O ++ ((ts.take 4).drop i).map (treeG D C))], []) := by
      refine (ex_copsekeep_Forest_Model_2_1 N i d c bias ts 0 0 0 0 0 D C b0 b1 b2 O.length O).trans ?_
      rw [List.drop_zero, List.take_length, List.drop_of_length_le (by rw [List.length_take]; omega), List.map_nil, List.append_nil]
    rw [lpE_succ]
    refine (st_copsekeep_Forest_Model_2 N i d c bias ts 0 0 0 0 0 D C b0 b1 b2 O.length O _ _).trans ?_
    by_cases hp : i < ts.length
    · rw [decide_eq_true (show (i : Int) < ic ts.length by simp only [ic]; omega), condT, decide_eq_false (show ¬ (i : Int) < 4 by omega), condF]
      exact fin
    · rw [decide_eq_false (show ¬ (i : Int) < ic ts.length by simp only [ic]; omega), condF]
      exact fin
  | m + 1, i, n + 1, O, hd, hn, hO => by
    have hi : i < ts.length := by omega
    rw [lpE_succ]
    refine (st_copsekeep_Forest_Model_2 N i d c bias ts 0 0 0 0 0 D C b0 b1 b2 O.length O _ _).trans ?_
    have l1 : ∀ x : IV, List.drop 0 (List.take 1 [x]) = [x] := fun _ => rfl
    have eg : List.getD ts (Int.toNat (i : Int)) default = ts[i] := by rw [Int.toNat_natCast]; simp [hi]
    have w1 : IntKind.wrap IntKind.i64 (C - 1) = C - 1 := wrap_id (by omega) (by omega)
    obtain ⟨m1, _, _⟩ := within_in (n := 0) (lo := 0) (hi := C - 1) (by omega) (by omega) (by omega)
    have ih := trees_run N d c bias ts D C b0 b1 b2 hD hC m (i + 1) n (O ++ [treeG D C ts[i]]) (by omega) (by omega) (by simp [hO])
    rw [decide_eq_true (show (i : Int) < ic ts.length by simp only [ic]; omega), decide_eq_true (show (i : Int) < 4 by omega), decide_eq_true (show 0 ≤ (i : Int) by omega), w1, m1, decide_eq_false (show ¬ (C - 1 - 0 + 1 = 0) by omega), decide_eq_true hD.1, decide_eq_true hD.2, eg, l1, tree_bytes, List.length_singleton,
      decide_eq_true (show (O.length + 1) * 32 ≤ bytesMax by rw [hO]; unfold bytesMax; omega), List.take_length, succ_w (by omega)]
    simp only [Bool.and_true, condT, condF]
    have ed : (ts.take 4).drop i = ts[i] :: (ts.take 4).drop (i + 1) := by
      have h4 : i < (ts.take 4).length := by rw [List.length_take]; omega
      rw [List.drop_eq_getElem_cons h4]
      congr 1
      rw [List.getElem_take]
    rw [ed, List.map_cons]
    rw [List.append_assoc] at ih
    have eL : (O ++ [treeG D C ts[i]]).length = O.length + 1 := by simp
    rw [show stM d c bias ts D C b0 b1 b2 (O ++ [treeG D C ts[i]]) ((i + 1 : Nat) : Int) = ⟨[(1, (.ptr 1 0 0)), (2, (.ptr 2 0 0)), (3, (.ptr 3 0 0)), (5, (.int .i64 ((i + 1 : Nat) : Int)))], [(1, (some (boxF d c bias ts))), (2, (some boxZ)), (3, (some (.box [(.int .i64 D), (.int .i64 C), (.int .i64 b0), (.int .i64 b1), (.int .i64 b2), (.row 500 0 (O ++ [treeG D C ts[i]]).length)]))), (500, (some (.row true 66 true kMT (O ++ [treeG D C ts[i]]))))]⟩ from rfl, eL] at ih
    exact ih
  | _, _, 0, _, _, h, _ => by omega

set_option maxRecDepth 100000 in
theorem snd_copsekeep_Forest_Model : SndR PR B0 9 S_copsekeep_Forest_Model := by
  refine snd_mk [(18, S_copsebook_Within), (22, S_copsekeep_Tree_Nodes), (21, S_copsekeep_pick)] [(3, ⟨[1, 2, 3, 14, 15], [1, 2, 3], []⟩), (8, kpM)] S_copsekeep_Forest_Model [[.int .i64, .int .i64, .int .i64, .int .i64, .int .i64, .list true [.int .i64, .list false [.int .u64]]]] Try.func9 h_copsekeep_Forest_Model
    ⟨snd_copsebook_Within, snd_copsekeep_Tree_Nodes, snd_copsekeep_pick, trivial⟩ ?_
  intro vs r hwf h
  unfold S_copsekeep_Forest_Model at h
  split at h
  · rename_i d c bias ts
    refine ⟨20, ?_⟩
    rw [R.get_ok] at h
    rw [← h]
    refine (nf_copsekeep_Forest_Model 20 d c bias ts).trans ?_
    obtain ⟨_, d1, d2⟩ := within_in (n := d) (lo := 1) (hi := 3) (by omega) (by omega) (by omega)
    obtain ⟨_, c1, c2⟩ := within_in (n := c) (lo := 1) (hi := 3) (by omega) (by omega) (by omega)
    unfold treesF treeF biasF clsF dimF
    generalize withinZ d 1 3 = D at d1 d2
    generalize withinZ c 1 3 = C' at c1 c2
    obtain ⟨C, rfl⟩ : ∃ C : Nat, C' = C := ⟨C'.toNat, by omega⟩
    refine (bias_run 20 d c bias ts D C (by omega) _ C 0 20 (by omega) (by omega)).trans ?_
    refine (ex_copsekeep_Forest_Model_1_1 20 C C d c bias ts 0 0 0 0 0 D C (cond (Nat.blt 0 C) (bF bias 0) 0) (cond (Nat.blt 1 C) (bF bias 1) 0) (cond (Nat.blt 2 C) (bF bias 2) 0)).trans ?_
    refine (trees_run 20 d c bias ts D C _ _ _ ⟨d1, by omega⟩ ⟨c1, by omega⟩ (min ts.length 4) 0 20 [] (by omega) (by omega) rfl).trans ?_
    rw [List.drop_zero, List.nil_append]
    have hC : C = 1 ∨ C = 2 ∨ C = 3 := by omega
    rcases hC with rfl | rfl | rfl <;> rfl
  · simp [R.get] at h

end Go.FM

/-
  A FOREST AND AN ASK OF NUMBERS, AS STRUCTURES: what copsekeep's Model and Query come to, of them. Of no program.
-/
namespace Go.FM
open Go

abbrev kFt : List Kd := [.int .i64, .list false [.int .i64], .list false [.int .i64], .list false [.int .i64], .list false [.int .i64]]
structure Ft where
  d : Int
  c : Int
  bias : List IV
  ts : List IV
def Ft.cs (f : Ft) : List FM.V := [.int .i64 f.d, .int .i64 f.c, .list false [.int .i64] f.bias, .list true kFt f.ts]
def Ft.V (f : Ft) : FM.V := .agg f.cs
def Ft.M (f : Ft) : Md := modelF f.d f.c f.bias f.ts
def ftOf? : List FM.V → Option Ft
  | [.int .i64 d, .int .i64 c, .list false [.int .i64] b, .list true [.int .i64, .list false [.int .i64], .list false [.int .i64], .list false [.int .i64], .list false [.int .i64]] t] => some ⟨d, c, b, t⟩
  | _ => none
def akOf? : List FM.V → Option Ak
  | [.int .i64 k, .int .i64 c, .int .i64 lo, .int .i64 size, .int .i64 ft, .int .i64 bu, .bool fl, .list false [.int .i64] sp] => some ⟨k, c, lo, size, ft, bu, fl, sp⟩
  | _ => none
abbrev withF (v : FM.V) (k : Ft → R) : R := withO ftOf? v k
abbrev withA (v : FM.V) (k : Ak → R) : R := withO akOf? v k
theorem withF_get {v : FM.V} {k : Ft → R} {z : FM.V × List (List FM.V)} (h : (withF v k).get = some z) : ∃ x : Ft, v = x.V ∧ (k x).get = some z := by
  obtain ⟨l, x, rfl, hx, h⟩ := withO_get h
  unfold ftOf? at hx
  split at hx
  · simp only [Option.some.injEq] at hx
    subst hx
    exact ⟨_, rfl, h⟩
  · cases hx
theorem withA_get {v : FM.V} {k : Ak → R} {z : FM.V × List (List FM.V)} (h : (withA v k).get = some z) : ∃ x : Ak, v = x.V ∧ (k x).get = some z := by
  obtain ⟨l, x, rfl, hx, h⟩ := withO_get h
  unfold akOf? at hx
  split at hx
  · simp only [Option.some.injEq] at hx
    subst hx
    exact ⟨_, rfl, h⟩
  · cases hx
def askQ0 (a : Ak) (m : Md) : Qy := queryA a m.d m.c
def okDC (m : Md) : Bool := (decide (1 ≤ m.d) && decide (m.d ≤ 4)) && (decide (1 ≤ m.c) && decide (m.c ≤ 3))
def Z_copsekeep_Forest_Model : RSpec
  | [f] => withF f fun f => .ok f.M.V []
  | _ => .no
def Z_copsekeep_Ask_Query : RSpec
  | [a, m] => withA a fun a => withM m fun m => .br (okDC m) (.ok (askQ0 a m).V []) .no
  | _ => .no
/-- A search of a right query. -/
def Z_search_New : RSpec
  | [m, q] => withM m fun m => withQ q fun q => .br (rightQ m q) (.ok (.bor (srV 1 m q ⟨[(startB q).I], [], Vd.none, 0⟩)) []) .no
  | _ => .no
/-- A query with another budget; with another span at a place. -/
def Qy.bud (q : Qy) (b : Int) : Qy := ⟨q.k, q.c, q.a0, q.b0, q.a1, q.b1, q.a2, q.b2, q.a3, q.b3, q.a4, q.b4, q.lo, q.hi, q.ft, q.fl, b⟩
def Qy.reg (q : Qy) (b : Bx) : Qy := ⟨q.k, q.c, b.s0.lo, b.s0.hi, b.s1.lo, b.s1.hi, b.s2.lo, b.s2.hi, b.s3.lo, b.s3.hi, b.s4.lo, b.s4.hi, q.lo, q.hi, q.ft, q.fl, q.bu⟩
/-- A search, where the first span tells whether the query is right. -/
def Z2_search_New : RSpec
  | [m, q] => withM m fun m => withQ q fun q => .br (decide (q.a0 > q.b0)) (.ok (.bor (srV 3 m q ⟨[], [], ⟨4, [], 0, 0, 0, 0, 0, 0⟩, 0⟩)) []) (.br (rightQ m q) (.ok (.bor (srV 1 m q ⟨[(startB q).I], [], Vd.none, 0⟩)) []) .no)
  | _ => .no
theorem right_emp {m : Md} {q : Qy} (h : q.a0 > q.b0) : rightQ m q = false := by
  have e : spOK m.d 0 q.bx.s0 = false := by
    unfold spOK Sp.emp
    rw [show decide (q.bx.s0.lo > q.bx.s0.hi) = true from decide_eq_true h]
    simp
  unfold rightQ regB5
  rw [e]
  simp
theorem S_new_Z2 {vs : List FM.V} {z : FM.V × List (List FM.V)} (h : (Z2_search_New vs).get = some z) : (S_search_New vs).get = some z := by
  unfold Z2_search_New at h
  split at h
  · rename_i v w
    replace h := withM_get h
    obtain ⟨m, rfl, h⟩ := h
    replace h := withQ_get h
    obtain ⟨q, rfl, h⟩ := h
    show (R.br (rightQ m q) _ _).get = some z
    rw [R.get_br] at h ⊢
    by_cases ha : q.a0 > q.b0
    · rw [decide_eq_true ha, condT] at h
      rw [right_emp ha, condF]
      exact h
    · rw [decide_eq_false ha, condF, R.get_br] at h
      cases hr : rightQ m q with
      | true => rw [hr, condT] at h; rw [condT]; exact h
      | false => rw [hr, condF] at h; simp [R.get] at h
  · simp [R.get] at h
theorem S_model_Z {vs : List FM.V} {z : FM.V × List (List FM.V)} (h : (Z_copsekeep_Forest_Model vs).get = some z) : (S_copsekeep_Forest_Model vs).get = some z := by
  unfold Z_copsekeep_Forest_Model at h
  split at h
  · replace h := withF_get h
    obtain ⟨f, rfl, h⟩ := h
    exact h
  · simp [R.get] at h
theorem S_query_Z {vs : List FM.V} {z : FM.V × List (List FM.V)} (h : (Z_copsekeep_Ask_Query vs).get = some z) : (S_copsekeep_Ask_Query vs).get = some z := by
  unfold Z_copsekeep_Ask_Query at h
  split at h
  · replace h := withA_get h
    obtain ⟨a, rfl, h⟩ := h
    replace h := withM_get h
    obtain ⟨m, rfl, h⟩ := h
    exact h
  · simp [R.get] at h
theorem S_new_Z {vs : List FM.V} {z : FM.V × List (List FM.V)} (h : (Z_search_New vs).get = some z) : (S_search_New vs).get = some z := by
  unfold Z_search_New at h
  split at h
  · rename_i v w
    replace h := withM_get h
    obtain ⟨m, rfl, h⟩ := h
    replace h := withQ_get h
    obtain ⟨q, rfl, h⟩ := h
    show (R.br (rightQ m q) _ _).get = some z
    rw [R.get_br] at h ⊢
    cases hr : rightQ m q with
    | true => rw [hr, condT] at h; rw [condT]; exact h
    | false => rw [hr, condF] at h; simp [R.get] at h
  · simp [R.get] at h

def S_copselaw22_SearchPoint : RSpec
  | [f, a, .list false [.int .i64] _] => withF f fun _ => withA a fun _ => .ok (.bool true) []
  | _ => .no
def S_copselaw22_SearchTwo : RSpec
  | [f, g, a, b, .list false [.bool] _] => withF f fun _ => withF g fun _ => withA a fun _ => withA b fun _ => .ok (.bool true) []
  | _ => .no
def S_copselaw22_SearchLeft : RSpec
  | [f, a, .int .i64 _] => withF f fun _ => withA a fun _ => .ok (.bool true) []
  | _ => .no
end Go.FM

/-
  NORMAL FORMS: what the functions' runs come to (written by a program of this claim's own, checked by the kernel).
-/
namespace Go.FM
open Go Go.Proofs

/-! ### copse/copselaw22.SearchPoint -/
def E_copselaw22_SearchPoint (N : Nat) : Env := mkE [(11, S_copsekeep_Inside), (3, S_copselaw22_SearchRuns), (12, S_query_Breaks), (13, S_query_Start), (8, S_search_Run), (10, Z_copsekeep_Ask_Query), (9, Z_copsekeep_Forest_Model)] [(5, ⟨[6, 7, 8, 9, 22], [7, 8, 9], []⟩)] 86 N
--RKS copselaw22_SearchPoint [[.bool]]

/-! ### copse/copselaw22.SearchLeft -/
def E_copselaw22_SearchLeft (N : Nat) : Env := mkE [(18, S_copsebook_Within), (3, S_copselaw22_SearchRuns), (19, S_search_Search_Left), (15, S_search_Search_Step), (17, S_search_Search_Verdict), (14, Z2_search_New), (10, Z_copsekeep_Ask_Query), (9, Z_copsekeep_Forest_Model)] [(9, ⟨[6, 7, 8, 9, 10, 11], [7, 8, 26, 500, 501], [⟨.cell 26 23, 500, 30, true, kBox⟩, ⟨.cell 26 24, 501, 82, true, kStep⟩]⟩)] 109 N
--RKS copselaw22_SearchLeft [[.bool]]

/-! ### copse/copselaw22.SearchTwo -/
def E_copselaw22_SearchTwo (N : Nat) : Env := mkE [(16, S_copsekeep_Verdicts), (3, S_copselaw22_SearchRuns), (8, S_search_Run), (15, S_search_Search_Step), (17, S_search_Search_Verdict), (10, Z_copsekeep_Ask_Query), (9, Z_copsekeep_Forest_Model), (14, Z_search_New)] [(9, ⟨[4, 10, 15, 16, 17, 18, 19], [15, 16, 41, 44, 500, 501, 502, 503], [⟨.cell 41 23, 500, 30, true, kBox⟩, ⟨.cell 41 24, 501, 82, true, kStep⟩, ⟨.cell 44 23, 502, 30, true, kBox⟩, ⟨.cell 44 24, 503, 82, true, kStep⟩]⟩), (15, ⟨[10, 15, 16, 17, 18, 20], [15, 16, 41, 44, 500, 501, 502, 503], [⟨.cell 41 23, 500, 30, true, kBox⟩, ⟨.cell 41 24, 501, 82, true, kStep⟩, ⟨.cell 44 23, 502, 30, true, kBox⟩, ⟨.cell 44 24, 503, 82, true, kStep⟩]⟩)] 90 N
--RKS copselaw22_SearchTwo [[.bool]]

end Go.FM

/-
  TREES, BOXES AND THEIR POINTS: plain law: what a tree's bounds over a box say of its values. Of no program.
-/
namespace Go.FM
open Go

/-! ### spans -/
theorem sp_has {s : Sp} {n : Int} : s.has n = true ↔ s.lo ≤ n ∧ n ≤ s.hi := by
  unfold Sp.has
  rw [Bool.and_eq_true, decide_eq_true_eq, decide_eq_true_eq]
theorem sp_emp {s : Sp} : s.emp = false ↔ s.lo ≤ s.hi := by
  unfold Sp.emp
  rw [decide_eq_false_iff_not]
  omega
theorem spOf_has {lo hi n : Int} : (spOf lo hi).has n = true ↔ lo ≤ n ∧ n ≤ hi := by
  unfold spOf
  cases hd : decide (lo > hi) with
  | true =>
    have := of_decide_eq_true hd
    rw [condT, sp_has]
    show (1 : Int) ≤ n ∧ n ≤ 0 ↔ _
    omega
  | false => rw [condF, sp_has]
theorem cutL_has {s : Sp} {a n : Int} : (s.cutL a).has n = true ↔ s.has n = true ∧ n ≤ a := by
  unfold Sp.cutL
  rw [spOf_has, sp_has]
  omega
theorem cutH_has {s : Sp} {a n : Int} (ha : -9223372036854775808 ≤ a) (hs : s.hi ≤ 9223372036854775807) : (s.cutH a).has n = true ↔ s.has n = true ∧ a < n := by
  unfold Sp.cutH
  cases hd : decide (a ≥ s.hi) with
  | true =>
    have := of_decide_eq_true hd
    rw [condT, sp_has, sp_has]
    show (1 : Int) ≤ n ∧ n ≤ 0 ↔ _
    omega
  | false =>
    have := of_decide_eq_false hd
    have e : i64w (a + 1) = a + 1 := wrap_id (by omega) (by omega)
    rw [condF, spOf_has, sp_has, e]
    omega
theorem meet_has {s u : Sp} {n : Int} : (s.meet u).has n = true ↔ s.has n = true ∧ u.has n = true := by
  unfold Sp.meet
  rw [spOf_has, sp_has, sp_has]
  omega

/-! ### boxes -/
/-- A place's number of a pair. -/
def co (p : Pt) (t : Int) : Nat → Int
  | 0 => p.p0
  | 1 => p.p1
  | 2 => p.p2
  | 3 => p.p3
  | _ => t
theorem bx_has {b : Bx} {p : Pt} {t : Int} : b.has p t = true ↔ ∀ i, i < 5 → (b.g i).has (co p t i) = true := by
  unfold Bx.has
  simp only [Bool.and_eq_true]
  constructor
  · rintro ⟨h0, h1, h2, h3, h4⟩ i hi
    match i, hi with
    | 0, _ => exact h0
    | 1, _ => exact h1
    | 2, _ => exact h2
    | 3, _ => exact h3
    | 4, _ => exact h4
    | i + 5, h => exact absurd h (by omega)
  · intro h
    exact ⟨h 0 (by omega), h 1 (by omega), h 2 (by omega), h 3 (by omega), h 4 (by omega)⟩
theorem bx_emp {b : Bx} : b.emp = false ↔ ∀ i, i < 5 → (b.g i).lo ≤ (b.g i).hi := by
  unfold Bx.emp
  simp only [Bool.or_eq_false_iff, sp_emp]
  constructor
  · rintro ⟨h0, h1, h2, h3, h4⟩ i hi
    match i, hi with
    | 0, _ => exact h0
    | 1, _ => exact h1
    | 2, _ => exact h2
    | 3, _ => exact h3
    | 4, _ => exact h4
    | i + 5, h => exact absurd h (by omega)
  · intro h
    exact ⟨h 0 (by omega), h 1 (by omega), h 2 (by omega), h 3 (by omega), h 4 (by omega)⟩
theorem bx_g_p (b : Bx) (s : Sp) : ∀ {i j : Nat}, i < 5 → j < 5 → (b.p s i).g j = if j = i then s else b.g j
  | 0, 0, _, _ => rfl
  | 0, 1, _, _ => rfl
  | 0, 2, _, _ => rfl
  | 0, 3, _, _ => rfl
  | 0, 4, _, _ => rfl
  | 1, 0, _, _ => rfl
  | 1, 1, _, _ => rfl
  | 1, 2, _, _ => rfl
  | 1, 3, _, _ => rfl
  | 1, 4, _, _ => rfl
  | 2, 0, _, _ => rfl
  | 2, 1, _, _ => rfl
  | 2, 2, _, _ => rfl
  | 2, 3, _, _ => rfl
  | 2, 4, _, _ => rfl
  | 3, 0, _, _ => rfl
  | 3, 1, _, _ => rfl
  | 3, 2, _, _ => rfl
  | 3, 3, _, _ => rfl
  | 3, 4, _, _ => rfl
  | 4, 0, _, _ => rfl
  | 4, 1, _, _ => rfl
  | 4, 2, _, _ => rfl
  | 4, 3, _, _ => rfl
  | 4, 4, _, _ => rfl
  | i + 5, _, h, _ => absurd h (by omega)
  | _, j + 5, _, h => absurd h (by omega)
/-- Its ends are small. -/
def Bx.ok (b : Bx) : Prop := ∀ i, i < 5 → (b.g i).hi ≤ 2147483647
theorem bx_low (b : Bx) (h : b.emp = false) : b.has b.low b.s4.hi = true := by
  rw [bx_emp] at h
  rw [bx_has]
  intro i hi
  rw [sp_has]
  have := h i hi
  match i, hi with
  | 0, _ => exact ⟨Int.le_refl _, this⟩
  | 1, _ => exact ⟨Int.le_refl _, this⟩
  | 2, _ => exact ⟨Int.le_refl _, this⟩
  | 3, _ => exact ⟨Int.le_refl _, this⟩
  | 4, _ => exact ⟨this, Int.le_refl _⟩
  | i + 5, h => exact absurd h (by omega)
theorem bx_some {b : Bx} {p : Pt} {t : Int} (h : b.has p t = true) : b.emp = false := by
  rw [bx_has] at h
  rw [bx_emp]
  intro i hi
  have := sp_has.1 (h i hi)
  omega
theorem cutL_bx {b : Bx} {i : Nat} (hi : i < 5) {a : Int} {p : Pt} {t : Int} : (b.cutL (i : Int) a).has p t = true ↔ b.has p t = true ∧ co p t i ≤ a := by
  unfold Bx.cutL
  rw [Int.toNat_natCast, bx_has, bx_has]
  constructor
  · intro h
    refine ⟨fun j hj => ?_, ?_⟩
    · have := h j hj
      rw [bx_g_p b _ hi hj] at this
      by_cases e : j = i
      · rw [if_pos e, cutL_has] at this
        rw [e] at this ⊢
        exact this.1
      · rw [if_neg e] at this
        exact this
    · have := h i hi
      rw [bx_g_p b _ hi hi, if_pos rfl, cutL_has] at this
      exact this.2
  · rintro ⟨h, ha⟩ j hj
    rw [bx_g_p b _ hi hj]
    by_cases e : j = i
    · rw [if_pos e, cutL_has, e]
      exact ⟨h i hi, ha⟩
    · rw [if_neg e]
      exact h j hj
theorem cutH_bx {b : Bx} (hb : b.ok) {i : Nat} (hi : i < 5) {a : Int} (ha : -2147483648 ≤ a) {p : Pt} {t : Int} : (b.cutH (i : Int) a).has p t = true ↔ b.has p t = true ∧ a < co p t i := by
  have hs := hb i hi
  unfold Bx.cutH
  rw [Int.toNat_natCast, bx_has, bx_has]
  constructor
  · intro h
    refine ⟨fun j hj => ?_, ?_⟩
    · have := h j hj
      rw [bx_g_p b _ hi hj] at this
      by_cases e : j = i
      · rw [if_pos e, cutH_has (by omega) (by omega)] at this
        rw [e] at this ⊢
        exact this.1
      · rw [if_neg e] at this
        exact this
    · have := h i hi
      rw [bx_g_p b _ hi hi, if_pos rfl, cutH_has (by omega) (by omega)] at this
      exact this.2
  · rintro ⟨h, ha'⟩ j hj
    rw [bx_g_p b _ hi hj]
    by_cases e : j = i
    · rw [if_pos e, cutH_has (by omega) (by omega), e]
      exact ⟨h i hi, ha'⟩
    · rw [if_neg e]
      exact h j hj
theorem spOf_ok {lo hi : Int} (h : hi ≤ 2147483647) : (spOf lo hi).hi ≤ 2147483647 := by
  unfold spOf
  cases decide (lo > hi) with
  | true => rw [condT]; show (0 : Int) ≤ _; omega
  | false => exact h
theorem p_ok {b : Bx} (hb : b.ok) {s : Sp} (hs : s.hi ≤ 2147483647) {i : Nat} (hi : i < 5) : (b.p s i).ok := by
  intro j hj
  rw [bx_g_p b _ hi hj]
  split
  · exact hs
  · exact hb j hj
theorem cutL_ok {b : Bx} (hb : b.ok) {i : Nat} (hi : i < 5) (a : Int) : (b.cutL (i : Int) a).ok := by
  unfold Bx.cutL
  rw [Int.toNat_natCast]
  refine p_ok hb ?_ hi
  unfold Sp.cutL
  exact spOf_ok (by have := hb i hi; omega)
theorem cutH_ok {b : Bx} (hb : b.ok) {i : Nat} (hi : i < 5) (a : Int) : (b.cutH (i : Int) a).ok := by
  unfold Bx.cutH
  rw [Int.toNat_natCast]
  refine p_ok hb ?_ hi
  unfold Sp.cutH
  cases decide (a ≥ (b.g i).hi) with
  | true => rw [condT]; show (0 : Int) ≤ _; omega
  | false => exact spOf_ok (hb i hi)
theorem bx_I (b : Bx) : bxI b.I = b := rfl
theorem bx_pc (b : Bx) (v : Int) : bxI (pcI b v) = b := rfl
theorem co_feat (p : Pt) (t : Int) : ∀ {i : Nat}, i < 4 → co p t i = p.g i
  | 0, _ => rfl
  | 1, _ => rfl
  | 2, _ => rfl
  | 3, _ => rfl
  | i + 4, h => absurd h (by omega)

/-! ### trees -/
abbrev nd (l : List IV) (i : Nat) : Nd := nodeN (l.getD i default).toInt
def names (l : List IV) (k j : Nat) : Prop := (nd l k).lf = false ∧ ((nd l k).l = (j : Int) ∨ (nd l k).r = (j : Int))
structure TreeOK (l : List IV) : Prop where
  len : 1 ≤ l.length ∧ l.length ≤ 31
  node : ∀ k, k < l.length → nodeB (l.getD k default).toInt = true
  fork : ∀ k, k < l.length → (nd l k).lf = false → (0 ≤ (nd l k).f ∧ (nd l k).f < 4) ∧ fits32 (nd l k).a = true ∧ ((k : Int) < (nd l k).l ∧ (nd l k).l < ic l.length) ∧ ((k : Int) < (nd l k).r ∧ (nd l k).r < ic l.length) ∧ (nd l k).l ≠ (nd l k).r
  parent : ∀ j, 1 ≤ j → j < l.length → ∃ k, k < l.length ∧ names l k j
  alone : ∀ j k k', 1 ≤ j → j < l.length → k < l.length → k' < l.length → names l k j → names l k' j → k = k'
theorem sum_ge {l : List Nat} : ∀ {k a : Nat}, l[k]? = some a → a ≤ l.sum := by
  induction l with
  | nil => intro k a h; simp at h
  | cons x r ih =>
    intro k a h
    cases k with
    | zero => simp at h; simp; omega
    | succ k => have := ih (k := k) (a := a) (by simpa using h); simp; omega
theorem sum_two {l : List Nat} : ∀ {k k' a b : Nat}, k < k' → l[k]? = some a → l[k']? = some b → a + b ≤ l.sum := by
  induction l with
  | nil => intro k k' a b _ h; simp at h
  | cons x r ih =>
    intro k k' a b hk h h'
    cases k with
    | zero =>
      cases k' with
      | zero => omega
      | succ k' =>
        have := sum_ge (l := r) (k := k') (a := b) (by simpa using h')
        simp at h
        simp
        omega
    | succ k =>
      cases k' with
      | zero => omega
      | succ k' =>
        have := ih (k := k) (k' := k') (a := a) (b := b) (by omega) (by simpa using h) (by simpa using h')
        simp
        omega
theorem sum_pos {l : List Nat} : 0 < l.sum → ∃ (k a : Nat), l[k]? = some a ∧ 0 < a := by
  induction l with
  | nil => intro h; simp at h
  | cons x r ih =>
    intro h
    by_cases hx : 0 < x
    · exact ⟨0, x, rfl, hx⟩
    · obtain ⟨k, a, hk, ha⟩ := ih (by simp at h; omega)
      exact ⟨k + 1, a, by simpa using hk, ha⟩
theorem named1_pos {x : Nd} {j : Nat} : 0 < named1 x j ↔ x.lf = false ∧ (x.l = (j : Int) ∨ x.r = (j : Int)) := by
  unfold named1
  cases x.lf with
  | true => simp
  | false =>
    rw [condF]
    by_cases h1 : x.l = (j : Int) <;> by_cases h2 : x.r = (j : Int) <;> simp [h1, h2]
theorem getD_lt {l : List IV} {k : Nat} (h : k < l.length) : l.getD k default = l[k] := by simp [h]
theorem tree_good {l : List IV} (h : treeB l 4 = true) : TreeOK l := by
  have key : ∀ {dim n : Int} {l : List IV} {i k : Nat} (hk : k < l.length), nodesB dim n i l = true → nodeB (l[k]).toInt = true ∧ forkB dim n (i + k) (nodeN (l[k]).toInt) = true := by
    intro dim n l
    induction l with
    | nil => intro i k hk; exact absurd hk (Nat.not_lt_zero k)
    | cons w r ih =>
      intro i k hk h
      rw [nodesB] at h
      simp only [Bool.and_eq_true] at h
      cases k with
      | zero => exact h.1
      | succ k =>
        have := ih (k := k) (by simpa using hk) h.2
        rw [show i + 1 + k = i + (k + 1) by omega] at this
        exact this
  unfold treeB at h
  simp only [Bool.and_eq_true] at h
  obtain ⟨⟨h1, h31⟩, hn, ho⟩ := h
  have hlen := Nat.le_of_ble_eq_true h1
  have once : ∀ j, 1 ≤ j → j < l.length → namedBy l j = 1 := fun j hj hjl => by
    unfold onceB at ho
    rw [List.all_eq_true] at ho
    have := ho (j - 1) (List.mem_range.2 (by omega))
    rw [show j - 1 + 1 = j by omega] at this
    simpa using this
  have at_ : ∀ k (hk : k < l.length) j, (l.map fun w => named1 (nodeN w.toInt) j)[k]? = some (named1 (nd l k) j) := fun k hk j => by
    rw [List.getElem?_map, List.getElem?_eq_getElem hk]
    unfold nd
    rw [getD_lt hk]
    rfl
  refine ⟨⟨hlen, Nat.le_of_ble_eq_true h31⟩, fun k hk => by rw [getD_lt hk]; exact (key hk hn).1, fun k hk hl => ?_, fun j hj hjl => ?_, fun j k k' hj hjl hk hk' hn1 hn2 => ?_⟩
  · have h2 := (key hk hn).2
    have h3 := (key hk hn).1
    rw [Nat.zero_add] at h2
    unfold nd at hl ⊢
    rw [getD_lt hk] at hl ⊢
    unfold forkB at h2
    rw [hl, condF] at h2
    simp only [Bool.and_eq_true, Bool.not_eq_true', decide_eq_false_iff_not, beq_eq_false_iff_ne] at h2
    obtain ⟨q1, q2, q3, q4⟩ := h2
    have hr := (node_pack h3).2
    unfold rightNd childB at hr
    rw [hl, condF] at hr
    simp only [Bool.and_eq_true, decide_eq_true_eq] at hr
    exact ⟨⟨hr.2.1, hr.2.2.1⟩, hr.2.2.2.1, ⟨by omega, by simp only [ic] at q4 ⊢; omega⟩, ⟨by omega, by simp only [ic] at q4 ⊢; omega⟩, q2⟩
  · have h2 := once j hj hjl
    unfold namedBy at h2
    obtain ⟨k, a, hk, ha⟩ := sum_pos (l := l.map fun w => named1 (nodeN w.toInt) j) (by omega)
    have hkl : k < l.length := by
      have := (List.getElem?_eq_some_iff.1 hk).1
      simpa using this
    rw [at_ k hkl j] at hk
    simp only [Option.some.injEq] at hk
    subst hk
    exact ⟨k, hkl, named1_pos.1 ha⟩
  · have h2 := once j hj hjl
    unfold namedBy at h2
    have p1 : 0 < named1 (nd l k) j := named1_pos.2 hn1
    have p2 : 0 < named1 (nd l k') j := named1_pos.2 hn2
    rcases Nat.lt_trichotomy k k' with hlt | heq | hlt
    · have := sum_two hlt (at_ k hk j) (at_ k' hk' j)
      omega
    · exact heq
    · have := sum_two hlt (at_ k' hk' j) (at_ k hk j)
      omega

/-- A value, from a place on. -/
def valA (l : List IV) (p : Pt) (i : Nat) : Int := (endF l p 31 (i : Int)).2.v
theorem endF_at {l : List IV} (h : TreeOK l) (p : Pt) {i : Nat} (hi : i < l.length) (n : Nat) : endF l p (n + 1) (i : Int) =
    cond (nd l i).lf ((i : Int), nd l i) (cond (decide (p.g (nd l i).f.toNat ≤ (nd l i).a)) (endF l p n (nd l i).l) (endF l p n (nd l i).r)) := by
  rw [endF, decide_eq_false (show ¬ (i : Int) ≥ ic l.length by simp only [ic]; omega), condF, Int.toNat_natCast, h.node i hi, Bool.not_true, condF]
theorem endF_fuel {l : List IV} (h : TreeOK l) (p : Pt) : ∀ (n n' i : Nat), i < l.length → l.length - i ≤ n → l.length - i ≤ n' → endF l p n (i : Int) = endF l p n' (i : Int)
  | 0, _, i, hi, h1, _ => absurd h1 (by omega)
  | _ + 1, 0, i, hi, _, h2 => absurd h2 (by omega)
  | n + 1, n' + 1, i, hi, h1, h2 => by
    rw [endF_at h p hi, endF_at h p hi]
    cases hl : (nd l i).lf with
    | true => rfl
    | false =>
      obtain ⟨_, _, ⟨a1, a2⟩, ⟨b1, b2⟩, _⟩ := h.fork i hi hl
      simp only [ic] at a2 b2
      rw [condF, condF]
      cases decide (p.g (nd l i).f.toNat ≤ (nd l i).a) with
      | true =>
        have e : (nd l i).l = (((nd l i).l.toNat : Nat) : Int) := by omega
        rw [condT, condT, e]
        exact endF_fuel h p n n' _ (by omega) (by omega) (by omega)
      | false =>
        have e : (nd l i).r = (((nd l i).r.toNat : Nat) : Int) := by omega
        rw [condF, condF, e]
        exact endF_fuel h p n n' _ (by omega) (by omega) (by omega)
theorem val_leaf {l : List IV} (h : TreeOK l) (p : Pt) {i : Nat} (hi : i < l.length) (hl : (nd l i).lf = true) : valA l p i = (nd l i).v := by
  unfold valA
  rw [endF_at h p hi, hl, condT]
theorem val_fork {l : List IV} (h : TreeOK l) (p : Pt) {i : Nat} (hi : i < l.length) (hl : (nd l i).lf = false) : valA l p i = valA l p (cond (decide (p.g (nd l i).f.toNat ≤ (nd l i).a)) (nd l i).l.toNat (nd l i).r.toNat) := by
  obtain ⟨_, _, ⟨a1, a2⟩, ⟨b1, b2⟩, _⟩ := h.fork i hi hl
  have h31 := h.len.2
  simp only [ic] at a2 b2
  unfold valA
  rw [endF_at h p hi, hl, condF]
  cases decide (p.g (nd l i).f.toNat ≤ (nd l i).a) with
  | true =>
    rw [condT, condT]
    have e : (nd l i).l = (((nd l i).l.toNat : Nat) : Int) := by omega
    rw [e, Int.toNat_natCast]
    rw [endF_fuel h p 30 31 _ (by omega) (by omega) (by omega)]
  | false =>
    rw [condF, condF]
    have e : (nd l i).r = (((nd l i).r.toNat : Nat) : Int) := by omega
    rw [e, Int.toNat_natCast]
    rw [endF_fuel h p 30 31 _ (by omega) (by omega) (by omega)]
theorem valT_A (l : List IV) (p : Pt) : valT l p = valA l p 0 := rfl

/-! ### leaves as boxes -/
abbrev bxAt (own : List IV) (j : Nat) : Bx := bxI (own.getD j default)
/-- Places that wait. -/
def fr (l : List IV) (i j : Nat) : Prop := i ≤ j ∧ j < l.length ∧ (j = 0 ∨ ∃ k, k < i ∧ names l k j)
structure PInv (l : List IV) (b : Bx) (i : Nat) (own out : List IV) : Prop where
  len : own.length = l.length
  val : ∀ j, fr l i j → ∀ p t, (bxAt own j).has p t = true → b.has p t = true ∧ valA l p 0 = valA l p j
  ok : ∀ j, fr l i j → (bxAt own j).ok
  all : ∀ p t, b.has p t = true → (∃ x ∈ out, (bxI x).has p t = true) ∨ ∃ j, fr l i j ∧ (bxAt own j).has p t = true
  out : ∀ x ∈ out, (bxI x).emp = false ∧ (bxI x).ok ∧ ∀ p t, (bxI x).has p t = true → b.has p t = true ∧ valT l p = pcV x
theorem fr_self {l : List IV} (h : TreeOK l) {i : Nat} (hi : i < l.length) : fr l i i := by
  refine ⟨Nat.le_refl _, hi, ?_⟩
  by_cases h0 : i = 0
  · exact .inl h0
  · obtain ⟨k, hk, hn⟩ := h.parent i (by omega) hi
    refine .inr ⟨k, ?_, hn⟩
    obtain ⟨_, _, a, b, _⟩ := h.fork k hk hn.1
    rcases hn.2 with e | e <;> omega
theorem set_at {own : List IV} {a j : Nat} {x : IV} (ha : a < own.length) : (own.set a x).getD j default = if j = a then x else own.getD j default := by
  rw [List.getD_eq_getElem?_getD, List.getElem?_set]
  by_cases e : a = j
  · subst e
    rw [if_pos rfl, if_pos ha, if_pos rfl]
    rfl
  · rw [if_neg e, if_neg (fun h => e h.symm), ← List.getD_eq_getElem?_getD]
theorem pinv_step {l : List IV} (h : TreeOK l) {b : Bx} {i : Nat} (hi : i < l.length) {own out : List IV} (hp : PInv l b i own out) :
    PInv l b (i + 1) (lvStep (nd l i) i own) (cond ((nd l i).lf && !(bxAt own i).emp) (out ++ [pcI (bxAt own i) (nd l i).v]) out) := by
  have hfi := fr_self h hi
  cases hl : (nd l i).lf with
  | true =>
    have e1 : lvStep (nd l i) i own = own := by unfold lvStep; rw [hl, condT]
    have hfr : ∀ j, fr l (i + 1) j → fr l i j := fun j hj => by
      refine ⟨by have := hj.1; omega, hj.2.1, hj.2.2.imp_right ?_⟩
      rintro ⟨k, hk, hn⟩
      refine ⟨k, ?_, hn⟩
      rcases Nat.lt_succ_iff_lt_or_eq.1 hk with h1 | h1
      · exact h1
      · subst h1
        rw [hn.1] at hl
        cases hl
    have hrf : ∀ j, fr l i j → j = i ∨ fr l (i + 1) j := fun j hj => by
      by_cases e : j = i
      · exact .inl e
      · refine .inr ⟨by have := hj.1; omega, hj.2.1, hj.2.2.imp_right ?_⟩
        rintro ⟨k, hk, hn⟩
        exact ⟨k, by omega, hn⟩
    rw [e1, Bool.true_and]
    have hv := fun p => val_leaf h p hi hl
    cases he : (bxAt own i).emp with
    | true =>
      rw [Bool.not_true, condF]
      refine ⟨hp.len, fun j hj => hp.val j (hfr j hj), fun j hj => hp.ok j (hfr j hj), fun p t hb => ?_, hp.out⟩
      rcases hp.all p t hb with h1 | ⟨j, hj, hh⟩
      · exact .inl h1
      · rcases hrf j hj with rfl | hj'
        · rw [bx_some hh] at he
          cases he
        · exact .inr ⟨j, hj', hh⟩
    | false =>
      rw [Bool.not_false, condT]
      refine ⟨hp.len, fun j hj => hp.val j (hfr j hj), fun j hj => hp.ok j (hfr j hj), fun p t hb => ?_, fun x hx => ?_⟩
      · rcases hp.all p t hb with ⟨x, hx, hh⟩ | ⟨j, hj, hh⟩
        · exact .inl ⟨x, List.mem_append.2 (.inl hx), hh⟩
        · rcases hrf j hj with rfl | hj'
          · exact .inl ⟨_, List.mem_append.2 (.inr (List.mem_singleton.2 rfl)), hh⟩
          · exact .inr ⟨j, hj', hh⟩
      · rcases List.mem_append.1 hx with hx | hx
        · exact hp.out x hx
        · obtain rfl := List.mem_singleton.1 hx
          refine ⟨he, hp.ok i hfi, fun p t hh => ?_⟩
          obtain ⟨q1, q2⟩ := hp.val i hfi p t hh
          refine ⟨q1, ?_⟩
          rw [valT_A, q2, hv p]
          rfl
  | false =>
    obtain ⟨⟨f0, f4⟩, ha, ⟨a1, a2⟩, ⟨b1, b2⟩, hne⟩ := h.fork i hi hl
    simp only [ic] at a2 b2
    have ef : (nd l i).f = (((nd l i).f.toNat : Nat) : Int) := by omega
    have hf5 : (nd l i).f.toNat < 5 := by omega
    have e1 : lvStep (nd l i) i own = (own.set (nd l i).l.toNat ((bxAt own i).cutL (nd l i).f (nd l i).a).I).set (nd l i).r.toNat ((bxAt own i).cutH (nd l i).f (nd l i).a).I := by unfold lvStep; rw [hl, condF]
    have hlen := hp.len
    have at_ : ∀ j, (lvStep (nd l i) i own).getD j default = if j = (nd l i).r.toNat then ((bxAt own i).cutH (nd l i).f (nd l i).a).I else if j = (nd l i).l.toNat then ((bxAt own i).cutL (nd l i).f (nd l i).a).I else own.getD j default := fun j => by
      rw [e1, set_at (by rw [List.length_set]; omega)]
      congr 1
      rw [set_at (by omega)]
    have fits : -2147483648 ≤ (nd l i).a ∧ (nd l i).a ≤ 2147483647 := by
      unfold fits32 at ha
      simpa only [Bool.and_eq_true, decide_eq_true_eq] using ha
    have hok := hp.ok i hfi
    have cl : ∀ p t, ((bxAt own i).cutL (nd l i).f (nd l i).a).has p t = true ↔ (bxAt own i).has p t = true ∧ p.g (nd l i).f.toNat ≤ (nd l i).a := fun p t => by
      have := cutL_bx (b := bxAt own i) hf5 (a := (nd l i).a) (p := p) (t := t)
      rw [← ef, co_feat p t (by omega)] at this
      exact this
    have ch : ∀ p t, ((bxAt own i).cutH (nd l i).f (nd l i).a).has p t = true ↔ (bxAt own i).has p t = true ∧ (nd l i).a < p.g (nd l i).f.toNat := fun p t => by
      have := cutH_bx hok hf5 (a := (nd l i).a) fits.1 (p := p) (t := t)
      rw [← ef, co_feat p t (by omega)] at this
      exact this
    have nl : names l i (nd l i).l.toNat := ⟨hl, .inl (by omega)⟩
    have nr : names l i (nd l i).r.toNat := ⟨hl, .inr (by omega)⟩
    have hfr : ∀ j, fr l (i + 1) j → j ≠ (nd l i).l.toNat → j ≠ (nd l i).r.toNat → fr l i j := fun j hj h1 h2 => by
      refine ⟨by have := hj.1; omega, hj.2.1, hj.2.2.imp_right ?_⟩
      rintro ⟨k, hk, hn⟩
      refine ⟨k, ?_, hn⟩
      rcases Nat.lt_succ_iff_lt_or_eq.1 hk with h3 | h3
      · exact h3
      · subst h3
        rcases hn.2 with e | e
        · exact absurd (by omega) h1
        · exact absurd (by omega) h2
    have hnot : ∀ j, names l i j → ¬ fr l i j := fun j hn hj => by
      obtain ⟨h1, h2, h3⟩ := hj
      have hj0 : 1 ≤ j := by rcases hn.2 with e | e <;> omega
      rcases h3 with h3 | ⟨k, hk, hk2⟩
      · omega
      · have := h.alone j k i hj0 h2 (by omega) hi hk2 hn
        omega
    have fl : fr l (i + 1) (nd l i).l.toNat := ⟨by omega, by omega, .inr ⟨i, by omega, nl⟩⟩
    have frr : fr l (i + 1) (nd l i).r.toNat := ⟨by omega, by omega, .inr ⟨i, by omega, nr⟩⟩
    have hup : ∀ j, fr l i j → j ≠ i → fr l (i + 1) j := fun j hj e => by
      refine ⟨by have := hj.1; omega, hj.2.1, hj.2.2.imp_right ?_⟩
      rintro ⟨k, hk, hn⟩
      exact ⟨k, by omega, hn⟩
    have hvf := fun p => val_fork h p hi hl
    rw [Bool.false_and, condF]
    refine ⟨by rw [e1, List.length_set, List.length_set]; exact hp.len, fun j hj p t hh => ?_, fun j hj => ?_, fun p t hb => ?_, hp.out⟩
    · unfold bxAt at hh
      rw [at_] at hh
      by_cases hr : j = (nd l i).r.toNat
      · rw [if_pos hr, bx_I, ch] at hh
        obtain ⟨q1, q2⟩ := hp.val i hfi p t hh.1
        refine ⟨q1, ?_⟩
        rw [q2, hvf p, decide_eq_false (by omega), condF, hr]
      · rw [if_neg hr] at hh
        by_cases hlj : j = (nd l i).l.toNat
        · rw [if_pos hlj, bx_I, cl] at hh
          obtain ⟨q1, q2⟩ := hp.val i hfi p t hh.1
          refine ⟨q1, ?_⟩
          rw [q2, hvf p, decide_eq_true hh.2, condT, hlj]
        · rw [if_neg hlj] at hh
          exact hp.val j (hfr j hj hlj hr) p t hh
    · unfold bxAt
      rw [at_]
      by_cases hr : j = (nd l i).r.toNat
      · rw [if_pos hr, bx_I, ef]
        exact cutH_ok hok hf5 _
      · rw [if_neg hr]
        by_cases hlj : j = (nd l i).l.toNat
        · rw [if_pos hlj, bx_I, ef]
          exact cutL_ok hok hf5 _
        · rw [if_neg hlj]
          exact hp.ok j (hfr j hj hlj hr)
    · rcases hp.all p t hb with h1 | ⟨j, hj, hh⟩
      · exact .inl h1
      · refine .inr ?_
        by_cases e : j = i
        · subst e
          by_cases hd : p.g (nd l j).f.toNat ≤ (nd l j).a
          · refine ⟨_, fl, ?_⟩
            unfold bxAt
            rw [at_, if_neg (by omega), if_pos rfl, bx_I, cl]
            exact ⟨hh, hd⟩
          · refine ⟨_, frr, ?_⟩
            unfold bxAt
            rw [at_, if_pos rfl, bx_I, ch]
            exact ⟨hh, by omega⟩
        · refine ⟨j, hup j hj e, ?_⟩
          unfold bxAt
          rw [at_, if_neg (fun (er : j = (nd l i).r.toNat) => hnot j (er ▸ nr) hj), if_neg (fun (er : j = (nd l i).l.toNat) => hnot j (er ▸ nl) hj)]
          exact hh
theorem pinv_run {l : List IV} (h : TreeOK l) {b : Bx} : ∀ (m i : Nat) (own out : List IV), i + m = l.length → PInv l b i own out → ∃ own', PInv l b l.length own' (lvRun (l.drop i) i own out)
  | 0, i, own, out, hd, hp => by
    have hi : i = l.length := by omega
    subst hi
    rw [List.drop_length, lvRun]
    exact ⟨own, hp⟩
  | m + 1, i, own, out, hd, hp => by
    have hi : i < l.length := by omega
    rw [List.drop_eq_getElem_cons hi, lvRun]
    have hs := pinv_step h hi hp
    have e : nd l i = nodeN (l[i]).toInt := by unfold nd; rw [getD_lt hi]
    rw [e] at hs
    exact pinv_run h m (i + 1) _ _ (by omega) hs
/-- What the leaves' boxes are: in the box; with the tree's value; all points. -/
theorem leaves_sem {l : List IV} (ht : treeB l 4 = true) {b : Bx} (hb : b.emp = false) (hok : b.ok) :
    (∀ x ∈ leavesF l b, (bxI x).emp = false ∧ (bxI x).ok ∧ ∀ p t, (bxI x).has p t = true → b.has p t = true ∧ valT l p = pcV x) ∧
      ∀ p t, b.has p t = true → ∃ x ∈ leavesF l b, (bxI x).has p t = true := by
  have h := tree_good ht
  have h1 := h.len.1
  have hz : ((List.replicate l.length bx0.I).set 0 b.I).getD 0 default = b.I := by rw [set_at (by simp; omega), if_pos rfl]
  have f0 : ∀ j, fr l 0 j → j = 0 := fun j hj => by
    rcases hj.2.2 with e | ⟨k, hk, _⟩
    · exact e
    · omega
  have h0 : PInv l b 0 ((List.replicate l.length bx0.I).set 0 b.I) [] := by
    refine ⟨by simp, fun j hj p t hh => ?_, fun j hj => ?_, fun p t hh => .inr ⟨0, fr_self h (by omega), ?_⟩, fun x hx => by cases hx⟩
    · obtain rfl := f0 j hj
      unfold bxAt at hh
      rw [hz, bx_I] at hh
      exact ⟨hh, rfl⟩
    · obtain rfl := f0 j hj
      unfold bxAt
      rw [hz, bx_I]
      exact hok
    · unfold bxAt
      rw [hz, bx_I]
      exact hh
  obtain ⟨own', hp⟩ := pinv_run h l.length 0 _ _ (by omega) h0
  have e : leavesF l b = lvRun (l.drop 0) 0 ((List.replicate l.length bx0.I).set 0 b.I) [] := by unfold leavesF; rw [ht, hb]; rfl
  rw [e]
  refine ⟨hp.out, fun p t hh => ?_⟩
  rcases hp.all p t hh with h1 | ⟨j, hj, _⟩
  · exact h1
  · have := hj.1
    have := hj.2.1
    omega

/-! ### the least and the greatest -/
theorem minV_le : ∀ {l : List IV} {a : Int}, minV l a ≤ a ∧ ∀ x ∈ l, minV l a ≤ pcV x
  | [], a => ⟨Int.le_refl _, fun x hx => by cases hx⟩
  | y :: r, a => by
    rw [minV]
    obtain ⟨h1, h2⟩ := minV_le (l := r) (a := min a (pcV y))
    refine ⟨by omega, fun x hx => ?_⟩
    rcases List.mem_cons.1 hx with rfl | hx
    · omega
    · exact h2 x hx
theorem maxV_ge : ∀ {l : List IV} {a : Int}, a ≤ maxV l a ∧ ∀ x ∈ l, pcV x ≤ maxV l a
  | [], a => ⟨Int.le_refl _, fun x hx => by cases hx⟩
  | y :: r, a => by
    rw [maxV]
    obtain ⟨h1, h2⟩ := maxV_ge (l := r) (a := max a (pcV y))
    refine ⟨by omega, fun x hx => ?_⟩
    rcases List.mem_cons.1 hx with rfl | hx
    · omega
    · exact h2 x hx
theorem minV_at : ∀ {l : List IV} {a : Int}, minV l a = a ∨ ∃ x ∈ l, minV l a = pcV x
  | [], a => .inl rfl
  | y :: r, a => by
    rw [minV]
    rcases minV_at (l := r) (a := min a (pcV y)) with h | ⟨x, hx, h⟩
    · rw [h]
      by_cases hd : a ≤ pcV y
      · exact .inl (by omega)
      · exact .inr ⟨y, List.mem_cons_self .., by omega⟩
    · exact .inr ⟨x, List.mem_cons_of_mem _ hx, h⟩
theorem maxV_at : ∀ {l : List IV} {a : Int}, maxV l a = a ∨ ∃ x ∈ l, maxV l a = pcV x
  | [], a => .inl rfl
  | y :: r, a => by
    rw [maxV]
    rcases maxV_at (l := r) (a := max a (pcV y)) with h | ⟨x, hx, h⟩
    · rw [h]
      by_cases hd : pcV y ≤ a
      · exact .inl (by omega)
      · exact .inr ⟨y, List.mem_cons_self .., by omega⟩
    · exact .inr ⟨x, List.mem_cons_of_mem _ hx, h⟩
theorem ps_sem {ps : List IV} (hp : ps ≠ []) : (∀ x ∈ ps, psLo ps ≤ pcV x ∧ pcV x ≤ psHi ps) ∧ (∃ x ∈ ps, pcV x = psLo ps) ∧ ∃ x ∈ ps, pcV x = psHi ps := by
  unfold psLo psHi
  cases ps with
  | nil => exact absurd rfl hp
  | cons y r =>
    have e : (y :: r).getD 0 default = y := rfl
    rw [e]
    refine ⟨fun x hx => ⟨minV_le.2 x hx, maxV_ge.2 x hx⟩, ?_, ?_⟩
    · rcases minV_at (l := y :: r) (a := pcV y) with h | ⟨x, hx, h⟩
      · exact ⟨y, List.mem_cons_self .., h.symm⟩
      · exact ⟨x, hx, h.symm⟩
    · rcases maxV_at (l := y :: r) (a := pcV y) with h | ⟨x, hx, h⟩
      · exact ⟨y, List.mem_cons_self .., h.symm⟩
      · exact ⟨x, hx, h.symm⟩
/-- A tree's bounds over a box: of its values there; each is one. -/
theorem t_sem {l : List IV} (ht : treeB l 4 = true) {b : Bx} (hb : b.emp = false) (hok : b.ok) :
    (∀ p t, b.has p t = true → tLo l b ≤ valT l p ∧ valT l p ≤ tHi l b) ∧ (∃ p t, b.has p t = true ∧ valT l p = tLo l b) ∧ ∃ p t, b.has p t = true ∧ valT l p = tHi l b := by
  obtain ⟨h1, h2⟩ := leaves_sem ht hb hok
  have hne : leavesF l b ≠ [] := fun e => by
    obtain ⟨x, hx, _⟩ := h2 b.low b.s4.hi (bx_low b hb)
    rw [e] at hx
    cases hx
  obtain ⟨q1, ⟨x, hx, q2⟩, ⟨y, hy, q3⟩⟩ := ps_sem hne
  have hT : tOK l b = true := by
    unfold tOK
    cases he : leavesF l b with
    | nil => exact absurd he hne
    | cons _ _ => rfl
  unfold tLo tHi
  rw [hT, condT, condT]
  refine ⟨fun p t hh => ?_, ⟨(bxI x).low, (bxI x).s4.hi, ?_⟩, ⟨(bxI y).low, (bxI y).s4.hi, ?_⟩⟩
  · obtain ⟨z, hz, hzh⟩ := h2 p t hh
    rw [((h1 z hz).2.2 p t hzh).2]
    exact q1 z hz
  · obtain ⟨r1, r2⟩ := (h1 x hx).2.2 _ _ (bx_low _ (h1 x hx).1)
    exact ⟨r1, r2.trans q2⟩
  · obtain ⟨r1, r2⟩ := (h1 y hy).2.2 _ _ (bx_low _ (h1 y hy).1)
    exact ⟨r1, r2.trans q3⟩
end Go.FM

/-
  GOALS AND CUTS: plain law: what is closed is not broken; a box without cuts is closed or broken at its corner.
-/
namespace Go.FM
open Go

/-! ### models that are right -/
theorem tree_of {m : Md} (hm : modelB m = true) {t : IV} (ht : t ∈ m.ts) : treeB (tNds t) 4 = true := by
  have h := modelB_parts hm
  exact treeB_mono (treeOK_parts (List.all_eq_true.1 h.2.2.2.2 t ht)).2 h.1.2

/-! ### sums -/
theorem sumT_le (g : List IV → Int) (k : Int) (p : Pt) : ∀ (ts : List IV) (s s' : Int), (∀ t ∈ ts, g (tNds t) ≤ valT (tNds t) p) → s ≤ s' → sumT g k ts s ≤ evF k p ts s'
  | [], _, _, _, h => h
  | t :: r, s, s', hg, h => by
    rw [sumT, evF]
    have h1 := hg t (List.mem_cons_self ..)
    refine sumT_le g k p r _ _ (fun u hu => hg u (List.mem_cons_of_mem _ hu)) ?_
    cases (tCls t == k) <;> simp only [cond_true, cond_false] <;> omega
theorem sumT_ge (g : List IV → Int) (k : Int) (p : Pt) : ∀ (ts : List IV) (s s' : Int), (∀ t ∈ ts, valT (tNds t) p ≤ g (tNds t)) → s' ≤ s → evF k p ts s' ≤ sumT g k ts s
  | [], _, _, _, h => h
  | t :: r, s, s', hg, h => by
    rw [sumT, evF]
    have h1 := hg t (List.mem_cons_self ..)
    refine sumT_ge g k p r _ _ (fun u hu => hg u (List.mem_cons_of_mem _ hu)) ?_
    cases (tCls t == k) <;> simp only [cond_true, cond_false] <;> omega
theorem sOK_parts {m : Md} {k : Int} {b : Bx} (h : sOK m k b = true) : modelB m = true ∧ clsOK m k = true ∧ b.emp = false := by
  unfold sOK at h
  simp only [Bool.and_eq_true, Bool.not_eq_true'] at h
  exact h
theorem evalM_eq {m : Md} {k : Int} (hm : modelB m = true) (hk : clsOK m k = true) (p : Pt) : evalM m k p = evF k p m.ts (biasOf m k) := by
  unfold evalM
  rw [hm, hk]
  rfl
/-- A class's bounds over a box are bounds. -/
theorem s_sem {m : Md} {k : Int} {b : Bx} (h : sOK m k b = true) (hok : b.ok) {p : Pt} {t : Int} (hh : b.has p t = true) : sLo m k b ≤ evalM m k p ∧ evalM m k p ≤ sHi m k b := by
  obtain ⟨hm, hk, hb⟩ := sOK_parts h
  unfold sLo sHi
  rw [h, condT, condT, evalM_eq hm hk]
  exact ⟨sumT_le _ k p m.ts _ _ (fun t ht => ((t_sem (tree_of hm ht) hb hok).1 p _ hh).1) (Int.le_refl _), sumT_ge _ k p m.ts _ _ (fun t ht => ((t_sem (tree_of hm ht) hb hok).1 p _ hh).2) (Int.le_refl _)⟩
/-- Where each tree has one value they are the sum. -/
theorem s_const {m : Md} {k : Int} {b : Bx} (h : sOK m k b = true) (hok : b.ok) {p : Pt} {t : Int} (hh : b.has p t = true) (hc : ∀ u ∈ m.ts, ∀ p' t', b.has p' t' = true → valT (tNds u) p' = valT (tNds u) p) : sLo m k b = evalM m k p ∧ sHi m k b = evalM m k p := by
  obtain ⟨hm, hk, hb⟩ := sOK_parts h
  have h1 := s_sem h hok hh
  have h2 : evalM m k p ≤ sLo m k b ∧ sHi m k b ≤ evalM m k p := by
    unfold sLo sHi
    rw [h, condT, condT, evalM_eq hm hk]
    refine ⟨sumT_ge _ k p m.ts _ _ (fun u hu => ?_) (Int.le_refl _), sumT_le _ k p m.ts _ _ (fun u hu => ?_) (Int.le_refl _)⟩
    · obtain ⟨_, ⟨p', t', q1, q2⟩, _⟩ := t_sem (tree_of hm hu) hb hok
      rw [← hc u hu p' t' q1]
      exact Int.le_of_eq q2
    · obtain ⟨_, _, ⟨p', t', q1, q2⟩⟩ := t_sem (tree_of hm hu) hb hok
      rw [← hc u hu p' t' q1]
      exact Int.le_of_eq q2.symm
  omega

/-! ### thresholds -/
theorem cmpF_mem' {x : Int} : ∀ {l : List Int} {p : Int}, x ∈ l → x = p ∨ x ∈ cmpF p l
  | y :: r, p, h => by
    rw [cmpF]
    cases hb : (y == p) with
    | true =>
      have hb := beq_iff_eq.1 hb
      rw [condT]
      rcases List.mem_cons.1 h with h | h
      · exact .inl (h.trans hb)
      · rcases cmpF_mem' (p := y) h with h1 | h1
        · exact .inl (h1.trans hb)
        · exact .inr h1
    | false =>
      rw [condF]
      rcases List.mem_cons.1 h with h | h
      · exact .inr (h ▸ List.mem_cons_self ..)
      · rcases cmpF_mem' (p := y) h with h1 | h1
        · exact .inr (h1 ▸ List.mem_cons_self ..)
        · exact .inr (List.mem_cons_of_mem _ h1)
theorem cmpZ_mem' {x : Int} {l : List Int} (h : x ∈ l) : x ∈ cmpZ l := by
  cases l with
  | nil => cases h
  | cons y r =>
    rw [cmpZ]
    rcases List.mem_cons.1 h with h | h
    · exact h ▸ List.mem_cons_self ..
    · rcases cmpF_mem' (p := y) h with h1 | h1
      · exact h1 ▸ List.mem_cons_self ..
      · exact List.mem_cons_of_mem _ h1
theorem thr_mem {ts : List IV} {f a : Int} : a ∈ thrZ ts f ↔ ∃ t ∈ ts, ∃ w ∈ tNds t, (nodeN w.toInt).lf = false ∧ (nodeN w.toInt).f = f ∧ (nodeN w.toInt).a = a := by
  have e : a ∈ thrZ ts f ↔ a ∈ thrRaw ts f := by
    unfold thrZ
    exact ⟨fun h => (sortZ_perm _).mem_iff.1 (cmpZ_mem h), fun h => cmpZ_mem' ((sortZ_perm _).mem_iff.2 h)⟩
  rw [e]
  unfold thrRaw
  simp only [List.mem_flatMap]
  constructor
  · rintro ⟨t, ht, w, hw, h⟩
    unfold thrN at h
    cases hc : (!(nodeN w.toInt).lf && (nodeN w.toInt).f == f) with
    | false => rw [hc, condF] at h; cases h
    | true =>
      rw [hc, condT] at h
      simp only [Bool.and_eq_true, Bool.not_eq_true', beq_iff_eq] at hc
      exact ⟨t, ht, w, hw, hc.1, hc.2, (List.mem_singleton.1 h).symm⟩
  · rintro ⟨t, ht, w, hw, h1, h2, h3⟩
    refine ⟨t, ht, w, hw, ?_⟩
    unfold thrN
    rw [h1, h2, beq_self_eq_true]
    exact List.mem_singleton.2 h3.symm
/-- No threshold parts a span. -/
def flatOn (m : Md) (s : Sp) (f : Int) : Prop := ∀ a ∈ thrZ m.ts f, ¬ (s.lo ≤ a ∧ a < s.hi)
theorem keep_mem {lo hi a : Int} {l : List Int} : a ∈ keepZ lo hi l ↔ a ∈ l ∧ lo ≤ a ∧ a < hi := by
  unfold keepZ
  rw [List.mem_filter]
  simp only [Bool.not_eq_true', Bool.or_eq_false_iff, decide_eq_false_iff_not]
  constructor
  · rintro ⟨h, h1, h2⟩; exact ⟨h, by omega, by omega⟩
  · rintro ⟨h, h1, h2⟩; exact ⟨h, by omega, by omega⟩
theorem cuts_mem {m : Md} {q : Qy} {b : Bx} {i : Nat} {a : Int} : a ∈ cutsZ m q b i ↔ 0 ≤ featG q (i : Int) ∧ a ∈ thrZ m.ts (featG q (i : Int)) ∧ (b.g i).lo ≤ a ∧ a < (b.g i).hi := by
  unfold cutsZ
  cases hd : decide (featG q (i : Int) < 0) with
  | true =>
    have := of_decide_eq_true hd
    rw [condT]
    constructor
    · intro h; cases h
    · rintro ⟨h, _⟩; omega
  | false =>
    have := of_decide_eq_false hd
    rw [condF, keep_mem]
    constructor
    · intro h; exact ⟨by omega, h⟩
    · exact fun h => h.2
theorem flat_of {m : Md} {q : Qy} {b : Bx} {i : Nat} (h : cutsZ m q b i = []) (hf : 0 ≤ featG q (i : Int)) : flatOn m (b.g i) (featG q (i : Int)) := by
  intro a ha hr
  have : a ∈ cutsZ m q b i := cuts_mem.2 ⟨hf, ha, hr⟩
  rw [h] at this
  cases this
theorem featG_lt {q : Qy} {i : Nat} (hi : i < 4) : featG q (i : Int) = (i : Int) := by
  unfold featG
  rw [decide_eq_true (show (i : Int) ≥ 0 by omega), decide_eq_true (show (i : Int) < 4 by omega)]
  rfl
theorem val_same {l : List IV} {p p' : Pt} (h : ∀ w ∈ l, nodeB w.toInt = true → (nodeN w.toInt).lf = false → (p.g (nodeN w.toInt).f.toNat ≤ (nodeN w.toInt).a ↔ p'.g (nodeN w.toInt).f.toNat ≤ (nodeN w.toInt).a)) : ∀ (n : Nat) (a : Int), endF l p n a = endF l p' n a
  | 0, _ => rfl
  | n + 1, a => by
    rw [endF, endF]
    cases decide (a ≥ ic l.length) with
    | true => rfl
    | false =>
      rw [condF, condF]
      by_cases hlt : a.toNat < l.length
      · have hw : l.getD a.toNat default ∈ l := by rw [getD_lt hlt]; exact List.getElem_mem hlt
        generalize l.getD a.toNat default = w at hw ⊢
        cases hb : nodeB w.toInt with
        | false => rfl
        | true =>
          rw [Bool.not_true, condF, condF]
          cases hl : (nodeN w.toInt).lf with
          | true => rfl
          | false =>
            have := h w hw hb hl
            have ed : decide (p.g (nodeN w.toInt).f.toNat ≤ (nodeN w.toInt).a) = decide (p'.g (nodeN w.toInt).f.toNat ≤ (nodeN w.toInt).a) := by
              rw [Bool.eq_iff_iff, decide_eq_true_eq, decide_eq_true_eq]
              exact this
            rw [condF, condF, ed, val_same h n _, val_same h n _]
      · have e : l.getD a.toNat default = default := by
          rw [List.getD_eq_getElem?_getD, List.getElem?_eq_none (by omega)]
          rfl
        rw [e]
        rfl
/-- In a box that no threshold parts each tree has one value. -/
theorem flat_val {m : Md} {b : Bx} (hf : ∀ f : Nat, f < 4 → flatOn m (b.g f) (f : Int)) {u : IV} (hu : u ∈ m.ts) {p p' : Pt} {t t' : Int} (h : b.has p t = true) (h' : b.has p' t' = true) : valT (tNds u) p' = valT (tNds u) p := by
  unfold valT endNd
  rw [val_same (p := p') (p' := p) fun w hw hb hl => ?_]
  obtain ⟨⟨f0, f4⟩, _⟩ := node_fork hb hl
  have ef : (nodeN w.toInt).f = (((nodeN w.toInt).f.toNat : Nat) : Int) := by omega
  have hlt : (nodeN w.toInt).f.toNat < 4 := by omega
  have h1 := sp_has.1 (bx_has.1 h _ (show (nodeN w.toInt).f.toNat < 5 by omega))
  have h2 := sp_has.1 (bx_has.1 h' _ (show (nodeN w.toInt).f.toNat < 5 by omega))
  rw [co_feat _ _ hlt] at h1 h2
  have h3 := hf _ hlt (nodeN w.toInt).a (thr_mem.2 ⟨u, hu, w, hw, hl, ef, rfl⟩)
  omega
theorem s_flat {m : Md} {k : Int} {b : Bx} (h : sOK m k b = true) (hok : b.ok) (hf : ∀ f : Nat, f < 4 → flatOn m (b.g f) (f : Int)) {p : Pt} {t : Int} (hh : b.has p t = true) : sLo m k b = evalM m k p ∧ sHi m k b = evalM m k p :=
  s_const h hok hh fun _ hu _ _ h' => flat_val hf hu hh h'

/-! ### margins -/
/-- The least of what is to come, and of what was. -/
theorem margR_pos {m : Md} {c lo : Int} {b : Bx} : ∀ (d : Nat) (i a : Int) (z : Bool), (0 < margR m c lo b d i a z ↔ (z = true ∨ ∃ j : Nat, j < d ∧ i + j ≠ c) ∧ (z = true → 0 < a) ∧ ∀ j : Nat, j < d → i + j ≠ c → sHi m (i + j) b < lo) ∨ (z = false ∧ ∀ j : Nat, j < d → i + j = c)
  | 0, i, a, z => by
    cases z with
    | false => exact .inr ⟨rfl, fun j hj => absurd hj (Nat.not_lt_zero j)⟩
    | true =>
      refine .inl ?_
      rw [margR]
      exact ⟨fun h => ⟨.inl rfl, fun _ => h, fun j hj => absurd hj (Nat.not_lt_zero j)⟩, fun h => h.2.1 rfl⟩
  | d + 1, i, a, z => by
    rw [margR]
    have sh : ∀ j : Nat, i + 1 + (j : Int) = i + ((j + 1 : Nat) : Int) := fun j => by omega
    cases hc : (i == c) with
    | true =>
      have hc := beq_iff_eq.1 hc
      rw [condT]
      rcases margR_pos (m := m) (c := c) (lo := lo) (b := b) d (i + 1) a z with h | ⟨h1, h2⟩
      · refine .inl (h.trans ?_)
        constructor
        · rintro ⟨q1, q2, q3⟩
          refine ⟨q1.imp_right ?_, q2, fun j hj hne => ?_⟩
          · rintro ⟨j, hj, hne⟩; exact ⟨j + 1, by omega, by rw [← sh j]; exact hne⟩
          · cases j with
            | zero => exact absurd (by simpa using hc) hne
            | succ j => rw [← sh j] at hne ⊢; exact q3 j (by omega) hne
        · rintro ⟨q1, q2, q3⟩
          refine ⟨q1.imp_right ?_, q2, fun j hj hne => ?_⟩
          · rintro ⟨j, hj, hne⟩
            cases j with
            | zero => exact absurd (by simpa using hc) hne
            | succ j => exact ⟨j, by omega, by rw [sh j]; exact hne⟩
          · rw [sh j] at hne ⊢; exact q3 (j + 1) (by omega) hne
      · refine .inr ⟨h1, fun j hj => ?_⟩
        cases j with
        | zero => simpa using hc
        | succ j => rw [← sh j]; exact h2 j (by omega)
    | false =>
      have hc : i ≠ c := fun e => by rw [e, beq_self_eq_true] at hc; cases hc
      rw [condF]
      refine .inl ?_
      have key : ∀ (a' : Int), (0 < a' ↔ (z = true → 0 < a) ∧ sHi m i b < lo) → (0 < margR m c lo b d (i + 1) a' true ↔ (z = true ∨ ∃ j : Nat, j < d + 1 ∧ i + (j : Int) ≠ c) ∧ (z = true → 0 < a) ∧ ∀ j : Nat, j < d + 1 → i + (j : Int) ≠ c → sHi m (i + j) b < lo) := fun a' ha' => by
        rcases margR_pos (m := m) (c := c) (lo := lo) (b := b) d (i + 1) a' true with h | ⟨h1, _⟩
        · rw [h]
          constructor
          · rintro ⟨_, q2, q3⟩
            obtain ⟨r1, r2⟩ := ha'.1 (q2 rfl)
            refine ⟨.inr ⟨0, by omega, by simpa using hc⟩, r1, fun j hj hne => ?_⟩
            cases j with
            | zero => simpa using r2
            | succ j => rw [← sh j] at hne ⊢; exact q3 j (by omega) hne
          · rintro ⟨_, q2, q3⟩
            have r2 := q3 0 (by omega) (by simpa using hc)
            refine ⟨.inl rfl, fun _ => ha'.2 ⟨q2, by simpa using r2⟩, fun j hj hne => ?_⟩
            rw [sh j] at hne ⊢
            exact q3 (j + 1) (by omega) hne
        · cases h1
      cases z with
      | false =>
        rw [Bool.not_false, Bool.true_or, condT]
        exact key _ ⟨fun h => ⟨fun h => (by cases h), by omega⟩, fun h => by have := h.2; omega⟩
      | true =>
        rw [Bool.not_true, Bool.false_or]
        cases hd : decide (lo - sHi m i b < a) with
        | true =>
          have hd := of_decide_eq_true hd
          rw [condT]
          exact key _ ⟨fun h => ⟨fun _ => by omega, by omega⟩, fun h => by have := h.2; omega⟩
        | false =>
          have hd := of_decide_eq_false hd
          rw [condF]
          exact key _ ⟨fun h => ⟨fun _ => h, by omega⟩, fun h => h.1 rfl⟩
/-- A margin above nought: all other classes' upper sums are below. -/
theorem marg_pos {m : Md} {c : Int} {b : Bx} (h : mgOK m c b = true) : 0 < marg m c b ↔ ∀ j : Nat, (j : Int) < m.c → (j : Int) ≠ c → sHi m (j : Int) b < sLo m c b := by
  have h0 := h
  unfold mgOK at h0
  rw [Bool.and_eq_true, decide_eq_true_eq] at h0
  obtain ⟨hs, h2⟩ := h0
  have hc := clsOK_in (sOK_parts hs).2.1
  unfold marg
  rw [h, condT]
  rcases margR_pos (m := m) (c := c) (lo := sLo m c b) (b := b) m.c.toNat 0 0 false with h1 | ⟨_, h1⟩
  · rw [h1]
    simp only [Int.zero_add]
    constructor
    · rintro ⟨_, _, q⟩ j hj hne
      exact q j (by omega) hne
    · intro q
      refine ⟨.inr ?_, fun h => (by cases h), fun j hj hne => q j (by omega) hne⟩
      by_cases e : c = 0
      · exact ⟨1, by omega, by omega⟩
      · exact ⟨0, by omega, by omega⟩
  · have q0 := h1 0 (by omega)
    have q1 := h1 1 (by omega)
    omega

/-! ### pairs -/
theorem pt_g_p (p : Pt) (x t : Int) : ∀ {f i : Nat}, f < 4 → i < 5 → co (p.p x f) t i = if i = f then x else co p t i
  | 0, 0, _, _ => rfl
  | 0, 1, _, _ => rfl
  | 0, 2, _, _ => rfl
  | 0, 3, _, _ => rfl
  | 0, 4, _, _ => rfl
  | 1, 0, _, _ => rfl
  | 1, 1, _, _ => rfl
  | 1, 2, _, _ => rfl
  | 1, 3, _, _ => rfl
  | 1, 4, _, _ => rfl
  | 2, 0, _, _ => rfl
  | 2, 1, _, _ => rfl
  | 2, 2, _, _ => rfl
  | 2, 3, _, _ => rfl
  | 2, 4, _, _ => rfl
  | 3, 0, _, _ => rfl
  | 3, 1, _, _ => rfl
  | 3, 2, _, _ => rfl
  | 3, 3, _, _ => rfl
  | 3, 4, _, _ => rfl
  | f + 4, _, h, _ => absurd h (by omega)
  | _, i + 5, _, h => absurd h (by omega)
theorem co_t (p : Pt) (t t' : Int) : ∀ {i : Nat}, i < 4 → co p t i = co p t' i
  | 0, _ => rfl
  | 1, _ => rfl
  | 2, _ => rfl
  | 3, _ => rfl
  | i + 4, h => absurd h (by omega)
theorem first_has {q : Qy} {b : Bx} (hp : paired q = true) {p : Pt} {t : Int} (h : b.has p t = true) : (firstB q b).has p 0 = true := by
  rw [bx_has] at h ⊢
  intro i hi
  unfold firstB
  rw [hp, condT, bx_g_p _ _ (by omega) hi]
  by_cases e : i = 4
  · subst e
    rw [if_pos rfl]
    rfl
  · rw [if_neg e, co_t p 0 t (by omega)]
    exact h i hi
theorem second_has {q : Qy} {b : Bx} (hp : paired q = true) {p : Pt} {t : Int} (h : b.has p t = true) : (secondB q b).has (secondP q p t) 0 = true := by
  have hf : q.ft.toNat < 4 := by rcases paired_ft hp with e | e | e | e <;> rw [e] <;> decide
  rw [bx_has] at h ⊢
  intro i hi
  unfold secondB secondP
  rw [hp, condT, condT, bx_g_p _ _ (by omega) hi]
  by_cases e : i = 4
  · subst e
    rw [if_pos rfl]
    have : co (p.p t q.ft.toNat) 0 4 = 0 := rfl
    rw [this]
    rfl
  · rw [if_neg e, bx_g_p _ _ (by omega) hi, pt_g_p p t 0 hf hi]
    by_cases e2 : i = q.ft.toNat
    · rw [if_pos e2, if_pos e2]
      exact h 4 (by omega)
    · rw [if_neg e2, if_neg e2, co_t p 0 t (by omega)]
      exact h i hi
theorem first_ok {q : Qy} {b : Bx} (hb : b.ok) : (firstB q b).ok := by
  unfold firstB
  cases paired q with
  | true => exact p_ok (s := ⟨0, 0⟩) (i := 4) hb (show (0 : Int) ≤ 2147483647 by omega) (by omega)
  | false => exact hb
theorem second_ok {q : Qy} {b : Bx} (hb : b.ok) : (secondB q b).ok := by
  unfold secondB
  cases hp : paired q with
  | true =>
    have hf : q.ft.toNat < 5 := by rcases paired_ft hp with e | e | e | e <;> rw [e] <;> decide
    exact p_ok (s := ⟨0, 0⟩) (i := 4) (p_ok hb (hb 4 (by omega)) hf) (show (0 : Int) ≤ 2147483647 by omega) (by omega)
  | false => exact hb

/-! ### what is closed is not broken -/
theorem clsOK_of {m : Md} {k : Int} (h0 : 0 ≤ k) (h1 : k < m.c) : clsOK m k = true := by
  unfold clsOK
  rw [decide_eq_true h0, decide_eq_true h1]
  rfl
theorem sOK_of {m : Md} {k : Int} {b : Bx} (hm : modelB m = true) (hk : clsOK m k = true) (hb : b.emp = false) : sOK m k b = true := by
  unfold sOK
  rw [hm, hk, hb]
  rfl
theorem paired_of {m : Md} {q : Qy} (hm : modelB m = true) (hk : q.k = 3) (hf : 0 ≤ q.ft ∧ q.ft < m.d) : paired q = true := by
  have := (modelB_parts hm).1
  unfold paired
  rw [hk, decide_eq_true (show q.ft ≥ 0 by omega), decide_eq_true (show q.ft < 4 by omega)]
  rfl
theorem others_mem {m : Md} {q : Qy} {p : Pt} {own : Int} : othersGe m q p own = true ↔ ∃ j : Nat, (j : Int) < m.c ∧ (j : Int) ≠ q.c ∧ evalM m (j : Int) p ≥ own := by
  unfold othersGe
  rw [List.any_eq_true]
  constructor
  · rintro ⟨c, hc, h⟩
    simp only [Bool.and_eq_true, Bool.not_eq_true', beq_eq_false_iff_ne, decide_eq_true_eq] at h
    exact ⟨c, by have := List.mem_range.1 hc; omega, h.1, h.2⟩
  · rintro ⟨j, h1, h2, h3⟩
    refine ⟨j, List.mem_range.2 (by omega), ?_⟩
    simp only [Bool.and_eq_true, Bool.not_eq_true', beq_eq_false_iff_ne, decide_eq_true_eq]
    exact ⟨h2, h3⟩
theorem closed_sound {m : Md} {q : Qy} {b : Bx} (hok : b.ok) (hc : closedF m q b = true) {p : Pt} {t : Int} (hh : b.has p t = true) : breaksF m q p t = false := by
  unfold closedF at hc
  rw [Bool.and_eq_true] at hc
  obtain ⟨hr, hc⟩ := hc
  obtain ⟨hm, ⟨c0, c1⟩, _, _, hk⟩ := rightQ_parts hr
  have hb := bx_some hh
  have hcl := clsOK_of c0 c1
  have hs := sOK_of hm hcl hb
  rw [hb, condF] at hc
  unfold breaksF
  rw [hr, Bool.true_and]
  rcases kind_cases hk with ⟨e, _⟩ | ⟨e, h2, _⟩ | ⟨e, hf, _⟩
  · rw [e] at hc ⊢
    replace hc : (sOK m q.c b && (decide (q.lo ≤ sLo m q.c b) && decide (sHi m q.c b ≤ q.hi))) = true := hc
    simp only [Bool.and_eq_true, decide_eq_true_eq] at hc
    have := s_sem hs hok hh
    show (!(Sp.has ⟨q.lo, q.hi⟩ (evalM m q.c p))) = false
    rw [Bool.not_eq_false', sp_has]
    exact ⟨by show q.lo ≤ _; omega, by show _ ≤ q.hi; omega⟩
  · rw [e] at hc ⊢
    replace hc : (mgOK m q.c b && decide (marg m q.c b > 0)) = true := hc
    rw [Bool.and_eq_true, decide_eq_true_eq] at hc
    have hall := (marg_pos hc.1).1 hc.2
    show othersGe m q p (evalM m q.c p) = false
    cases ho : othersGe m q p (evalM m q.c p) with
    | false => rfl
    | true =>
      obtain ⟨j, h3, h4, h5⟩ := others_mem.1 ho
      have h6 := hall j h3 h4
      have h7 := s_sem hs hok hh
      have h8 := s_sem (sOK_of hm (clsOK_of (k := (j : Int)) (by omega) h3) hb) hok hh
      omega
  · rw [e] at hc ⊢
    have hp := paired_of hm e hf
    have hf5 : q.ft.toNat < 4 := by rcases paired_ft hp with e | e | e | e <;> rw [e] <;> decide
    replace hc : cond (!(ordered q b)) true (cond q.fl (chOK m q b && decide (chHi m q b ≤ 0)) (chOK m q b && decide (chLo m q b ≥ 0))) = true := hc
    show cond (decide (p.g q.ft.toNat ≥ t)) false _ = false
    cases hd : decide (p.g q.ft.toNat ≥ t) with
    | true => rfl
    | false =>
      have hd := of_decide_eq_false hd
      have h1 := sp_has.1 (bx_has.1 hh q.ft.toNat (by omega))
      have h2 := sp_has.1 (bx_has.1 hh 4 (by omega))
      rw [co_feat p t hf5] at h1
      have ho : ordered q b = true := by
        unfold ordered
        rw [hp, hb, decide_eq_true]
        · rfl
        · have h2' : t ≤ b.s4.hi := h2.2
          omega
      rw [ho, Bool.not_true, condF] at hc
      have f1 := first_has (b := b) hp hh
      have f2 := second_has (b := b) hp hh
      have s1 := s_sem (sOK_of hm hcl (bx_some f1)) (first_ok hok) f1
      have s2 := s_sem (sOK_of hm hcl (bx_some f2)) (second_ok hok) f2
      rw [condF]
      cases hfl : q.fl with
      | true =>
        rw [hfl, condT, Bool.and_eq_true, decide_eq_true_eq] at hc
        rw [condT, decide_eq_false_iff_not]
        have h3 := hc.2
        unfold chHi at h3
        rw [hc.1, condT] at h3
        omega
      | false =>
        rw [hfl, condF, Bool.and_eq_true, decide_eq_true_eq] at hc
        rw [condF, decide_eq_false_iff_not]
        have h3 := hc.2
        unfold chLo at h3
        rw [hc.1, condT] at h3
        omega

/-! ### a box without cuts -/
theorem cell_decided {m : Md} {q : Qy} {b : Bx} (hr : rightQ m q = true) (hb : b.emp = false) (hok : b.ok) (hn : ∀ i, i < 5 → cutsZ m q b i = []) : closedF m q b = true ∨ breaksF m q b.low b.s4.hi = true := by
  obtain ⟨hm, ⟨c0, c1⟩, _, _, hk⟩ := rightQ_parts hr
  have hcl := clsOK_of c0 c1
  have hs := sOK_of hm hcl hb
  have hh := bx_low b hb
  have hfl : ∀ f : Nat, f < 4 → flatOn m (b.g f) (f : Int) := fun f hf => by
    have := flat_of (hn f (by omega)) (by rw [featG_lt hf]; omega)
    rwa [featG_lt hf] at this
  unfold closedF breaksF
  rw [hr, hb, Bool.true_and, Bool.true_and, condF]
  rcases kind_cases hk with ⟨e, _⟩ | ⟨e, h2, _⟩ | ⟨e, hf, _⟩
  · rw [e]
    obtain ⟨q1, q2⟩ := s_flat hs hok hfl hh
    show (sOK m q.c b && (decide (q.lo ≤ sLo m q.c b) && decide (sHi m q.c b ≤ q.hi))) = true ∨ (!(Sp.has ⟨q.lo, q.hi⟩ (evalM m q.c b.low))) = true
    rw [hs, q1, q2, Bool.true_and]
    unfold Sp.has
    cases (decide (q.lo ≤ evalM m q.c b.low) && decide (evalM m q.c b.low ≤ q.hi)) with
    | true => exact .inl rfl
    | false => exact .inr rfl
  · rw [e]
    show (mgOK m q.c b && decide (marg m q.c b > 0)) = true ∨ othersGe m q b.low (evalM m q.c b.low) = true
    have hg : mgOK m q.c b = true := by unfold mgOK; rw [hs, decide_eq_true (show m.c ≥ 2 from h2)]; rfl
    rw [hg, Bool.true_and]
    cases ho : othersGe m q b.low (evalM m q.c b.low) with
    | true => exact .inr rfl
    | false =>
      refine .inl (decide_eq_true ((marg_pos hg).2 fun j hj hne => ?_))
      have q1 := (s_flat hs hok hfl hh).1
      have q2 := (s_flat (sOK_of hm (clsOK_of (k := (j : Int)) (by omega) hj) hb) hok hfl hh).2
      have q3 : ¬ evalM m (j : Int) b.low ≥ evalM m q.c b.low := fun h => by
        rw [others_mem.2 ⟨j, hj, hne, h⟩] at ho
        cases ho
      omega
  · rw [e]
    have hp := paired_of hm e hf
    have hf5 : q.ft.toNat < 4 := by rcases paired_ft hp with e | e | e | e <;> rw [e] <;> decide
    have ef : q.ft = ((q.ft.toNat : Nat) : Int) := by omega
    show cond (!(ordered q b)) true (cond q.fl (chOK m q b && decide (chHi m q b ≤ 0)) (chOK m q b && decide (chLo m q b ≥ 0))) = true ∨ cond (decide (b.low.g q.ft.toNat ≥ b.s4.hi)) false (cond q.fl (decide (evalM m q.c (secondP q b.low b.s4.hi) > evalM m q.c b.low)) (decide (evalM m q.c (secondP q b.low b.s4.hi) < evalM m q.c b.low))) = true
    cases ho : ordered q b with
    | false => exact .inl rfl
    | true =>
      have hlt : b.low.g q.ft.toNat < b.s4.hi := by
        unfold ordered at ho
        simp only [Bool.and_eq_true, decide_eq_true_eq] at ho
        have h1 := ho.2.2
        have : b.low.g q.ft.toNat = (b.g q.ft.toNat).lo := by
          match q.ft.toNat, hf5 with
          | 0, _ => rfl
          | 1, _ => rfl
          | 2, _ => rfl
          | 3, _ => rfl
          | n + 4, h => exact absurd h (by omega)
        omega
      have f1 := first_has (b := b) hp hh
      have f2 := second_has (b := b) hp hh
      have k1 := sOK_of hm hcl (bx_some f1)
      have k2 := sOK_of hm hcl (bx_some f2)
      have fl1 : ∀ f : Nat, f < 4 → flatOn m ((firstB q b).g f) (f : Int) := fun f hf => by
        unfold firstB
        rw [hp, condT, bx_g_p _ _ (by omega) (by omega), if_neg (by omega)]
        exact hfl f hf
      have fl2 : ∀ f : Nat, f < 4 → flatOn m ((secondB q b).g f) (f : Int) := fun f hf => by
        unfold secondB
        rw [hp, condT, bx_g_p _ _ (by omega) (by omega), if_neg (by omega), bx_g_p _ _ (by omega) (by omega)]
        by_cases e2 : f = q.ft.toNat
        · rw [if_pos e2]
          have e4 : featG q ((4 : Nat) : Int) = q.ft := by unfold featG; rw [e]; rfl
          have := flat_of (hn 4 (by omega)) (by rw [e4]; omega)
          rw [e4, ef, ← e2] at this
          exact this
        · rw [if_neg e2]
          exact hfl f hf
      obtain ⟨q1, q2⟩ := s_flat k1 (first_ok hok) fl1 f1
      obtain ⟨q3, q4⟩ := s_flat k2 (second_ok hok) fl2 f2
      have hch : chOK m q b = true := by unfold chOK; rw [hp, k1, k2]; rfl
      rw [Bool.not_true, condF, hch, Bool.true_and, Bool.true_and, decide_eq_false (show ¬ b.low.g q.ft.toNat ≥ b.s4.hi by omega), condF]
      unfold chHi chLo
      rw [hch, condT, condT, q1, q2, q3, q4]
      cases q.fl with
      | true =>
        rw [condT, condT]
        by_cases hd : evalM m q.c (secondP q b.low b.s4.hi) > evalM m q.c b.low
        · exact .inr (decide_eq_true hd)
        · exact .inl (decide_eq_true (by omega))
      | false =>
        rw [condF, condF]
        by_cases hd : evalM m q.c (secondP q b.low b.s4.hi) < evalM m q.c b.low
        · exact .inr (decide_eq_true hd)
        · exact .inl (decide_eq_true (by omega))

/-! ### where a box is cut -/
theorem spR_none {m : Md} {q : Qy} {b : Bx} : ∀ (d i : Nat), (spR m q b d i).isSome = false → ∀ j, i ≤ j → j < i + d → cutsZ m q b j = []
  | 0, i, _, j, h1, h2 => by omega
  | d + 1, i, h, j, h1, h2 => by
    rw [spR] at h
    cases hc : decide ((cutsZ m q b i).length > 0) with
    | true => rw [hc, condT] at h; cases h
    | false =>
      rw [hc, condF] at h
      have hc := of_decide_eq_false hc
      by_cases e : j = i
      · subst e
        exact List.length_eq_zero_iff.1 (by omega)
      · exact spR_none d (i + 1) h j (by omega) (by omega)
theorem split_none {m : Md} {q : Qy} {b : Bx} (h : (splitF m q b).isSome = false) : ∀ i, i < 5 → cutsZ m q b i = [] := fun i hi => spR_none 5 0 h i (Nat.zero_le _) (by omega)
theorem spR_some {m : Md} {q : Qy} {b : Bx} : ∀ (d i : Nat), (spR m q b d i).isSome = true → ∃ j : Nat, i ≤ j ∧ j < i + d ∧ spI (spR m q b d i) = (j : Int) ∧ 0 < (cutsZ m q b j).length ∧ spAt (spR m q b d i) = (cutsZ m q b j).getD (((cutsZ m q b j).length - 1) / 2) 0 ∧ ∀ k, i ≤ k → k < j → cutsZ m q b k = []
  | 0, i, h => by rw [spR] at h; cases h
  | d + 1, i, h => by
    rw [spR] at h ⊢
    cases hc : decide ((cutsZ m q b i).length > 0) with
    | true => exact ⟨i, Nat.le_refl _, by omega, rfl, of_decide_eq_true hc, rfl, fun k h1 h2 => absurd h1 (by omega)⟩
    | false =>
      rw [hc, condF] at h
      rw [condF]
      have hc := of_decide_eq_false hc
      obtain ⟨j, h1, h2, h3, h4, h5, h6⟩ := spR_some d (i + 1) h
      refine ⟨j, by omega, by omega, h3, h4, h5, fun k hk1 hk2 => ?_⟩
      by_cases e : k = i
      · subst e
        exact List.length_eq_zero_iff.1 (by omega)
      · exact h6 k (by omega) hk2
/-- The place, the number; it is one of the place's cuts. -/
theorem split_some {m : Md} {q : Qy} {b : Bx} (h : (splitF m q b).isSome = true) : ∃ j : Nat, j < 5 ∧ spI (splitF m q b) = (j : Int) ∧ 0 < (cutsZ m q b j).length ∧ spAt (splitF m q b) = (cutsZ m q b j).getD (((cutsZ m q b j).length - 1) / 2) 0 ∧ spAt (splitF m q b) ∈ cutsZ m q b j := by
  obtain ⟨j, _, h2, h3, h4, h5, _⟩ := spR_some 5 0 h
  refine ⟨j, by omega, h3, h4, h5, ?_⟩
  have hlt : ((cutsZ m q b j).length - 1) / 2 < (cutsZ m q b j).length := by omega
  have : spAt (splitF m q b) = (cutsZ m q b j)[((cutsZ m q b j).length - 1) / 2] := by
    refine Eq.trans h5 ?_
    simp [hlt]
  rw [this]
  exact List.getElem_mem hlt
end Go.FM
