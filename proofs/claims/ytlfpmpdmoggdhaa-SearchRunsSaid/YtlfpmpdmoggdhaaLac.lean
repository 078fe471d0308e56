/-
  THE FUNCTIONS OF leaves, bound, couple, goal, grid COME TO WHAT IS SAID.

-/
import Derived.Test.YtlfpmpdmoggdhaaLab
import Derived.Test.YtlfpmpdmoggdhaaLaa
import Derived.Lib.AppendIntMem
import Derived.Deep.LoopGhost
import Derived.Lib.Walk
import Derived.Lib.SliceRun
import Derived.Shelf.Vars
import Derived.Lib.LaidU8
import Derived.Lib.LaidTab
import Derived.Carry
import Derived.Test.YtlfpmpdmoggdhaaSmc
import Derived.ChangeArms
import Derived.OpenShut
import Derived.Lib.ItoaMem
import Derived.Test.YtlfpmpdmoggdhaaRows
import Derived.ProofKit
import Derived.LaidMore
import Derived.LaidHandle
import Derived.Deep.DeepHandedRow
import Derived.Stop.Joined
import Derived.Deep.DeepWitnessRowRef

/-
  THE FUNCTIONS OF leaves, bound, couple, goal, grid COME TO WHAT IS SAID.
-/
namespace Go.FM
open Go Go.Proofs

/-! ### trees that are right -/
theorem nodesB_at {dim n : Int} : ∀ {l : List IV} {i k : Nat} (hk : k < l.length), nodesB dim n i l = true → nodeB (l[k]).toInt = true ∧ forkB dim n (i + k) (nodeN (l[k]).toInt) = true
  | [], i, k, hk, _ => absurd hk (Nat.not_lt_zero k)
  | w :: r, i, 0, hk, h => by
    rw [nodesB] at h
    simp only [Bool.and_eq_true] at h
    exact h.1
  | w :: r, i, k + 1, hk, h => by
    rw [nodesB, Bool.and_eq_true] at h
    have := nodesB_at (k := k) (by simpa using hk) h.2
    rw [show i + 1 + k = i + (k + 1) by omega] at this
    exact this
theorem treeB_parts {l : List IV} {dim : Int} (h : treeB l dim = true) : (1 ≤ l.length ∧ l.length ≤ 31) ∧ (∀ k (hk : k < l.length), nodeB (l[k]).toInt = true ∧ forkB dim (ic l.length) k (nodeN (l[k]).toInt) = true) ∧ onceB l = true := by
  unfold treeB at h
  simp only [Bool.and_eq_true] at h
  refine ⟨⟨Nat.le_of_ble_eq_true h.1.1, Nat.le_of_ble_eq_true h.1.2⟩, fun k hk => ?_, h.2.2⟩
  have := nodesB_at hk h.2.1
  rwa [Nat.zero_add] at this
theorem forkB_parts {dim n : Int} {i : Nat} {x : Nd} (h : forkB dim n i x = true) (hl : x.lf = false) : x.f < dim ∧ x.l ≠ x.r ∧ ((i : Int) < x.l ∧ (i : Int) < x.r) ∧ (x.l < n ∧ x.r < n) := by
  unfold forkB at h
  rw [hl, condF] at h
  simp only [Bool.and_eq_true, Bool.not_eq_true', decide_eq_false_iff_not, beq_eq_false_iff_ne] at h
  obtain ⟨h1, h2, h3, h4⟩ := h
  exact ⟨by omega, h2, by omega, by omega⟩
theorem treeB_mono {l : List IV} {d e : Int} (h : treeB l d = true) (hde : d ≤ e) : treeB l e = true := by
  have key : ∀ (l : List IV) (n : Int) (i : Nat), nodesB d n i l = true → nodesB e n i l = true := by
    intro l n
    induction l with
    | nil => intro _ _; rfl
    | cons w r ih =>
      intro i h
      rw [nodesB] at h ⊢
      simp only [Bool.and_eq_true] at h ⊢
      refine ⟨⟨h.1.1, ?_⟩, ih _ h.2⟩
      have h2 := h.1.2
      unfold forkB at h2 ⊢
      cases hl : (nodeN w.toInt).lf with
      | true => rfl
      | false =>
        rw [hl, condF] at h2
        rw [condF]
        simp only [Bool.and_eq_true, Bool.not_eq_true', decide_eq_false_iff_not] at h2 ⊢
        exact ⟨by omega, h2.2⟩
  unfold treeB at h ⊢
  simp only [Bool.and_eq_true] at h ⊢
  exact ⟨h.1, key _ _ _ h.2.1, h.2.2⟩

/-! ### leaves -/
abbrev kpL : KP := ⟨[4, 5, 6, 24, 25, 26], [20, 500], [⟨(.tmp 6), 500, 127, true, kPiece⟩]⟩
abbrev xstL (l : List IV) (i : Int) (own out : List IV) : St :=
  ⟨[(4, .zs), (5, (.row 20 0 l.length)), (6, (.row 500 0 out.length)), (24, (.list false [(.int .u64)] l)), (25, (.int .i64 (ic (List.length l)))), (26, (.int .i64 i))], [(20, (some (.row true 30 true kBox own))), (500, (some (.row true 127 true kPiece out)))]⟩
theorem leaves_run (N : Nat) (l : List IV) (ht : treeB l 4 = true) : ∀ (m i n : Nat) (own out : List IV), i + m = l.length → m < n → own.length = l.length → out.length ≤ i →
    lpE (E_leaves_List N) (subC c_leaves_List [1, 1, 1, 1, 1, 0, 1, 0, 0]) kpL n (xstL l (i : Int) own out) (kBlock 0 (kSq (E_leaves_List N) (subC c_leaves_List [1, 1, 1, 1, 1, 1]) (outT (E_leaves_List N) none [(ResultVar.tmp 4)] [[(.list true kPiece)]]))) =
      some (.list true kPiece (lvRun (l.drop i) i own out), [])
  | m, i, 0, _, _, _, h, _, _ => absurd h (by omega)
  | 0, i, n + 1, own, out, hd, _, _, _ => by
    have hi : i = l.length := by omega
    subst hi
    rw [lpE_succ, st_leaves_List_1, idx_ge (Nat.le_refl _), condF, ex_leaves_List_1_1, List.drop_length, lvRun, List.drop_zero, List.take_length]
  | m + 1, i, n + 1, own, out, hd, hn, ho, hu => by
    obtain ⟨⟨l1, l31⟩, hat, _⟩ := treeB_parts ht
    have hi : i < l.length := by omega
    have ei : IntKind.wrap IntKind.i64 ((i : Int) + 1) = ((i + 1 : Nat) : Int) := succ_w (by omega)
    obtain ⟨hb, hf⟩ := hat i hi
    have io : decide ((i : Int) < ic (l.length - 0)) = true := idx_lt hi
    rw [lpE_succ, st_leaves_List_1, ei, idx_lt hi, condT, idx_0, Bool.and_self, condT, getD_i hi, io, Bool.and_self, Int.toNat_natCast, List.drop_eq_getElem_cons hi, lvRun]
    simp only [Nat.zero_add]
    cases hl : (nodeN (l[i]).toInt).lf with
    | true =>
      rw [Bool.not_true, condF, condT, condT, Bool.true_and]
      have e1 : lvStep (nodeN (l[i]).toInt) i own = own := by unfold lvStep; rw [hl, condT]
      rw [e1]
      cases (bxI (own.getD i default)).emp with
      | true => exact leaves_run N l ht m (i + 1) n own out (by omega) (by omega) ho (by omega)
      | false =>
        have ih := leaves_run N l ht m (i + 1) n own (out ++ [pcI (bxI (own.getD i default)) (nodeN (l[i]).toInt).v]) (by omega) (by omega) ho (by rw [List.length_append]; simp; omega)
        unfold xstL at ih
        rw [List.length_append, List.length_singleton] at ih
        rw [Bool.not_false, condT, condT, decide_eq_true (show (out.length + 1) * 88 ≤ bytesMax by unfold bytesMax; omega), condT, List.take_length]
        exact ih
    | false =>
      obtain ⟨f4, _, _, ⟨ln, rn⟩⟩ := forkB_parts hf hl
      obtain ⟨⟨f0, _⟩, ⟨a1, _⟩, ⟨b1, _⟩, _⟩ := node_fork hb hl
      have hp : inPl (nodeN (l[i]).toInt).f = true := by unfold inPl; rw [decide_eq_true f0, decide_eq_true (by omega)]; rfl
      have el : (decide (0 ≤ (nodeN (l[i]).toInt).l) && decide ((nodeN (l[i]).toInt).l < ic (l.length - 0))) = true := by rw [decide_eq_true (by omega), decide_eq_true (show (nodeN (l[i]).toInt).l < ic (l.length - 0) from ln)]; rfl
      have er : (decide (0 ≤ (nodeN (l[i]).toInt).r) && decide ((nodeN (l[i]).toInt).r < ic (l.length - 0))) = true := by rw [decide_eq_true (by omega), decide_eq_true (show (nodeN (l[i]).toInt).r < ic (l.length - 0) from rn)]; rfl
      rw [Bool.not_false, condT, condT, hp, condT, el, condT, er, condT, Bool.false_and, condF]
      have e1 : lvStep (nodeN (l[i]).toInt) i own = (own.set (nodeN (l[i]).toInt).l.toNat ((bxI (own.getD i default)).cutL (nodeN (l[i]).toInt).f (nodeN (l[i]).toInt).a).I).set (nodeN (l[i]).toInt).r.toNat ((bxI (own.getD i default)).cutH (nodeN (l[i]).toInt).f (nodeN (l[i]).toInt).a).I := by unfold lvStep; rw [hl, condF]
      rw [e1]
      exact leaves_run N l ht m (i + 1) n _ out (by omega) (by omega) (by rw [List.length_set, List.length_set]; exact ho) (by omega)
set_option maxRecDepth 100000 in
theorem snd_leaves_List : SndR PR B0 68 S_leaves_List := by
  refine snd_mk [(32, S_box_Cut), (40, S_box_Empty), (66, S_node_Unpack), (52, S_tree_Right)] [(7, ⟨[4, 5, 6, 24, 25, 26], [20, 500], [⟨.tmp 6, 500, 127, true, [.int .i64, .int .i64, .int .i64, .int .i64, .int .i64, .int .i64, .int .i64, .int .i64, .int .i64, .int .i64, .int .i64]⟩]⟩)] S_leaves_List [[.list true [.int .i64, .int .i64, .int .i64, .int .i64, .int .i64, .int .i64, .int .i64, .int .i64, .int .i64, .int .i64, .int .i64]]] Try.func68 h_leaves_List ⟨snd_box_Cut, snd_box_Empty, snd_node_Unpack, snd_tree_Right, trivial⟩ ?_
  intro vs r hwf h
  unfold S_leaves_List at h
  split at h
  · rename_i l b
    replace h := withB_get h
    obtain ⟨b, rfl, h⟩ := h
    rw [R.get_ok] at h
    refine ⟨40, ?_⟩
    rw [← h]
    refine (nf_leaves_List 40 l b).trans ?_
    unfold leavesF
    cases ht : treeB l 4 with
    | false => rfl
    | true =>
      rw [Bool.not_true, condF, Bool.true_and]
      cases b.emp with
      | true => rfl
      | false =>
        obtain ⟨⟨l1, l31⟩, _, _⟩ := treeB_parts ht
        have run := leaves_run 40 l ht l.length 0 40 ((List.replicate l.length bx0.I).set 0 b.I) [] (by omega) (by omega) (by simp) (Nat.zero_le _)
        rw [condF, decide_eq_true (show (0 : Int) ≤ ic l.length by simp only [ic]; omega), decide_eq_true (show ic l.length = ic l.length from rfl), decide_eq_true (show ic l.length * ic 80 ≤ ic bytesMax by unfold bytesMax; simp only [ic]; omega), Bool.and_self, Bool.and_self, condT,
          decide_eq_true (show 0 ≤ 0 from Nat.le_refl 0), decide_eq_true (show (0 : Int) < ic (Int.toNat (ic l.length) - 0) by simp only [ic]; omega), Bool.and_self, condT]
        exact run
  · simp [R.get] at h

/-! ### the least and the greatest -/
abbrev xstTr (l : List IV) (lo hi i : Int) : St := ⟨[(4, (.int .i64 0)), (5, (.int .i64 0)), (6, (.bool false)), (8, (.int .i64 lo)), (9, (.int .i64 hi)), (26, (.list true kPiece l)), (27, (.int .i64 (ic (List.length l)))), (28, (.int .i64 i))], []⟩
theorem bound_run (N : Nat) (l : List IV) (hl : l.length ≤ strMax) : ∀ (m i n : Nat) (lo hi : Int), i + m = l.length → m < n →
    lpE (E_bound_Tree N) (subC c_bound_Tree [1, 1, 1, 1, 0, 1, 0, 0]) ⟨[4, 5, 6, 8, 9, 26, 27, 28], [], []⟩ n (xstTr l lo hi (i : Int)) (kBlock 0 (kSq (E_bound_Tree N) (subC c_bound_Tree [1, 1, 1, 1, 1]) (outT (E_bound_Tree N) none [(ResultVar.tmp 4), (ResultVar.tmp 5), (ResultVar.tmp 6)] [[(.int .i64)], [(.int .i64)], [.bool]]))) =
      some (.tup [.int .i64 (minV (l.drop i) lo), .int .i64 (maxV (l.drop i) hi), .bool true], [])
  | m, i, 0, _, _, _, h => absurd h (by omega)
  | 0, i, n + 1, lo, hi, hd, _ => by
    have hi : i = l.length := by omega
    subst hi
    rw [lpE_succ, st_bound_Tree_1, idx_ge (Nat.le_refl _), condF, List.drop_length]
    exact ex_bound_Tree_1_1 N _ _ _ _ _ l _ _
  | m + 1, i, n + 1, lo, hi, hd, hn => by
    have hi : i < l.length := by omega
    have mx : strMax = 140737488355327 := rfl
    have ei : IntKind.wrap IntKind.i64 ((i : Int) + 1) = ((i + 1 : Nat) : Int) := succ_w (by omega)
    rw [lpE_succ, st_bound_Tree_1, ei, idx_lt hi, condT, idx_0, Bool.and_self, condT, getD_i hi, List.drop_eq_getElem_cons hi, minV, maxV]
    exact bound_run N l hl m (i + 1) n _ _ (by omega) (by omega)
theorem lvRun_len : ∀ (l : List IV) (i : Nat) (own out : List IV), (lvRun l i own out).length ≤ out.length + l.length
  | [], _, _, out => Nat.le_refl _
  | w :: r, i, own, out => by
    rw [lvRun]
    have := lvRun_len r (i + 1) (lvStep (nodeN w.toInt) i own) (cond ((nodeN w.toInt).lf && !(bxI (own.getD i default)).emp) (out ++ [pcI (bxI (own.getD i default)) (nodeN w.toInt).v]) out)
    refine Nat.le_trans this ?_
    cases ((nodeN w.toInt).lf && !(bxI (own.getD i default)).emp) with
    | true => rw [condT, List.length_append, List.length_singleton, List.length_cons]; omega
    | false => rw [condF, List.length_cons]; omega
theorem leaves_len (l : List IV) (b : Bx) : (leavesF l b).length ≤ 31 := by
  unfold leavesF
  cases ht : treeB l 4 with
  | false => exact Nat.zero_le _
  | true =>
    cases b.emp with
    | true => exact Nat.zero_le _
    | false =>
      have := lvRun_len l 0 ((List.replicate l.length bx0.I).set 0 b.I) []
      have h2 := (treeB_parts ht).1.2
      simp only [List.length_nil, Nat.zero_add] at this
      exact Nat.le_trans this h2
set_option maxRecDepth 100000 in
theorem snd_bound_Tree : SndR PR B0 55 S_bound_Tree := by
  refine snd_mk [(68, S_leaves_List)] [(6, ⟨[4, 5, 6, 8, 9, 26, 27, 28], [], []⟩)] S_bound_Tree [[.int .i64], [.int .i64], [.bool]] Try.func55 h_bound_Tree ⟨snd_leaves_List, trivial⟩ ?_
  intro vs r hwf h
  unfold S_bound_Tree at h
  split at h
  · rename_i l b
    replace h := withB_get h
    obtain ⟨b, rfl, h⟩ := h
    rw [R.get_ok] at h
    refine ⟨40, ?_⟩
    rw [← h]
    refine (nf_bound_Tree 40 l b).trans ?_
    have h31 := leaves_len l b
    unfold tLo tHi tOK psLo psHi
    generalize leavesF l b = ps at h31 ⊢
    cases ps with
    | nil => rfl
    | cons x r =>
      have run := bound_run 40 (x :: r) (Nat.le_trans h31 (by decide)) (x :: r).length 0 40 (pcV x) (pcV x) (by omega) (by omega)
      have e0 : (ic (x :: r).length == 0) = false := by
        simp only [ic, List.length_cons, beq_eq_false_iff_ne]
        omega
      have e1 : (decide (0 ≤ 0) && decide (0 < ic (x :: r).length)) = true := by
        rw [decide_eq_true (show 0 ≤ 0 from Nat.le_refl 0), decide_eq_true (show 0 < ic (x :: r).length by simp only [ic, List.length_cons]; omega)]
        rfl
      rw [e0, condF, e1, condT, condT]
      exact run
  · simp [R.get] at h
theorem minV_in {l : List IV} : ∀ {a : Int}, fits32 a = true → (∀ x ∈ l, fits32 (pcV x) = true) → fits32 (minV l a) = true := by
  induction l with
  | nil => intro a h _; exact h
  | cons x r ih =>
    intro a h hx
    rw [minV]
    refine ih ?_ fun y hy => hx y (List.mem_cons_of_mem _ hy)
    have := fits32_in h
    have := fits32_in (hx x (List.mem_cons_self ..))
    unfold fits32
    rw [decide_eq_true (by omega), decide_eq_true (by omega)]
    rfl
theorem maxV_in {l : List IV} : ∀ {a : Int}, fits32 a = true → (∀ x ∈ l, fits32 (pcV x) = true) → fits32 (maxV l a) = true := by
  induction l with
  | nil => intro a h _; exact h
  | cons x r ih =>
    intro a h hx
    rw [maxV]
    refine ih ?_ fun y hy => hx y (List.mem_cons_of_mem _ hy)
    have := fits32_in h
    have := fits32_in (hx x (List.mem_cons_self ..))
    unfold fits32
    rw [decide_eq_true (by omega), decide_eq_true (by omega)]
    rfl
theorem lvRun_fits : ∀ (l : List IV) (i : Nat) (own out : List IV), (∀ x ∈ out, fits32 (pcV x) = true) → ∀ x ∈ lvRun l i own out, fits32 (pcV x) = true
  | [], _, _, _, h => h
  | w :: r, i, own, out, h => by
    rw [lvRun]
    refine lvRun_fits r (i + 1) _ _ ?_
    cases ((nodeN w.toInt).lf && !(bxI (own.getD i default)).emp) with
    | true =>
      intro x hx
      rcases List.mem_append.1 hx with hx | hx
      · exact h x hx
      · obtain rfl := List.mem_singleton.1 hx
        exact node_val _
    | false => exact h
theorem leaves_fits (l : List IV) (b : Bx) : ∀ x ∈ leavesF l b, fits32 (pcV x) = true := by
  unfold leavesF
  cases (treeB l 4 && !b.emp) with
  | true => exact lvRun_fits _ _ _ _ (fun x hx => by cases hx)
  | false => intro x hx; cases hx
theorem t_in (l : List IV) (b : Bx) : fits32 (tLo l b) = true ∧ fits32 (tHi l b) = true := by
  unfold tLo tHi tOK
  have hf := leaves_fits l b
  generalize leavesF l b = ps at hf ⊢
  cases ps with
  | nil => exact ⟨rfl, rfl⟩
  | cons x r => exact ⟨minV_in (hf x (List.mem_cons_self ..)) hf, maxV_in (hf x (List.mem_cons_self ..)) hf⟩

/-! ### sums -/
abbrev xstS2 (ts : List IV) (b : Bx) (k lo hi i : Int) : St := ⟨[(1, (.int .i64 k)), (5, (.ptr 5 0 0)), (6, (.int .i64 0)), (7, (.int .i64 0)), (8, (.bool false)), (9, (.int .i64 lo)), (10, (.int .i64 hi)), (42, (.list true kTree ts)), (43, (.int .i64 (ic (List.length ts)))), (44, (.int .i64 i))], [(5, (some (.box (Bx.cs b))))]⟩
theorem sum_run (N : Nat) (ts : List IV) (b : Bx) (k : Int) (hts : ts.length ≤ 8) : ∀ (m i n : Nat) (lo hi : Int), i + m = ts.length → m < n → (-2147483648 * (i + 1) ≤ lo ∧ lo ≤ 2147483648 * (i + 1)) → (-2147483648 * (i + 1) ≤ hi ∧ hi ≤ 2147483648 * (i + 1)) →
    lpE (E_bound_Sum N) (subC c_bound_Sum [1, 1, 1, 0, 1, 0, 0]) ⟨[1, 5, 6, 7, 8, 9, 10, 42, 43, 44], [5], []⟩ n (xstS2 ts b k lo hi (i : Int)) (kBlock 0 (kSq (E_bound_Sum N) (subC c_bound_Sum [1, 1, 1, 1]) (outT (E_bound_Sum N) none [(ResultVar.tmp 6), (ResultVar.tmp 7), (ResultVar.tmp 8)] [[(.int .i64)], [(.int .i64)], [.bool]]))) =
      some (.tup [.int .i64 (sumT (fun l => tLo l b) k (ts.drop i) lo), .int .i64 (sumT (fun l => tHi l b) k (ts.drop i) hi), .bool true], [])
  | m, i, 0, _, _, _, h, _, _ => absurd h (by omega)
  | 0, i, n + 1, lo, hi, hd, _, _, _ => by
    have hlt : i = ts.length := by omega
    subst hlt
    rw [lpE_succ, st_bound_Sum_1, idx_ge (Nat.le_refl _), condF, List.drop_length]
    exact ex_bound_Sum_1_1 N b _ _ _ _ _ _ _ _ _
  | m + 1, i, n + 1, lo, hi, hd, hn, h1, h2 => by
    have hlt : i < ts.length := by omega
    have ei : IntKind.wrap IntKind.i64 ((i : Int) + 1) = ((i + 1 : Nat) : Int) := succ_w (by omega)
    rw [lpE_succ, st_bound_Sum_1, ei, idx_lt hlt, condT, idx_0, Bool.and_self, condT, getD_i hlt, List.drop_eq_getElem_cons hlt, sumT, sumT]
    obtain ⟨q1, q2⟩ := t_in (tNds ts[i]) b
    have q1 := fits32_in q1
    have q2 := fits32_in q2
    have en : ((ts[i].cell 0).toInt != k) = !((ts[i].cell 0).toInt == k) := rfl
    rw [en]
    cases ((ts[i].cell 0).toInt == k) with
    | true =>
      rw [Bool.not_true, condF, condT, condT]
      have ew : IntKind.wrap IntKind.i64 (lo + tLo (tNds ts[i]) b) = lo + tLo (tNds ts[i]) b := wrap_id (by omega) (by omega)
      have ew2 : IntKind.wrap IntKind.i64 (hi + tHi (tNds ts[i]) b) = hi + tHi (tNds ts[i]) b := wrap_id (by omega) (by omega)
      have ih := sum_run N ts b k hts m (i + 1) n (lo + tLo (tNds ts[i]) b) (hi + tHi (tNds ts[i]) b) (by omega) (by omega) (by omega) (by omega)
      rw [← ew, ← ew2] at ih
      refine Eq.trans ih ?_
      rw [ew, ew2]
    | false =>
      rw [Bool.not_false, condT, condF, condF]
      exact sum_run N ts b k hts m (i + 1) n lo hi (by omega) (by omega) (by omega) (by omega)
set_option maxRecDepth 100000 in
theorem snd_bound_Sum : SndR PR B0 41 S_bound_Sum := by
  refine snd_mk [(55, S_bound_Tree), (40, S_box_Empty), (36, S_model_Right)] [(5, ⟨[1, 5, 6, 7, 8, 9, 10, 42, 43, 44], [5], []⟩)] S_bound_Sum [[.int .i64], [.int .i64], [.bool]] Try.func41 h_bound_Sum ⟨snd_bound_Tree, snd_box_Empty, snd_model_Right, trivial⟩ ?_
  intro vs r hwf h
  unfold S_bound_Sum at h
  split at h
  · rename_i m k b
    replace h := withM_get h
    obtain ⟨m, rfl, h⟩ := h
    replace h := withB_get h
    obtain ⟨b, rfl, h⟩ := h
    rw [R.get_ok] at h
    refine ⟨10, ?_⟩
    rw [← h]
    refine (nf_bound_Sum 10 m k b).trans ?_
    unfold sLo sHi sOK
    cases hm : modelB m with
    | false => rfl
    | true =>
      rw [Bool.not_true, condF]
      cases h0 : decide (k < 0) with
      | true =>
        have : clsOK m k = false := by unfold clsOK; rw [decide_eq_false (show ¬ 0 ≤ k by have := of_decide_eq_true h0; omega)]; rfl
        rw [this]
        rfl
      | false =>
        rw [condF]
        cases h1 : decide (k ≥ m.c) with
        | true =>
          have : clsOK m k = false := by unfold clsOK; rw [decide_eq_false (show ¬ k < m.c by have := of_decide_eq_true h1; omega), Bool.and_false]
          rw [this]
          rfl
        | false =>
          have hc : clsOK m k = true := by unfold clsOK; rw [decide_eq_true (show 0 ≤ k by have := of_decide_eq_false h0; omega), decide_eq_true (show k < m.c by have := of_decide_eq_false h1; omega)]; rfl
          rw [condF, hc]
          cases b.emp with
          | true => rfl
          | false =>
            have hb := bias_in hm k
            have run := sum_run 10 m.ts b k (modelB_parts hm).2.2.1 m.ts.length 0 10 (biasOf m k) (biasOf m k) (by omega) (by have := (modelB_parts hm).2.2.1; omega) (by omega) (by omega)
            rw [condF]
            rcases cls_cases hm hc with rfl | rfl | rfl <;> exact run
  · simp [R.get] at h
theorem sumT_in (g : List IV → Int) (hg : ∀ l, -2147483648 ≤ g l ∧ g l ≤ 2147483648) (k : Int) : ∀ (ts : List IV) (s : Int) (n : Nat), (-2147483648 * (n : Int) ≤ s ∧ s ≤ 2147483648 * (n : Int)) → -2147483648 * ((n + ts.length : Nat) : Int) ≤ sumT g k ts s ∧ sumT g k ts s ≤ 2147483648 * ((n + ts.length : Nat) : Int)
  | [], s, n, h => by
    rw [sumT]
    simpa using h
  | t :: r, s, n, h => by
    rw [sumT]
    have h1 := hg (tNds t)
    have := sumT_in g hg k r (cond (tCls t == k) (s + g (tNds t)) s) (n + 1) (by cases (tCls t == k) <;> simp only [cond_true, cond_false] <;> omega)
    rw [List.length_cons]
    rw [show n + 1 + r.length = n + (r.length + 1) by omega] at this
    exact this
theorem s_in {m : Md} (k : Int) (b : Bx) : (-34359738368 ≤ sLo m k b ∧ sLo m k b ≤ 34359738368) ∧ (-34359738368 ≤ sHi m k b ∧ sHi m k b ≤ 34359738368) := by
  unfold sLo sHi
  cases hs : sOK m k b with
  | false => simp only [cond_false]; omega
  | true =>
    unfold sOK at hs
    simp only [Bool.and_eq_true] at hs
    have hb := bias_in hs.1 k
    have h8 := (modelB_parts hs.1).2.2.1
    have h1 := sumT_in (fun l => tLo l b) (fun l => by have := fits32_in (t_in l b).1; omega) k m.ts (biasOf m k) 1 (by omega)
    have h2 := sumT_in (fun l => tHi l b) (fun l => by have := fits32_in (t_in l b).2; omega) k m.ts (biasOf m k) 1 (by omega)
    rw [condT, condT]
    omega

/-! ### margins -/
abbrev xstM (m : Md) (b : Bx) (k lo a : Int) (z : Bool) (i : Int) : St := ⟨[(1, (.int .i64 k)), (3, (.ptr 3 0 0)), (5, (.ptr 5 0 0)), (6, (.int .i64 0)), (7, (.bool false)), (8, (.int .i64 lo)), (11, (.int .i64 a)), (12, (.bool z)), (33, (.int .i64 (Md.c m))), (34, (.int .i64 i))], [(3, (some (.box (Md.cs m)))), (5, (some (.box (Bx.cs b))))]⟩
theorem marg_run (N : Nat) (m : Md) (b : Bx) (k : Int) (hc : 0 ≤ m.c ∧ m.c ≤ 3) (lo : Int) (hlo : -34359738368 ≤ lo ∧ lo ≤ 34359738368) : ∀ (d i n : Nat) (a : Int) (z : Bool), ((i + d : Nat) : Int) = m.c → d < n →
    lpE (E_bound_Margin N) (subC c_bound_Margin [1, 1, 1, 1, 0, 1, 0, 0]) ⟨[1, 3, 5, 6, 7, 8, 11, 12, 33, 34], [3, 5], []⟩ n (xstM m b k lo a z (i : Int)) (kBlock 0 (kSq (E_bound_Margin N) (subC c_bound_Margin [1, 1, 1, 1, 1]) (outT (E_bound_Margin N) none [(ResultVar.tmp 6), (ResultVar.tmp 7)] [[(.int .i64)], [.bool]]))) =
      some (.tup [.int .i64 (margR m k lo b d (i : Int) a z), .bool true], [])
  | d, i, 0, _, _, _, h => absurd h (by omega)
  | 0, i, n + 1, a, z, hd, _ => by
    rw [lpE_succ, st_bound_Margin_1, decide_eq_false (show ¬ (i : Int) < m.c by omega), condF]
    exact ex_bound_Margin_1_1 N m b _ _ _ _ _ _ _ _
  | d + 1, i, n + 1, a, z, hd, hn => by
    have ei : IntKind.wrap IntKind.i64 ((i : Int) + 1) = ((i + 1 : Nat) : Int) := succ_w (by omega)
    have hs := (s_in (m := m) (i : Int) b).2
    have ew : IntKind.wrap IntKind.i64 (lo - sHi m (i : Int) b) = lo - sHi m (i : Int) b := wrap_id (by omega) (by omega)
    have ec : (i : Int) + 1 = ((i + 1 : Nat) : Int) := by omega
    rw [lpE_succ, st_bound_Margin_1, ei, ew, decide_eq_true (show (i : Int) < m.c by omega), condT, margR, ec]
    have ih := fun a z => marg_run N m b k hc lo hlo d (i + 1) n a z (by omega) (by omega)
    cases ((i : Int) == k) with
    | true => exact ih a z
    | false =>
      rw [condF, condF]
      cases z with
      | false => exact ih _ true
      | true =>
        rw [Bool.not_true, condF, Bool.false_or]
        cases decide (lo - sHi m (i : Int) b < a) with
        | true => exact ih _ true
        | false => exact ih a true
set_option maxRecDepth 100000 in
theorem snd_bound_Margin : SndR PR B0 42 S_bound_Margin := by
  refine snd_mk [(41, S_bound_Sum)] [(6, ⟨[1, 3, 5, 6, 7, 8, 11, 12, 33, 34], [3, 5], []⟩)] S_bound_Margin [[.int .i64], [.bool]] Try.func42 h_bound_Margin ⟨snd_bound_Sum, trivial⟩ ?_
  intro vs r hwf h
  unfold S_bound_Margin at h
  split at h
  · rename_i m k b
    replace h := withM_get h
    obtain ⟨m, rfl, h⟩ := h
    replace h := withB_get h
    obtain ⟨b, rfl, h⟩ := h
    rw [R.get_ok] at h
    refine ⟨10, ?_⟩
    rw [← h]
    refine (nf_bound_Margin 10 m k b).trans ?_
    unfold marg mgOK
    cases hs : sOK m k b with
    | false => rfl
    | true =>
      have hm : modelB m = true := by unfold sOK at hs; simp only [Bool.and_eq_true] at hs; exact hs.1
      have hc := (modelB_parts hm).2.1
      rw [Bool.not_true, condF]
      cases h2 : decide (m.c < 2) with
      | true => rw [decide_eq_false (show ¬ m.c ≥ 2 by have := of_decide_eq_true h2; omega)]; rfl
      | false =>
        rw [decide_eq_true (show m.c ≥ 2 by have := of_decide_eq_false h2; omega), condF]
        exact marg_run 10 m b k (by omega) (sLo m k b) (s_in k b).1 m.c.toNat 0 10 0 false (by omega) (by omega)
  · simp [R.get] at h
set_option maxRecDepth 100000 in
theorem snd_couple_Change : SndR PR B0 44 S_couple_Change := by
  refine snd_mk [(41, S_bound_Sum), (57, S_couple_First), (58, S_couple_Second), (56, S_couple_pairs)] [] S_couple_Change [[.int .i64], [.int .i64], [.bool]] Try.func44 h_couple_Change ⟨snd_bound_Sum, snd_couple_First, snd_couple_Second, snd_couple_pairs, trivial⟩ ?_
  intro vs r hwf h
  unfold S_couple_Change at h
  split at h
  · rename_i m q b
    replace h := withM_get h
    obtain ⟨m, rfl, h⟩ := h
    replace h := withQ_get h
    obtain ⟨q, rfl, h⟩ := h
    replace h := withB_get h
    obtain ⟨b, rfl, h⟩ := h
    rw [R.get_ok] at h
    refine ⟨0, ?_⟩
    rw [← h]
    refine (nf_couple_Change 0 m q b).trans ?_
    have h1 := s_in (m := m) q.c (firstB q b)
    have h2 := s_in (m := m) q.c (secondB q b)
    rw [wrap_id (n := sLo m q.c (secondB q b) - sHi m q.c (firstB q b)) (by omega) (by omega), wrap_id (n := sHi m q.c (secondB q b) - sLo m q.c (firstB q b)) (by omega) (by omega)]
    unfold chLo chHi chOK
    cases paired q <;> cases sOK m q.c (firstB q b) <;> cases sOK m q.c (secondB q b) <;> rfl
  · simp [R.get] at h

/-! ### goals -/
set_option maxRecDepth 100000 in
theorem snd_goal_Closed : SndR PR B0 29 S_goal_Closed := by
  refine snd_mk [(42, S_bound_Margin), (41, S_bound_Sum), (40, S_box_Empty), (44, S_couple_Change), (43, S_couple_Ordered), (24, S_query_Right)] [] S_goal_Closed [[.bool]] Try.func29 h_goal_Closed ⟨snd_bound_Margin, snd_bound_Sum, snd_box_Empty, snd_couple_Change, snd_couple_Ordered, snd_query_Right, trivial⟩ ?_
  intro vs r hwf h
  unfold S_goal_Closed at h
  split at h
  · rename_i m q b
    replace h := withM_get h
    obtain ⟨m, rfl, h⟩ := h
    replace h := withQ_get h
    obtain ⟨q, rfl, h⟩ := h
    replace h := withB_get h
    obtain ⟨b, rfl, h⟩ := h
    rw [R.get_ok] at h
    refine ⟨0, ?_⟩
    rw [← h]
    refine (nf_goal_Closed 0 m q b).trans ?_
    unfold closedF
    cases rightQ m q <;> cases b.emp <;> cases (q.k == 1) <;> cases (q.k == 2) <;> cases sOK m q.c b <;> cases decide (q.lo ≤ sLo m q.c b) <;> cases mgOK m q.c b <;> cases ordered q b <;> cases q.fl <;> cases chOK m q b <;> rfl
  · simp [R.get] at h
set_option maxRecDepth 100000 in
theorem snd_goal_Corner : SndR PR B0 30 S_goal_Corner := by
  refine snd_mk [(45, S_box_Low)] [] S_goal_Corner [[.int .i64, .int .i64, .int .i64, .int .i64], [.int .i64]] Try.func30 h_goal_Corner ⟨snd_box_Low, trivial⟩ ?_
  intro vs r hwf h
  unfold S_goal_Corner at h
  split at h
  · rename_i b
    replace h := withB_get h
    obtain ⟨b, rfl, h⟩ := h
    rw [R.get_ok] at h
    exact ⟨0, (nf_goal_Corner 0 b).trans h⟩
  · simp [R.get] at h

/-! ### thresholds -/
set_option maxRecDepth 100000 in
theorem snd_grid_feature : SndR PR B0 59 S_grid_feature := by
  refine snd_mk [] [] S_grid_feature [[.int .i64]] Try.func59 h_grid_feature trivial ?_
  intro vs r hwf h
  unfold S_grid_feature at h
  split at h
  · rename_i q i
    replace h := withQ_get h
    obtain ⟨q, rfl, h⟩ := h
    rw [R.get_ok] at h
    refine ⟨0, ?_⟩
    rw [← h]
    refine (nf_grid_feature 0 q i).trans ?_
    unfold featG
    cases decide (i ≥ 0) <;> cases decide (i < 4) <;> cases (i == 4) <;> cases (q.k == 3) <;> rfl
  · simp [R.get] at h
def cutRs (m : Md) (f : Int) (s : Sp) : Res :=
  cond (decide (f < 0)) (some (.list false [.int .i64] [], []))
    (cond (modelB m)
      (cond (Nat.beq (iZ (thrZ m.ts f)).length (iZ (thrZ m.ts f)).length)
        (cond (Nat.ble (iZ (keepZ s.lo s.hi ((iZ (thrZ m.ts f)).map IV.toInt))).length (iZ (thrZ m.ts f)).length)
          (some (.list false [.int .i64] (List.drop 0 (List.take (iZ (keepZ s.lo s.hi ((iZ (thrZ m.ts f)).map IV.toInt))).length (iZ (keepZ s.lo s.hi ((iZ (thrZ m.ts f)).map IV.toInt))))), [])) none) none) none)
theorem cutRs_eq {m : Md} (hm : modelB m = true) (f : Int) (s : Sp) : cutRs m f s = some (.list false [.int .i64] (iZ (cond (decide (f < 0)) [] (keepZ s.lo s.hi (thrZ m.ts f)))), []) := by
  unfold cutRs
  cases decide (f < 0) with
  | true => rfl
  | false =>
    rw [condF, hm, condT, Nat.beq_refl, condT, iZ_toInt, condF]
    have hle : (iZ (keepZ s.lo s.hi (thrZ m.ts f))).length ≤ (iZ (thrZ m.ts f)).length := by
      rw [iZ_len, iZ_len]
      exact List.length_filter_le ..
    rw [Nat.ble_eq_true_of_le hle, condT, List.drop_zero, List.take_length]
theorem run_grid_Cuts (m : Md) (q : Qy) (b : Bx) : ∀ i : Nat, i < 5 → evFun (E_grid_Cuts 0) c_grid_Cuts [.tmp 8] [[.list false [.int .i64]]] [m.V, q.V, b.V, .int .i64 (i : Int)] = cutRs m (featG q (i : Int)) (b.g i)
  | 0, _ => by kernel_rfl
  | 1, _ => by kernel_rfl
  | 2, _ => by kernel_rfl
  | 3, _ => by kernel_rfl
  | 4, _ => by kernel_rfl
  | i + 5, h => absurd h (by omega)
abbrev kpT1 : KP := ⟨[1, 4, 5, 16, 17, 18], [500], [⟨(.tmp 5), 500, 3, false, [(.int .i64)]⟩]⟩
abbrev kpT2 : KP := ⟨[1, 4, 5, 16, 17, 18, 23, 24, 25], [500], [⟨(.tmp 5), 500, 3, false, [(.int .i64)]⟩]⟩
abbrev xstT2 (f : Int) (ts : List IV) (i : Int) (W : List IV) (j : Int) (O : List IV) : St :=
  ⟨[(1, (.int .i64 f)), (4, .zs), (5, (.row 500 0 O.length)), (16, (.list true kTree ts)), (17, (.int .i64 (ic ts.length))), (18, (.int .i64 i)), (23, (.list false [(.int .u64)] W)), (24, (.int .i64 (ic W.length))), (25, (.int .i64 j))], [(500, (some (.row true 3 false [(.int .i64)] O)))]⟩
theorem thr_nodes (N : Nat) (f : Int) (ts : List IV) (i : Int) (W : List IV) (hW : W.length ≤ 31) (K : Out → St → Res) : ∀ (m j n : Nat) (O : List IV), j + m = W.length → m < n → O.length + m ≤ 1000 →
    lpE (E_model_Thresholds N) (subC c_model_Thresholds [1, 1, 1, 0, 1, 0, 0, 1, 1, 0, 0, 1, 1, 0, 0]) kpT2 n (xstT2 f ts i W (j : Int) O) K = K (.exit 2) (xstT2 f ts i W (ic W.length) (O ++ iZ ((W.drop j).flatMap (thrN f))))
  | m, j, 0, _, _, h, _ => absurd h (by omega)
  | 0, j, n + 1, O, hd, _, _ => by
    have hj : j = W.length := by omega
    subst hj
    rw [lpE_succ, st_model_Thresholds_2, idx_ge (Nat.le_refl _), condF, List.drop_length]
    show K (.exit 2) _ = K (.exit 2) (xstT2 f ts i W (ic W.length) (O ++ []))
    rw [List.append_nil]
  | m + 1, j, n + 1, O, hd, hn, hO => by
    have hj : j < W.length := by omega
    have ej : IntKind.wrap IntKind.i64 ((j : Int) + 1) = ((j + 1 : Nat) : Int) := succ_w (by omega)
    rw [lpE_succ, st_model_Thresholds_2, ej, idx_lt hj, condT, idx_0, Bool.and_self, condT, getD_i hj, List.drop_eq_getElem_cons hj, List.flatMap_cons]
    unfold thrN
    cases (nodeN (W[j]).toInt).lf with
    | true =>
      rw [Bool.not_true, condF, Bool.false_and, condF, List.nil_append]
      exact thr_nodes N f ts i W hW K m (j + 1) n O (by omega) (by omega) (by omega)
    | false =>
      rw [Bool.not_false, condT, Bool.true_and]
      cases ((nodeN (W[j]).toInt).f == f) with
      | false =>
        rw [condF, condF, List.nil_append]
        exact thr_nodes N f ts i W hW K m (j + 1) n O (by omega) (by omega) (by omega)
      | true =>
        rw [condT, condT, decide_eq_true (show (O.length + 1) * 8 ≤ bytesMax by unfold bytesMax; omega), condT, List.take_length]
        have ih := thr_nodes N f ts i W hW K m (j + 1) n (O ++ [IV.int (nodeN (W[j]).toInt).a]) (by omega) (by omega) (by rw [List.length_append, List.length_singleton]; omega)
        rw [List.append_assoc] at ih
        unfold xstT2 at ih ⊢
        rw [List.length_append, List.length_singleton] at ih
        exact ih
abbrev xstT1 (f : Int) (ts : List IV) (i : Int) (O : List IV) : St :=
  ⟨[(1, (.int .i64 f)), (4, .zs), (5, (.row 500 0 O.length)), (16, (.list true kTree ts)), (17, (.int .i64 (ic ts.length))), (18, (.int .i64 i))], [(500, (some (.row true 3 false [(.int .i64)] O)))]⟩
theorem thrN_len (f : Int) : ∀ W : List IV, (W.flatMap (thrN f)).length ≤ W.length
  | [] => Nat.le_refl _
  | w :: r => by
    rw [List.flatMap_cons, List.length_append, List.length_cons]
    have := thrN_len f r
    unfold thrN at this ⊢
    cases (!(nodeN w.toInt).lf && (nodeN w.toInt).f == f) <;> simp only [cond_true, cond_false, List.length_nil, List.length_singleton] <;> omega
theorem treeOK_parts {d c : Int} {t : IV} (h : treeOK d c t = true) : (0 ≤ tCls t ∧ tCls t < c) ∧ treeB (tNds t) d = true := by
  unfold treeOK at h
  simp only [Bool.and_eq_true, Bool.not_eq_true', decide_eq_false_iff_not] at h
  exact ⟨⟨by show 0 ≤ (t.cell 0).toInt; omega, by show (t.cell 0).toInt < c; omega⟩, h.2.2⟩
theorem tree_len {d c : Int} {ts : List IV} (h : ts.all (treeOK d c) = true) {t : IV} (ht : t ∈ ts) : (tNds t).length ≤ 31 := by
  have := (treeOK_parts (List.all_eq_true.1 h t ht)).2
  exact (treeB_parts this).1.2
theorem thr_trees (N : Nat) (hN : 40 ≤ N) (f : Int) (ts : List IV) (hts : ts.length ≤ 8) (hW : ∀ t ∈ ts, (tNds t).length ≤ 31) (K : Out → St → Res) : ∀ (m i n : Nat) (O : List IV), i + m = ts.length → m < n → O.length ≤ 31 * i →
    lpE (E_model_Thresholds N) (subC c_model_Thresholds [1, 1, 1, 0, 1, 0, 0]) kpT1 n (xstT1 f ts (i : Int) O) K = K (.exit 0) (xstT1 f ts (ic ts.length) (O ++ iZ (thrRaw (ts.drop i) f)))
  | m, i, 0, _, _, h, _ => absurd h (by omega)
  | 0, i, n + 1, O, hd, _, _ => by
    have hi : i = ts.length := by omega
    subst hi
    rw [lpE_succ, st_model_Thresholds_1, idx_ge (Nat.le_refl _), condF, List.drop_length]
    show K (.exit 0) _ = K (.exit 0) (xstT1 f ts (ic ts.length) (O ++ []))
    rw [List.append_nil]
  | m + 1, i, n + 1, O, hd, hn, hO => by
    have hi : i < ts.length := by omega
    have ei : IntKind.wrap IntKind.i64 ((i : Int) + 1) = ((i + 1 : Nat) : Int) := succ_w (by omega)
    have hw := hW ts[i] (List.getElem_mem hi)
    have hl := thrN_len f (tNds ts[i])
    rw [lpE_succ, st_model_Thresholds_1, idx_lt hi, condT, idx_0, Bool.and_self, condT, getD_i hi, List.drop_eq_getElem_cons hi]
    refine (thr_nodes N f ts (i : Int) (tNds ts[i]) hw _ (tNds ts[i]).length 0 N O (by omega) (by omega) (by omega)).trans ?_
    rw [ex_model_Thresholds_2_1, ei, List.drop_zero]
    have ih := thr_trees N hN f ts hts hW K m (i + 1) n (O ++ iZ ((tNds ts[i]).flatMap (thrN f))) (by omega) (by omega) (by rw [List.length_append, iZ_len]; omega)
    have e : thrRaw (ts[i] :: ts.drop (i + 1)) f = (tNds ts[i]).flatMap (thrN f) ++ thrRaw (ts.drop (i + 1)) f := by unfold thrRaw; rw [List.flatMap_cons]
    rw [e]
    have e2 : iZ ((tNds ts[i]).flatMap (thrN f) ++ thrRaw (ts.drop (i + 1)) f) = iZ ((tNds ts[i]).flatMap (thrN f)) ++ iZ (thrRaw (ts.drop (i + 1)) f) := by unfold iZ; rw [List.map_append]
    rw [e2, ← List.append_assoc]
    exact ih
set_option maxRecDepth 100000 in
theorem snd_model_Thresholds : SndR PR B0 61 S_model_Thresholds := by
  refine snd_mkI [(36, S_model_Right), (66, S_node_Unpack)] [(71, ipCompact), (70, ipSort)] [(5, kpT1), (8, kpT2)] S_model_Thresholds [] Try.func61 h_model_Thresholds ⟨snd_model_Right, snd_node_Unpack, trivial⟩ ⟨snd_ipCompact, snd_ipSort, trivial⟩ ?_
  intro vs r hwf h
  unfold S_model_Thresholds at h
  split at h
  · rename_i m f
    replace h := withM_get h
    obtain ⟨m, rfl, h⟩ := h
    cases hm : modelB m with
    | false => rw [hm] at h; simp [R.get] at h
    | true =>
      rw [hm, R.get_br, condT, R.get_ok] at h
      refine ⟨40, ?_⟩
      rw [← h]
      refine (nf_model_Thresholds 40 m f).trans ?_
      have hmp := modelB_parts hm
      rw [hm, Bool.not_true, condF]
      refine (thr_trees 40 (by omega) f m.ts hmp.2.2.1 (fun t ht => tree_len hmp.2.2.2.2 ht) _ m.ts.length 0 40 [] (by omega) (by have := hmp.2.2.1; omega) (Nat.zero_le _)).trans ?_
      rw [List.drop_zero, List.nil_append, ex_model_Thresholds_1_1, Nat.beq_refl, condT, iZ_toInt]
      have e1 : (iZ (sortZ (thrRaw m.ts f))).length = (iZ (thrRaw m.ts f)).length := by rw [iZ_len, iZ_len]; exact (sortZ_perm _).length_eq
      have e2 : (iZ (cmpZ (sortZ (thrRaw m.ts f)))).length ≤ (iZ (thrRaw m.ts f)).length := by rw [← e1, iZ_len, iZ_len]; exact cmpZ_len _
      rw [e1, Nat.beq_refl, condT, condT, iZ_toInt, Nat.ble_eq_true_of_le e2, condT, List.take_length]
      rfl
  · simp [R.get] at h

set_option maxRecDepth 100000 in
theorem snd_grid_Cuts : SndR PR B0 46 S_grid_Cuts := by
  refine snd_mkI [(59, S_grid_feature), (61, S_model_Thresholds)] [(60, ipDelete)] [] S_grid_Cuts [[.list false [.int .i64]]] Try.func46 h_grid_Cuts ⟨snd_grid_feature, snd_model_Thresholds, trivial⟩ ⟨snd_ipDelete, trivial⟩ ?_
  intro vs r hwf h
  unfold S_grid_Cuts at h
  split at h
  · rename_i m q b i
    replace h := withM_get h
    obtain ⟨m, rfl, h⟩ := h
    replace h := withQ_get h
    obtain ⟨q, rfl, h⟩ := h
    replace h := withB_get h
    obtain ⟨b, rfl, h⟩ := h
    cases hg : (modelB m && inPl i) with
    | false => rw [hg] at h; simp [R.get] at h
    | true =>
    rw [hg, R.get_br, condT, R.get_ok] at h
    rw [Bool.and_eq_true] at hg
    refine ⟨0, ?_⟩
    rw [← h]
    have key : ∀ k : Nat, k < 5 → evFun (E_grid_Cuts 0) c_grid_Cuts [.tmp 8] [[.list false [.int .i64]]] [m.V, q.V, b.V, .int .i64 (k : Int)] = some (.list false [.int .i64] (iZ (cutsZ m q b k)), []) := fun k hk => by
      rw [run_grid_Cuts m q b k hk, cutRs_eq hg.1]
      rfl
    rcases inPl_cases hg.2 with rfl | rfl | rfl | rfl | rfl
    · exact key 0 (by omega)
    · exact key 1 (by omega)
    · exact key 2 (by omega)
    · exact key 3 (by omega)
    · exact key 4 (by omega)
  · simp [R.get] at h
/-! ### where a box is cut -/
abbrev xstP (m : Md) (q : Qy) (b : Bx) (i : Int) : St := ⟨[(3, (.ptr 3 0 0)), (4, (.ptr 4 0 0)), (5, (.ptr 5 0 0)), (6, (.int .i64 0)), (7, (.int .i64 0)), (8, (.bool false)), (11, (.int .i64 i))], [(3, (some (.box (Md.cs m)))), (4, (some (.box (Qy.cs q)))), (5, (some (.box (Bx.cs b))))]⟩
theorem cuts_len {m : Md} (hm : modelB m = true) (q : Qy) (b : Bx) (i : Nat) : (cutsZ m q b i).length ≤ 248 := by
  have key : ∀ (ts : List IV) (f : Int), (∀ t ∈ ts, (tNds t).length ≤ 31) → (thrRaw ts f).length ≤ 31 * ts.length := by
    intro ts f
    induction ts with
    | nil => intro _; exact Nat.le_refl _
    | cons t r ih =>
      intro ht
      have h1 := ih fun u hu => ht u (List.mem_cons_of_mem _ hu)
      have h2 := thrN_len f (tNds t)
      have h3 := ht t (List.mem_cons_self ..)
      unfold thrRaw at h1 ⊢
      rw [List.flatMap_cons, List.length_append, List.length_cons]
      omega
  have hmp := modelB_parts hm
  have h1 := key m.ts (featG q (i : Int)) fun t ht => tree_len hmp.2.2.2.2 ht
  unfold cutsZ
  cases decide (featG q (i : Int) < 0) with
  | true => exact Nat.zero_le _
  | false =>
    rw [condF]
    have h2 : (keepZ (b.g i).lo (b.g i).hi (thrZ m.ts (featG q (i : Int)))).length ≤ (thrZ m.ts (featG q (i : Int))).length := List.length_filter_le ..
    have h3 : (thrZ m.ts (featG q (i : Int))).length ≤ (thrRaw m.ts (featG q (i : Int))).length := by
      unfold thrZ
      exact Nat.le_trans (cmpZ_len _) (Nat.le_of_eq (sortZ_perm _).length_eq)
    have := hmp.2.2.1
    omega
theorem split_run (N : Nat) (m : Md) (hm : modelB m = true) (q : Qy) (b : Bx) : ∀ (d i n : Nat), i + d = 5 → d < n →
    lpE (E_goal_Split N) (subC c_goal_Split [1, 0, 1, 0, 0]) ⟨[3, 4, 5, 6, 7, 8, 11], [3, 4, 5], []⟩ n (xstP m q b (i : Int)) (kBlock 0 (kSq (E_goal_Split N) (subC c_goal_Split [1, 1]) (outT (E_goal_Split N) none [(ResultVar.tmp 6), (ResultVar.tmp 7), (ResultVar.tmp 8)] [[(.int .i64)], [(.int .i64)], [.bool]]))) =
      some (.tup [.int .i64 (spI (spR m q b d i)), .int .i64 (spAt (spR m q b d i)), .bool (spR m q b d i).isSome], [])
  | d, i, 0, _, h => absurd h (by omega)
  | 0, i, n + 1, hd, _ => by
    have hi : i = 5 := by omega
    subst hi
    rw [lpE_succ, st_goal_Split_1, decide_eq_false (show ¬ ((5 : Nat) : Int) < 5 by omega), condF]
    exact ex_goal_Split_1_1 N m q b _ _ _ _
  | d + 1, i, n + 1, hd, hn => by
    have hp : inPl (i : Int) = true := by unfold inPl; rw [decide_eq_true (show (0 : Int) ≤ (i : Int) by omega), decide_eq_true (show (i : Int) < 5 by omega)]; rfl
    have ei : IntKind.wrap IntKind.i64 ((i : Int) + 1) = ((i + 1 : Nat) : Int) := succ_w (by omega)
    have hc := cuts_len hm q b i
    rw [lpE_succ, st_goal_Split_1, ei, decide_eq_true (show (i : Int) < 5 by omega), condT, hm, hp, Bool.and_self, condT, Int.toNat_natCast, spR, iZ_len]
    generalize cutsZ m q b i = cs at hc ⊢
    have ed : decide (ic cs.length > 0) = decide (cs.length > 0) := by rw [Bool.eq_iff_iff]; simp
    rw [ed]
    cases hpos : decide (cs.length > 0) with
    | true =>
      have hpos := of_decide_eq_true hpos
      have ew : IntKind.wrap IntKind.i64 (Int.tdiv (IntKind.wrap IntKind.i64 (ic cs.length - 1)) 2) = (((cs.length - 1) / 2 : Nat) : Int) := by
        have e1 : IntKind.wrap IntKind.i64 (ic cs.length - 1) = ((cs.length - 1 : Nat) : Int) := by rw [wrap_id (by simp only [ic]; omega) (by simp only [ic]; omega)]; simp only [ic]; omega
        have e2 : Int.tdiv ((cs.length - 1 : Nat) : Int) 2 = (((cs.length - 1) / 2 : Nat) : Int) := by
          rw [Int.tdiv_eq_ediv_of_nonneg (by omega)]
          omega
        rw [e1, e2, wrap_id (by omega) (by omega)]
      have hlt : (cs.length - 1) / 2 < cs.length := by omega
      rw [condT, ew, idx_0, decide_eq_true (show (((cs.length - 1) / 2 : Nat) : Int) < ic cs.length by simp only [ic]; omega), Bool.and_self, condT, condT, Int.toNat_natCast]
      have eg : IV.toInt (List.getD (iZ cs) ((cs.length - 1) / 2) default) = cs.getD ((cs.length - 1) / 2) 0 := by
        unfold iZ
        rw [List.getD_eq_getElem?_getD, List.getD_eq_getElem?_getD, List.getElem?_map, List.getElem?_eq_getElem hlt]
        rfl
      rw [eg]
      exact ex_goal_Split_1_2 N m q b _ _ _ _
    | false =>
      rw [condF, condF]
      exact split_run N m hm q b d (i + 1) n (by omega) (by omega)
set_option maxRecDepth 100000 in
theorem snd_goal_Split : SndR PR B0 31 S_goal_Split := by
  refine snd_mk [(46, S_grid_Cuts)] [(2, ⟨[3, 4, 5, 6, 7, 8, 11], [3, 4, 5], []⟩)] S_goal_Split [[.int .i64], [.int .i64], [.bool]] Try.func31 h_goal_Split ⟨snd_grid_Cuts, trivial⟩ ?_
  intro vs r hwf h
  unfold S_goal_Split at h
  split at h
  · rename_i m q b
    replace h := withM_get h
    obtain ⟨m, rfl, h⟩ := h
    replace h := withQ_get h
    obtain ⟨q, rfl, h⟩ := h
    replace h := withB_get h
    obtain ⟨b, rfl, h⟩ := h
    cases hg : (modelB m) with
    | false => rw [hg] at h; simp [R.get] at h
    | true =>
    rw [hg, R.get_br, condT, R.get_ok] at h
    refine ⟨10, ?_⟩
    rw [← h]
    exact (nf_goal_Split 10 m q b).trans (split_run 10 m hg q b 5 0 10 rfl (by omega))
  · simp [R.get] at h
end Go.FM

/-
  NORMAL FORMS: what the functions' runs come to (written by a program of this claim's own, checked by the kernel).
-/
namespace Go.FM
open Go Go.Proofs

/-! ### copse/search.New -/
def E_search_New (N : Nat) : Env := mkE [(24, S_query_Right), (13, S_query_Start)] [] 26 N

theorem nf_search_New (N : Nat) (m : Md) (q : Qy) : evFun (E_search_New N) c_search_New [.tmp 4] [[.list false []]] [(Md.V m), (Qy.V q)] =
  (cond (!rightQ m q)
  (some ((.bor (seCs m q [.zs, .zs, (.int .i64 4), .zs, (.int .i64 0), (.int .i64 0), (.int .i64 0), (.int .i64 0), (.int .i64 0), (.int .i64 0), (.int .i64 0)])), []))
  (some ((.bor (seCs m q [(.vec 30 true kBox [(Bx.I (startB q))]), .zs, (.int .i64 0), .zs, (.int .i64 0), (.int .i64 0), (.int .i64 0), (.int .i64 0), (.int .i64 0), (.int .i64 0), (.int .i64 0)])), []))) := by kernel_rfl

/-! ### (*copse/search.Search).Left -/
def E_search_Search_Left (N : Nat) : Env := mkE [] [] 8 N

theorem nf_search_Search_Leftt0 (N : Nat) (m : Md) (q : Qy) (left : List IV) (proof : List IV) (k : Int) (w0 : Int) (w1 : Int) (w2 : Int) (w3 : Int) (tw : Int) (vs : Int) (sp : Int) : evFun (E_search_Search_Left N) c_search_Search_Left [.tmp 2] [[.int .i64]] [(.bor (seCs m q [.vec 30 true kBox left, .vec 82 true kStep proof, .int .i64 k, .zs, .int .i64 w0, .int .i64 w1, .int .i64 w2, .int .i64 w3, .int .i64 tw, .int .i64 vs, .int .i64 sp]))] =
  (some ((.int .i64 (ic (List.length left - 0))), [(seCs m q [(.vec 30 true kBox (List.take (List.length left) left)), (.vec 82 true kStep (List.take (List.length proof) proof)), (.int .i64 k), .zs, (.int .i64 w0), (.int .i64 w1), (.int .i64 w2), (.int .i64 w3), (.int .i64 tw), (.int .i64 vs), (.int .i64 sp)])])) := by kernel_rfl

/-! ### (*copse/search.Search).Left -/
theorem nf_search_Search_Leftt1 (N : Nat) (m : Md) (q : Qy) (left : List IV) (k : Int) (w0 : Int) (w1 : Int) (w2 : Int) (w3 : Int) (tw : Int) (vs : Int) (sp : Int) : evFun (E_search_Search_Left N) c_search_Search_Left [.tmp 2] [[.int .i64]] [(.bor (seCs m q [.vec 30 true kBox left, .zs, .int .i64 k, .zs, .int .i64 w0, .int .i64 w1, .int .i64 w2, .int .i64 w3, .int .i64 tw, .int .i64 vs, .int .i64 sp]))] =
  (some ((.int .i64 (ic (List.length left - 0))), [(seCs m q [(.vec 30 true kBox (List.take (List.length left) left)), .zs, (.int .i64 k), .zs, (.int .i64 w0), (.int .i64 w1), (.int .i64 w2), (.int .i64 w3), (.int .i64 tw), (.int .i64 vs), (.int .i64 sp)])])) := by kernel_rfl

/-! ### (*copse/search.Search).Left -/
theorem nf_search_Search_Leftt2 (N : Nat) (m : Md) (q : Qy) (left : List IV) (proof : List IV) (vp : List IV) (k : Int) (w0 : Int) (w1 : Int) (w2 : Int) (w3 : Int) (tw : Int) (vs : Int) (sp : Int) : evFun (E_search_Search_Left N) c_search_Search_Left [.tmp 2] [[.int .i64]] [(.bor (seCs m q [.vec 30 true kBox left, .list true kStep proof, .int .i64 k, .list true kStep vp, .int .i64 w0, .int .i64 w1, .int .i64 w2, .int .i64 w3, .int .i64 tw, .int .i64 vs, .int .i64 sp]))] =
  (some ((.int .i64 (ic (List.length left - 0))), [(seCs m q [(.vec 30 true kBox (List.take (List.length left) left)), (.list true kStep proof), (.int .i64 k), (.list true kStep vp), (.int .i64 w0), (.int .i64 w1), (.int .i64 w2), (.int .i64 w3), (.int .i64 tw), (.int .i64 vs), (.int .i64 sp)])])) := by kernel_rfl

/-! ### (*copse/search.Search).Left -/
theorem nf_search_Search_Leftt3 (N : Nat) (m : Md) (q : Qy) (k : Int) (w0 : Int) (w1 : Int) (w2 : Int) (w3 : Int) (tw : Int) (vs : Int) (sp : Int) : evFun (E_search_Search_Left N) c_search_Search_Left [.tmp 2] [[.int .i64]] [(.bor (seCs m q [.zs, .zs, .int .i64 k, .zs, .int .i64 w0, .int .i64 w1, .int .i64 w2, .int .i64 w3, .int .i64 tw, .int .i64 vs, .int .i64 sp]))] =
  (some ((.int .i64 0), [(seCs m q [.zs, .zs, (.int .i64 k), .zs, (.int .i64 w0), (.int .i64 w1), (.int .i64 w2), (.int .i64 w3), (.int .i64 tw), (.int .i64 vs), (.int .i64 sp)])])) := by kernel_rfl

/-! ### (*copse/search.Search).Verdict -/
def E_search_Search_Verdict (N : Nat) : Env := mkE [(34, S_slices_Clone_apiStepapiStep)] [] 22 N

theorem nf_search_Search_Verdictt0 (N : Nat) (m : Md) (q : Qy) (left : List IV) (proof : List IV) (k : Int) (w0 : Int) (w1 : Int) (w2 : Int) (w3 : Int) (tw : Int) (vs : Int) (sp : Int) : evFun (E_search_Search_Verdict N) c_search_Search_Verdict [.cell 2 37] [[.int .i64, .list true [.bool, .int .i64, .int .i64], .int .i64, .int .i64, .int .i64, .int .i64, .int .i64, .int .i64]] [(.bor (seCs m q [.vec 30 true kBox left, .vec 82 true kStep proof, .int .i64 k, .zs, .int .i64 w0, .int .i64 w1, .int .i64 w2, .int .i64 w3, .int .i64 tw, .int .i64 vs, .int .i64 sp]))] =
  (cond (k == 0)
  (some ((.agg [(.int .i64 3), (.list true kStep []), (.int .i64 w0), (.int .i64 w1), (.int .i64 w2), (.int .i64 w3), (.int .i64 tw), (.int .i64 sp)]), [(seCs m q [(.vec 30 true kBox (List.take (List.length left) left)), (.vec 82 true kStep (List.take (List.length proof) proof)), (.int .i64 k), .zs, (.int .i64 w0), (.int .i64 w1), (.int .i64 w2), (.int .i64 w3), (.int .i64 tw), (.int .i64 vs), (.int .i64 sp)])]))
  (some ((.agg [(.int .i64 k), (.list true kStep []), (.int .i64 w0), (.int .i64 w1), (.int .i64 w2), (.int .i64 w3), (.int .i64 tw), (.int .i64 sp)]), [(seCs m q [(.vec 30 true kBox (List.take (List.length left) left)), (.vec 82 true kStep (List.take (List.length proof) proof)), (.int .i64 k), .zs, (.int .i64 w0), (.int .i64 w1), (.int .i64 w2), (.int .i64 w3), (.int .i64 tw), (.int .i64 vs), (.int .i64 sp)])]))) := by kernel_rfl

/-! ### (*copse/search.Search).Verdict -/
theorem nf_search_Search_Verdictt1 (N : Nat) (m : Md) (q : Qy) (left : List IV) (k : Int) (w0 : Int) (w1 : Int) (w2 : Int) (w3 : Int) (tw : Int) (vs : Int) (sp : Int) : evFun (E_search_Search_Verdict N) c_search_Search_Verdict [.cell 2 37] [[.int .i64, .list true [.bool, .int .i64, .int .i64], .int .i64, .int .i64, .int .i64, .int .i64, .int .i64, .int .i64]] [(.bor (seCs m q [.vec 30 true kBox left, .zs, .int .i64 k, .zs, .int .i64 w0, .int .i64 w1, .int .i64 w2, .int .i64 w3, .int .i64 tw, .int .i64 vs, .int .i64 sp]))] =
  (cond (k == 0)
  (some ((.agg [(.int .i64 3), (.list true kStep []), (.int .i64 w0), (.int .i64 w1), (.int .i64 w2), (.int .i64 w3), (.int .i64 tw), (.int .i64 sp)]), [(seCs m q [(.vec 30 true kBox (List.take (List.length left) left)), .zs, (.int .i64 k), .zs, (.int .i64 w0), (.int .i64 w1), (.int .i64 w2), (.int .i64 w3), (.int .i64 tw), (.int .i64 vs), (.int .i64 sp)])]))
  (some ((.agg [(.int .i64 k), (.list true kStep []), (.int .i64 w0), (.int .i64 w1), (.int .i64 w2), (.int .i64 w3), (.int .i64 tw), (.int .i64 sp)]), [(seCs m q [(.vec 30 true kBox (List.take (List.length left) left)), .zs, (.int .i64 k), .zs, (.int .i64 w0), (.int .i64 w1), (.int .i64 w2), (.int .i64 w3), (.int .i64 tw), (.int .i64 vs), (.int .i64 sp)])]))) := by kernel_rfl

/-! ### (*copse/search.Search).Verdict -/
theorem nf_search_Search_Verdictt2 (N : Nat) (m : Md) (q : Qy) (left : List IV) (proof : List IV) (vp : List IV) (k : Int) (w0 : Int) (w1 : Int) (w2 : Int) (w3 : Int) (tw : Int) (vs : Int) (sp : Int) : evFun (E_search_Search_Verdict N) c_search_Search_Verdict [.cell 2 37] [[.int .i64, .list true [.bool, .int .i64, .int .i64], .int .i64, .int .i64, .int .i64, .int .i64, .int .i64, .int .i64]] [(.bor (seCs m q [.vec 30 true kBox left, .list true kStep proof, .int .i64 k, .list true kStep vp, .int .i64 w0, .int .i64 w1, .int .i64 w2, .int .i64 w3, .int .i64 tw, .int .i64 vs, .int .i64 sp]))] =
  (cond (k == 0)
  (cond (Nat.ble (List.length vp) 100000)
   (some ((.agg [(.int .i64 3), (.list true kStep (List.drop 0 (List.take (List.length vp) vp))), (.int .i64 w0), (.int .i64 w1), (.int .i64 w2), (.int .i64 w3), (.int .i64 tw), (.int .i64 sp)]), [(seCs m q [(.vec 30 true kBox (List.take (List.length left) left)), (.list true kStep proof), (.int .i64 k), (.list true kStep vp), (.int .i64 w0), (.int .i64 w1), (.int .i64 w2), (.int .i64 w3), (.int .i64 tw), (.int .i64 vs), (.int .i64 sp)])]))
   none)
  (cond (Nat.ble (List.length vp) 100000)
   (some ((.agg [(.int .i64 k), (.list true kStep (List.drop 0 (List.take (List.length vp) vp))), (.int .i64 w0), (.int .i64 w1), (.int .i64 w2), (.int .i64 w3), (.int .i64 tw), (.int .i64 sp)]), [(seCs m q [(.vec 30 true kBox (List.take (List.length left) left)), (.list true kStep proof), (.int .i64 k), (.list true kStep vp), (.int .i64 w0), (.int .i64 w1), (.int .i64 w2), (.int .i64 w3), (.int .i64 tw), (.int .i64 vs), (.int .i64 sp)])]))
   none)) := by kernel_rfl

/-! ### (*copse/search.Search).Verdict -/
theorem nf_search_Search_Verdictt3 (N : Nat) (m : Md) (q : Qy) (k : Int) (w0 : Int) (w1 : Int) (w2 : Int) (w3 : Int) (tw : Int) (vs : Int) (sp : Int) : evFun (E_search_Search_Verdict N) c_search_Search_Verdict [.cell 2 37] [[.int .i64, .list true [.bool, .int .i64, .int .i64], .int .i64, .int .i64, .int .i64, .int .i64, .int .i64, .int .i64]] [(.bor (seCs m q [.zs, .zs, .int .i64 k, .zs, .int .i64 w0, .int .i64 w1, .int .i64 w2, .int .i64 w3, .int .i64 tw, .int .i64 vs, .int .i64 sp]))] =
  (cond (k == 0)
  (some ((.agg [(.int .i64 3), (.list true kStep []), (.int .i64 w0), (.int .i64 w1), (.int .i64 w2), (.int .i64 w3), (.int .i64 tw), (.int .i64 sp)]), [(seCs m q [.zs, .zs, (.int .i64 k), .zs, (.int .i64 w0), (.int .i64 w1), (.int .i64 w2), (.int .i64 w3), (.int .i64 tw), (.int .i64 vs), (.int .i64 sp)])]))
  (some ((.agg [(.int .i64 k), (.list true kStep []), (.int .i64 w0), (.int .i64 w1), (.int .i64 w2), (.int .i64 w3), (.int .i64 tw), (.int .i64 sp)]), [(seCs m q [.zs, .zs, (.int .i64 k), .zs, (.int .i64 w0), (.int .i64 w1), (.int .i64 w2), (.int .i64 w3), (.int .i64 tw), (.int .i64 vs), (.int .i64 sp)])]))) := by kernel_rfl

/-! ### (*copse/search.Search).Step -/
def E_search_Search_Step (N : Nat) : Env := mkE [(32, S_box_Cut), (29, S_goal_Closed), (30, S_goal_Corner), (31, S_goal_Split), (12, S_query_Breaks)] [] 165 N

theorem nf_search_Search_Stept0 (N : Nat) (m : Md) (q : Qy) (left : List IV) (proof : List IV) (k : Int) (w0 : Int) (w1 : Int) (w2 : Int) (w3 : Int) (tw : Int) (vs : Int) (sp : Int) : evFun (E_search_Search_Step N) c_search_Search_Step [.tmp 2] [[.bool]] [(.bor (seCs m q [.vec 30 true kBox left, .vec 82 true kStep proof, .int .i64 k, .zs, .int .i64 w0, .int .i64 w1, .int .i64 w2, .int .i64 w3, .int .i64 tw, .int .i64 vs, .int .i64 sp]))] =
  (cond (k != 0)
  (some ((.bool false), [(seCs m q [(.vec 30 true kBox (List.take (List.length left) left)), (.vec 82 true kStep (List.take (List.length proof) proof)), (.int .i64 k), .zs, (.int .i64 w0), (.int .i64 w1), (.int .i64 w2), (.int .i64 w3), (.int .i64 tw), (.int .i64 vs), (.int .i64 sp)])]))
  (cond (decide (sp ≥ Qy.bu q))
   (some ((.bool false), [(seCs m q [(.vec 30 true kBox (List.take (List.length left) left)), (.vec 82 true kStep (List.take (List.length proof) proof)), (.int .i64 k), .zs, (.int .i64 w0), (.int .i64 w1), (.int .i64 w2), (.int .i64 w3), (.int .i64 tw), (.int .i64 vs), (.int .i64 sp)])]))
   (cond (decide (0 ≤ IntKind.wrap IntKind.i64 (ic (List.length left - 0) - 1)) && decide (IntKind.wrap IntKind.i64 (ic (List.length left - 0) - 1) < ic (List.length left - 0)))
    (cond (decide (0 ≤ IntKind.wrap IntKind.i64 (ic (List.length left - 0) - 1)) && decide (IntKind.wrap IntKind.i64 (ic (List.length left - 0) - 1) ≤ ic (List.length left - 0)))
     (cond (closedF m q (bxI (List.getD left (0 + Int.toNat (IntKind.wrap IntKind.i64 (ic (List.length left - 0) - 1))) default)))
      (cond (decide ((List.length proof + 1) * 24 ≤ bytesMax))
       (cond (ic (0 + Int.toNat (IntKind.wrap IntKind.i64 (ic (List.length left - 0) - 1)) - 0) == 0)
        (some ((.bool true), [(seCs m q [(.vec 30 true kBox (List.take (0 + Int.toNat (IntKind.wrap IntKind.i64 (ic (List.length left - 0) - 1))) left)), (.list true kStep (List.drop 0 (List.take (List.length proof + 1) (List.take (List.length proof) proof ++ [IV.agg [IV.bool true, IV.int 0, IV.int 0]])))), (.int .i64 1), (.list true kStep (List.drop 0 (List.take (List.length proof + 1) (List.take (List.length proof) proof ++ [IV.agg [IV.bool true, IV.int 0, IV.int 0]])))), (.int .i64 0), (.int .i64 0), (.int .i64 0), (.int .i64 0), (.int .i64 0), (.int .i64 0), (.int .i64 (IntKind.wrap IntKind.i64 (sp + 1)))])]))
        (some ((.bool true), [(seCs m q [(.vec 30 true kBox (List.take (0 + Int.toNat (IntKind.wrap IntKind.i64 (ic (List.length left - 0) - 1))) left)), (.vec 82 true kStep (List.take (List.length proof + 1) (List.take (List.length proof) proof ++ [IV.agg [IV.bool true, IV.int 0, IV.int 0]]))), (.int .i64 k), .zs, (.int .i64 w0), (.int .i64 w1), (.int .i64 w2), (.int .i64 w3), (.int .i64 tw), (.int .i64 vs), (.int .i64 (IntKind.wrap IntKind.i64 (sp + 1)))])])))
       none)
      (cond (breaksF m q (Bx.low (bxI (List.getD left (0 + Int.toNat (IntKind.wrap IntKind.i64 (ic (List.length left - 0) - 1))) default))) (Sp.hi (Bx.s4 (bxI (List.getD left (0 + Int.toNat (IntKind.wrap IntKind.i64 (ic (List.length left - 0) - 1))) default)))))
       (some ((.bool true), [(seCs m q [(.vec 30 true kBox (List.take (0 + Int.toNat (IntKind.wrap IntKind.i64 (ic (List.length left - 0) - 1))) left)), (.vec 82 true kStep (List.take (List.length proof) proof)), (.int .i64 2), .zs, (.int .i64 (Pt.p0 (Bx.low (bxI (List.getD left (0 + Int.toNat (IntKind.wrap IntKind.i64 (ic (List.length left - 0) - 1))) default))))), (.int .i64 (Pt.p1 (Bx.low (bxI (List.getD left (0 + Int.toNat (IntKind.wrap IntKind.i64 (ic (List.length left - 0) - 1))) default))))), (.int .i64 (Pt.p2 (Bx.low (bxI (List.getD left (0 + Int.toNat (IntKind.wrap IntKind.i64 (ic (List.length left - 0) - 1))) default))))), (.int .i64 (Pt.p3 (Bx.low (bxI (List.getD left (0 + Int.toNat (IntKind.wrap IntKind.i64 (ic (List.length left - 0) - 1))) default))))), (.int .i64 (Sp.hi (Bx.s4 (bxI (List.getD left (0 + Int.toNat (IntKind.wrap IntKind.i64 (ic (List.length left - 0) - 1))) default))))), (.int .i64 0), (.int .i64 (IntKind.wrap IntKind.i64 (sp + 1)))])]))
       (cond (modelB m)
        (cond (!Option.isSome (splitF m q (bxI (List.getD left (0 + Int.toNat (IntKind.wrap IntKind.i64 (ic (List.length left - 0) - 1))) default))))
         (some ((.bool true), [(seCs m q [(.vec 30 true kBox (List.take (0 + Int.toNat (IntKind.wrap IntKind.i64 (ic (List.length left - 0) - 1))) left)), (.vec 82 true kStep (List.take (List.length proof) proof)), (.int .i64 3), .zs, (.int .i64 0), (.int .i64 0), (.int .i64 0), (.int .i64 0), (.int .i64 0), (.int .i64 0), (.int .i64 (IntKind.wrap IntKind.i64 (sp + 1)))])]))
         (cond (inPl (spI (splitF m q (bxI (List.getD left (0 + Int.toNat (IntKind.wrap IntKind.i64 (ic (List.length left - 0) - 1))) default)))))
          (cond (decide ((0 + Int.toNat (IntKind.wrap IntKind.i64 (ic (List.length left - 0) - 1)) + 2) * 80 ≤ bytesMax))
           (cond (decide ((List.length proof + 1) * 24 ≤ bytesMax))
            (some ((.bool true), [(seCs m q [(.vec 30 true kBox (List.take (0 + Int.toNat (IntKind.wrap IntKind.i64 (ic (List.length left - 0) - 1)) + 2) (List.take (0 + Int.toNat (IntKind.wrap IntKind.i64 (ic (List.length left - 0) - 1))) left ++ [(Bx.I (Bx.cutH (bxI (List.getD left (0 + Int.toNat (IntKind.wrap IntKind.i64 (ic (List.length left - 0) - 1))) default)) (spI (splitF m q (bxI (List.getD left (0 + Int.toNat (IntKind.wrap IntKind.i64 (ic (List.length left - 0) - 1))) default)))) (spAt (splitF m q (bxI (List.getD left (0 + Int.toNat (IntKind.wrap IntKind.i64 (ic (List.length left - 0) - 1))) default)))))), (Bx.I (Bx.cutL (bxI (List.getD left (0 + Int.toNat (IntKind.wrap IntKind.i64 (ic (List.length left - 0) - 1))) default)) (spI (splitF m q (bxI (List.getD left (0 + Int.toNat (IntKind.wrap IntKind.i64 (ic (List.length left - 0) - 1))) default)))) (spAt (splitF m q (bxI (List.getD left (0 + Int.toNat (IntKind.wrap IntKind.i64 (ic (List.length left - 0) - 1))) default))))))]))), (.vec 82 true kStep (List.take (List.length proof + 1) (List.take (List.length proof) proof ++ [IV.agg [IV.bool false, IV.int (spI (splitF m q (bxI (List.getD left (0 + Int.toNat (IntKind.wrap IntKind.i64 (ic (List.length left - 0) - 1))) default)))), IV.int (spAt (splitF m q (bxI (List.getD left (0 + Int.toNat (IntKind.wrap IntKind.i64 (ic (List.length left - 0) - 1))) default))))]]))), (.int .i64 k), .zs, (.int .i64 w0), (.int .i64 w1), (.int .i64 w2), (.int .i64 w3), (.int .i64 tw), (.int .i64 vs), (.int .i64 (IntKind.wrap IntKind.i64 (sp + 1)))])]))
            none)
           none)
          none))
        none)))
     none)
    none))) := by kernel_rfl

/-! ### (*copse/search.Search).Step -/
theorem nf_search_Search_Stept1 (N : Nat) (m : Md) (q : Qy) (left : List IV) (k : Int) (w0 : Int) (w1 : Int) (w2 : Int) (w3 : Int) (tw : Int) (vs : Int) (sp : Int) : evFun (E_search_Search_Step N) c_search_Search_Step [.tmp 2] [[.bool]] [(.bor (seCs m q [.vec 30 true kBox left, .zs, .int .i64 k, .zs, .int .i64 w0, .int .i64 w1, .int .i64 w2, .int .i64 w3, .int .i64 tw, .int .i64 vs, .int .i64 sp]))] =
  (cond (k != 0)
  (some ((.bool false), [(seCs m q [(.vec 30 true kBox (List.take (List.length left) left)), .zs, (.int .i64 k), .zs, (.int .i64 w0), (.int .i64 w1), (.int .i64 w2), (.int .i64 w3), (.int .i64 tw), (.int .i64 vs), (.int .i64 sp)])]))
  (cond (decide (sp ≥ Qy.bu q))
   (some ((.bool false), [(seCs m q [(.vec 30 true kBox (List.take (List.length left) left)), .zs, (.int .i64 k), .zs, (.int .i64 w0), (.int .i64 w1), (.int .i64 w2), (.int .i64 w3), (.int .i64 tw), (.int .i64 vs), (.int .i64 sp)])]))
   (cond (decide (0 ≤ IntKind.wrap IntKind.i64 (ic (List.length left - 0) - 1)) && decide (IntKind.wrap IntKind.i64 (ic (List.length left - 0) - 1) < ic (List.length left - 0)))
    (cond (decide (0 ≤ IntKind.wrap IntKind.i64 (ic (List.length left - 0) - 1)) && decide (IntKind.wrap IntKind.i64 (ic (List.length left - 0) - 1) ≤ ic (List.length left - 0)))
     (cond (closedF m q (bxI (List.getD left (0 + Int.toNat (IntKind.wrap IntKind.i64 (ic (List.length left - 0) - 1))) default)))
      (cond (ic (0 + Int.toNat (IntKind.wrap IntKind.i64 (ic (List.length left - 0) - 1)) - 0) == 0)
       (some ((.bool true), [(seCs m q [(.vec 30 true kBox (List.take (0 + Int.toNat (IntKind.wrap IntKind.i64 (ic (List.length left - 0) - 1))) left)), (.list true kStep [(IV.agg [IV.bool true, IV.int 0, IV.int 0])]), (.int .i64 1), (.list true kStep [(IV.agg [IV.bool true, IV.int 0, IV.int 0])]), (.int .i64 0), (.int .i64 0), (.int .i64 0), (.int .i64 0), (.int .i64 0), (.int .i64 0), (.int .i64 (IntKind.wrap IntKind.i64 (sp + 1)))])]))
       (some ((.bool true), [(seCs m q [(.vec 30 true kBox (List.take (0 + Int.toNat (IntKind.wrap IntKind.i64 (ic (List.length left - 0) - 1))) left)), (.vec 82 true kStep [(IV.agg [IV.bool true, IV.int 0, IV.int 0])]), (.int .i64 k), .zs, (.int .i64 w0), (.int .i64 w1), (.int .i64 w2), (.int .i64 w3), (.int .i64 tw), (.int .i64 vs), (.int .i64 (IntKind.wrap IntKind.i64 (sp + 1)))])])))
      (cond (breaksF m q (Bx.low (bxI (List.getD left (0 + Int.toNat (IntKind.wrap IntKind.i64 (ic (List.length left - 0) - 1))) default))) (Sp.hi (Bx.s4 (bxI (List.getD left (0 + Int.toNat (IntKind.wrap IntKind.i64 (ic (List.length left - 0) - 1))) default)))))
       (some ((.bool true), [(seCs m q [(.vec 30 true kBox (List.take (0 + Int.toNat (IntKind.wrap IntKind.i64 (ic (List.length left - 0) - 1))) left)), .zs, (.int .i64 2), .zs, (.int .i64 (Pt.p0 (Bx.low (bxI (List.getD left (0 + Int.toNat (IntKind.wrap IntKind.i64 (ic (List.length left - 0) - 1))) default))))), (.int .i64 (Pt.p1 (Bx.low (bxI (List.getD left (0 + Int.toNat (IntKind.wrap IntKind.i64 (ic (List.length left - 0) - 1))) default))))), (.int .i64 (Pt.p2 (Bx.low (bxI (List.getD left (0 + Int.toNat (IntKind.wrap IntKind.i64 (ic (List.length left - 0) - 1))) default))))), (.int .i64 (Pt.p3 (Bx.low (bxI (List.getD left (0 + Int.toNat (IntKind.wrap IntKind.i64 (ic (List.length left - 0) - 1))) default))))), (.int .i64 (Sp.hi (Bx.s4 (bxI (List.getD left (0 + Int.toNat (IntKind.wrap IntKind.i64 (ic (List.length left - 0) - 1))) default))))), (.int .i64 0), (.int .i64 (IntKind.wrap IntKind.i64 (sp + 1)))])]))
       (cond (modelB m)
        (cond (!Option.isSome (splitF m q (bxI (List.getD left (0 + Int.toNat (IntKind.wrap IntKind.i64 (ic (List.length left - 0) - 1))) default))))
         (some ((.bool true), [(seCs m q [(.vec 30 true kBox (List.take (0 + Int.toNat (IntKind.wrap IntKind.i64 (ic (List.length left - 0) - 1))) left)), .zs, (.int .i64 3), .zs, (.int .i64 0), (.int .i64 0), (.int .i64 0), (.int .i64 0), (.int .i64 0), (.int .i64 0), (.int .i64 (IntKind.wrap IntKind.i64 (sp + 1)))])]))
         (cond (inPl (spI (splitF m q (bxI (List.getD left (0 + Int.toNat (IntKind.wrap IntKind.i64 (ic (List.length left - 0) - 1))) default)))))
          (cond (decide ((0 + Int.toNat (IntKind.wrap IntKind.i64 (ic (List.length left - 0) - 1)) + 2) * 80 ≤ bytesMax))
           (some ((.bool true), [(seCs m q [(.vec 30 true kBox (List.take (0 + Int.toNat (IntKind.wrap IntKind.i64 (ic (List.length left - 0) - 1)) + 2) (List.take (0 + Int.toNat (IntKind.wrap IntKind.i64 (ic (List.length left - 0) - 1))) left ++ [(Bx.I (Bx.cutH (bxI (List.getD left (0 + Int.toNat (IntKind.wrap IntKind.i64 (ic (List.length left - 0) - 1))) default)) (spI (splitF m q (bxI (List.getD left (0 + Int.toNat (IntKind.wrap IntKind.i64 (ic (List.length left - 0) - 1))) default)))) (spAt (splitF m q (bxI (List.getD left (0 + Int.toNat (IntKind.wrap IntKind.i64 (ic (List.length left - 0) - 1))) default)))))), (Bx.I (Bx.cutL (bxI (List.getD left (0 + Int.toNat (IntKind.wrap IntKind.i64 (ic (List.length left - 0) - 1))) default)) (spI (splitF m q (bxI (List.getD left (0 + Int.toNat (IntKind.wrap IntKind.i64 (ic (List.length left - 0) - 1))) default)))) (spAt (splitF m q (bxI (List.getD left (0 + Int.toNat (IntKind.wrap IntKind.i64 (ic (List.length left - 0) - 1))) default))))))]))), (.vec 82 true kStep [(IV.agg [IV.bool false, IV.int (spI (splitF m q (bxI (List.getD left (0 + Int.toNat (IntKind.wrap IntKind.i64 (ic (List.length left - 0) - 1))) default)))), IV.int (spAt (splitF m q (bxI (List.getD left (0 + Int.toNat (IntKind.wrap IntKind.i64 (ic (List.length left - 0) - 1))) default))))])]), (.int .i64 k), .zs, (.int .i64 w0), (.int .i64 w1), (.int .i64 w2), (.int .i64 w3), (.int .i64 tw), (.int .i64 vs), (.int .i64 (IntKind.wrap IntKind.i64 (sp + 1)))])]))
           none)
          none))
        none)))
     none)
    none))) := by kernel_rfl

/-! ### (*copse/search.Search).Step -/
theorem nf_search_Search_Stept2 (N : Nat) (m : Md) (q : Qy) (left : List IV) (proof : List IV) (vp : List IV) (k : Int) (w0 : Int) (w1 : Int) (w2 : Int) (w3 : Int) (tw : Int) (vs : Int) (sp : Int) : evFun (E_search_Search_Step N) c_search_Search_Step [.tmp 2] [[.bool]] [(.bor (seCs m q [.vec 30 true kBox left, .list true kStep proof, .int .i64 k, .list true kStep vp, .int .i64 w0, .int .i64 w1, .int .i64 w2, .int .i64 w3, .int .i64 tw, .int .i64 vs, .int .i64 sp]))] =
  (cond (k != 0)
  (some ((.bool false), [(seCs m q [(.vec 30 true kBox (List.take (List.length left) left)), (.list true kStep proof), (.int .i64 k), (.list true kStep vp), (.int .i64 w0), (.int .i64 w1), (.int .i64 w2), (.int .i64 w3), (.int .i64 tw), (.int .i64 vs), (.int .i64 sp)])]))
  (cond (decide (sp ≥ Qy.bu q))
   (some ((.bool false), [(seCs m q [(.vec 30 true kBox (List.take (List.length left) left)), (.list true kStep proof), (.int .i64 k), (.list true kStep vp), (.int .i64 w0), (.int .i64 w1), (.int .i64 w2), (.int .i64 w3), (.int .i64 tw), (.int .i64 vs), (.int .i64 sp)])]))
   (cond (decide (0 ≤ IntKind.wrap IntKind.i64 (ic (List.length left - 0) - 1)) && decide (IntKind.wrap IntKind.i64 (ic (List.length left - 0) - 1) < ic (List.length left - 0)))
    (cond (decide (0 ≤ IntKind.wrap IntKind.i64 (ic (List.length left - 0) - 1)) && decide (IntKind.wrap IntKind.i64 (ic (List.length left - 0) - 1) ≤ ic (List.length left - 0)))
     (cond (closedF m q (bxI (List.getD left (0 + Int.toNat (IntKind.wrap IntKind.i64 (ic (List.length left - 0) - 1))) default)))
      none
      (cond (breaksF m q (Bx.low (bxI (List.getD left (0 + Int.toNat (IntKind.wrap IntKind.i64 (ic (List.length left - 0) - 1))) default))) (Sp.hi (Bx.s4 (bxI (List.getD left (0 + Int.toNat (IntKind.wrap IntKind.i64 (ic (List.length left - 0) - 1))) default)))))
       (some ((.bool true), [(seCs m q [(.vec 30 true kBox (List.take (0 + Int.toNat (IntKind.wrap IntKind.i64 (ic (List.length left - 0) - 1))) left)), (.list true kStep proof), (.int .i64 2), .zs, (.int .i64 (Pt.p0 (Bx.low (bxI (List.getD left (0 + Int.toNat (IntKind.wrap IntKind.i64 (ic (List.length left - 0) - 1))) default))))), (.int .i64 (Pt.p1 (Bx.low (bxI (List.getD left (0 + Int.toNat (IntKind.wrap IntKind.i64 (ic (List.length left - 0) - 1))) default))))), (.int .i64 (Pt.p2 (Bx.low (bxI (List.getD left (0 + Int.toNat (IntKind.wrap IntKind.i64 (ic (List.length left - 0) - 1))) default))))), (.int .i64 (Pt.p3 (Bx.low (bxI (List.getD left (0 + Int.toNat (IntKind.wrap IntKind.i64 (ic (List.length left - 0) - 1))) default))))), (.int .i64 (Sp.hi (Bx.s4 (bxI (List.getD left (0 + Int.toNat (IntKind.wrap IntKind.i64 (ic (List.length left - 0) - 1))) default))))), (.int .i64 0), (.int .i64 (IntKind.wrap IntKind.i64 (sp + 1)))])]))
       (cond (modelB m)
        (cond (!Option.isSome (splitF m q (bxI (List.getD left (0 + Int.toNat (IntKind.wrap IntKind.i64 (ic (List.length left - 0) - 1))) default))))
         (some ((.bool true), [(seCs m q [(.vec 30 true kBox (List.take (0 + Int.toNat (IntKind.wrap IntKind.i64 (ic (List.length left - 0) - 1))) left)), (.list true kStep proof), (.int .i64 3), .zs, (.int .i64 0), (.int .i64 0), (.int .i64 0), (.int .i64 0), (.int .i64 0), (.int .i64 0), (.int .i64 (IntKind.wrap IntKind.i64 (sp + 1)))])]))
         (cond (inPl (spI (splitF m q (bxI (List.getD left (0 + Int.toNat (IntKind.wrap IntKind.i64 (ic (List.length left - 0) - 1))) default)))))
          (cond (decide ((0 + Int.toNat (IntKind.wrap IntKind.i64 (ic (List.length left - 0) - 1)) + 2) * 80 ≤ bytesMax)) none none)
          none))
        none)))
     none)
    none))) := by kernel_rfl

/-! ### (*copse/search.Search).Step -/
theorem nf_search_Search_Stept3 (N : Nat) (m : Md) (q : Qy) (k : Int) (w0 : Int) (w1 : Int) (w2 : Int) (w3 : Int) (tw : Int) (vs : Int) (sp : Int) : evFun (E_search_Search_Step N) c_search_Search_Step [.tmp 2] [[.bool]] [(.bor (seCs m q [.zs, .zs, .int .i64 k, .zs, .int .i64 w0, .int .i64 w1, .int .i64 w2, .int .i64 w3, .int .i64 tw, .int .i64 vs, .int .i64 sp]))] =
  (cond (k != 0)
  (some ((.bool false), [(seCs m q [.zs, .zs, (.int .i64 k), .zs, (.int .i64 w0), (.int .i64 w1), (.int .i64 w2), (.int .i64 w3), (.int .i64 tw), (.int .i64 vs), (.int .i64 sp)])]))
  (cond (decide (sp ≥ Qy.bu q))
   (some ((.bool false), [(seCs m q [.zs, .zs, (.int .i64 k), .zs, (.int .i64 w0), (.int .i64 w1), (.int .i64 w2), (.int .i64 w3), (.int .i64 tw), (.int .i64 vs), (.int .i64 sp)])]))
   none)) := by kernel_rfl

end Go.FM

/-
  slices.Clone OF A PROOF's STEPS: a fresh row with the same: a contract over this program.
-/
namespace Go.FM
open Go Go.Proofs Go.RowKit Go.Sort Go.Lib

theorem step_info : (PR.info? 82).map (fun i => (i.zero, i.size, i.bytes)) = some (some (.agg #[.bool false, .int .i64 0, .int .i64 0]), 3, 24) := by kernel_rfl

set_option maxHeartbeats 4000000 in
set_option maxRecDepth 100000 in
/-- slices.Clone of steps. -/
theorem clone_step (b : Addr) (n c : Nat) (news : List Value) (w : World) (hl : news.length = n * 3) (hn : n ≤ maxLen) (hbig : n * 24 ≤ 140737488355328)
    (hc : ∀ j u, news[j]? = some u → w.cell? (b.add j) = some u) (h1 : ∀ u ∈ news, u.oneCell' = true) :
    Calls Try.prog 34 #[.slice (some b) n c] w fun e w' => ∃ v', e = .returned v' ∧ w'.ownsRow w.heap.size 82 3 v' n news ∧ Below w.heap.size w w' := by
  obtain ⟨i0, hi, hz0, hz1, hz2⟩ : ∃ i, PR.info? 82 = some i ∧ i.zero = some (.agg #[.bool false, .int .i64 0, .int .i64 0]) ∧ i.size = 3 ∧ i.bytes = 24 := by
    have h := step_info
    rw [Option.map_eq_some_iff] at h
    obtain ⟨i, hi, he⟩ := h
    simp only [Prod.mk.injEq] at he
    exact ⟨i, hi, he⟩
  have qS : ∀ (w : World) (a : Option Addr) (n c n' c' : Nat), (binOp .eql 33 (.slice a n c) (.slice none n' c')).run Try.prog w = .ok (.bool a.isNone) w := fun w a n c n' c' => Lib.run_eql_slice_nil w _ _ a n c n' c' Try.underlying33
  have A : Aside (∀ j u, news[j]? = some u → w.cell? (b.add j) = some u) := hc
  clear hc
  go_enter Try.func34, Try.ntmps34
  go_wp2_with (at_builtin; refine wpList_append_own _ rfl _ _ 33 rfl w.heap.size 82 i0 (.agg #[.bool false, .int .i64 0, .int .i64 0]) 3 24 Try.underlying33 hi hz0 hz1 hz2 rfl (by decide) _ _ _ rfl (World.ownsRow_made w #[] 0 (Nat.le_refl _) (Nat.zero_le _) (by simp)) b n c news rfl ?qc1 ?qc2 ?qc3 ?qc4 ?qc5 ?qc6 ?_)
  case qc1 => exact hl
  case qc2 =>
    intro j u hj
    exact Lib.cell?_alloc_some _ (A.out j u hj)
  case qc3 => exact h1
  case qc4 => rw [Nat.zero_add]; exact hn
  case qc5 => rw [Nat.zero_add]; exact hbig
  case qc6 => simp
  intro v' w1 hown hgrow hnil
  go_wp2
  go_ret
  refine ⟨v', rfl, by simpa using hown, ?_⟩
  exact ((Below.refl _ w).alloc (Nat.le_refl _) _).grown hgrow (by simp) (by intro k hk; simp [Value.ownBlock] at hk; omega)

set_option maxHeartbeats 1000000 in
set_option maxRecDepth 100000 in
theorem clone_step_nil (n c : Nat) (w : World) : Calls Try.prog 34 #[.slice none n c] w fun e w' => e = .returned (.slice none 0 0) ∧ w' = w := by
  have qS : ∀ (w : World) (a : Option Addr) (n c n' c' : Nat), (binOp .eql 33 (.slice a n c) (.slice none n' c')).run Try.prog w = .ok (.bool a.isNone) w := fun w a n c n' c' => Lib.run_eql_slice_nil w _ _ a n c n' c' Try.underlying33
  go_enter Try.func34, Try.ntmps34
  go_wp2
  go_ret
  exact ⟨rfl, rfl⟩

def stCell (y : IV) : Nat → Value
  | 0 => .bool (stSum y)
  | 1 => .int .i64 (stPlace y)
  | _ => .int .i64 (stAt y)
def stCells (l : List IV) : List Value := l.flatMap fun y => [stCell y 0, stCell y 1, stCell y 2]
theorem stCells_len : ∀ l : List IV, (stCells l).length = l.length * 3
  | [] => rfl
  | y :: r => by
    have := stCells_len r
    unfold stCells at this ⊢
    rw [List.flatMap_cons, List.length_append, this, List.length_cons]
    simp
    omega
theorem stCells_at : ∀ (l : List IV) (j : Nat) (u : Value), (stCells l)[j]? = some u → ∃ i y k, j = i * 3 + k ∧ k < 3 ∧ l[i]? = some y ∧ u = stCell y k
  | [], j, u, h => by simp [stCells] at h
  | y :: r, j, u, h => by
    have e : stCells (y :: r) = [stCell y 0, stCell y 1, stCell y 2] ++ stCells r := by unfold stCells; rw [List.flatMap_cons]
    rw [e] at h
    match j, h with
    | 0, h => exact ⟨0, y, 0, rfl, by omega, rfl, by simpa using h.symm⟩
    | 1, h => exact ⟨0, y, 1, rfl, by omega, rfl, by simpa using h.symm⟩
    | 2, h => exact ⟨0, y, 2, rfl, by omega, rfl, by simpa using h.symm⟩
    | j + 3, h =>
      obtain ⟨i, z, k, rfl, hk, hi, hu⟩ := stCells_at r j u (by simpa using h)
      exact ⟨i + 1, z, k, by omega, hk, by simpa using hi, hu⟩
theorem stCells_get (l : List IV) (i : Nat) (y : IV) (hy : l[i]? = some y) (k : Nat) (hk : k < 3) : (stCells l)[i * 3 + k]? = some (stCell y k) := by
  have hi : i < l.length := (List.getElem?_eq_some_iff.1 hy).1
  have hlt : i * 3 + k < (stCells l).length := by rw [stCells_len]; omega
  obtain ⟨i', y', k', h1, h2, h3, h4⟩ := stCells_at l (i * 3 + k) _ (List.getElem?_eq_getElem hlt)
  obtain rfl : i' = i := by omega
  obtain rfl : k' = k := by omega
  rw [hy] at h3
  simp only [Option.some.injEq] at h3
  subst h3
  rw [List.getElem?_eq_getElem hlt, h4]

set_option maxRecDepth 100000 in
theorem snd_slices_Clone_apiStepapiStep : SndR PR B0 34 S_slices_Clone_apiStepapiStep := by
  intro w X γ vs xs r out hsp hg hx hR hV
  unfold S_slices_Clone_apiStepapiStep at hsp
  simp only at hsp
  split at hsp
  · rename_i l
    cases hc : Nat.ble l.length 100000 with
    | false => rw [hc] at hsp; simp [R.get] at hsp
    | true =>
      rw [hc] at hsp
      have hc := Nat.le_of_ble_eq_true hc
      simp only [R.get, Option.some.injEq, Prod.mk.injEq] at hsp
      obtain ⟨rfl, rfl⟩ := hsp
      obtain ⟨x0, rfl⟩ : ∃ x0, xs = [x0] := by
        have := hV.length
        simp at this
        match xs, this with
        | [a], _ => exact ⟨a, rfl⟩
      simp only [List.map_cons, List.map_nil, entV, VRels, VRel, and_true] at hV
      simp only [Kd.Rel, IV.toList] at hV
      obtain ⟨p, c, rfl, hc1, hc2, hc3, hcell⟩ := hV
      have key : ∀ i y, l[i]? = some y → ∃ b o, p = some ⟨b, o, none⟩ ∧ (∀ k, k < 3 → w.cell? ⟨b, o + i * 3 + k, none⟩ = some (stCell y k)) ∧ (IntKind.i64.min ≤ stPlace y ∧ stPlace y ≤ IntKind.i64.max) ∧ (IntKind.i64.min ≤ stAt y ∧ stAt y ≤ IntKind.i64.max) := fun i y hy => by
        obtain ⟨b, o, rfl, _, _, hr⟩ := hcell i y hy
        simp only [Kd.RelAll, and_true, List.length_cons, List.length_nil, Nat.zero_add, Nat.add_zero] at hr
        obtain ⟨⟨u0, a0, b0⟩, ⟨u1, a1, b1⟩, ⟨u2, a2, b2⟩⟩ := hr
        simp only [Kd.Rel, cellOf] at b0 b1 b2
        refine ⟨b, o, rfl, fun k hk => ?_, b1.2, b2.2⟩
        match k, hk with
        | 0, _ => rw [b0] at a0; exact a0
        | 1, _ => rw [b1.1] at a1; exact a1
        | 2, _ => rw [b2.1] at a2; exact a2
      have hel : ∀ (w' : World) (O : Nat → Prop) i y, l[i]? = some y → Kd.RelAll w' O kStep (cellOf true y) 0 (fun j u => (stCells l)[i * kStep.length + j]? = some u) := fun w' O i y hy => by
        obtain ⟨_, _, _, _, k1, k2⟩ := key i y hy
        simp only [Kd.RelAll, List.length_cons, List.length_nil, Nat.zero_add, Nat.add_zero, and_true]
        have g := stCells_get l i y hy
        refine ⟨⟨_, g 0 (by omega), ?_⟩, ⟨_, g 1 (by omega), ?_⟩, ⟨_, g 2 (by omega), ?_⟩⟩
        · simp only [Kd.Rel, cellOf, stCell, stSum]
        · simp only [Kd.Rel, cellOf, stCell, stPlace]; exact ⟨trivial, k1⟩
        · simp only [Kd.Rel, cellOf, stCell, stAt]; exact ⟨trivial, k2⟩
      refine snd_fresh hR rfl (by decide) (by decide) hc3 (Does.of_calls Try.func34 (by kernel_rfl) (by kernel_rfl) ?_)
      cases p with
      | none =>
        have h0 : l = [] := by
          cases l with
          | nil => rfl
          | cons y r =>
            obtain ⟨b, o, hp, _⟩ := key 0 y rfl
            cases hp
        subst h0
        refine (clone_step_nil _ c w).mono ?_
        rintro e w' ⟨rfl, rfl⟩
        exact ⟨_, [], rfl, Keep.refl _ _, ⟨rfl, .inl ⟨rfl, rfl⟩⟩, hel _⟩
      | some a =>
        refine (clone_step a l.length c (stCells l) w (stCells_len l) (by unfold maxLen; omega) (by omega) (fun j u hj => ?_) (fun u hu => ?_)).mono ?_
        · obtain ⟨i, y, k, rfl, hk, hi, rfl⟩ := stCells_at l j u hj
          obtain ⟨b, o, hp, hu, _⟩ := key i y hi
          simp only [Option.some.injEq] at hp
          subst hp
          rw [Addr.add_lit, ← Nat.add_assoc]
          exact hu k hk
        · obtain ⟨j, hj⟩ := List.getElem?_of_mem hu
          obtain ⟨i, y, k, _, hk, _, rfl⟩ := stCells_at l j u hj
          match k, hk with
          | 0, _ => rfl
          | 1, _ => rfl
          | 2, _ => rfl
        · rintro e w' ⟨v', rfl, hown, hw⟩
          exact ⟨v', _, rfl, Keep.below hw, hown, hel _⟩
  · simp [R.get] at hsp
end Go.FM

/-
  THE FUNCTIONS OF search COME TO WHAT IS SAID.
-/
namespace Go.FM
open Go Go.Proofs

/-! ### a search's cells, read -/
theorem mdOf_eq {l : List V} {m : Md} (h : mdOf? l = some m) : l = m.cs := by
  unfold mdOf? at h
  split at h
  · simp only [Option.some.injEq] at h
    subst h
    rfl
  · cases h
theorem qyOf_eq {l : List V} {q : Qy} (h : qyOf? l = some q) : l = q.cs := by
  unfold qyOf? at h
  split at h
  · simp only [Option.some.injEq] at h
    subst h
    rfl
  · cases h
theorem seOf_eq {l r : List V} {m : Md} {q : Qy} (h : seOf? l = some (m, q, r)) : l = seCs m q r := by
  unfold seOf? at h
  split at h
  · rename_i m' q' h1 h2
    simp only [Option.some.injEq, Prod.mk.injEq] at h
    obtain ⟨rfl, rfl, rfl⟩ := h
    unfold seCs
    rw [← mdOf_eq h1, ← qyOf_eq h2, List.take_append_drop, List.take_append_drop]
  · cases h
/-- What the four shapes of a search's cells keep. -/
def srWf (t : Nat) (s : Sr) : Prop := t ≤ 3 ∧ (t = 3 → s.left = []) ∧ (t = 1 ∨ t = 3 → s.proof = []) ∧ (t ≠ 2 → s.v.proof = [])
theorem srT_eq {r : List V} {t : Nat} {s : Sr} (h : srT? r = some (t, s)) (m : Md) (q : Qy) : seCs m q r = srV t m q s ∧ srWf t s := by
  unfold srT? at h
  split at h
  case h_5 => cases h
  all_goals
    simp only [Option.some.injEq, Prod.mk.injEq] at h
    obtain ⟨rfl, rfl⟩ := h
    refine ⟨rfl, by omega, ?_, ?_, ?_⟩ <;> intro h <;> first | rfl | (exfalso; omega)
theorem withSr_get {v : V} {k : Nat → Md → Qy → Sr → R} {z : V × List (List V)} (h : (withSr v k).get = some z) : ∃ t m q s, v = .bor (srV t m q s) ∧ srWf t s ∧ (k t m q s).get = some z := by
  unfold withSr at h
  split at h
  · rename_i l
    split at h
    · rename_i m q r hl
      split at h
      · rename_i t s hr
        obtain ⟨e, hw⟩ := srT_eq hr m q
        exact ⟨t, m, q, s, by rw [seOf_eq hl, e], hw, h⟩
      · simp [R.get] at h
    · simp [R.get] at h
  · simp [R.get] at h

set_option maxRecDepth 100000 in
theorem snd_search_New : SndR PR B0 14 S_search_New := by
  refine snd_mk [(24, S_query_Right), (13, S_query_Start)] [] S_search_New [[.list false []]] Try.func14 h_search_New ⟨snd_query_Right, snd_query_Start, trivial⟩ ?_
  intro vs r hwf h
  unfold S_search_New at h
  split at h
  · rename_i m q
    replace h := withM_get h
    obtain ⟨m, rfl, h⟩ := h
    replace h := withQ_get h
    obtain ⟨q, rfl, h⟩ := h
    refine ⟨0, (nf_search_New 0 m q).trans ?_⟩
    cases hr : rightQ m q with
    | true => rw [hr, R.get_br, condT, R.get_ok] at h; exact h
    | false => rw [hr, R.get_br, condF, R.get_ok] at h; exact h
  · simp [R.get] at h
set_option maxRecDepth 100000 in
theorem snd_search_Search_Left : SndR PR B0 19 S_search_Search_Left := by
  refine snd_mk [] [] S_search_Search_Left [[.int .i64]] Try.func19 h_search_Search_Left trivial ?_
  intro vs r hwf h
  unfold S_search_Search_Left at h
  split at h
  · replace h := withSr_get h
    obtain ⟨t, m, q, s, rfl, hw, h⟩ := h
    rw [R.get_ok] at h
    refine ⟨0, ?_⟩
    rw [← h]
    obtain ⟨left, proof, ⟨k, vp, a, b, c, d, tw, vs⟩, sp⟩ := s
    match t, hw with
    | 0, _ =>
      refine (nf_search_Search_Leftt0 0 m q left proof k a b c d tw vs sp).trans ?_
      rw [List.take_length, List.take_length]
      rfl
    | 1, _ =>
      refine (nf_search_Search_Leftt1 0 m q left k a b c d tw vs sp).trans ?_
      rw [List.take_length]
      rfl
    | 2, _ =>
      refine (nf_search_Search_Leftt2 0 m q left proof vp k a b c d tw vs sp).trans ?_
      rw [List.take_length]
      rfl
    | 3, hw =>
      obtain rfl : left = [] := hw.2.1 rfl
      exact nf_search_Search_Leftt3 0 m q k a b c d tw vs sp
    | t + 4, hw => exact absurd hw.1 (by omega)
  · simp [R.get] at h
set_option maxRecDepth 100000 in
theorem snd_search_Search_Verdict : SndR PR B0 17 S_search_Search_Verdict := by
  refine snd_mk [(34, S_slices_Clone_apiStepapiStep)] [] S_search_Search_Verdict [[.int .i64, .list true [.bool, .int .i64, .int .i64], .int .i64, .int .i64, .int .i64, .int .i64, .int .i64, .int .i64]] Try.func17 h_search_Search_Verdict ⟨snd_slices_Clone_apiStepapiStep, trivial⟩ ?_
  intro vs r hwf h
  unfold S_search_Search_Verdict at h
  split at h
  · replace h := withSr_get h
    obtain ⟨t, m, q, s, rfl, hw, h⟩ := h
    cases hg : Nat.ble s.v.proof.length 100000 with
    | false => rw [hg] at h; simp [R.get] at h
    | true =>
      rw [hg, R.get_br, condT, R.get_ok] at h
      refine ⟨0, ?_⟩
      rw [← h]
      obtain ⟨left, proof, ⟨k, vp, a, b, c, d, tw, vs⟩, sp⟩ := s
      replace hg : Nat.ble vp.length 100000 = true := hg
      match t, hw with
      | 0, hw =>
        obtain rfl : vp = [] := hw.2.2.2 (by omega)
        refine (nf_search_Search_Verdictt0 0 m q left proof k a b c d tw vs sp).trans ?_
        rw [List.take_length, List.take_length]
        unfold verdS
        cases (k == 0) <;> rfl
      | 1, hw =>
        obtain rfl : vp = [] := hw.2.2.2 (by omega)
        refine (nf_search_Search_Verdictt1 0 m q left k a b c d tw vs sp).trans ?_
        rw [List.take_length]
        unfold verdS
        cases (k == 0) <;> rfl
      | 2, _ =>
        refine (nf_search_Search_Verdictt2 0 m q left proof vp k a b c d tw vs sp).trans ?_
        rw [List.take_length, hg, condT, condT, List.drop_zero, List.take_length]
        unfold verdS
        cases (k == 0) <;> rfl
      | 3, hw =>
        obtain rfl : vp = [] := hw.2.2.2 (by omega)
        refine (nf_search_Search_Verdictt3 0 m q k a b c d tw vs sp).trans ?_
        unfold verdS
        cases (k == 0) <;> rfl
      | t + 4, hw => exact absurd hw.1 (by omega)
  · simp [R.get] at h

/-! ### a step -/
theorem spR_in (m : Md) (q : Qy) (b : Bx) : ∀ (d i : Nat), i + d = 5 → (spR m q b d i).isSome = true → inPl (spI (spR m q b d i)) = true
  | 0, i, _, h => by rw [spR] at h; cases h
  | d + 1, i, hd, h => by
    rw [spR] at h ⊢
    cases hc : decide ((cutsZ m q b i).length > 0) with
    | true =>
      rw [condT]
      show inPl (i : Int) = true
      unfold inPl
      rw [decide_eq_true (show (0 : Int) ≤ (i : Int) by omega), decide_eq_true (show (i : Int) < 5 by omega)]
      rfl
    | false =>
      rw [hc, condF] at h
      rw [condF]
      exact spR_in m q b d (i + 1) (by omega) h
set_option maxRecDepth 100000 in
theorem snd_search_Search_Step : SndR PR B0 15 S_search_Search_Step := by
  refine snd_mk [(32, S_box_Cut), (29, S_goal_Closed), (30, S_goal_Corner), (31, S_goal_Split), (12, S_query_Breaks)] [] S_search_Search_Step [[.bool]] Try.func15 h_search_Search_Step ⟨snd_box_Cut, snd_goal_Closed, snd_goal_Corner, snd_goal_Split, snd_query_Breaks, trivial⟩ ?_
  intro vs r hwf h
  unfold S_search_Search_Step at h
  split at h
  · replace h := withSr_get h
    obtain ⟨t, m, q, s, rfl, hw, h⟩ := h
    refine ⟨0, ?_⟩
    obtain ⟨left, proof, ⟨k, vp, a, b, c, d, tw, vs⟩, sp⟩ := s
    cases ho : overS q ⟨left, proof, ⟨k, vp, a, b, c, d, tw, vs⟩, sp⟩ with
    | true =>
      rw [ho, R.get_br, condT, R.get_ok] at h
      rw [← h]
      have hk : (k != 0) = true ∨ (k != 0) = false ∧ decide (sp ≥ q.bu) = true := by
        unfold overS at ho
        have e : (k != 0) = !(k == 0) := rfl
        rw [e]
        cases hk : (k == 0) with
        | false => exact .inl rfl
        | true =>
          replace ho : (!(k == 0) || decide (sp ≥ q.bu)) = true := ho
          rw [hk, Bool.not_true, Bool.false_or] at ho
          exact .inr ⟨rfl, ho⟩
      match t, hw with
      | 0, hw =>
        refine (nf_search_Search_Stept0 0 m q left proof k a b c d tw vs sp).trans ?_
        rcases hk with hk | ⟨hk, hs⟩
        · rw [hk, condT, List.take_length, List.take_length]; rfl
        · rw [hk, condF, hs, condT, List.take_length, List.take_length]; rfl
      | 1, hw =>
        refine (nf_search_Search_Stept1 0 m q left k a b c d tw vs sp).trans ?_
        rcases hk with hk | ⟨hk, hs⟩
        · rw [hk, condT, List.take_length]; rfl
        · rw [hk, condF, hs, condT, List.take_length]; rfl
      | 2, hw =>
        refine (nf_search_Search_Stept2 0 m q left proof vp k a b c d tw vs sp).trans ?_
        rcases hk with hk | ⟨hk, hs⟩
        · rw [hk, condT, List.take_length]; rfl
        · rw [hk, condF, hs, condT, List.take_length]; rfl
      | 3, hw =>
        refine (nf_search_Search_Stept3 0 m q k a b c d tw vs sp).trans ?_
        rcases hk with hk | ⟨hk, hs⟩
        · rw [hk, condT]; rfl
        · rw [hk, condF, hs, condT]; rfl
      | t + 4, hw => exact absurd hw.1 (by omega)
    | false =>
      rw [ho, R.get_br, condF] at h
      unfold overS at ho
      replace ho : (!(k == 0) || decide (sp ≥ q.bu)) = false := ho
      rw [Bool.or_eq_false_iff] at ho
      have hk : (k != 0) = false := ho.1
      have hsp : decide (sp ≥ q.bu) = false := ho.2
      cases hg : (Nat.ble t 1 && (rightQ m q && (decide (0 ≤ sp) && (Nat.blt 0 left.length && (Nat.ble left.length 100000 && Nat.ble proof.length 100000))))) with
      | false =>
        replace h : (R.br (Nat.ble t 1 && (rightQ m q && (decide (0 ≤ sp) && (Nat.blt 0 left.length && (Nat.ble left.length 100000 && Nat.ble proof.length 100000))))) _ R.no).get = some r := h
        rw [hg] at h
        simp [R.get] at h
      | true =>
        replace h : (R.br (Nat.ble t 1 && (rightQ m q && (decide (0 ≤ sp) && (Nat.blt 0 left.length && (Nat.ble left.length 100000 && Nat.ble proof.length 100000))))) _ R.no).get = some r := h
        rw [hg, R.get_br, condT] at h
        have hst : some (.bool true, [srV (stepT m q t ⟨left, proof, ⟨k, vp, a, b, c, d, tw, vs⟩, sp⟩) m q (stepF m q ⟨left, proof, ⟨k, vp, a, b, c, d, tw, vs⟩, sp⟩)]) = some r := by
          rw [← h]
          unfold stepT
          simp only [R.get_br, R.get_ok]
          cases closedF m q (topB left) with
          | true => cases (ic (left.length - 1) == 0) <;> rfl
          | false =>
            cases breaksF m q (topB left).low (topB left).s4.hi with
            | true => rfl
            | false => cases (splitF m q (topB left)).isSome <;> rfl
        rw [← hst]
        simp only [Bool.and_eq_true] at hg
        obtain ⟨ht, hr, h0, hl, hl5, hp5⟩ := hg
        obtain ⟨hm, _, ⟨_, hbu⟩, _, _⟩ := rightQ_parts hr
        have h0 := of_decide_eq_true h0
        have hs1 := of_decide_eq_false hsp
        have hl : 0 < left.length := Nat.le_of_ble_eq_true hl
        have hl5 := Nat.le_of_ble_eq_true hl5
        have hp5 := Nat.le_of_ble_eq_true hp5
        have esp : IntKind.wrap IntKind.i64 (sp + 1) = sp + 1 := wrap_id (by omega) (by omega)
        have etop : IntKind.wrap IntKind.i64 (ic (left.length - 0) - 1) = ((left.length - 1 : Nat) : Int) := by
          rw [wrap_id (by simp only [ic]; omega) (by simp only [ic]; omega)]
          simp only [ic]
          omega
        have ed : (decide (0 ≤ ((left.length - 1 : Nat) : Int)) && decide (((left.length - 1 : Nat) : Int) < ic (left.length - 0))) = true := by
          rw [decide_eq_true (by omega), decide_eq_true (by simp only [ic]; omega)]
          rfl
        have ee : (decide (0 ≤ ((left.length - 1 : Nat) : Int)) && decide (((left.length - 1 : Nat) : Int) ≤ ic (left.length - 0))) = true := by
          rw [decide_eq_true (by omega), decide_eq_true (by simp only [ic]; omega)]
          rfl
        have epop : left.take (left.length - 1 + 2) = left.take (left.length - 1 + 2) := rfl
        have hlen : (popL left).length = left.length - 1 := by unfold popL; rw [List.length_take]; omega
        have htk : ∀ (x y : IV), List.take (left.length - 1 + 2) (List.take (left.length - 1) left ++ [x, y]) = popL left ++ [x, y] := fun x y => List.take_of_length_le (by rw [List.length_append]; unfold popL at hlen; rw [hlen]; simp)
        have hb80 : decide ((left.length - 1 + 2) * 80 ≤ bytesMax) = true := decide_eq_true (by unfold bytesMax; omega)
        have hin := spR_in m q (topB left) 5 0 rfl
        replace hin : (splitF m q (topB left)).isSome = true → inPl (spI (splitF m q (topB left))) = true := hin
        match t, ht, hw with
        | 0, _, _ =>
          have hb24 : decide ((proof.length + 1) * 24 ≤ bytesMax) = true := decide_eq_true (by unfold bytesMax; omega)
          have htp : ∀ x : IV, List.take (proof.length + 1) (proof ++ [x]) = proof ++ [x] := fun x => List.take_of_length_le (by rw [List.length_append]; simp)
          refine (nf_search_Search_Stept0 0 m q left proof k a b c d tw vs sp).trans ?_
          rw [hk, condF, hsp, condF, etop, ed, condT, ee, condT, esp, Int.toNat_natCast]
          simp only [Nat.zero_add, Nat.sub_zero, List.take_length]
          rw [hb24, hb80, hm]
          unfold stepF stepT
          show cond (closedF m q (topB left)) _ (cond (breaksF m q (topB left).low (topB left).s4.hi) _ _) = _
          cases closedF m q (topB left) with
          | true =>
            simp only [htp, List.drop_zero]
            rw [condT, condT]
            show cond (ic (left.length - 1) == 0) _ _ = _
            cases (ic (left.length - 1) == 0) <;> rfl
          | false =>
            rw [condF]
            cases breaksF m q (topB left).low (topB left).s4.hi with
            | true => rfl
            | false =>
              rw [condF, condT]
              show cond (!(splitF m q (topB left)).isSome) _ (cond (inPl (spI (splitF m q (topB left)))) _ _) = _
              cases hs : (splitF m q (topB left)).isSome with
              | false => rfl
              | true =>
                rw [Bool.not_true, condF, hin hs, condT, condT, condT]
                simp only [htp, htk]
                rfl
        | 1, _, hw =>
          obtain rfl : proof = [] := hw.2.2.1 (.inl rfl)
          refine (nf_search_Search_Stept1 0 m q left k a b c d tw vs sp).trans ?_
          rw [hk, condF, hsp, condF, etop, ed, condT, ee, condT, esp, Int.toNat_natCast]
          simp only [Nat.zero_add, Nat.sub_zero]
          rw [hb80, hm]
          unfold stepF stepT
          show cond (closedF m q (topB left)) _ (cond (breaksF m q (topB left).low (topB left).s4.hi) _ _) = _
          cases closedF m q (topB left) with
          | true =>
            rw [condT]
            show cond (ic (left.length - 1) == 0) _ _ = _
            cases (ic (left.length - 1) == 0) <;> rfl
          | false =>
            rw [condF]
            cases breaksF m q (topB left).low (topB left).s4.hi with
            | true => rfl
            | false =>
              rw [condF, condT]
              show cond (!(splitF m q (topB left)).isSome) _ (cond (inPl (spI (splitF m q (topB left)))) _ _) = _
              cases hs : (splitF m q (topB left)).isSome with
              | false => rfl
              | true =>
                rw [Bool.not_true, condF, hin hs, condT, condT]
                simp only [htk]
                rfl
        | t + 2, ht, _ => exact absurd (Nat.le_of_ble_eq_true ht) (by omega)
  · simp [R.get] at h
end Go.FM

/-
  NORMAL FORMS: what the functions' runs come to (written by a program of this claim's own, checked by the kernel).
-/
namespace Go.FM
open Go Go.Proofs

/-! ### copse/search.Run -/
def E_search_Run (N : Nat) : Env := mkE [(14, S_search_New), (15, S_search_Search_Step), (17, S_search_Search_Verdict)] [(2, ⟨[4, 5], [4, 8, 500, 501], [⟨.cell 8 23, 500, 30, true, kBox⟩, ⟨.cell 8 24, 501, 82, true, kStep⟩]⟩)] 13 N
--RKS search_Run [[.int .i64, .list true [.bool, .int .i64, .int .i64], .int .i64, .int .i64, .int .i64, .int .i64, .int .i64, .int .i64]]

end Go.FM

/-
  search.Run COMES TO WHAT IS SAID.
-/
namespace Go.FM
open Go Go.Proofs

abbrev kpR : KP := ⟨[4, 5], [4, 8, 500, 501], [⟨.cell 8 23, 500, 30, true, kBox⟩, ⟨.cell 8 24, 501, 82, true, kStep⟩]⟩
/-- Its state at the loop's head; 'sh': the proof is shared with the verdict. -/
def runB (sh : Bool) (s : Sr) : List V := match sh with
  | false => .row 500 0 s.left.length :: .row 501 0 s.proof.length :: vdT s.v .zs s.spent
  | true => .row 500 0 s.left.length :: fStep s.proof :: vdT s.v (fStep s.v.proof) s.spent
def runP (sh : Bool) (s : Sr) : Option Ob := match sh with
  | false => some (.row true 82 true kStep s.proof)
  | true => none
def runSt (m : Md) (q : Qy) (sh : Bool) (s : Sr) : St :=
  ⟨[(4, .ptr 4 0 0), (5, .ptr 8 0 0)], [(4, some (.box [.int .i64 0, .zs, .int .i64 0, .int .i64 0, .int .i64 0, .int .i64 0, .int .i64 0, .int .i64 0])), (8, some (.box (seCs m q (runB sh s)))), (500, some (.row true 30 true kBox s.left)), (501, runP sh s)]⟩
def tkS (s : Sr) : Sr := ⟨s.left.take s.left.length, s.proof.take s.proof.length, ⟨s.v.kind, [], s.v.w0, s.v.w1, s.v.w2, s.v.w3, s.v.twin, s.v.spent⟩, s.spent⟩
def tkS2 (s : Sr) : Sr := ⟨s.left.take s.left.length, s.proof, s.v, s.spent⟩
theorem tkS_eq {s : Sr} (h : s.v.proof = []) : tkS s = s := by
  obtain ⟨left, proof, ⟨k, vp, a, b, c, d, tw, vs⟩, sp⟩ := s
  obtain rfl : vp = [] := h
  unfold tkS
  simp only [List.take_length]
theorem tkS2_eq (s : Sr) : tkS2 s = s := by
  obtain ⟨left, proof, v, sp⟩ := s
  unfold tkS2
  simp only [List.take_length]
def okS (m : Md) (q : Qy) (s : Sr) : Bool := rightQ m q && (decide (0 ≤ s.spent) && (Nat.blt 0 s.left.length && (Nat.ble s.left.length 100000 && Nat.ble s.proof.length 100000)))
noncomputable abbrev kRun (N : Nat) : Out → St → Res := kBlock 0 (kSq (E_search_Run N) (subC c_search_Run [1, 1, 1]) (outT (E_search_Run N) none [.cell 4 37] [[.int .i64, .list true kStep, .int .i64, .int .i64, .int .i64, .int .i64, .int .i64, .int .i64]]))
set_option maxRecDepth 100000 in
theorem nf_search_Run (N : Nat) (m : Md) (q : Qy) : evFun (E_search_Run N) c_search_Run [.cell 4 37] [[.int .i64, .list true [.bool, .int .i64, .int .i64], .int .i64, .int .i64, .int .i64, .int .i64, .int .i64, .int .i64]] [m.V, q.V] =
    cond (rightQ m q) (lpE (E_search_Run N) (subC c_search_Run [1, 1, 0, 0, 0]) kpR N (runSt m q false ⟨[(startB q).I], [], Vd.none, 0⟩) (kRun N))
      (lpE (E_search_Run N) (subC c_search_Run [1, 1, 0, 0, 0]) kpR N (runSt m q false ⟨[], [], ⟨4, [], 0, 0, 0, 0, 0, 0⟩, 0⟩) (kRun N)) := by kernel_rfl
set_option maxRecDepth 100000 in
theorem st_run_own (N : Nat) (m : Md) (q : Qy) (s : Sr) (again : St → Res) (k : Out → St → Res) : rnd (E_search_Run N) (subC c_search_Run [1, 1, 0, 0, 0]) (runSt m q false s) (kLoop again kpR k) =
    cond (overS q (tkS s)) (k (.exit 0) (runSt m q false (tkS s)))
      (cond (okS m q (tkS s))
        (cond (closedF m q (topB (tkS s).left)) (cond (ic ((tkS s).left.length - 1) == 0) (again (runSt m q true (stepF m q (tkS s)))) (again (runSt m q false (stepF m q (tkS s)))))
          (cond (breaksF m q (topB (tkS s).left).low (topB (tkS s).left).s4.hi) (again (runSt m q false (stepF m q (tkS s))))
            (cond (splitF m q (topB (tkS s).left)).isSome (again (runSt m q false (stepF m q (tkS s)))) (again (runSt m q false (stepF m q (tkS s))))))) none) := by kernel_rfl
set_option maxRecDepth 100000 in
theorem st_run_shared (N : Nat) (m : Md) (q : Qy) (s : Sr) (again : St → Res) (k : Out → St → Res) : rnd (E_search_Run N) (subC c_search_Run [1, 1, 0, 0, 0]) (runSt m q true s) (kLoop again kpR k) =
    cond (overS q (tkS2 s)) (k (.exit 0) (runSt m q true (tkS2 s))) none := by kernel_rfl
set_option maxRecDepth 100000 in
theorem ex_run_own (N : Nat) (m : Md) (q : Qy) (s : Sr) : kRun N (.exit 0) (runSt m q false s) = some ((verdS (tkS s)).V, []) := by kernel_rfl
set_option maxRecDepth 100000 in
theorem ex_run_shared (N : Nat) (m : Md) (q : Qy) (s : Sr) : kRun N (.exit 0) (runSt m q true s) = cond (Nat.ble s.v.proof.length 100000) (some ((verdS (tkS2 s)).V, [])) none := by kernel_rfl

/-! ### the run -/
structure SrInv (q : Qy) (sh : Bool) (s : Sr) : Prop where
  sp0 : 0 ≤ s.spent
  sp1 : s.spent ≤ max 0 q.bu
  left : (s.left.length : Int) ≤ s.spent + 1
  proof : (s.proof.length : Int) ≤ s.spent
  vp : (s.v.proof.length : Int) ≤ s.spent
  own : sh = false → s.v.proof = []
  open_ : s.v.kind = 0 → 0 < s.left.length
  shut : sh = true → s.v.kind ≠ 0
theorem popL_len (l : List IV) : (popL l).length = l.length - 1 := by
  unfold popL
  rw [List.length_take]
  omega
/-- A step keeps it. -/
theorem SrInv.step {m : Md} {q : Qy} {s : Sr} (h : SrInv q false s) (ho : overS q s = false) :
    SrInv q (closedF m q (topB s.left) && (ic (s.left.length - 1) == 0)) (stepF m q s) ∧ (stepF m q s).spent = s.spent + 1 := by
  unfold overS at ho
  rw [Bool.or_eq_false_iff] at ho
  have hk : s.v.kind = 0 := by simpa using ho.1
  have hs := of_decide_eq_false ho.2
  have h1 := h.sp0
  have h2 := h.left
  have h3 := h.proof
  have h4 := h.vp
  have h5 := h.own rfl
  have h6 := h.open_ hk
  have hp := popL_len s.left
  have h5' : s.v.proof.length = 0 := by rw [h5]; rfl
  unfold stepF
  cases closedF m q (topB s.left) with
  | true =>
    rw [condT]
    cases he : (ic (s.left.length - 1) == 0) with
    | true =>
      refine ⟨⟨?_, ?_, ?_, ?_, ?_, fun h => (by cases h), fun h => (by cases h), fun _ => (show (1 : Int) ≠ 0 by decide)⟩, rfl⟩ <;> simp only [cond_true, List.length_append, List.length_singleton] <;> omega
    | false =>
      have hne : s.left.length - 1 ≠ 0 := by simpa [ic] using he
      refine ⟨⟨?_, ?_, ?_, ?_, ?_, fun _ => h5, fun _ => ?_, fun h => (by cases h)⟩, rfl⟩ <;> simp only [cond_false, List.length_append, List.length_singleton] <;> omega
  | false =>
    rw [condF, Bool.false_and]
    cases breaksF m q (topB s.left).low (topB s.left).s4.hi with
    | true => refine ⟨⟨?_, ?_, ?_, ?_, ?_, fun _ => rfl, fun h => (by cases h), fun h => (by cases h)⟩, rfl⟩ <;> simp only [cond_true, List.length_nil] <;> omega
    | false =>
      rw [condF]
      cases (splitF m q (topB s.left)).isSome with
      | true => refine ⟨⟨?_, ?_, ?_, ?_, ?_, fun _ => h5, fun _ => ?_, fun h => (by cases h)⟩, rfl⟩ <;> simp only [cond_true, List.length_append, List.length_singleton, List.length_cons, List.length_nil] <;> omega
      | false => refine ⟨⟨?_, ?_, ?_, ?_, ?_, fun _ => rfl, fun h => (by cases h), fun h => (by cases h)⟩, rfl⟩ <;> simp only [cond_false, List.length_nil] <;> omega
theorem okS_of {m : Md} {q : Qy} {s : Sr} (hr : rightQ m q = true) (h : SrInv q false s) (hk : s.v.kind = 0) : okS m q s = true := by
  have hb := (rightQ_parts hr).2.2.1
  have h1 := h.sp0
  have h2 := h.left
  have h3 := h.proof
  have h6 := h.open_ hk
  have h7 := h.sp1
  unfold okS
  rw [hr, decide_eq_true h1, Nat.ble_eq_true_of_le (show s.left.length ≤ 100000 by omega), Nat.ble_eq_true_of_le (show s.proof.length ≤ 100000 by omega)]
  have : Nat.blt 0 s.left.length = true := Nat.ble_eq_true_of_le h6
  rw [this]
  rfl
theorem run_run (N : Nat) (m : Md) (q : Qy) (hr : rightQ m q = true) (K : Out → St → Res) : ∀ (d n : Nat) (sh : Bool) (s : Sr), SrInv q sh s → q.bu < s.spent + d → d < n →
    ∃ sh', SrInv q sh' (runS m q d s) ∧ lpE (E_search_Run N) (subC c_search_Run [1, 1, 0, 0, 0]) kpR n (runSt m q sh s) K = K (.exit 0) (runSt m q sh' (runS m q d s))
  | d, 0, sh, s, _, _, h => absurd h (by omega)
  | 0, n + 1, sh, s, hi, hd, _ => by
    have h1 := hi.sp1
    have h2 := hi.sp0
    have h3 := (rightQ_parts hr).2.2.1
    omega
  | d + 1, n + 1, sh, s, hi, hd, hn => by
    rw [runS]
    cases ho : overS q s with
    | true =>
      rw [condT]
      refine ⟨sh, hi, ?_⟩
      cases sh with
      | false => rw [lpE_succ, st_run_own, tkS_eq (hi.own rfl), ho, condT]
      | true => rw [lpE_succ, st_run_shared, tkS2_eq, ho, condT]
    | false =>
      rw [condF]
      cases sh with
      | true =>
        unfold overS at ho
        rw [Bool.or_eq_false_iff] at ho
        have := hi.shut rfl
        simp at ho
        exact absurd ho.1 this
      | false =>
        obtain ⟨hi', hs'⟩ := hi.step (m := m) ho
        have hk : s.v.kind = 0 := by
          unfold overS at ho
          rw [Bool.or_eq_false_iff] at ho
          simpa using ho.1
        obtain ⟨sh', hi2, hrun⟩ := run_run N m q hr K d n _ (stepF m q s) hi' (by rw [hs']; omega) (by omega)
        refine ⟨sh', hi2, ?_⟩
        rw [← hrun, lpE_succ, st_run_own, tkS_eq (hi.own rfl), ho, condF, okS_of hr hi hk, condT]
        cases closedF m q (topB s.left) with
        | true =>
          rw [condT, Bool.true_and]
          cases (ic (s.left.length - 1) == 0) <;> rfl
        | false =>
          rw [condF, Bool.false_and]
          cases breaksF m q (topB s.left).low (topB s.left).s4.hi with
          | true => rfl
          | false => cases (splitF m q (topB s.left)).isSome <;> rfl
theorem new_inv {m : Md} {q : Qy} (hr : rightQ m q = true) : SrInv q false ⟨[(startB q).I], [], Vd.none, 0⟩ :=
  ⟨Int.le_refl _, by have := (rightQ_parts hr).2.2.1; show (0 : Int) ≤ _; omega, by simp, by simp, by simp [Vd.none], fun _ => rfl, fun _ => by simp, fun h => by cases h⟩
set_option maxRecDepth 100000 in
theorem snd_search_Run : SndR PR B0 8 S_search_Run := by
  refine snd_mk [(14, S_search_New), (15, S_search_Search_Step), (17, S_search_Search_Verdict)] [(2, ⟨[4, 5], [4, 8, 500, 501], [⟨.cell 8 23, 500, 30, true, kBox⟩, ⟨.cell 8 24, 501, 82, true, kStep⟩]⟩)] S_search_Run [[.int .i64, .list true [.bool, .int .i64, .int .i64], .int .i64, .int .i64, .int .i64, .int .i64, .int .i64, .int .i64]] Try.func8 h_search_Run ⟨snd_search_New, snd_search_Search_Step, snd_search_Search_Verdict, trivial⟩ ?_
  intro vs r hwf h
  unfold S_search_Run at h
  split at h
  · rename_i m q
    replace h := withM_get h
    obtain ⟨m, rfl, h⟩ := h
    replace h := withQ_get h
    obtain ⟨q, rfl, h⟩ := h
    rw [R.get_ok] at h
    refine ⟨70000, ?_⟩
    rw [← h]
    refine (nf_search_Run 70000 m q).trans ?_
    unfold runF newS
    cases hr : rightQ m q with
    | true =>
      have hb := (rightQ_parts hr).2.2.1
      rw [condT, condT]
      obtain ⟨sh', hi, hrun⟩ := run_run 70000 m q hr (kRun 70000) (q.bu.toNat + 1) 70000 false _ (new_inv hr) (by show q.bu < 0 + _; omega) (by omega)
      rw [hrun]
      generalize runS m q (q.bu.toNat + 1) _ = s at hi ⊢
      cases sh' with
      | false => rw [ex_run_own, tkS_eq (hi.own rfl)]
      | true =>
        have h1 := hi.vp
        have h2 := hi.sp1
        rw [ex_run_shared, tkS2_eq, Nat.ble_eq_true_of_le (show s.v.proof.length ≤ 100000 by omega), condT]
    | false =>
      rw [condF, condF]
      have e : overS q ⟨[], [], ⟨4, [], 0, 0, 0, 0, 0, 0⟩, 0⟩ = true := rfl
      rw [lpE_succ, st_run_own, tkS_eq rfl, e, condT, ex_run_own, tkS_eq rfl, runS, e, condT]
  · simp [R.get] at h
end Go.FM

/-
  WHAT ELSE THE STATEMENTS ABOUT SEARCHES CALL: specifications. Of no program.
-/
namespace Go.FM
open Go

def threeM : Md := ⟨1, 1, 3, 0, 0, [.agg [.int 0, .list [.int (packW false 0 0 5 1 2), .int (packW true 10 0 0 0 0), .int (packW true 20 0 0 0 0)]]]⟩
def S_copsekeep_Three : RSpec
  | [] => .ok threeM.V []
  | _ => .no
def insZ1 (b : Bx) (l : List IV) (i : Nat) : Int := withinZ (pickZ l (i : Int)) (b.g i).lo (max (b.g i).lo (b.g i).hi)
def insOK (b : Bx) (i : Nat) : Bool := decide (withinM (b.g i).lo (max (b.g i).lo (b.g i).hi) = 0)
def insideP (b : Bx) (l : List IV) : Pt := ⟨insZ1 b l 0, insZ1 b l 1, insZ1 b l 2, insZ1 b l 3⟩
def S_copsekeep_Inside : RSpec
  | [b, .list false [.int .i64] l] => withB b fun b => .br (!(insOK b 0) && (!(insOK b 1) && (!(insOK b 2) && !(insOK b 3)))) (.ok (insideP b l).V []) .no
  | _ => .no
def S_copselaw22_SearchRuns : RSpec
  | [] => .ok (.bool true) []
  | _ => .no
end Go.FM

/-
  NORMAL FORMS: what the functions' runs come to (written by a program of this claim's own, checked by the kernel).
-/
namespace Go.FM
open Go Go.Proofs

/-! ### copse/copsekeep.Three -/
def E_copsekeep_Three (N : Nat) : Env := mkE [(20, S_copseref6_Pack)] [] 14 N

theorem nf_copsekeep_Three (N : Nat) : evFun (E_copsekeep_Three N) c_copsekeep_Three [.cell 0 25] [[.int .i64, .int .i64, .int .i64, .int .i64, .int .i64, .list true [.int .i64, .list false [.int .u64]]]] [] =
  (some ((.agg [(.int .i64 1), (.int .i64 1), (.int .i64 3), (.int .i64 0), (.int .i64 0), (.list true kTree [(IV.agg [IV.int 0, IV.list [IV.int (packW false 0 0 5 1 2), IV.int (packW true 10 0 0 0 0), IV.int (packW true 20 0 0 0 0)]])])]), [])) := by kernel_rfl

/-! ### copse/copsekeep.Inside -/
def E_copsekeep_Inside (N : Nat) : Env := mkE [(18, S_copsebook_Within), (21, S_copsekeep_pick)] [(3, ⟨[1, 2, 4, 5, 7], [2, 4, 5], []⟩)] 31 N
--RKS copsekeep_Inside [[.int .i64, .int .i64, .int .i64, .int .i64]]

/-! ### copse/copsebook.Same<copse/api.Step> -/
def E_copsebook_Same_apiStep (N : Nat) : Env := mkE [] [(4, ⟨[0, 1, 4, 5], [], []⟩)] 26 N

theorem nf_copsebook_Same_apiStep (N : Nat) (a : List IV) (b : List IV) : evFun (E_copsebook_Same_apiStep N) c_copsebook_Same_apiStep [.tmp 4] [[.bool]] [(.list true [.bool, .int .i64, .int .i64] a), (.list true [.bool, .int .i64, .int .i64] b)] =
  (cond (ic (List.length a) != ic (List.length b))
  (some ((.bool false), []))
  (lpE (E_copsebook_Same_apiStep N) (subC c_copsebook_Same_apiStep [1, 1, 0, 1, 0, 0]) ⟨[0, 1, 4, 5], [], []⟩ N ⟨[(0, (.list true kStep a)), (1, (.list true kStep b)), (4, (.bool false)), (5, (.int .i64 0))], []⟩ (kBlock 0 (kSq (E_copsebook_Same_apiStep N) (subC c_copsebook_Same_apiStep [1, 1, 1]) (outT (E_copsebook_Same_apiStep N) none [(ResultVar.tmp 4)] [[.bool]]))))) := by kernel_rfl

theorem st_copsebook_Same_apiStep_1 (N : Nat) (l0 : List IV) (l1 : List IV) (b4 : Bool) (x5 : Int) (again : St → Res) (k : Out → St → Res) : rnd (E_copsebook_Same_apiStep N) (subC c_copsebook_Same_apiStep [1, 1, 0, 1, 0, 0])
    ⟨[(0, (.list true kStep l0)), (1, (.list true kStep l1)), (4, (.bool b4)), (5, (.int .i64 x5))], []⟩
    (kLoop again ⟨[0, 1, 4, 5], [], []⟩ k) =
  (cond (decide (x5 < ic (List.length l0)))
  (cond (decide (0 ≤ x5) && decide (x5 < ic (List.length l0)))
   (cond (decide (0 ≤ x5) && decide (x5 < ic (List.length l1)))
    (cond (! (IV.toBool (IV.cell (List.getD l0 (Int.toNat x5) default) 0) == IV.toBool (IV.cell (List.getD l1 (Int.toNat x5) default) 0) && (IV.toInt (IV.cell (List.getD l0 (Int.toNat x5) default) 1) == IV.toInt (IV.cell (List.getD l1 (Int.toNat x5) default) 1) && (IV.toInt (IV.cell (List.getD l0 (Int.toNat x5) default) 2) == IV.toInt (IV.cell (List.getD l1 (Int.toNat x5) default) 2) && true))))
     (k .ret ⟨[(0, (.list true kStep l0)), (1, (.list true kStep l1)), (4, (.bool false)), (5, (.int .i64 x5))], []⟩)
     (again ⟨[(0, (.list true kStep l0)), (1, (.list true kStep l1)), (4, (.bool b4)), (5, (.int .i64 (IntKind.wrap IntKind.i64 (x5 + 1))))], []⟩))
    none)
   none)
  (k (.exit 0) ⟨[(0, (.list true kStep l0)), (1, (.list true kStep l1)), (4, (.bool b4)), (5, (.int .i64 x5))], []⟩)) := by kernel_rfl

theorem ex_copsebook_Same_apiStep_1_1 (N : Nat) (l0 : List IV) (l1 : List IV) (b4 : Bool) (x5 : Int) : (kBlock 0 (kSq (E_copsebook_Same_apiStep N) (subC c_copsebook_Same_apiStep [1, 1, 1]) (outT (E_copsebook_Same_apiStep N) none [(ResultVar.tmp 4)] [[.bool]]))) (.exit 0)
    ⟨[(0, (.list true kStep l0)), (1, (.list true kStep l1)), (4, (.bool b4)), (5, (.int .i64 x5))], []⟩ =
  (some ((.bool true), [])) := by kernel_rfl

theorem ex_copsebook_Same_apiStep_1_2 (N : Nat) (l0 : List IV) (l1 : List IV) (b4 : Bool) (x5 : Int) : (kBlock 0 (kSq (E_copsebook_Same_apiStep N) (subC c_copsebook_Same_apiStep [1, 1, 1]) (outT (E_copsebook_Same_apiStep N) none [(ResultVar.tmp 4)] [[.bool]]))) .ret
    ⟨[(0, (.list true kStep l0)), (1, (.list true kStep l1)), (4, (.bool b4)), (5, (.int .i64 x5))], []⟩ =
  (some ((.bool b4), [])) := by kernel_rfl

/-! ### copse/copsekeep.Verdicts -/
def E_copsekeep_Verdicts (N : Nat) : Env := mkE [(33, S_copsebook_Same_apiStep)] [] 38 N

theorem nf_copsekeep_Verdicts (N : Nat) (a : Vd) (b : Vd) : evFun (E_copsekeep_Verdicts N) c_copsekeep_Verdicts [.tmp 4] [[.bool]] [(Vd.V a), (Vd.V b)] =
  (cond (Vd.kind a == Vd.kind b)
  (cond (sameB (Vd.proof a) (Vd.proof b))
   (cond (Vd.w0 a == Vd.w0 b && (Vd.w1 a == Vd.w1 b && (Vd.w2 a == Vd.w2 b && (Vd.w3 a == Vd.w3 b && true))))
    (cond (Vd.twin a == Vd.twin b) (some ((.bool (Vd.spent a == Vd.spent b)), [])) (some ((.bool false), [])))
    (some ((.bool false), [])))
   (some ((.bool false), [])))
  (some ((.bool false), []))) := by kernel_rfl

/-! ### copse/copselaw22.SearchRuns -/
def E_copselaw22_SearchRuns (N : Nat) : Env := mkE [(7, S_copsekeep_Three), (8, S_search_Run)] [] 60 N

theorem nf_copselaw22_SearchRuns (N : Nat) : evFun (E_copselaw22_SearchRuns N) c_copselaw22_SearchRuns [.tmp 0] [[.bool]] [] =
  (some ((.bool true), [])) := by kernel_rfl

end Go.FM

/-
  copsekeep.Three AND copselaw22.SearchRuns COME TO WHAT IS SAID.
-/
namespace Go.FM
open Go Go.Proofs

set_option maxRecDepth 100000 in
theorem snd_copsekeep_Three : SndR PR B0 7 S_copsekeep_Three := by
  refine snd_mk [(20, S_copseref6_Pack)] [] S_copsekeep_Three [[.int .i64, .int .i64, .int .i64, .int .i64, .int .i64, .list true [.int .i64, .list false [.int .u64]]]] Try.func7 h_copsekeep_Three ⟨snd_copseref6_Pack, trivial⟩ ?_
  intro vs r hwf h
  unfold S_copsekeep_Three at h
  split at h
  · skip
    rw [R.get_ok] at h
    refine ⟨0, (nf_copsekeep_Three 0).trans ?_⟩
    rw [← h]
    rfl
  · simp [R.get] at h
set_option maxRecDepth 100000 in
theorem snd_copselaw22_SearchRuns : SndR PR B0 3 S_copselaw22_SearchRuns := by
  refine snd_mk [(7, S_copsekeep_Three), (8, S_search_Run)] [] S_copselaw22_SearchRuns [[.bool]] Try.func3 h_copselaw22_SearchRuns ⟨snd_copsekeep_Three, snd_search_Run, trivial⟩ ?_
  intro vs r hwf h
  unfold S_copselaw22_SearchRuns at h
  split at h
  · skip
    rw [R.get_ok] at h
    refine ⟨0, (nf_copselaw22_SearchRuns 0).trans ?_⟩
    rw [← h]
  · simp [R.get] at h
end Go.FM

/-
  FROM A ROW's PREMISES TO WHAT THE SMALL MACHINE ASKS OF THE PACKAGE-LEVEL VARIABLES; a call out of the row's world.
-/
namespace Go.FM
open Go Go.Proofs Go.RowKit

set_option maxRecDepth 100000 in
theorem heap_of_var {P : Program} {w : World} {name : String} {g : Nat} {cs : Array Value} (hn : P.globalNamed name = some g) (hv : w.var? P name = some cs) : ∃ T fr, w.heap[g]? = some (.cells cs T fr) := by
  unfold World.var? at hv
  rw [hn] at hv
  simp only [Option.bind_some] at hv
  split at hv
  · rename_i c T fr hh
    simp only [Option.some.injEq] at hv
    subst hv
    exact ⟨T, fr, hh⟩
  · cases hv

set_option maxRecDepth 100000 in
theorem err_cell {w : World} {name : String} {g t : Nat} {ms : Array (String × TypeId)} {tn : String} {d : DataW Unit} (h : Lib.VarReads Try.prog w name (.iface tn d)) (hn : Try.prog.globalNamed name = some g)
    (ht : (Try.prog.globals[g]?).map (·.type) = some t) (hu : Try.prog.underlying t = some (.interface ms)) : ∃ c T fr te pe, w.heap[g]? = some (.cells c T fr) ∧ c[0]? = some (.iface te pe) := by
  obtain ⟨g', t', cs, fuel, p, h1, h2, h3, h4⟩ := h
  obtain rfl := Option.some.inj (hn.symm.trans h1)
  obtain rfl := Option.some.inj (ht.symm.trans h2)
  obtain ⟨f', u, v, hcs, _, _⟩ := iface_of_trod hu h4
  obtain ⟨T, fr, hh⟩ := heap_of_var hn h3
  refine ⟨cs, T, fr, u, v, hh, ?_⟩
  have : cs = #[.iface u v] := by
    apply Array.ext'
    rw [hcs]
  rw [this]
  rfl

set_option maxRecDepth 100000 in
theorem glob_row {W : World} {l : List (String × DataW Unit)} (hL : laidMet Try.prog l W) (hsh : W.ShapedOpen Try.prog)
    : Glob B0 W := by
  have hz : ∀ g, g < 0 → g < Try.prog.globals.size → g < W.heap.size := fun g _ hg => by
    have hb : ((List.range Try.prog.globals.size).all fun g => (((begin Try.prog (fun _ _ => 0) default).world.heap[g]?).bind Obj.row?).isSome) = true := by kernel_rfl
    have := List.all_eq_true.1 hb g (List.mem_range.2 hg)
    obtain ⟨⟨z, t⟩, hz⟩ := Option.isSome_iff_exists.1 this
    obtain ⟨cs, hh, _⟩ := hsh.1 g z t hg hz
    exact (Array.getElem?_eq_some_iff.1 hh).1
  have hsize : 0 ≤ W.heap.size := by
    first
    | exact Nat.zero_le _
    | (have := hz (0 - 1) (by decide) (of_decide_eq_true (by kernel_rfl))
       omega)
  have low : ∀ {g : Nat}, g < 0 → (fun b => if b < B0.ng then W.heap[b]? else none) g = W.heap[g]? := fun h => if_pos (show _ < B0.ng from h)
  refine ⟨hsize, ?_⟩
  show GF _
  constructor
  first | exact trivial | skip

/-! ### a call out of the row's world -/
def X0 : Zone := ⟨fun _ => False, fun _ => False⟩
def γ0 : Nat → Value := fun _ => .nilIface
abbrev O0 : Nat → Prop := Owned X0 γ0 []
set_option maxRecDepth 100000 in
theorem O0_no (b : Nat) : ¬ O0 b := by
  rintro (⟨n, ob, h, _⟩ | h)
  · simp [objOf, lkd] at h
  · exact h

set_option maxRecDepth 100000 in
theorem rel0 (W : World) : Rel B0.base 0 W X0 γ0 ⟨[], []⟩ act0 W := by
  have no : ∀ n ob, objOf ([] : Store) n ≠ some ob := fun n ob h => by simp [objOf, lkd] at h
  refine ⟨rfl, rfl, fun i => by simp only [St.get, lkd, VRel], fun n ob h => absurd h (no n ob), fun b h => ?_, fun n m ob ob' b _ h => absurd h (no n ob), Keep.refl _ _, fun b h => ?_, fun b h => h.elim, fun p _ ob h => absurd h (no _ ob)⟩
  · obtain ⟨n, ob, h, _⟩ := h
    exact absurd h (no n ob)
  · obtain ⟨n, ob, h, _⟩ := h
    exact absurd h (no n ob)

set_option maxRecDepth 100000 in
theorem calls_of_does {f : Nat} {fn : Func} (hf : PR.funcs[f]? = some fn) (hn : (fn.name == "runtime.NumGoroutine") = false) (hb : fn.body.isNone = false) {xs : List Value} {w : World} {R : Ending → World → Prop} (h : Does PR f xs w R) : Calls PR f xs.toArray w R := by
  have : (callFunc f xs.toArray).run PR w = .ok (.enter f xs.toArray) w := by
    unfold callFunc
    have hn' : ¬ fn.name = "runtime.NumGoroutine" := by simpa using hn
    have hb' : ¬ fn.body = none := fun h => by rw [h] at hb; cases hb
    simp [hf, hn', hb']
  unfold Does at h
  rw [this] at h
  exact h

set_option maxRecDepth 100000 in
/-- A law's call: true, and nothing that was there has turned. -/
theorem calls_true {f : Nat} {fn : Func} {sp : RSpec} (hS : SndR PR B0 f sp) (hf : PR.funcs[f]? = some fn) (hn : (fn.name == "runtime.NumGoroutine") = false) (hb : fn.body.isNone = false) {vs : List V} {xs : List Value} {W : World}
    (hsp : (sp vs).get = some (.bool true, [])) (hbor : borOf vs = none) (hG : Glob B0 W) (hV : VRels γ0 [] W O0 (vs.map entV) xs) :
    Calls PR f xs.toArray W fun e w' => e = .returned (.bool true) ∧ Below W.heap.size W w' := by
  refine calls_of_does hf hn hb ?_
  have em : memIn vs = [] := by unfold memIn; rw [hbor]
  refine Does.mono (hS W X0 γ0 vs xs (.bool true) [] hsp hG (fun b h => h.elim) (by rw [em]; exact rel0 W) (by rw [em]; exact hV)) ?_
  rintro e w' ⟨x, rfl, γ', hR, hx, _⟩
  simp only [retV, entV, VRel] at hx
  subst hx
  exact ⟨rfl, hR.keep.os, hR.keep.tape, hR.keep.output, hR.keep.size, fun b hb => hR.keep.block b hb (fun h => h)⟩

end Go.FM

/-
  WHAT A ROW's READING OF AN ARGUMENT SAYS OF ITS CELLS, as the small machine asks it; of no program.
-/
namespace Go.FM
open Go

def agT (P : Program) (e : TypeId) : Bool := match P.underlying e with | some (.struct _) => true | some (.array _ _) => true | _ => false
def kdPs (f : TypeId → Option (List Kd)) (cell : TypeId → Nat) : Nat → List (TypeId × Nat) → Option (List Kd)
  | _, [] => some []
  | off, (t, o) :: r => match Nat.beq o off with
    | true => match f t with
      | some ks => match Nat.beq (cell t) ks.length with
        | true => match kdPs f cell (off + ks.length) r with
          | some ks' => some (ks ++ ks')
          | none => none
        | false => none
      | none => none
    | false => none
/-- The kinds of a type's cells. -/
def kdT (P : Program) : Nat → TypeId → Option (List Kd)
  | 0, _ => none
  | n + 1, t => match P.underlying t with
    | some .bool => some [.bool]
    | some (.int k) => some [.int k]
    | some .string => some [.str]
    | some (.slice e) => match kdT P n e with
      | some ks => match Nat.ble 1 (P.bytesOf e) && (Nat.beq (P.cellsOf e) ks.length && (Nat.ble 1 ks.length && (agT P e || Nat.beq ks.length 1))) with
        | true => some [.list (agT P e) ks]
        | false => none
      | none => none
    | some (.struct fs) => match kdPs (kdT P n) P.cellsOf 0 (fs.toList.map fun f => (f.type, f.offset)) with
      | some ks => match Nat.beq (P.cellsOf t) ks.length with | true => some ks | false => none
      | none => none
    | some (.array m e) => match kdPs (kdT P n) P.cellsOf 0 ((List.range m).map fun i => (e, i * P.cellsOf e)) with
      | some ks => match Nat.beq (P.cellsOf t) ks.length with | true => some ks | false => none
      | none => none
    | _ => none

def CellsK (w : World) (O : Nat → Prop) : List Kd → List IV → List Value → Prop
  | [], [], [] => True
  | k :: ks, x :: f, v :: cs => Kd.Rel w O k x v ∧ CellsK w O ks f cs
  | _, _, _ => False

section
variable {w : World} {O : Nat → Prop}
set_option maxRecDepth 100000 in
theorem CellsK.append : ∀ {ks : List Kd} {f : List IV} {cs : List Value} {ks' : List Kd} {f' : List IV} {cs' : List Value}, CellsK w O ks f cs → CellsK w O ks' f' cs' → CellsK w O (ks ++ ks') (f ++ f') (cs ++ cs')
  | [], [], [], _, _, _, _, h' => h'
  | _ :: ks, _ :: f, _ :: cs, _, _, _, h, h' => by
    simp only [CellsK] at h
    simp only [List.cons_append, CellsK]
    exact ⟨h.1, h.2.append h'⟩
  | [], _ :: _, _, _, _, _, h, _ => by simp [CellsK] at h
  | [], [], _ :: _, _, _, _, h, _ => by simp [CellsK] at h
  | _ :: _, [], _, _, _, _, h, _ => by simp [CellsK] at h
  | _ :: _, _ :: _, [], _, _, _, h, _ => by simp [CellsK] at h
set_option maxRecDepth 100000 in
theorem CellsK.get : ∀ {ks : List Kd} {f : List IV} {cs : List Value}, CellsK w O ks f cs → ∀ (j : Nat) (k : Kd), ks[j]? = some k → ∃ v, cs[j]? = some v ∧ Kd.Rel w O k (nth f j) v
  | [], _, _, _, j, k, h => by simp at h
  | k :: ks, x :: f, v :: cs, h, j, k', hj => by
    simp only [CellsK] at h
    cases j with
    | zero =>
      simp only [List.getElem?_cons_zero, Option.some.injEq] at hj
      subst hj
      exact ⟨v, rfl, by simpa only [nth] using h.1⟩
    | succ j =>
      obtain ⟨u, h1, h2⟩ := h.2.get j k' (by simpa using hj)
      exact ⟨u, by simpa using h1, by simpa only [nth] using h2⟩
  | _ :: _, [], _, h, _, _, _ => by simp [CellsK] at h
  | _ :: _, _ :: _, [], h, _, _, _ => by simp [CellsK] at h

set_option maxRecDepth 100000 in
theorem choose_list {α : Type} {Q : Nat → α → Prop} : ∀ n, (∀ i, i < n → ∃ x, Q i x) → ∃ L : List α, L.length = n ∧ ∀ i x, L[i]? = some x → Q i x
  | 0, _ => ⟨[], rfl, fun i x h => by simp at h⟩
  | n + 1, h => by
    obtain ⟨L, hl, hL⟩ := choose_list n (fun i hi => h i (by omega))
    obtain ⟨x, hx⟩ := h n (by omega)
    refine ⟨L ++ [x], by simp [hl], fun i y hy => ?_⟩
    rw [List.getElem?_append] at hy
    split at hy
    · exact hL i y hy
    · rename_i hi
      have : i - L.length = 0 := by
        rcases Nat.eq_zero_or_pos (i - L.length) with e | e
        · exact e
        · rw [List.getElem?_eq_none (by simp; omega)] at hy
          cases hy
      rw [this] at hy
      simp only [List.getElem?_cons_zero, Option.some.injEq] at hy
      subst hy
      have : i = n := by omega
      subst this
      exact hx
end

set_option maxRecDepth 100000 in
theorem mem_each {H : Type} {P : Program} : ∀ {ts : List TypeId} {ds : List (DataW H)} {i : Nat} {t : TypeId} {d : DataW H}, ts[i]? = some t → ds[i]? = some d → ∀ y ∈ d.weights P t, y ∈ DataW.weightsEach P ts ds
  | [], _, i, _, _, h, _, _, _ => by simp at h
  | _ :: _, [], i, _, _, _, h, _, _ => by simp at h
  | t0 :: ts, d0 :: ds, 0, t, d, h, h', y, hy => by
    simp only [List.getElem?_cons_zero, Option.some.injEq] at h h'
    subst h; subst h'
    simp only [DataW.weightsEach, List.mem_append]
    exact .inl hy
  | t0 :: ts, d0 :: ds, i + 1, t, d, h, h', y, hy => by
    simp only [DataW.weightsEach, List.mem_append]
    exact .inr (mem_each (by simpa using h) (by simpa using h') y hy)
set_option maxRecDepth 100000 in
theorem mem_allW {H : Type} {P : Program} {e : TypeId} : ∀ {ds : List (DataW H)} {d : DataW H}, d ∈ ds → ∀ y ∈ d.weights P e, y ∈ DataW.weightsAll P e ds
  | [], _, h, _, _ => by cases h
  | d0 :: ds, d, h, y, hy => by
    simp only [DataW.weightsAll, List.mem_append]
    rcases List.mem_cons.1 h with rfl | h
    · exact .inl hy
    · exact .inr (mem_allW h y hy)

section
variable {H : Type} {enc : TypeId × Value → H} {P : Program} {w : World} {base : Nat} {sp : Nat → Bool} {held : Bool} {O : Nat → Prop}

set_option maxRecDepth 100000 in
theorem parts_cells {f : TypeId → Option (List Kd)} {n : Nat} {cs : List Value}
    (ih : ∀ (t : TypeId) (ks : List Kd) (cs : List Value) (d : DataW H) (p : List MemPlace), f t = some ks → DataW.trod enc P w base sp held n t cs = some (d, p) → (∀ y ∈ d.weights P t, y ≤ reachBytes) → ∃ g, CellsK w O ks g cs) :
    ∀ (parts : List (TypeId × Nat)) (off : Nat) (ks : List Kd) (xs : List (DataW H × List MemPlace)), kdPs f P.cellsOf off parts = some ks → xs.length = parts.length →
      (∀ (i : Nat) (t : TypeId) (o : Nat), parts[i]? = some (t, o) → DataW.trod enc P w base sp held n t ((cs.drop o).take (P.cellsOf t)) = xs[i]?) →
      (∀ (i : Nat) (t : TypeId) (o : Nat) (x : DataW H × List MemPlace), parts[i]? = some (t, o) → xs[i]? = some x → ∀ y ∈ x.1.weights P t, y ≤ reachBytes) → ∃ g, CellsK w O ks g ((cs.drop off).take ks.length)
  | [], off, ks, xs, h, _, _, _ => by
    simp only [kdPs, Option.some.injEq] at h
    subst h
    exact ⟨[], by simp only [List.length_nil, List.take_zero, CellsK]⟩
  | (t, o) :: r, off, ks, [], h, hl, _, _ => by simp at hl
  | (t, o) :: r, off, ks, x :: xs, h, hl, ht, hw => by
    simp only [kdPs] at h
    split at h
    case h_2 => cases h
    rename_i ho
    obtain rfl := Nat.eq_of_beq_eq_true ho
    split at h
    case h_2 => cases h
    rename_i k1 hk1
    split at h
    case h_2 => cases h
    rename_i hc
    have hc := Nat.eq_of_beq_eq_true hc
    split at h
    case h_2 => cases h
    rename_i k2 hk2
    simp only [Option.some.injEq] at h
    subst h
    have h0 := ht 0 t o rfl
    simp only [List.getElem?_cons_zero] at h0
    obtain ⟨d, p⟩ := x
    obtain ⟨g1, hg1⟩ := ih t k1 _ d p hk1 h0 (hw 0 t o (d, p) rfl rfl)
    obtain ⟨g2, hg2⟩ := parts_cells ih r (o + k1.length) k2 xs hk2 (by simpa using hl) (fun i t' o' hi => by simpa using ht (i + 1) t' o' (by simpa using hi)) (fun i t' o' x hi hx => hw (i + 1) t' o' x (by simpa using hi) (by simpa using hx))
    refine ⟨g1 ++ g2, ?_⟩
    rw [List.length_append, List.take_add, List.drop_drop]
    rw [hc] at hg1
    exact hg1.append hg2


set_option maxRecDepth 100000 in
theorem spot_of {a : Addr} {v : Value} (h : w.cell? a = some v) : a.spot = none ∧ a.block < w.heap.size := by
  unfold World.cell? at h
  split at h
  · rename_i c _ _ hc
    split at h
    · cases h
    · rename_i hs
      exact ⟨by simpa using hs, (Array.getElem?_eq_some_iff.1 hc).1⟩
  · cases h

set_option maxRecDepth 100000 in
theorem trod_kd (hO : ∀ b, ¬ O b) : ∀ (n : Nat) (t : TypeId) (ks : List Kd) (fuel : Nat) (cs : List Value) (d : DataW H) (p : List MemPlace), kdT P n t = some ks →
    DataW.trod enc P w base sp held fuel t cs = some (d, p) → (∀ y ∈ d.weights P t, y ≤ reachBytes) → ∃ g, CellsK w O ks g cs
  | 0, _, _, _, _, _, _, h, _, _ => by simp [kdT] at h
  | n + 1, t, ks, fuel, cs, d, p, h, ht, hw => by
    simp only [kdT] at h
    split at h
    · rename_i hu
      simp only [Option.some.injEq] at h
      subst h
      obtain ⟨b, rfl, _⟩ := DataW.trod_bool hu ht
      exact ⟨[.bool b], by simp only [CellsK, Kd.Rel, IV.toBool, and_self]⟩
    · rename_i k hu
      simp only [Option.some.injEq] at h
      subst h
      obtain ⟨m, rfl, _, hm⟩ := DataW.trod_int hu ht
      simp only [Lit.wf, Bool.and_eq_true, decide_eq_true_eq] at hm
      exact ⟨[.int m], by simp only [CellsK, Kd.Rel, IV.toInt, and_true, true_and]; exact hm⟩
    · rename_i hu
      simp only [Option.some.injEq] at h
      subst h
      obtain ⟨s, rfl, hd, hs⟩ := DataW.trod_string hu ht
      simp only [Prod.mk.injEq] at hd
      refine ⟨[.str s], ?_⟩
      simp only [CellsK, Kd.Rel, IV.toStr, and_true, true_and]
      rw [hd.1] at hw
      have := hw s.data.toList.length (by simp [DataW.weights])
      have e : s.data.toList.length = s.size := by rw [Array.length_toList]; rfl
      rw [e] at this
      unfold reachBytes at this
      unfold strMax
      omega
    · rename_i e hu
      split at h
      case h_2 => cases h
      rename_i k1 hk1
      split at h
      case h_2 => cases h
      rename_i hc
      simp only [Option.some.injEq] at h
      subst h
      simp only [Bool.and_eq_true, Bool.or_eq_true] at hc
      obtain ⟨hb, hce, hk0, hag⟩ := hc
      have hb := Nat.le_of_ble_eq_true hb
      have hce := Nat.eq_of_beq_eq_true hce
      have hk0 := Nat.le_of_ble_eq_true hk0
      rcases DataW.trod_slice hu ht with ⟨rfl, _⟩ | ⟨a, len, cap, elems, rest, m, _, rfl, hx, _, hlc, hcap, hlen, hel, _⟩
      · refine ⟨[.list []], ?_⟩
        simp only [CellsK, Kd.Rel, IV.toList, and_true]
        exact ⟨none, 0, rfl, Nat.le_refl _, Nat.zero_le _, Nat.zero_le _, fun i y hi => by simp at hi⟩
      · simp only [Prod.mk.injEq] at hx
        obtain ⟨rfl, _⟩ := hx
        simp only [DataW.weights, hu, List.mem_cons, List.mem_append] at hw
        have hsz : len ≤ strMax := by
          have := hw _ (.inl rfl)
          rw [List.length_map, hlen] at this
          have h1 : len * 1 ≤ (len + (rest.map (·.1)).length) * P.bytesOf e := Nat.mul_le_mul (by omega) hb
          unfold reachBytes at this
          unfold strMax
          omega
        have hex : ∀ i, i < len → ∃ g : List IV, ∃ ci, w.cells? base (a.add (i * k1.length)) k1.length = some ci ∧ CellsK w O k1 g ci := by
          intro i hi
          have h1 := hel i hi
          have hi' : i < elems.length := by omega
          rw [List.getElem?_eq_getElem hi', hce] at h1
          simp only [Option.bind_eq_some_iff] at h1
          obtain ⟨ci, h2, h3⟩ := h1
          obtain ⟨g, hg⟩ := trod_kd hO n e k1 m ci elems[i].1 elems[i].2 hk1 h3 (fun y hy => hw y (.inr (.inl (mem_allW (List.mem_map_of_mem (List.getElem_mem hi')) y hy))))
          exact ⟨g, ci, h2, hg⟩
        obtain ⟨L, hL, hLi⟩ := choose_list len hex
        refine ⟨[.list (L.map fun g => match agT P e with | true => IV.agg g | false => nth g 0)], ?_⟩
        simp only [CellsK, Kd.Rel, IV.toList, and_true, List.length_map, hL]
        refine ⟨some a, cap, rfl, hlc, hcap, hsz, fun i y hi => ?_⟩
        rw [List.getElem?_map, Option.map_eq_some_iff] at hi
        obtain ⟨g, hg, rfl⟩ := hi
        obtain ⟨ci, hci, hgc⟩ := hLi i g hg
        have hil : i < len := by rw [← hL]; exact (List.getElem?_eq_some_iff.1 hg).1
        -- the first cell of the row
        have cellAt : ∀ j k, k1[j]? = some k → ∃ u, w.cell? ((a.add (i * k1.length)).add j) = some u ∧ Kd.Rel w O k (nth g j) u := by
          intro j k hk
          obtain ⟨u, h1, h2⟩ := hgc.get j k hk
          refine ⟨u, ?_, h2⟩
          have hj : j < k1.length := (List.getElem?_eq_some_iff.1 hk).1
          unfold World.cells? at hci
          split at hci
          · obtain ⟨b, hb1, hb2⟩ := Lib.mapM_at hci j j (by simp [hj])
            rw [h1] at hb1
            simp only [Option.some.injEq] at hb1
            rw [hb2, hb1]
          · cases hci
        have hspot : a.spot = none ∧ a.block < w.heap.size := by
          obtain ⟨g0, hg0⟩ : ∃ g0, L[0]? = some g0 := ⟨L[0]'(by omega), List.getElem?_eq_getElem (by omega)⟩
          obtain ⟨c0, hc0, hgc0⟩ := hLi 0 g0 hg0
          obtain ⟨u, h1, _⟩ := hgc0.get 0 k1[0] (List.getElem?_eq_getElem (by omega))
          unfold World.cells? at hc0
          split at hc0
          · obtain ⟨b, _, hb2⟩ := Lib.mapM_at hc0 0 0 (List.getElem?_range (show 0 < k1.length by omega))
            have := spot_of hb2
            rw [Nat.zero_mul] at this
            simpa [Addr.add] using this
          · cases hc0
        obtain ⟨ab, ao, asp⟩ := a
        obtain ⟨hs1, hs2⟩ := hspot
        simp only at hs1 hs2
        subst hs1
        refine ⟨ab, ao, rfl, hO ab, hs2, ?_⟩
        rw [Kd.RelAll_iff]
        intro j k hk
        obtain ⟨u, h1, h2⟩ := cellAt j k hk
        rw [Lib.add_plain, Lib.add_plain] at h1
        rw [Nat.zero_add]
        refine ⟨u, h1, ?_⟩
        cases hat : agT P e with
        | true =>
          show Kd.Rel w O k (nth g j) u
          exact h2
        | false =>
          rw [hat] at hag
          have h1l : k1.length = 1 := Nat.eq_of_beq_eq_true (by simpa using hag)
          have hj : j < k1.length := (List.getElem?_eq_some_iff.1 hk).1
          have : j = 0 := by omega
          subst this
          exact h2
    · rename_i fs hu
      split at h
      case h_2 => cases h
      rename_i k1 hk1
      split at h
      case h_2 => cases h
      rename_i hc
      have hc := Nat.eq_of_beq_eq_true hc
      simp only [Option.some.injEq] at h
      subst h
      obtain ⟨xs, m, _, hx, hcl, hxl, hall⟩ := DataW.trod_struct hu ht
      simp only [Prod.mk.injEq] at hx
      obtain ⟨rfl, _⟩ := hx
      simp only [DataW.weights, hu] at hw
      have key := parts_cells (enc := enc) (P := P) (w := w) (base := base) (sp := sp) (held := held) (O := O) (f := kdT P n) (n := m) (cs := cs) (fun t ks cs d p h1 h2 h3 => trod_kd hO n t ks m cs d p h1 h2 h3) (fs.toList.map fun f => (f.type, f.offset)) 0 k1 xs hk1 (by simp [hxl]) (fun i t o hi => by
          rw [List.getElem?_map, Option.map_eq_some_iff] at hi
          obtain ⟨f, hf, he⟩ := hi
          simp only [Prod.mk.injEq] at he
          obtain ⟨rfl, rfl⟩ := he
          exact hall i f (by simpa using hf)) (fun i t o x hi hx y hy => by
          rw [List.getElem?_map, Option.map_eq_some_iff] at hi
          obtain ⟨f, hf, he⟩ := hi
          simp only [Prod.mk.injEq] at he
          obtain ⟨rfl, rfl⟩ := he
          exact hw y (mem_each (i := i) (by rw [List.getElem?_map, hf]; rfl) (by rw [List.getElem?_map, hx]; rfl) y hy))
      obtain ⟨g, hg⟩ := key
      rw [List.drop_zero, List.take_of_length_le (by omega)] at hg
      exact ⟨g, hg⟩
    · rename_i m0 e hu
      split at h
      case h_2 => cases h
      rename_i k1 hk1
      split at h
      case h_2 => cases h
      rename_i hc
      have hc := Nat.eq_of_beq_eq_true hc
      simp only [Option.some.injEq] at h
      subst h
      obtain ⟨xs, m, _, hx, hcl, hxl, hall⟩ := DataW.trod_array hu ht
      simp only [Prod.mk.injEq] at hx
      obtain ⟨rfl, _⟩ := hx
      simp only [DataW.weights, hu] at hw
      have key := parts_cells (enc := enc) (P := P) (w := w) (base := base) (sp := sp) (held := held) (O := O) (f := kdT P n) (n := m) (cs := cs) (fun t ks cs d p h1 h2 h3 => trod_kd hO n t ks m cs d p h1 h2 h3) ((List.range m0).map fun i => (e, i * P.cellsOf e)) 0 k1 xs hk1 (by simp [hxl]) (fun i t o hi => by
          rw [List.getElem?_map, Option.map_eq_some_iff] at hi
          obtain ⟨f, hf, he⟩ := hi
          simp only [Prod.mk.injEq] at he
          obtain ⟨rfl, rfl⟩ := he
          have hfi := List.getElem?_eq_some_iff.1 hf
          obtain ⟨hl, he⟩ := hfi
          rw [List.getElem_range] at he
          subst he
          exact hall i (by simpa using hl)) (fun i t o x hi hx y hy => by
          rw [List.getElem?_map, Option.map_eq_some_iff] at hi
          obtain ⟨f, hf, he⟩ := hi
          simp only [Prod.mk.injEq] at he
          obtain ⟨rfl, rfl⟩ := he
          exact hw y (mem_allW (List.mem_map_of_mem (List.mem_of_getElem? hx)) y hy))
      obtain ⟨g, hg⟩ := key
      rw [List.drop_zero, List.take_of_length_le (by omega)] at hg
      exact ⟨g, hg⟩
    · cases h

end
end Go.FM

/-
  A LAW's ROW: out of what the small machine says of the law's function; over this program.
-/
namespace Go.FM
open Go Go.Proofs Go.RowKit Go.ChangeShapes Go.WideShapes

/-! ### arguments -/
def vOf : Kd → IV → V
  | .int k, x => .int k x.toInt
  | .bool, x => .bool x.toBool
  | .str, x => .str x.toStr
  | .list ag ks, x => .list ag ks x.toList
set_option maxRecDepth 100000 in
theorem vOf_rel {γ : Nat → Value} {o : Store} {w : World} {O : Nat → Prop} {k : Kd} {x : IV} {v : Value} (h : Kd.Rel w O k x v) : VRel γ o w O (vOf k x) v := by
  cases k with
  | int k => simpa only [vOf, VRel, Kd.Rel] using h
  | bool => simpa only [vOf, VRel, Kd.Rel] using h
  | str => simpa only [vOf, VRel, Kd.Rel] using h
  | list ag ks =>
    simp only [vOf, VRel]
    simpa only [Kd.Rel, IV.toList] using h
def vsOf : List Kd → List IV → List V
  | k :: ks, x :: f => vOf k x :: vsOf ks f
  | _, _ => []
set_option maxRecDepth 100000 in
theorem vsOf_rel {γ : Nat → Value} {o : Store} {w : World} {O : Nat → Prop} : ∀ {ks : List Kd} {f : List IV} {cs : List Value}, CellsK w O ks f cs → VRels γ o w O (vsOf ks f) cs
  | [], [], [], _ => by simp only [vsOf, VRels]
  | _ :: _, _ :: _, _ :: _, h => by
    simp only [CellsK] at h
    simp only [vsOf, VRels]
    exact ⟨vOf_rel h.1, vsOf_rel h.2⟩
  | [], _ :: _, _, h => by simp [CellsK] at h
  | [], [], _ :: _, h => by simp [CellsK] at h
  | _ :: _, [], _, h => by simp [CellsK] at h
  | _ :: _, _ :: _, [], h => by simp [CellsK] at h
set_option maxRecDepth 100000 in
theorem CellsK.len {w : World} {O : Nat → Prop} : ∀ {ks : List Kd} {f : List IV} {cs : List Value}, CellsK w O ks f cs → f.length = ks.length
  | [], [], [], _ => rfl
  | _ :: _, _ :: _, _ :: _, h => by
    simp only [CellsK] at h
    simp only [List.length_cons, h.2.len]
  | [], _ :: _, _, h => by simp [CellsK] at h
  | [], [], _ :: _, h => by simp [CellsK] at h
  | _ :: _, [], _, h => by simp [CellsK] at h
  | _ :: _, _ :: _, [], h => by simp [CellsK] at h

section
variable {H : Type} {enc : TypeId × Value → H} {P : Program} {W : World} {base b0 : Nat} {sp : Nat → Bool} {held : Bool}
set_option maxRecDepth 100000 in
/-- A struct. -/
theorem arg_agg {n : Nat} {t : TypeId} {ks : List Kd} {v : Value} {d : DataW H} {p : List MemPlace} (hk : kdT P n t = some ks) (hu : agT P t = true) (hval : Value.okWide P W .any base t v)
    (h : DataW.Trod enc P W b0 sp held t v d p) (hw : ∀ y ∈ d.weights P t, y ≤ reachBytes) : ∃ g : List IV, g.length = ks.length ∧ VRel γ0 [] W O0 (.agg (vsOf ks g)) v := by
  obtain ⟨cs, rfl⟩ : ∃ cs, v = .agg cs := by
    unfold agT at hu
    unfold Value.okWide at hval
    split at hu
    · rename_i hh; rw [hh] at hval; exact hval.imp (fun _ h => h.1)
    · rename_i hh; rw [hh] at hval; exact hval.imp (fun _ h => h.1)
    · cases hu
  obtain ⟨fuel, hf⟩ := h
  obtain ⟨g, hg⟩ := trod_kd (O := O0) O0_no n t ks fuel _ d p hk hf hw
  refine ⟨g, hg.len, ?_⟩
  simp only [VRel]
  exact ⟨cs, rfl, vsOf_rel hg⟩
set_option maxRecDepth 100000 in
/-- A value of one cell. -/
theorem arg_one {n : Nat} {t : TypeId} {k : Kd} {v : Value} {d : DataW H} {p : List MemPlace} (hk : kdT P n t = some [k]) (hu : agT P t = false) (hval : Value.okWide P W .any base t v)
    (h : DataW.Trod enc P W b0 sp held t v d p) (hw : ∀ y ∈ d.weights P t, y ≤ reachBytes) : ∃ x : IV, VRel γ0 [] W O0 (vOf k x) v := by
  obtain ⟨fuel, hf⟩ := h
  obtain ⟨g, hg⟩ := trod_kd (O := O0) O0_no n t [k] fuel _ d p hk hf hw
  have hc : v.cells.toList = [v] := by
    cases v with
    | agg cs =>
      exfalso
      unfold agT at hu
      unfold Value.okWide at hval
      split at hu
      · cases hu
      · cases hu
      · rename_i h1 h2
        split at hval
        · rename_i hh; exact h1 _ hh
        · rename_i hh; exact h2 _ _ hh
        · unfold Cell.okWide Cell.ok at hval
          split at hval <;> first | (split at hval <;> simp_all) | simp_all
    | _ => rfl
  rw [hc] at hg
  match g, hg with
  | [x], hg =>
    simp only [CellsK, and_true] at hg
    exact ⟨x, vOf_rel hg⟩

set_option maxRecDepth 100000 in
theorem trodAll_below (hl : laidOutB P = true) {W' : World} (hb : Below W.heap.size W W') : ∀ {ts : List TypeId} {vs : List Value} {ds : List (DataW H)} {ps : List MemPlace}, DataW.TrodAll enc P W 0 (fun _ => true) true ts vs ds ps →
    (∀ t ∈ ts, P.readableRec t = true ∧ t < P.types.size) → (∀ x ∈ ps, x.block < W.heap.size) → DataW.TrodAll enc P W' 0 (fun b => decide (b < W.heap.size)) true ts vs ds ps
  | [], vs, ds, ps, h, _, _ => by
    obtain ⟨rfl, rfl, rfl⟩ := trodAll_nil h
    rfl
  | t :: ts, vs, ds, ps, h, ht, hp => by
    obtain ⟨v, vs1, d, ds1, a, b, rfl, rfl, rfl, h1, h2⟩ := trodAll_cons h
    have hh := ht t (List.mem_cons_self ..)
    exact ⟨a, b, Below.trod hl hh.1 hh.2 h1 hb (fun x hx => hp x (List.mem_append.2 (.inl hx))), trodAll_below hl hb h2 (fun t' h' => ht t' (List.mem_cons_of_mem _ h')) (fun x hx => hp x (List.mem_append.2 (.inr hx))), rfl⟩
end

set_option maxRecDepth 100000 in
theorem seatOwn : ownKnob Try.prog.godebug = none := by kernel_rfl
set_option maxRecDepth 100000 in
theorem seatLaidOut : laidOutB Try.prog = true := by kernel_rfl

set_option maxRecDepth 100000 in
/-- A law's row: the call is true whatever comes. -/
theorem law_lifted {os : Os} (started : os.Started) {H : Type} {enc : TypeId × Value → H} {spec : ChangeSpec} {f : Nat} {fn : Func} {sp : RSpec} {laid : List (String × DataW Unit)} (hS : SndR PR B0 f sp) (hf : Try.prog.funcs[f]? = some fn)
    (hn : (fn.name == "runtime.NumGoroutine") = false) (hb : fn.body.isNone = false) (hini : Try.prog.inits.idxOf? f = none) (hres : fn.resultTypes = #[4]) (hvars : spec.vars = [])
    (hspec : ∀ (ds : List (DataW H)), ds.length = fn.params.toList.length → spec.fn H ds = { results := [.lit (.bool true)], args := ds })
    (hpar : fn.params.toList.all (fun t => Try.prog.readableRec t && decide (t < Try.prog.types.size)) = true)
    (hglob : ∀ W : World, laidMetH Try.prog laid W → W.ShapedOpen Try.prog → Glob B0 W)
    (witness : ∃ (w : World) (tape : Tape) (i : Input), w.os = os ∧ (w.forCall tape i).Shaped Try.prog ∧ i.vars = [] ∧ Input.okWide Try.prog (w.forCall tape i) .any w.heap.size f i ∧
      (OpenSpec.ofChange spec).preRow enc Try.prog fn [] false laid (w.forCall tape i).memory i.args ∧ ({} : Assume).holds Try.prog (lone (Frame.enter Try.prog f i.args .normal) [] (w.forCall tape i)))
    (harg : ∀ (W : World) (base : Nat) (vs : List Value) (ds : List (DataW H)) (p : List MemPlace), DataW.TrodAll enc Try.prog W 0 (fun _ => true) true fn.params.toList vs ds p →
      (∀ (j : Nat) t v, fn.params.toList[j]? = some t → vs[j]? = some v → Value.okWide Try.prog W .any base t v) →
      (∀ (j : Nat) t d, fn.params.toList[j]? = some t → ds[j]? = some d → ∀ y ∈ d.weights Try.prog t, y ≤ reachBytes) →
      ∃ l : List V, (sp l).get = some (.bool true, []) ∧ borOf l = none ∧ VRels γ0 [] W O0 (l.map entV) vs) :
    ReturnsInHanded {} Try.checked os f .any ((OpenSpec.ofChange spec).preRow enc Try.prog fn [] false laid) (spec.post enc Try.prog fn false true false false) := by
  refine returnsInHanded_of_row (C := Try.checked) (s := OpenSpec.ofChange spec) (F := fun _ _ _ => 0) seatOwn started hini hf witness ?_
  intro W base args ds gs before hval hW _ _ hwt hL hsh _
  have hW' := hW
  obtain ⟨p, q, hA, hV, rfl, _, _⟩ := hW
  have hvars' : (OpenSpec.ofChange spec).vars = [] := hvars
  rw [hvars'] at hV
  obtain ⟨rfl, rfl⟩ := trodVars_none hV
  have hlen : ds.length = fn.params.toList.length := by
    have : ∀ {ts : List TypeId} {vs : List Value} {ds : List (DataW H)} {ps : List MemPlace}, DataW.TrodAll enc Try.prog W 0 (fun _ => true) true ts vs ds ps → ds.length = ts.length := by
      intro ts
      induction ts with
      | nil => intro vs ds ps h; obtain ⟨_, rfl, _⟩ := trodAll_nil h; rfl
      | cons t ts ih =>
        intro vs ds ps h
        obtain ⟨v, vs1, d, ds1, a, b, rfl, rfl, rfl, h1, h2⟩ := trodAll_cons h
        simp only [List.length_cons, ih h2]
    exact this hA
  simp only [List.append_nil] at hW' hwt
  obtain ⟨l, hl, hbor, hrel⟩ := harg W base args.toList ds p hA (fun j t v h1 h2 => hval j t v (by simpa using h1) (by simpa using h2)) (fun j t d h1 h2 y hy => by
    have hm := mem_each (P := Try.prog) (ts := fn.params.toList ++ (OpenSpec.ofChange spec).bare.plain.varTypes Try.prog) (ds := ds) (i := j) (t := t) (d := d) (by
      rw [List.getElem?_append_left (by rw [← hlen]; exact (List.getElem?_eq_some_iff.1 h2).1)]
      exact h1) h2 y hy
    have := List.all_eq_true.1 hwt y hm
    simpa using this)
  have hc := calls_true hS hf hn hb hl hbor (hglob W hL hsh) hrel
  have ea : args.toList.toArray = args := by simp
  rw [ea] at hc
  refine hc.mono ?_
  rintro e W' ⟨rfl, bel⟩
  have hfn : spec.fn H (ds ++ []) = { results := [.lit (.bool true)], args := ds } := by rw [List.append_nil]; exact hspec ds hlen
  have hlt : ∀ x ∈ p, x.block < W.heap.size := fun x hx => hW'.lt x hx
  have post : spec.post enc Try.prog fn false true false false W args (.bool true) W' := by
    refine ⟨ds, [], p, [], p, [], hW', ?_, ?_, ?_, bel.frame _, fun h => by cases h⟩
    · rw [hfn, hres]
      exact trodAll_mk1 (shut_bool Try.underlying4 _)
    · rw [hfn]
      exact trodAll_below seatLaidOut bel hA (fun t ht => by
        have := List.all_eq_true.1 hpar t ht
        simpa using this) hlt
    · rw [hvars, hfn]
      rfl
  exact ⟨_, rfl, post⟩

end Go.FM

/-
  THE SEAT's OWN WORLD: the door's heap; no variable is laid.
-/
namespace Go.Proofs.Ytlfpmpdmoggdhaa
open Go Go.ChangeShapes Go.WideShapes Go.ChangeAt Go.RowKit Go.FM

noncomputable def seatWorld (os : Os) : World := World.doorLaid Try.prog 72 os
theorem seat_met (os : Os) (args : Array Value) : laidMetH Try.prog [] ((seatWorld os).forCall (fun _ _ => 0) ⟨#[], args, []⟩).memory :=
  laidMetH_of_parts3 (fuel := 8) (laidMet_of_run' 8 (by kernel_rfl) (by kernel_rfl)) (by kernel_rfl) (by kernel_rfl)
theorem seat_glob {W : World} (_ : laidMetH Try.prog [] W) (_ : W.ShapedOpen Try.prog) : Glob B0 W := ⟨Nat.zero_le _, ⟨trivial⟩⟩

end Go.Proofs.Ytlfpmpdmoggdhaa
