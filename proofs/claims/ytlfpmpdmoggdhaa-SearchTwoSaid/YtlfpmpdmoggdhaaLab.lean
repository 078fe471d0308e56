/-
  tree's AND model's 'Right' COME TO WHAT IS SAID.

-/
import Derived.Test.YtlfpmpdmoggdhaaLaa

/-
  tree's AND model's 'Right' COME TO WHAT IS SAID.
-/
namespace Go.FM
open Go Go.Proofs

/-! ### tree.Right -/
theorem named_take {l : List IV} {i : Nat} {w : IV} (h : l[i]? = some w) (j : Nat) : namedBy (l.take (i + 1)) j = namedBy (l.take i) j + named1 (nodeN w.toInt) j := by
  unfold namedBy
  rw [List.take_add_one, h]
  simp
theorem named1_le (x : Nd) (j : Nat) : named1 x j ≤ 2 := by
  unfold named1
  cases x.lf
  · simp only [cond_false]
    split <;> split <;> omega
  · simp only [cond_true]
    omega
theorem named_le : ∀ (l : List IV) (j : Nat), namedBy l j ≤ 2 * l.length
  | [], _ => Nat.le_refl _
  | w :: l, j => by
    have := named_le l j
    have := named1_le (nodeN w.toInt) j
    unfold namedBy at *
    simp only [List.map_cons, List.sum_cons, List.length_cons]
    omega
def NM (l : List IV) (i : Nat) : List IV := (List.range l.length).map fun j => IV.int (namedBy (l.take i) j : Nat)
theorem NM_len (l : List IV) (i : Nat) : (NM l i).length = l.length := by simp [NM]
theorem NM_get (l : List IV) (i : Nat) {j : Nat} (h : j < l.length) : (NM l i)[j]? = some (IV.int (namedBy (l.take i) j : Nat)) := by
  unfold NM
  rw [List.getElem?_map, List.getElem?_range h]
  rfl
theorem NM_zero (l : List IV) : NM l 0 = List.replicate l.length (IV.int 0) := by
  apply List.ext_getElem?
  intro j
  by_cases h : j < l.length
  · rw [NM_get l 0 h, List.getElem?_replicate, if_pos h]
    simp [namedBy]
  · rw [List.getElem?_eq_none (by rw [NM_len]; omega), List.getElem?_eq_none (by simp; omega)]
theorem NM_leaf {l : List IV} {i : Nat} {w : IV} (h : l[i]? = some w) (hl : (nodeN w.toInt).lf = true) : NM l (i + 1) = NM l i := by
  unfold NM
  congr 1
  funext j
  rw [named_take h]
  unfold named1
  rw [hl]
  rfl
theorem NM_fork {l : List IV} {i : Nat} {w : IV} (h : l[i]? = some w) (hl : (nodeN w.toInt).lf = false) (hn : l.length ≤ 31) {a b : Nat} (ha : (nodeN w.toInt).l = (a : Int)) (hb : (nodeN w.toInt).r = (b : Int)) (hab : a ≠ b) (al : a < l.length) (bl : b < l.length) :
    ((NM l i).set a (IV.int (IntKind.wrap IntKind.i64 (((NM l i).getD a default).toInt + 1)))).set b (IV.int (IntKind.wrap IntKind.i64 ((((NM l i).set a (IV.int (IntKind.wrap IntKind.i64 (((NM l i).getD a default).toInt + 1)))).getD b default).toInt + 1))) = NM l (i + 1) := by
  have hil : i < l.length := (List.getElem?_eq_some_iff.1 h).1
  have hsm : ∀ j, namedBy (l.take i) j ≤ 62 := fun j => by
    have := named_le (l.take i) j
    rw [List.length_take] at this
    omega
  have ga : ((NM l i).getD a default).toInt = (namedBy (l.take i) a : Nat) := by
    rw [List.getD_eq_getElem?_getD, NM_get l i al]
    rfl
  have gb : (((NM l i).set a (IV.int (IntKind.wrap IntKind.i64 (((NM l i).getD a default).toInt + 1)))).getD b default).toInt = (namedBy (l.take i) b : Nat) := by
    rw [List.getD_eq_getElem?_getD, List.getElem?_set_ne hab, NM_get l i bl]
    rfl
  rw [gb, ga, wrap_id (by omega) (by have := hsm a; omega), wrap_id (by omega) (by have := hsm b; omega)]
  apply List.ext_getElem?
  intro j
  by_cases hj : j < l.length
  · rw [NM_get l (i + 1) hj, named_take h]
    have e : named1 (nodeN w.toInt) j = (if a = j then 1 else 0) + (if b = j then 1 else 0) := by
      unfold named1
      rw [hl, ha, hb, cond_false]
      have e1 : ((a : Int) = (j : Int)) ↔ a = j := by omega
      have e2 : ((b : Int) = (j : Int)) ↔ b = j := by omega
      simp only [e1, e2]
    rw [e]
    by_cases h1 : b = j
    · subst h1
      rw [List.getElem?_set_self (by rw [List.length_set, NM_len]; exact bl), if_neg hab, if_pos rfl]
      congr 2
    · rw [List.getElem?_set_ne h1]
      by_cases h2 : a = j
      · subst h2
        rw [List.getElem?_set_self (by rw [NM_len]; exact al), if_pos rfl, if_neg h1]
        congr 2
      · rw [List.getElem?_set_ne h2, NM_get l i hj, if_neg h1, if_neg h2]
        congr 2
  · rw [List.getElem?_eq_none (by rw [List.length_set, List.length_set, NM_len]; omega), List.getElem?_eq_none (by rw [NM_len]; omega)]

abbrev xstT (l : List IV) (dim : Int) (b : Bool) (i : Int) (nm : List IV) : St :=
  ⟨[(0, (.list false [(.int .u64)] l)), (1, (.int .i64 dim)), (4, (.bool b)), (5, (.row 22 0 l.length)), (23, (.list false [(.int .u64)] l)), (24, (.int .i64 (ic l.length))), (25, (.int .i64 i))], [(22, (some (.row true 3 false [(.int .i64)] nm)))]⟩

theorem cond_ff {α : Type _} (b : Bool) (x : α) : cond b x x = x := by cases b <;> rfl

theorem tree_run (N : Nat) (l : List IV) (dim : Int) (hl : l.length ≤ 31) (K : Out → St → Res) (hK : ∀ i nm, K .ret (xstT l dim false i nm) = some (.bool false, [])) : ∀ (d i n : Nat), i + d = l.length → d < n →
    lpE (E_tree_Right N) (subC c_tree_Right [1, 1, 1, 0, 1, 0, 0]) ⟨[0, 1, 4, 5, 23, 24, 25], [22], []⟩ n (xstT l dim false (i : Int) (NM l i)) K =
      cond (nodesB dim (ic l.length) i (l.drop i)) (K (.exit 0) (xstT l dim false (ic l.length) (NM l l.length))) (some (.bool false, []))
  | d, i, 0, _, h => absurd h (by omega)
  | 0, i, n + 1, hd, _ => by
    have hi : i = l.length := by omega
    subst hi
    rw [lpE_succ, st_tree_Right_1]
    rw [decide_eq_false (show ¬ ((l.length : Nat) : Int) < ic l.length by simp only [ic]; omega), condF, List.drop_length]
    rfl
  | d + 1, i, n + 1, hd, hn => by
    have hil : i < l.length := by omega
    have hw : l[i]? = some l[i] := List.getElem?_eq_getElem hil
    rw [lpE_succ, st_tree_Right_1, List.drop_eq_getElem_cons hil]
    have hg : l.getD (Int.toNat (i : Int)) default = l[i] := by
      rw [Int.toNat_natCast, List.getD_eq_getElem?_getD, hw]
      rfl
    rw [hg]
    generalize l[i] = w at hw ⊢
    have ei : IntKind.wrap IntKind.i64 ((i : Int) + 1) = ((i + 1 : Nat) : Int) := by
      rw [wrap_id (by omega) (by omega)]
      omega
    rw [ei, decide_eq_true (show (i : Int) < ic l.length by simp only [ic]; omega), condT, decide_eq_true (show (0 : Int) ≤ (i : Int) by omega), Bool.and_self, condT]
    unfold nodesB
    cases hb : nodeB w.toInt with
    | false =>
      simp only [Bool.not_false, condT, Bool.false_and, condF]
      exact hK (i : Int) (NM l i)
    | true =>
      simp only [Bool.not_true, condF, Bool.true_and]
      unfold forkB
      cases hlf : (nodeN w.toInt).lf with
      | true =>
        simp only [condT, Bool.true_and]
        rw [← NM_leaf hw hlf]
        exact tree_run N l dim hl K hK d (i + 1) n (by omega) (by omega)
      | false =>
        simp only [condF]
        cases h1 : decide ((nodeN w.toInt).f ≥ dim) with
        | true =>
          simp only [condT, Bool.not_true, Bool.false_and, condF]
          exact hK (i : Int) (NM l i)
        | false =>
        cases h2 : ((nodeN w.toInt).l == (nodeN w.toInt).r) with
        | true =>
          simp only [condT, condF, Bool.not_true, Bool.not_false, Bool.false_and, Bool.and_false]
          exact hK (i : Int) (NM l i)
        | false =>
        cases h3 : decide (min (nodeN w.toInt).l (nodeN w.toInt).r ≤ (i : Int)) with
        | true =>
          simp only [condT, condF, Bool.not_true, Bool.not_false, Bool.false_and, Bool.and_false]
          exact hK (i : Int) (NM l i)
        | false =>
        cases h4 : decide (max (nodeN w.toInt).l (nodeN w.toInt).r ≥ ic l.length) with
        | true =>
          simp only [condT, condF, Bool.not_true, Bool.not_false, Bool.false_and, Bool.and_false]
          exact hK (i : Int) (NM l i)
        | false =>
          have g2 : (nodeN w.toInt).l ≠ (nodeN w.toInt).r := beq_eq_false_iff_ne.1 h2
          have g3 := of_decide_eq_false h3
          have g4 := of_decide_eq_false h4
          simp only [ic] at g4
          obtain ⟨a, ha⟩ : ∃ a : Nat, (nodeN w.toInt).l = (a : Int) := ⟨(nodeN w.toInt).l.toNat, by omega⟩
          obtain ⟨b, hb'⟩ : ∃ b : Nat, (nodeN w.toInt).r = (b : Int) := ⟨(nodeN w.toInt).r.toNat, by omega⟩
          have hab : a ≠ b := fun e => g2 (by rw [ha, hb', e])
          have al : a < l.length := by omega
          have bl : b < l.length := by omega
          have hN := NM_fork hw hlf hl ha hb' hab al bl
          rw [ha, hb']
          rw [decide_eq_true (show (0 : Int) ≤ (a : Int) by omega), decide_eq_true (show (0 : Int) ≤ (b : Int) by omega), decide_eq_true (show (a : Int) < ic (l.length - 0) by simp only [ic]; omega), decide_eq_true (show (b : Int) < ic (l.length - 0) by simp only [ic]; omega)]
          simp only [condT, condF, Bool.not_false, Bool.and_self, Bool.true_and, Int.toNat_natCast, Nat.zero_add]
          refine Eq.trans ?_ (tree_run N l dim hl K hK d (i + 1) n (by omega) (by omega))
          rw [← hN]
          rfl

abbrev xstU (l : List IV) (b : Bool) (j : Int) : St :=
  ⟨[(4, (.bool b)), (85, (.row 22 1 (0 + (l.length - 0)))), (86, (.int .i64 (ic (0 + (l.length - 0) - 1)))), (87, (.int .i64 j))], [(22, (some (.row true 3 false [(.int .i64)] (NM l l.length))))]⟩
theorem once_run (N : Nat) (l : List IV) (hl : l.length ≤ 31) : ∀ (d j n : Nat), j + d = l.length - 1 → d < n →
    lpE (E_tree_Right N) (subC c_tree_Right [1, 1, 1, 1, 0, 1, 0, 0]) ⟨[4, 85, 86, 87], [22], []⟩ n (xstU l false (j : Int)) (kBlock 2 (kSq (E_tree_Right N) (subC c_tree_Right [1, 1, 1, 1, 1]) (outT (E_tree_Right N) none [(ResultVar.tmp 4)] [[.bool]]))) =
      some (.bool ((List.range' j d).all fun j => namedBy l (j + 1) == 1), [])
  | d, j, 0, _, h => absurd h (by omega)
  | 0, j, n + 1, hd, _ => by
    rw [lpE_succ, st_tree_Right_2, decide_eq_false (show ¬ (j : Int) < ic (0 + (l.length - 0) - 1) by simp only [ic]; omega), condF]
    exact ex_tree_Right_2_1 N false _ _ _ _
  | d + 1, j, n + 1, hd, hn => by
    have ej : IntKind.wrap IntKind.i64 ((j : Int) + 1) = ((j + 1 : Nat) : Int) := by
      rw [wrap_id (by omega) (by omega)]
      omega
    rw [lpE_succ, st_tree_Right_2, ej, decide_eq_true (show (j : Int) < ic (0 + (l.length - 0) - 1) by simp only [ic]; omega), condT, decide_eq_true (show (0 : Int) ≤ (j : Int) by omega), Bool.and_self, condT]
    have hg : ((NM l l.length).getD (1 + Int.toNat (j : Int)) default).toInt = (namedBy l (j + 1) : Nat) := by
      rw [Int.toNat_natCast, Nat.add_comm 1 j, List.getD_eq_getElem?_getD, NM_get l l.length (by omega), List.take_length]
      rfl
    rw [hg, List.range'_succ, List.all_cons]
    have e : (((namedBy l (j + 1) : Nat) : Int) != 1) = !(namedBy l (j + 1) == 1) := by
      show (!(((namedBy l (j + 1) : Nat) : Int) == 1)) = _
      congr 1
      rw [Bool.eq_iff_iff, beq_iff_eq, beq_iff_eq]
      omega
    rw [e]
    cases (namedBy l (j + 1) == 1) with
    | false =>
      rw [Bool.not_false, condT]
      exact ex_tree_Right_2_2 N false _ _ _ _
    | true =>
      rw [Bool.not_true, condF, Bool.true_and]
      exact once_run N l hl d (j + 1) n (by omega) (by omega)

theorem tree_exit (N : Nat) (l : List IV) (dim : Int) (hl : l.length ≤ 31) (h1 : 1 ≤ l.length) (hN : 40 ≤ N) (i : Int) :
    (kBlock 0 (kSq (E_tree_Right N) (subC c_tree_Right [1, 1, 1, 1]) (outT (E_tree_Right N) none [(ResultVar.tmp 4)] [[.bool]]))) (.exit 0) (xstT l dim false i (NM l l.length)) = some (.bool (onceB l), []) := by
  refine (ex_tree_Right_1_1 N l dim false l.length l (ic l.length) i (NM l l.length)).trans ?_
  rw [decide_eq_true (show (0 : Nat) ≤ 1 by omega), decide_eq_true (show (1 : Int) ≤ ic (l.length - 0) by simp only [ic]; omega), Bool.and_self, condT]
  have := once_run N l hl (l.length - 1) 0 N (by omega) (by omega)
  refine this.trans ?_
  unfold onceB
  rw [List.range_eq_range']

set_option maxRecDepth 100000 in
theorem snd_tree_Right : SndR PR B0 52 S_tree_Right := by
  refine snd_mk [(66, S_node_Unpack)] [(5, ⟨[0, 1, 4, 5, 23, 24, 25], [22], []⟩), (17, ⟨[4, 85, 86, 87], [22], []⟩)] S_tree_Right [[.bool]] Try.func52 h_tree_Right ⟨snd_node_Unpack, trivial⟩ ?_
  intro vs r hwf h
  unfold S_tree_Right at h
  split at h
  · rename_i l dim
    refine ⟨40, ?_⟩
    rw [R.get_ok] at h
    rw [← h]
    refine (nf_tree_Right 40 l dim).trans ?_
    unfold treeB
    by_cases h1 : 1 ≤ l.length
    · by_cases h2 : l.length ≤ 31
      · have eb : ic (TI.bytes (Env.tyd (E_tree_Right 40) 3)) = 8 := rfl
        rw [decide_eq_false (show ¬ ic l.length < 1 by simp only [ic]; omega), decide_eq_false (show ¬ ic l.length > 31 by simp only [ic]; omega), condF, condF, eb,
          decide_eq_true (show (0 : Int) ≤ ic l.length by simp only [ic]; omega), decide_eq_true (show ic l.length = ic l.length from rfl), decide_eq_true (show ic l.length * 8 ≤ ic bytesMax by unfold bytesMax; simp only [ic]; omega)]
        have e0 : (Nat.blt 0 (TI.size (Env.tyd (E_tree_Right 40) 3)) && (Nat.blt 3 1000000 && true) && (true && true)) = true := rfl
        have e1 : Int.toNat (ic l.length) = l.length := by simp only [ic]; omega
        rw [e0, condT, e1, ← NM_zero, Nat.ble_eq_true_of_le h1, Nat.ble_eq_true_of_le h2]
        refine (tree_run 40 l dim h2 _ (fun i nm => ?_) l.length 0 40 (by omega) (by omega)).trans ?_
        · exact ex_tree_Right_1_2 40 l dim false l.length l (ic l.length) i nm
        · rw [List.drop_zero, tree_exit 40 l dim h2 h1 (by omega)]
          cases nodesB dim (ic l.length) 0 l <;> rfl
      · have e : Nat.ble l.length 31 = false := by
          cases hb : Nat.ble l.length 31 with
          | false => rfl
          | true => exact absurd (Nat.le_of_ble_eq_true hb) h2
        rw [decide_eq_false (show ¬ ic l.length < 1 by simp only [ic]; omega), decide_eq_true (show ic l.length > 31 by simp only [ic]; omega), condF, condT, e, Bool.and_false, Bool.false_and]
    · have e : Nat.ble 1 l.length = false := by
        cases hb : Nat.ble 1 l.length with
        | false => rfl
        | true => exact absurd (Nat.le_of_ble_eq_true hb) h1
      rw [decide_eq_true (show ic l.length < 1 by simp only [ic]; omega), condT, e, Bool.false_and, Bool.false_and]
  · simp [R.get] at h

/-! ### model.Right -/
set_option maxRecDepth 100000 in
theorem snd_model_Right_1 : SndR PR B0 51 S_model_Right_1 := by
  refine snd_mk [(52, S_tree_Right)] [] S_model_Right_1 [[.bool]] Try.func51 h_model_Right_1 ⟨snd_tree_Right, trivial⟩ ?_
  intro vs r hwf h
  unfold S_model_Right_1 at h
  split at h
  · rename_i k l d c b0 b1 b2 ts
    refine ⟨0, ?_⟩
    rw [R.get_ok] at h
    rw [← h]
    refine (nf_model_Right_1 0 k l d c b0 b1 b2 ts).trans ?_
    have e : treeOK d c (.agg [.int k, .list l]) = (!(decide (k < 0)) && (!(decide (k ≥ c)) && treeB l d)) := rfl
    rw [e]
    cases decide (k < 0) with
    | true => rfl
    | false =>
      cases decide (k ≥ c) with
      | true => rfl
      | false => rfl
  · simp [R.get] at h

abbrev xstI (l : List IV) (d c b0 b1 b2 : Int) (ts : List IV) (r i : Int) : St :=
  ⟨[(0, (.list true [(.int .i64), (.list false [(.int .u64)])] l)), (1, (.clo 51 [(.ptr 900000 0 0)])), (4, (.int .i64 r)), (7, (.int .i64 (ic l.length))), (8, (.int .i64 i))], [(900000, (some (.box [(.int .i64 d), (.int .i64 c), (.int .i64 b0), (.int .i64 b1), (.int .i64 b2), (.list true [(.int .i64), (.list false [(.int .u64)])] ts)])))]⟩
theorem treeOK_eta (d c : Int) (t : IV) : treeOK d c (.agg [.int (IV.toInt (IV.cell t 0)), .list (IV.toList (IV.cell t 1))]) = treeOK d c t := rfl
theorem index_run (N : Nat) (l : List IV) (hl : l.length ≤ strMax) (d c b0 b1 b2 : Int) (ts : List IV) : ∀ (m i n : Nat), i + m = l.length → m < n →
    lpE (E_slices_IndexFunc_apiTreeapiTree N) (subC c_slices_IndexFunc_apiTreeapiTree [1, 0, 1, 0, 0]) ⟨[0, 1, 4, 7, 8], [900000], []⟩ n (xstI l d c b0 b1 b2 ts 0 (i : Int)) (kBlock 0 (kSq (E_slices_IndexFunc_apiTreeapiTree N) (subC c_slices_IndexFunc_apiTreeapiTree [1, 1]) (outT (E_slices_IndexFunc_apiTreeapiTree N) (some [(.int .i64 d), (.int .i64 c), (.int .i64 b0), (.int .i64 b1), (.int .i64 b2), (.list true [(.int .i64), (.list false [(.int .u64)])] ts)]) [(ResultVar.tmp 4)] [[(.int .i64)]]))) =
      some (.int .i64 (idxBad d c (l.drop i) (i : Int)), [[(.int .i64 d), (.int .i64 c), (.int .i64 b0), (.int .i64 b1), (.int .i64 b2), (.list true kTree ts)]])
  | m, i, 0, _, h => absurd h (by omega)
  | 0, i, n + 1, hd, _ => by
    have hi : i = l.length := by omega
    subst hi
    rw [lpE_succ, st_slices_IndexFunc_apiTreeapiTree_1, decide_eq_false (show ¬ ((l.length : Nat) : Int) < ic l.length by simp only [ic]; omega), condF, List.drop_length]
    exact ex_slices_IndexFunc_apiTreeapiTree_1_1 N d c b0 b1 b2 ts l 0 (ic l.length) (l.length : Int) d c b0 b1 b2 ts
  | m + 1, i, n + 1, hd, hn => by
    have hil : i < l.length := by omega
    have m' : strMax = 140737488355327 := rfl
    have ei : IntKind.wrap IntKind.i64 ((i : Int) + 1) = ((i + 1 : Nat) : Int) := by
      rw [wrap_id (by omega) (by omega)]
      omega
    have hg : l.getD (Int.toNat (i : Int)) default = l[i] := by
      rw [Int.toNat_natCast, List.getD_eq_getElem?_getD, List.getElem?_eq_getElem hil]
      rfl
    rw [lpE_succ, st_slices_IndexFunc_apiTreeapiTree_1, ei, hg, treeOK_eta, decide_eq_true (show (i : Int) < ic l.length by simp only [ic]; omega), condT, decide_eq_true (show (0 : Int) ≤ (i : Int) by omega), Bool.and_self, condT, List.drop_eq_getElem_cons hil, idxBad]
    cases treeOK d c l[i] with
    | true =>
      rw [Bool.not_true, condF, condT]
      exact index_run N l hl d c b0 b1 b2 ts m (i + 1) n (by omega) (by omega)
    | false =>
      rw [Bool.not_false, condT, condF]
      exact ex_slices_IndexFunc_apiTreeapiTree_1_2 N d c b0 b1 b2 ts l (i : Int) (ic l.length) (i : Int) d c b0 b1 b2 ts

set_option maxRecDepth 100000 in
theorem snd_slices_IndexFunc_apiTreeapiTree : SndR PR B0 65 S_slices_IndexFunc_apiTreeapiTree := by
  refine snd_mk [(51, S_model_Right_1)] [(2, ⟨[0, 1, 4, 7, 8], [900000], []⟩)] S_slices_IndexFunc_apiTreeapiTree [[.int .i64]] Try.func65 h_slices_IndexFunc_apiTreeapiTree ⟨snd_model_Right_1, trivial⟩ ?_
  intro vs r hwf h
  unfold S_slices_IndexFunc_apiTreeapiTree at h
  split at h
  · rename_i l d c b0 b1 b2 ts
    refine ⟨l.length + 1, ?_⟩
    rw [R.get_ok] at h
    rw [← h]
    refine (nf_slices_IndexFunc_apiTreeapiTree (l.length + 1) l d c b0 b1 b2 ts).trans ?_
    have hl : l.length ≤ strMax := by
      have hb := hwf (by simp [oneBor])
      have := hb.1
      simp only [wfV, wfL] at this
      exact this.1
    exact index_run (l.length + 1) l hl d c b0 b1 b2 ts l.length 0 (l.length + 1) (by omega) (by omega)
  · simp [R.get] at h

theorem idx_all (d c : Int) : ∀ (l : List IV) (i : Nat), decide (idxBad d c l (i : Int) ≥ 0) = !(l.all (treeOK d c))
  | [], i => rfl
  | t :: l, i => by
    unfold idxBad
    rw [List.all_cons]
    cases treeOK d c t with
    | true =>
      rw [condT, Bool.true_and]
      exact idx_all d c l (i + 1)
    | false =>
      rw [condF, Bool.false_and, decide_eq_true (show (i : Int) ≥ 0 by omega)]
      rfl
set_option maxRecDepth 100000 in
theorem snd_slices_ContainsFunc_apiTreeapiTree : SndR PR B0 50 S_slices_ContainsFunc_apiTreeapiTree := by
  refine snd_mk [(65, S_slices_IndexFunc_apiTreeapiTree)] [] S_slices_ContainsFunc_apiTreeapiTree [[.bool]] Try.func50 h_slices_ContainsFunc_apiTreeapiTree ⟨snd_slices_IndexFunc_apiTreeapiTree, trivial⟩ ?_
  intro vs r hwf h
  unfold S_slices_ContainsFunc_apiTreeapiTree at h
  split at h
  · rename_i l d c b0 b1 b2 ts
    refine ⟨0, ?_⟩
    rw [R.get_ok] at h
    rw [← h]
    refine (nf_slices_ContainsFunc_apiTreeapiTree 0 l d c b0 b1 b2 ts).trans ?_
    have := idx_all d c l 0
    rw [show ((0 : Nat) : Int) = 0 from rfl] at this
    rw [this]
  · simp [R.get] at h

abbrev xstB (d c b0 b1 b2 : Int) (ts : List IV) (b : Bool) (i : Int) : St :=
  ⟨[(1, (.ptr 1 0 0)), (2, (.bool b)), (30, (.agg [(.int .i64 b0), (.int .i64 b1), (.int .i64 b2)])), (31, (.int .i64 i))], [(1, (some (.box [(.int .i64 d), (.int .i64 c), (.int .i64 b0), (.int .i64 b1), (.int .i64 b2), (.list true [(.int .i64), (.list false [(.int .u64)])] ts)]))), (53005, none)]⟩
theorem bias_cond (c j b : Int) {α : Type _} (x y : α) : cond (!fits32 b) y (cond (decide (j ≥ c)) (cond (b != 0) y x) x) = cond (biasB c j b) x y := by
  unfold biasB
  have e : (b != 0) = !(b == 0) := rfl
  rw [e]
  cases fits32 b <;> cases decide (j ≥ c) <;> cases (b == 0) <;> rfl
theorem bias_round (N : Nat) (d c b0 b1 b2 : Int) (ts : List IV) (j : Nat) (b : Int) (h : (j = 0 ∧ b = b0) ∨ (j = 1 ∧ b = b1) ∨ (j = 2 ∧ b = b2)) (again : St → Res) (k : Out → St → Res) :
    rnd (E_model_Right N) (subC c_model_Right [1, 1, 0, 1, 0, 0]) (xstB d c b0 b1 b2 ts false (j : Int)) (kLoop again ⟨[1, 2, 30, 31], [1, 53005], []⟩ k) =
      cond (biasB c (j : Int) b) (again (xstB d c b0 b1 b2 ts false ((j + 1 : Nat) : Int))) (k .ret (xstB d c b0 b1 b2 ts false (j : Int))) := by
  rw [st_model_Right_1]
  have ej : IntKind.wrap IntKind.i64 ((j : Int) + 1) = ((j + 1 : Nat) : Int) := by
    rw [wrap_id (by omega) (by omega)]
    omega
  rw [ej, ← bias_cond, decide_eq_true (show (j : Int) < 3 by omega), condT]
  rcases h with ⟨rfl, rfl⟩ | ⟨rfl, rfl⟩ | ⟨rfl, rfl⟩ <;> rfl

set_option maxRecDepth 100000 in
theorem snd_model_Right : SndR PR B0 36 S_model_Right := by
  refine snd_mk [(49, S_bits_Fits), (51, S_model_Right_1), (50, S_slices_ContainsFunc_apiTreeapiTree)] [(4, ⟨[1, 2, 30, 31], [1, 53005], []⟩)] S_model_Right [[.bool]] Try.func36 h_model_Right ⟨snd_bits_Fits, snd_model_Right_1, snd_slices_ContainsFunc_apiTreeapiTree, trivial⟩ ?_
  intro vs r hwf h
  unfold S_model_Right at h
  split at h
  · rename_i d c b0 b1 b2 ts
    refine ⟨6, ?_⟩
    rw [R.get_ok] at h
    rw [← h]
    refine (nf_model_Right 6 d c b0 b1 b2 ts).trans ?_
    have run : lpE (E_model_Right 6) (subC c_model_Right [1, 1, 0, 1, 0, 0]) ⟨[1, 2, 30, 31], [1, 53005], []⟩ 6 (xstB d c b0 b1 b2 ts false 0) (kBlock 0 (kSq (E_model_Right 6) (subC c_model_Right [1, 1, 1]) (outT (E_model_Right 6) none [(ResultVar.tmp 2)] [[.bool]]))) =
        some (.bool ((biasB c 0 b0 && (biasB c 1 b1 && biasB c 2 b2)) && ts.all (treeOK d c)), []) := by
      have e0 : xstB d c b0 b1 b2 ts false 0 = xstB d c b0 b1 b2 ts false ((0 : Nat) : Int) := rfl
      have R2 := fun j => ex_model_Right_1_2 6 false b0 b1 b2 j d c b0 b1 b2 ts
      have R1 := fun j => ex_model_Right_1_1 6 false b0 b1 b2 j d c b0 b1 b2 ts
      rw [e0, lpE_succ, bias_round 6 d c b0 b1 b2 ts 0 b0 (by simp), R2]
      cases h0 : biasB c ((0 : Nat) : Int) b0 with
      | false => rfl
      | true =>
        rw [condT, lpE_succ, bias_round 6 d c b0 b1 b2 ts 1 b1 (by simp), R2]
        cases h1 : biasB c ((1 : Nat) : Int) b1 with
        | false => rfl
        | true =>
          rw [condT, lpE_succ, bias_round 6 d c b0 b1 b2 ts 2 b2 (by simp), R2]
          cases h2 : biasB c ((2 : Nat) : Int) b2 with
          | false => rfl
          | true =>
            rw [condT, lpE_succ, st_model_Right_1, decide_eq_false (show ¬ ((2 + 1 : Nat) : Int) < 3 by omega), condF, R1, Bool.not_not]
            rfl
    unfold modelB
    cases decide (d < 1) with
    | true => rfl
    | false =>
    cases decide (d > 4) with
    | true => rfl
    | false =>
    cases decide (c < 1) with
    | true => rfl
    | false =>
    cases decide (c > 3) with
    | true => rfl
    | false =>
      simp only [condF, Bool.not_false, Bool.true_and]
      by_cases h8 : ts.length ≤ 8
      · rw [decide_eq_false (show ¬ ic ts.length > 8 by simp only [ic]; omega), condF, Nat.ble_eq_true_of_le h8, Bool.true_and]
        exact run
      · have e : Nat.ble ts.length 8 = false := by
          cases hb : Nat.ble ts.length 8 with
          | false => rfl
          | true => exact absurd (Nat.le_of_ble_eq_true hb) h8
        rw [decide_eq_true (show ic ts.length > 8 by simp only [ic]; omega), condT, e, Bool.false_and]
  · simp [R.get] at h

end Go.FM

/-
  THE NODES THAT copsekeep MAKES OF NUMBERS ARE A TREE'S: plain law, of no program.
-/
namespace Go.FM
open Go

def isLf (x : IV) : Prop := ∃ v, -3000 ≤ v ∧ v ≤ 3000 ∧ x = leafN v
def isFk (dim n : Int) (i : Nat) (x : IV) : Prop := ∃ f a l, 0 ≤ f ∧ f < dim ∧ 0 ≤ a ∧ a ≤ 9 ∧ (i : Int) < l ∧ l + 1 < n ∧ x = mkN false 0 f a l (l + 1)
def nm (x : IV) (j : Nat) : Nat := cond (x.cell 0).toBool 0 ((if (x.cell 4).toInt = (j : Int) then 1 else 0) + (if (x.cell 5).toInt = (j : Int) then 1 else 0))
def nmS (l : List IV) (j : Nat) : Nat := (l.map (nm · j)).sum

theorem nm_leaf {x : IV} (h : isLf x) (j : Nat) : nm x j = 0 := by
  obtain ⟨v, _, _, rfl⟩ := h
  rfl
theorem nm_fork (f a : Int) (n j : Nat) : nm (mkN false 0 f a (n : Int) ((n : Int) + 1)) j = (if j = n then 1 else 0) + (if j = n + 1 then 1 else 0) := by
  show (if (n : Int) = (j : Int) then 1 else 0) + (if (n : Int) + 1 = (j : Int) then 1 else 0) = _
  have e1 : ((n : Int) = (j : Int)) ↔ (j = n) := by omega
  have e2 : ((n : Int) + 1 = (j : Int)) ↔ (j = n + 1) := by omega
  simp only [e1, e2]
theorem nmS_app (l m : List IV) (j : Nat) : nmS (l ++ m) j = nmS l j + nmS m j := by simp [nmS]
theorem nmS_set : ∀ {l : List IV} {p : Nat} {x : IV} (y : IV) (j : Nat), l[p]? = some x → nmS (l.set p y) j + nm x j = nmS l j + nm y j
  | [], p, x, y, j, h => by simp at h
  | z :: l, 0, x, y, j, h => by
    simp only [List.getElem?_cons_zero, Option.some.injEq] at h
    subst h
    simp only [List.set_cons_zero, nmS, List.map_cons, List.sum_cons]
    omega
  | z :: l, p + 1, x, y, j, h => by
    have := nmS_set (l := l) y j (by simpa using h)
    simp only [List.set_cons_succ, nmS, List.map_cons, List.sum_cons] at this ⊢
    omega

structure NsOK (dim : Int) (i : Nat) (s : Ns) : Prop where
  len : s.nodes.length = 2 * i + 1
  ll : s.leaves.length = i + 1
  node : ∀ (k : Nat) x, s.nodes[k]? = some x → isLf x ∨ isFk dim (2 * (i : Int) + 1) k x
  leaf : ∀ y ∈ s.leaves, ∃ p : Nat, y = .int (p : Int) ∧ ∃ x, s.nodes[p]? = some x ∧ isLf x
  dist : s.leaves.Nodup
  cnt : ∀ j, nmS s.nodes j = if 1 ≤ j ∧ j < 2 * i + 1 then 1 else 0

theorem pick_in (l : List IV) (i lo hi : Int) (h : lo ≤ hi) (h0 : -2000000000000000000 ≤ lo) (h1 : hi ≤ 2000000000000000000) : lo ≤ withinZ (pickZ l i) lo hi ∧ withinZ (pickZ l i) lo hi ≤ hi :=
  (within_in h h0 h1).2
theorem leaf_is (l : List IV) (i : Int) : isLf (leafN (withinZ (pickZ l i) (-3000) 3000)) :=
  ⟨_, (pick_in l i (-3000) 3000 (by omega) (by omega) (by omega)).1, (pick_in l i (-3000) 3000 (by omega) (by omega) (by omega)).2, rfl⟩

theorem ns_zero (val : List IV) (dim : Int) : NsOK dim 0 ⟨[leafN (withinZ (pickZ val 0) (-3000) 3000)], [.int 0]⟩ where
  len := rfl
  ll := rfl
  node k x h := by
    cases k with
    | zero =>
      simp only [List.getElem?_cons_zero, Option.some.injEq] at h
      subst h
      exact .inl (leaf_is val 0)
    | succ k => simp at h
  leaf y hy := by
    simp only [List.mem_cons, List.not_mem_nil, or_false] at hy
    exact ⟨0, hy, _, rfl, leaf_is val 0⟩
  dist := by simp
  cnt j := by
    have : ¬ (1 ≤ j ∧ j < 2 * 0 + 1) := by omega
    rw [if_neg this]
    show nm _ j + 0 = 0
    rw [nm_leaf (leaf_is val 0)]

theorem nodup_erase {l : List IV} (h : l.Nodup) {k : Nat} {y : IV} (hk : l[k]? = some y) : y ∉ l.take k ++ l.drop (k + 1) := by
  intro hy
  rw [← List.eraseIdx_eq_take_drop_succ, List.mem_eraseIdx_iff_getElem?] at hy
  obtain ⟨i, hne, hi⟩ := hy
  have h1 : i < l.length := (List.getElem?_eq_some_iff.1 hi).1
  have h2 : k < l.length := (List.getElem?_eq_some_iff.1 hk).1
  have : l[i] = l[k] := by
    rw [(List.getElem?_eq_some_iff.1 hi).2, (List.getElem?_eq_some_iff.1 hk).2]
  have hp := List.pairwise_iff_getElem.1 h
  rcases Nat.lt_trichotomy i k with hlt | heq | hlt
  · exact hp i k h1 h2 hlt this
  · exact hne heq
  · exact hp k i h2 h1 hlt this.symm

theorem ns_step {part byl atl val : List IV} {dim : Int} (hd : 1 ≤ dim ∧ dim ≤ 4) {i : Nat} (hi : i < 7) {s : Ns} (h : NsOK dim i s) : NsOK dim (i + 1) (nsStep part byl atl val dim i s) := by
  obtain ⟨k0, k1⟩ := (within_in (n := (part.getD i default).toInt) (lo := 0) (hi := ic s.leaves.length - 1) (by simp only [ic]; have := h.ll; omega) (by omega) (by simp only [ic]; have := h.ll; omega)).2
  have hk0 : 0 ≤ nsK part i s := k0
  have hk1 : nsK part i s ≤ ic s.leaves.length - 1 := k1
  obtain ⟨k, hk⟩ : ∃ k : Nat, nsK part i s = k := ⟨(nsK part i s).toNat, by omega⟩
  have hkl : k < s.leaves.length := by simp only [ic] at hk1; omega
  have hky : s.leaves[k]? = some s.leaves[k] := List.getElem?_eq_getElem hkl
  obtain ⟨p, hp, x, hx, hlf⟩ := h.leaf _ (List.getElem_mem hkl)
  have hat : (nsAt part i s).toNat = p := by
    unfold nsAt
    rw [hk, Int.toNat_natCast, List.getD_eq_getElem?_getD, hky, hp]
    show ((p : Int)).toNat = p
    omega
  have hpl : p < 2 * i + 1 := by rw [← h.len]; exact (List.getElem?_eq_some_iff.1 hx).1
  have f1 := pick_in byl (i : Int) 0 (dim - 1) (by omega) (by omega) (by omega)
  have a1 := pick_in atl (i : Int) 0 9 (by omega) (by omega) (by omega)
  generalize hf : withinZ (pickZ byl (i : Int)) 0 (dim - 1) = f at f1
  generalize ha : withinZ (pickZ atl (i : Int)) 0 9 = a at a1
  have el : ic s.nodes.length = 2 * (i : Int) + 1 := by simp only [ic]; have := h.len; omega
  have hs : nsStep part byl atl val dim i s = ⟨s.nodes.set p (mkN false 0 f a (2 * (i : Int) + 1) (2 * (i : Int) + 1 + 1)) ++ [leafN (withinZ (pickZ val (2 * (i : Int) + 1)) (-3000) 3000), leafN (withinZ (pickZ val (2 * (i : Int) + 2)) (-3000) 3000)],
      s.leaves.take k ++ s.leaves.drop (k + 1) ++ [.int (2 * (i : Int) + 1), .int (2 * (i : Int) + 1 + 1)]⟩ := by
    unfold nsStep
    rw [hat, hk, Int.toNat_natCast, hf, ha, el]
  rw [hs]
  have L1 := leaf_is val (2 * (i : Int) + 1)
  have L2 := leaf_is val (2 * (i : Int) + 2)
  have hgrow : ∀ (q : Nat) z, isFk dim (2 * (i : Int) + 1) q z → isFk dim (2 * ((i + 1 : Nat) : Int) + 1) q z := fun q z hz => by
    obtain ⟨f, a, l, h1, h2, h3, h4, h5, h6, h7⟩ := hz
    exact ⟨f, a, l, h1, h2, h3, h4, h5, by omega, h7⟩
  have hlen : (s.nodes.set p (mkN false 0 f a (2 * (i : Int) + 1) (2 * (i : Int) + 1 + 1))).length = 2 * i + 1 := by rw [List.length_set, h.len]
  have hnew : ∀ (q : Nat) z, (s.nodes.set p (mkN false 0 f a (2 * (i : Int) + 1) (2 * (i : Int) + 1 + 1)) ++ [leafN (withinZ (pickZ val (2 * (i : Int) + 1)) (-3000) 3000), leafN (withinZ (pickZ val (2 * (i : Int) + 2)) (-3000) 3000)])[q]? = some z →
      (q ≠ p ∧ s.nodes[q]? = some z) ∨ (q = p ∧ z = mkN false 0 f a (2 * (i : Int) + 1) (2 * (i : Int) + 1 + 1)) ∨ isLf z := fun q z hz => by
    by_cases hq : q < 2 * i + 1
    · rw [List.getElem?_append_left (by rw [hlen]; exact hq)] at hz
      by_cases e : p = q
      · subst e
        rw [List.getElem?_set_self (by rw [h.len]; exact hpl)] at hz
        exact .inr (.inl ⟨rfl, (Option.some.inj hz).symm⟩)
      · rw [List.getElem?_set_ne e] at hz
        exact .inl ⟨fun e' => e e'.symm, hz⟩
    · rw [List.getElem?_append_right (by rw [hlen]; omega), hlen] at hz
      obtain ⟨r, hr⟩ : ∃ r, q - (2 * i + 1) = r := ⟨_, rfl⟩
      rw [hr] at hz
      match r, hz with
      | 0, hz => exact .inr (.inr (by simp at hz; subst hz; exact L1))
      | 1, hz => exact .inr (.inr (by simp at hz; subst hz; exact L2))
      | r + 2, hz => simp at hz
  refine ⟨?_, ?_, ?_, ?_, ?_, ?_⟩
  · show (s.nodes.set p _ ++ [_, _]).length = _
    rw [List.length_append, hlen]
    simp only [List.length_cons, List.length_nil]
    omega
  · show (s.leaves.take k ++ s.leaves.drop (k + 1) ++ [_, _]).length = _
    simp only [List.length_append, List.length_take, List.length_drop, List.length_cons, List.length_nil]
    have := h.ll
    omega
  · intro q z hz
    rcases hnew q z hz with ⟨_, hz⟩ | ⟨rfl, rfl⟩ | hz
    · rcases h.node q z hz with h1 | h1
      · exact .inl h1
      · exact .inr (hgrow q z h1)
    · exact .inr ⟨f, a, 2 * (i : Int) + 1, f1.1, by omega, a1.1, a1.2, by omega, by omega, rfl⟩
    · exact .inl hz
  · intro y hy
    rcases List.mem_append.1 hy with hy | hy
    · have hne : y ≠ .int (p : Int) := fun e => by
        have := nodup_erase h.dist hky
        rw [hp] at this
        exact this (e ▸ hy)
      have hyl : y ∈ s.leaves := by
        rcases List.mem_append.1 hy with hy | hy
        · exact List.mem_of_mem_take hy
        · exact List.mem_of_mem_drop hy
      obtain ⟨q, hq, x', hx', hl'⟩ := h.leaf y hyl
      have hqp : p ≠ q := fun e => by subst e; exact hne hq
      refine ⟨q, hq, x', ?_, hl'⟩
      have hql : q < 2 * i + 1 := by rw [← h.len]; exact (List.getElem?_eq_some_iff.1 hx').1
      show (s.nodes.set p _ ++ [_, _])[q]? = _
      rw [List.getElem?_append_left (by rw [hlen]; exact hql), List.getElem?_set_ne hqp, hx']
    · simp only [List.mem_cons, List.not_mem_nil, or_false] at hy
      rcases hy with rfl | rfl
      · refine ⟨2 * i + 1, by simp, leafN (withinZ (pickZ val (2 * (i : Int) + 1)) (-3000) 3000), ?_, L1⟩
        show (s.nodes.set p _ ++ [_, _])[2 * i + 1]? = _
        rw [List.getElem?_append_right (by rw [hlen]; omega), hlen]
        have : 2 * i + 1 - (2 * i + 1) = 0 := by omega
        rw [this]
        rfl
      · refine ⟨2 * i + 1 + 1, by simp, leafN (withinZ (pickZ val (2 * (i : Int) + 2)) (-3000) 3000), ?_, L2⟩
        show (s.nodes.set p _ ++ [_, _])[2 * i + 1 + 1]? = _
        rw [List.getElem?_append_right (by rw [hlen]; omega), hlen]
        have : 2 * i + 1 + 1 - (2 * i + 1) = 1 := by omega
        rw [this]
        rfl
  · show (s.leaves.take k ++ s.leaves.drop (k + 1) ++ [_, _]).Nodup
    have big : ∀ y ∈ s.leaves, ∀ n : Int, 2 * (i : Int) + 1 ≤ n → y ≠ .int n := fun y hy n hn e => by
      obtain ⟨q, hq, x', hx', _⟩ := h.leaf y hy
      have hql : q < 2 * i + 1 := by rw [← h.len]; exact (List.getElem?_eq_some_iff.1 hx').1
      rw [hq] at e
      injection e with e
      omega
    have hsub : ∀ y ∈ s.leaves.take k ++ s.leaves.drop (k + 1), y ∈ s.leaves := fun y hy => by
      rcases List.mem_append.1 hy with hy | hy
      · exact List.mem_of_mem_take hy
      · exact List.mem_of_mem_drop hy
    rw [List.nodup_append]
    refine ⟨?_, ?_, ?_⟩
    · rw [← List.eraseIdx_eq_take_drop_succ]
      exact List.Nodup.sublist (List.eraseIdx_sublist ..) h.dist
    · rw [List.nodup_cons]
      refine ⟨fun hm => ?_, by simp⟩
      simp only [List.mem_cons, List.not_mem_nil, or_false] at hm
      injection hm with hm
      omega
    · intro y hy z hz e
      subst e
      simp only [List.mem_cons, List.not_mem_nil, or_false] at hz
      rcases hz with hz | hz
      · exact big y (hsub y hy) _ (by omega) hz
      · exact big y (hsub y hy) _ (by omega) hz
  · intro j
    show nmS (s.nodes.set p _ ++ [_, _]) j = _
    rw [nmS_app]
    have h1 := nmS_set (mkN false 0 f a (2 * (i : Int) + 1) (2 * (i : Int) + 1 + 1)) j hx
    rw [nm_leaf hlf, h.cnt j] at h1
    have h2 : nmS [leafN (withinZ (pickZ val (2 * (i : Int) + 1)) (-3000) 3000), leafN (withinZ (pickZ val (2 * (i : Int) + 2)) (-3000) 3000)] j = 0 := by
      show nm _ j + (nm _ j + 0) = 0
      rw [nm_leaf L1, nm_leaf L2]
    have h3 := nm_fork f a (2 * i + 1) j
    have e : ((2 * i + 1 : Nat) : Int) = 2 * (i : Int) + 1 := by omega
    rw [e] at h3
    rw [h3] at h1
    rw [h2]
    by_cases c1 : 1 ≤ j ∧ j < 2 * i + 1
    · rw [if_pos c1, if_neg (by omega), if_neg (by omega)] at h1
      rw [if_pos (by omega)]
      omega
    · rw [if_neg c1] at h1
      by_cases c2 : j = 2 * i + 1
      · rw [if_pos c2, if_neg (by omega)] at h1
        rw [if_pos (by omega)]
        omega
      · by_cases c3 : j = 2 * i + 1 + 1
        · rw [if_neg c2, if_pos c3] at h1
          rw [if_pos (by omega)]
          omega
        · rw [if_neg c2, if_neg c3] at h1
          rw [if_neg (by omega)]
          omega

theorem ns_run {part byl atl val : List IV} {dim : Int} (hd : 1 ≤ dim ∧ dim ≤ 4) : ∀ (d i : Nat) (s : Ns), i + d ≤ 7 → NsOK dim i s → NsOK dim (i + d) (nsRun part byl atl val dim d i s)
  | 0, i, s, _, h => h
  | d + 1, i, s, hi, h => by
    have := ns_run (part := part) (byl := byl) (atl := atl) (val := val) hd d (i + 1) _ (by omega) (ns_step (part := part) (byl := byl) (atl := atl) (val := val) hd (by omega) h)
    rw [Nat.add_assoc, Nat.add_comm 1 d] at this
    exact this
theorem ns_tree (part byl atl val : List IV) {dim : Int} (hd : 1 ≤ dim ∧ dim ≤ 4) : ∃ i, i ≤ 7 ∧ NsOK dim i (nsTree part byl atl val dim) := by
  refine ⟨min part.length 7, by omega, ?_⟩
  have := ns_run (part := part) (byl := byl) (atl := atl) (val := val) hd (min part.length 7) 0 _ (by omega) (ns_zero val dim)
  rw [Nat.zero_add] at this
  exact this

end Go.FM

/-
  A MODEL OF NUMBERS IS RIGHT: plain law (packing, trees, models). Of no program.
-/
namespace Go.FM
open Go

theorem Nd.eq_of {x y : Nd} (h : x.eq y = true) : x = y := by
  obtain ⟨a1, a2, a3, a4, a5, a6⟩ := x
  obtain ⟨b1, b2, b3, b4, b5, b6⟩ := y
  simp only [Nd.eq, Bool.and_eq_true, beq_iff_eq, and_true] at h
  obtain ⟨rfl, rfl, rfl, rfl, rfl, rfl⟩ := h
  rfl

/-- What a word that is a node's packs to. -/
theorem node_pack {w : Int} (h : nodeB w = true) : packNd (nodeN w) = w ∧ rightNd (nodeN w) = true := by
  have hn : nodeN w = readNd w := by unfold nodeN; rw [h]; rfl
  unfold nodeB at h
  simp only [Bool.and_eq_true, Bool.not_eq_true', beq_iff_eq, beq_eq_false_iff_ne] at h
  rw [hn]
  refine ⟨h.2, ?_⟩
  cases hr : rightNd (readNd w) with
  | true => rfl
  | false =>
    have := h.2
    unfold packNd at this
    rw [hr] at this
    exact absurd this.symm h.1

/-! ### the words of copsekeep's nodes -/
def lfT (i : Nat) : Bool := nodeB (packW true ((i : Int) - 3000) 0 0 0 0) && (nodeN (packW true ((i : Int) - 3000) 0 0 0 0)).eq ⟨true, (i : Int) - 3000, 0, 0, 0, 0⟩
def lfsT : Nat → Bool
  | 0 => true
  | n + 1 => lfT n && lfsT n
theorem lfs_at : ∀ {n i : Nat}, lfsT n = true → i < n → lfT i = true
  | n + 1, i, h, hi => by
    rw [lfsT, Bool.and_eq_true] at h
    by_cases e : i = n
    · subst e; exact h.1
    · exact lfs_at h.2 (by omega)
def fkT (i : Nat) : Bool := nodeB (packW false 0 ((i % 4 : Nat) : Int) ((i / 4 % 10 : Nat) : Int) ((i / 40 : Nat) : Int) (((i / 40 : Nat) : Int) + 1)) &&
  (nodeN (packW false 0 ((i % 4 : Nat) : Int) ((i / 4 % 10 : Nat) : Int) ((i / 40 : Nat) : Int) (((i / 40 : Nat) : Int) + 1))).eq ⟨false, 0, ((i % 4 : Nat) : Int), ((i / 4 % 10 : Nat) : Int), ((i / 40 : Nat) : Int), ((i / 40 : Nat) : Int) + 1⟩
def fksT : Nat → Bool
  | 0 => true
  | n + 1 => (Nat.blt n 40 || fkT n) && fksT n
theorem fks_at : ∀ {n i : Nat}, fksT n = true → i < n → 40 ≤ i → fkT i = true
  | n + 1, i, h, hi, h40 => by
    rw [fksT, Bool.and_eq_true] at h
    by_cases e : i = n
    · subst e
      have := h.1
      rw [Bool.or_eq_true] at this
      rcases this with h1 | h1
      · have : i < 40 := Nat.le_of_ble_eq_true h1
        omega
      · exact h1
    · exact fks_at h.2 (by omega) h40

set_option maxRecDepth 100000 in
theorem lfs_all : lfsT 6001 = true := by kernel_rfl
theorem fks_all : fksT 1200 = true := by kernel_rfl

theorem leaf_word {v : Int} (h0 : -3000 ≤ v) (h1 : v ≤ 3000) : nodeB (packW true v 0 0 0 0) = true ∧ nodeN (packW true v 0 0 0 0) = ⟨true, v, 0, 0, 0, 0⟩ := by
  have h := lfs_at lfs_all (show (v + 3000).toNat < 6001 by omega)
  have e : (((v + 3000).toNat : Nat) : Int) - 3000 = v := by omega
  unfold lfT at h
  rw [e, Bool.and_eq_true] at h
  exact ⟨h.1, Nd.eq_of h.2⟩
theorem fork_word {f a l : Int} (hf : 0 ≤ f ∧ f < 4) (ha : 0 ≤ a ∧ a ≤ 9) (hl : 1 ≤ l ∧ l ≤ 28) : nodeB (packW false 0 f a l (l + 1)) = true ∧ nodeN (packW false 0 f a l (l + 1)) = ⟨false, 0, f, a, l, l + 1⟩ := by
  have h := fks_at fks_all (show l.toNat * 40 + a.toNat * 4 + f.toNat < 1200 by omega) (by omega)
  have e1 : (((l.toNat * 40 + a.toNat * 4 + f.toNat) % 4 : Nat) : Int) = f := by omega
  have e2 : (((l.toNat * 40 + a.toNat * 4 + f.toNat) / 4 % 10 : Nat) : Int) = a := by omega
  have e3 : (((l.toNat * 40 + a.toNat * 4 + f.toNat) / 40 : Nat) : Int) = l := by omega
  unfold fkT at h
  rw [e1, e2, e3, Bool.and_eq_true] at h
  exact ⟨h.1, Nd.eq_of h.2⟩

theorem word_leaf {x : IV} (h : isLf x) : nodeB (packN x).toInt = true ∧ ∃ v, nodeN (packN x).toInt = ⟨true, v, 0, 0, 0, 0⟩ := by
  obtain ⟨v, h0, h1, rfl⟩ := h
  obtain ⟨a, b⟩ := leaf_word h0 h1
  exact ⟨a, v, b⟩
theorem word_named {dim n : Int} (hd : dim ≤ 4) (hn : n ≤ 29) {i : Nat} {x : IV} (h : isLf x ∨ isFk dim n i x) (j : Nat) : named1 (nodeN (packN x).toInt) j = nm x j := by
  rcases h with ⟨v, h0, h1, rfl⟩ | ⟨f, a, l, h0, h1, h2, h3, h4, h5, rfl⟩
  · show named1 (nodeN (packW true v 0 0 0 0)) j = _
    rw [(leaf_word h0 h1).2]
    rfl
  · show named1 (nodeN (packW false 0 f a l (l + 1))) j = _
    rw [(fork_word ⟨h0, by omega⟩ ⟨h2, h3⟩ ⟨by omega, by omega⟩).2]
    rfl
theorem word_ok {dim n : Int} (hd : dim ≤ 4) (hn : n ≤ 29) {i : Nat} {x : IV} (h : isLf x ∨ isFk dim n i x) : (nodeB (packN x).toInt && forkB dim n i (nodeN (packN x).toInt)) = true := by
  rcases h with ⟨v, h0, h1, rfl⟩ | ⟨f, a, l, h0, h1, h2, h3, h4, h5, rfl⟩
  · show (nodeB (packW true v 0 0 0 0) && forkB dim n i (nodeN (packW true v 0 0 0 0))) = true
    rw [(leaf_word h0 h1).1, (leaf_word h0 h1).2]
    rfl
  · show (nodeB (packW false 0 f a l (l + 1)) && forkB dim n i (nodeN (packW false 0 f a l (l + 1)))) = true
    have hw := fork_word ⟨h0, by omega⟩ ⟨h2, h3⟩ (show 1 ≤ l ∧ l ≤ 28 by omega)
    rw [hw.1, hw.2]
    unfold forkB
    simp only [cond_false, decide_eq_false (show ¬ f ≥ dim by omega), beq_eq_false_iff_ne.2 (show l ≠ l + 1 by omega), decide_eq_false (show ¬ min l (l + 1) ≤ (i : Int) by omega), decide_eq_false (show ¬ max l (l + 1) ≥ n by omega)]
    rfl
theorem nodes_ok {dim n : Int} (hd : dim ≤ 4) (hn : n ≤ 29) : ∀ {l : List IV} {i : Nat}, (∀ (k : Nat) x, l[k]? = some x → isLf x ∨ isFk dim n (i + k) x) → nodesB dim n i (l.map packN) = true
  | [], _, _ => rfl
  | x :: l, i, h => by
    rw [List.map_cons, nodesB, Bool.and_eq_true]
    refine ⟨word_ok hd hn (h 0 x rfl), nodes_ok hd hn (i := i + 1) fun k y hk => ?_⟩
    have := h (k + 1) y (by simpa using hk)
    rwa [show i + (k + 1) = i + 1 + k by omega] at this
theorem named_map {dim n : Int} (hd : dim ≤ 4) (hn : n ≤ 29) (j : Nat) : ∀ {l : List IV} {i : Nat}, (∀ (k : Nat) x, l[k]? = some x → isLf x ∨ isFk dim n (i + k) x) → namedBy (l.map packN) j = nmS l j
  | [], _, _ => rfl
  | x :: l, i, h => by
    have ih := named_map hd hn j (l := l) (i := i + 1) fun k y hk => by
      have := h (k + 1) y (by simpa using hk)
      rwa [show i + (k + 1) = i + 1 + k by omega] at this
    have h0 := word_named hd hn (h 0 x rfl) j
    unfold namedBy nmS at ih ⊢
    simp only [List.map_cons, List.sum_cons]
    rw [h0, ih]

theorem nodes_tree (part byl atl val : List IV) {dim : Int} (hd : 1 ≤ dim ∧ dim ≤ 4) : treeB (nodesL part byl atl val dim) dim = true := by
  obtain ⟨i, hi, h⟩ := ns_tree part byl atl val hd
  have hlen : (nodesL part byl atl val dim).length = 2 * i + 1 := by
    unfold nodesL
    rw [List.length_map, h.len]
  have hn : ∀ (k : Nat) x, (nsTree part byl atl val dim).nodes[k]? = some x → isLf x ∨ isFk dim (ic (nodesL part byl atl val dim).length) (0 + k) x := fun k x hk => by
    have e : ic (nodesL part byl atl val dim).length = 2 * (i : Int) + 1 := by simp only [ic]; omega
    rw [e, Nat.zero_add]
    exact h.node k x hk
  have hb : ic (nodesL part byl atl val dim).length ≤ 29 := by simp only [ic]; omega
  unfold treeB
  rw [Bool.and_eq_true, Bool.and_eq_true, Bool.and_eq_true]
  refine ⟨⟨Nat.ble_eq_true_of_le (by omega), Nat.ble_eq_true_of_le (by omega)⟩, nodes_ok hd.2 hb hn, ?_⟩
  unfold onceB
  rw [List.all_eq_true]
  intro j hj
  have hj := List.mem_range.1 hj
  rw [beq_iff_eq]
  have := named_map hd.2 hb (j + 1) hn
  have e : namedBy (nodesL part byl atl val dim) (j + 1) = nmS (nsTree part byl atl val dim).nodes (j + 1) := this
  rw [e, h.cnt, if_pos (by omega)]

/-! ### models -/
theorem dimF_in (d : Int) : 1 ≤ dimF d ∧ dimF d ≤ 3 := (within_in (n := d) (lo := 1) (hi := 3) (by omega) (by omega) (by omega)).2
theorem clsF_in (d : Int) : 1 ≤ clsF d ∧ clsF d ≤ 3 := (within_in (n := d) (lo := 1) (hi := 3) (by omega) (by omega) (by omega)).2
def modelF (d c : Int) (bias ts : List IV) : Md := ⟨dimF d, clsF c, biasF c bias 0, biasF c bias 1, biasF c bias 2, treesF d c ts⟩
theorem bias_ok (c : Int) (bias : List IV) (j : Int) : biasB (clsF c) j (biasF c bias j) = true := by
  unfold biasB biasF
  have := (within_in (n := pickZ bias j) (lo := -500) (hi := 500) (by omega) (by omega) (by omega)).2
  rcases Int.lt_or_le j (clsF c) with h | h
  · rw [decide_eq_true h, decide_eq_false (show ¬ j ≥ clsF c by omega)]
    simp only [cond_true, Bool.false_and, Bool.not_false, Bool.and_true]
    unfold fits32
    rw [decide_eq_true (by omega), decide_eq_true (by omega)]
    rfl
  · rw [decide_eq_false (show ¬ j < clsF c by omega), decide_eq_true (show j ≥ clsF c from h)]
    rfl
theorem tree_ok (d c : Int) (t : IV) : treeOK (dimF d) (clsF c) (treeF d c t) = true := by
  have hd := dimF_in d
  have hc := clsF_in c
  have hk := (within_in (n := (t.cell 0).toInt) (lo := 0) (hi := clsF c - 1) (by omega) (by omega) (by omega)).2
  show (!(decide (withinZ (t.cell 0).toInt 0 (clsF c - 1) < 0)) && (!(decide (withinZ (t.cell 0).toInt 0 (clsF c - 1) ≥ clsF c)) && treeB (nodesL (t.cell 1).toList (t.cell 2).toList (t.cell 3).toList (t.cell 4).toList (dimF d)) (dimF d))) = true
  rw [decide_eq_false (by omega), decide_eq_false (by omega), nodes_tree _ _ _ _ ⟨hd.1, by omega⟩]
  rfl
theorem trees_ok (d c : Int) (ts : List IV) : (treesF d c ts).all (treeOK (dimF d) (clsF c)) = true := by
  rw [List.all_eq_true]
  intro t ht
  unfold treesF at ht
  obtain ⟨u, _, rfl⟩ := List.mem_map.1 ht
  exact tree_ok d c u
theorem trees_len (d c : Int) (ts : List IV) : (treesF d c ts).length ≤ 4 := by
  unfold treesF
  rw [List.length_map, List.length_take]
  omega
theorem model_of {m : Md} (hd : 1 ≤ m.d ∧ m.d ≤ 4) (hc : 1 ≤ m.c ∧ m.c ≤ 3) (hl : m.ts.length ≤ 8) (h0 : biasB m.c 0 m.b0 = true) (h1 : biasB m.c 1 m.b1 = true) (h2 : biasB m.c 2 m.b2 = true) (ht : m.ts.all (treeOK m.d m.c) = true) : modelB m = true := by
  unfold modelB
  rw [decide_eq_false (show ¬ m.d < 1 by omega), decide_eq_false (show ¬ m.d > 4 by omega), decide_eq_false (show ¬ m.c < 1 by omega), decide_eq_false (show ¬ m.c > 3 by omega), Nat.ble_eq_true_of_le hl, h0, h1, h2, ht]
  rfl
theorem model_right (d c : Int) (bias ts : List IV) : modelB (modelF d c bias ts) = true := by
  have hd := dimF_in d
  have hc := clsF_in c
  exact model_of (m := modelF d c bias ts) ⟨hd.1, by show dimF d ≤ 4; omega⟩ hc (by have := trees_len d c ts; show (treesF d c ts).length ≤ 8; omega) (bias_ok c bias 0) (bias_ok c bias 1) (bias_ok c bias 2) (trees_ok d c ts)

end Go.FM

/-
  WHAT cert's FUNCTIONS COME TO: specifications; of no program.
-/
namespace Go.FM
open Go

/-! ### steps -/
abbrev kStep : List Kd := [.bool, .int .i64, .int .i64]
def stSum (x : IV) : Bool := (x.cell 0).toBool
def stPlace (x : IV) : Int := (x.cell 1).toInt
def stAt (x : IV) : Int := (x.cell 2).toInt
def stEq (x y : IV) : Bool := stSum x == stSum y && (stPlace x == stPlace y && stAt x == stAt y)
def stepOK (x : IV) : Bool := !(stSum x && !(stPlace x == 0 && stAt x == 0)) && (decide (0 ≤ stPlace x) && decide (stPlace x ≤ 4))
def stepsB (l : List IV) : Bool := decide (1 ≤ l.length) && (decide (l.length ≤ 65536) && l.all stepOK)
def S_cert_steps : RSpec
  | [.list true [.bool, .int .i64, .int .i64] l] => .ok (.bool (stepsB l)) []
  | _ => .no
def sameB : List IV → List IV → Bool
  | [], [] => true
  | x :: l, y :: m => stEq x y && sameB l m
  | _, _ => false
def S_copsebook_Same_apiStep : RSpec
  | [.list true [.bool, .int .i64, .int .i64] l, .list true [.bool, .int .i64, .int .i64] m] => .ok (.bool (sameB l m)) []
  | _ => .no

/-! ### verdicts -/
structure Vd where
  kind : Int
  proof : List IV
  w0 : Int
  w1 : Int
  w2 : Int
  w3 : Int
  twin : Int
  spent : Int
def Vd.none : Vd := ⟨0, [], 0, 0, 0, 0, 0, 0⟩
def Vd.V (v : Vd) : V := .agg [.int .i64 v.kind, .list true kStep v.proof, .int .i64 v.w0, .int .i64 v.w1, .int .i64 v.w2, .int .i64 v.w3, .int .i64 v.twin, .int .i64 v.spent]
def Vd.bare (v : Vd) : Bool := v.w0 == 0 && (v.w1 == 0 && (v.w2 == 0 && (v.w3 == 0 && v.twin == 0)))
def Vd.right (v : Vd) : Bool :=
  decide (0 ≤ v.spent) && (decide (v.spent ≤ 65536) &&
    (v.kind == 1 && (v.bare && stepsB v.proof) || (v.kind == 2 && v.proof.isEmpty || (v.kind == 3 || v.kind == 4) && (v.bare && v.proof.isEmpty))))
def S_cert_Right : RSpec
  | [.agg [.int .i64 k, .list true [.bool, .int .i64, .int .i64] p, .int .i64 a, .int .i64 b, .int .i64 c, .int .i64 d, .int .i64 t, .int .i64 s]] => .ok (.bool (Vd.right ⟨k, p, a, b, c, d, t, s⟩)) []
  | _ => .no

/-! ### lines -/
def numsB : ByteArray → List IV → ByteArray
  | s, [] => s
  | s, x :: l => numsB (s.push 32 ++ itoaB x.toInt) l
def lineBV (s w : ByteArray) (l : List IV) : ByteArray := (numsB (s ++ w) l).push 10
def S_cert_line : RSpec
  | [.bor [.bld s], .str w, .list false [.int .i64] l] => .br (decide ((lineBV s w l).size ≤ strMax)) (.ok (.tup []) [[.bld (lineBV s w l)]]) .no
  | _ => .no

/-! ### words -/
def numberZ (l : List IV) (i : Int) : Int := cond (decide (ic l.length ≤ i)) 0 (atoiV (l.getD i.toNat default).toStr)
def S_cert_number : RSpec
  | [.list false [.str] l, .int .i64 i] => .br (decide (0 ≤ i)) (.ok (.int .i64 (numberZ l i)) []) .no
  | _ => .no

def mkStep (b : Bool) (p a : Int) : IV := .agg [.bool b, .int p, .int a]
abbrev w_holds : ByteArray := ⟨#[104, 111, 108, 100, 115]⟩
abbrev w_fails : ByteArray := ⟨#[102, 97, 105, 108, 115]⟩
abbrev w_unknown : ByteArray := ⟨#[117, 110, 107, 110, 111, 119, 110]⟩
abbrev w_wrong : ByteArray := ⟨#[119, 114, 111, 110, 103]⟩
abbrev w_sum : ByteArray := ⟨#[115, 117, 109]⟩
abbrev w_cut : ByteArray := ⟨#[99, 117, 116]⟩
abbrev w_nl : ByteArray := ⟨#[10]⟩
abbrev w_sp : ByteArray := ⟨#[32]⟩
abbrev w_noneV : ByteArray := ⟨#[]⟩

/-! ### a verdict, read -/
def firstL (s : ByteArray) : List IV := (splitL (cutL s w_nl) w_sp).map IV.str
def wordOf (l : List IV) : ByteArray := (l.getD 0 default).toStr
def readStep (s : ByteArray) : IV :=
  cond ((wordOf (firstL s)).toList == w_sum.toList) (mkStep true 0 0) (mkStep false (numberZ (firstL s) 1) (numberZ (firstL s) 2))
def readSteps : Nat → ByteArray → List IV → List IV
  | 0, _, p => p
  | n + 1, s, p => cond (!(s.toList == w_noneV.toList) && decide (p.length ≤ 65536)) (readSteps n (cutR s w_nl) (p ++ [readStep s])) p
def readV (s : ByteArray) : Vd :=
  cond ((wordOf (firstL s)).toList == w_holds.toList) ⟨1, readSteps ((cutR s w_nl).size + 1) (cutR s w_nl) [], 0, 0, 0, 0, 0, numberZ (firstL s) 1⟩
  (cond ((wordOf (firstL s)).toList == w_fails.toList) ⟨2, [], numberZ (firstL s) 2, numberZ (firstL s) 3, numberZ (firstL s) 4, numberZ (firstL s) 5, numberZ (firstL s) 6, numberZ (firstL s) 1⟩
  (cond ((wordOf (firstL s)).toList == w_unknown.toList) ⟨3, [], 0, 0, 0, 0, 0, numberZ (firstL s) 1⟩
  (cond ((wordOf (firstL s)).toList == w_wrong.toList) ⟨4, [], 0, 0, 0, 0, 0, numberZ (firstL s) 1⟩
  ⟨0, [], 0, 0, 0, 0, 0, numberZ (firstL s) 1⟩)))
def S_cert_read : RSpec
  | [.str s] => .br (decide (s.size < 4294967281)) (.ok (.agg [.int .i64 (readV s).kind, .list true [.bool, .int .i64, .int .i64] (readV s).proof, .int .i64 (readV s).w0, .int .i64 (readV s).w1, .int .i64 (readV s).w2, .int .i64 (readV s).w3, .int .i64 (readV s).twin, .int .i64 (readV s).spent]) []) .no
  | _ => .no

/-! ### a verdict, printed -/
def printSteps : ByteArray → List IV → ByteArray
  | s, [] => s
  | s, x :: l => printSteps (cond (stSum x) (lineBV s w_sum []) (lineBV s w_cut [.int (stPlace x), .int (stAt x)])) l
def printBV (v : Vd) : ByteArray :=
  cond v.right
    (cond (v.kind == 1) (printSteps (lineBV w_noneV w_holds [.int v.spent, .int (ic v.proof.length)]) v.proof)
    (cond (v.kind == 2) (lineBV w_noneV w_fails [.int v.spent, .int v.w0, .int v.w1, .int v.w2, .int v.w3, .int v.twin])
    (cond (v.kind == 3) (lineBV w_noneV w_unknown [.int v.spent])
    (lineBV w_noneV w_wrong [.int v.spent]))))
    w_noneV
def S_cert_Print : RSpec
  | [.agg [.int .i64 k, .list true [.bool, .int .i64, .int .i64] p, .int .i64 a, .int .i64 b, .int .i64 c, .int .i64 d, .int .i64 t, .int .i64 s]] =>
    .br (decide ((printBV ⟨k, p, a, b, c, d, t, s⟩).size ≤ strMax)) (.ok (.str (printBV ⟨k, p, a, b, c, d, t, s⟩)) []) .no
  | _ => .no

/-! ### a text, parsed -/
def parseOK (s : ByteArray) : Bool := !(s.toList == w_noneV.toList) && (printBV (readV s)).toList == s.toList
def parseV (s : ByteArray) : Vd := cond (parseOK s) (readV s) Vd.none
def S_cert_Parse : RSpec
  | [.str s] => .br (decide (s.size < 4294967281)) (.br (decide ((printBV (readV s)).size ≤ strMax)) (.ok (.tup [.agg [.int .i64 (parseV s).kind, .list true [.bool, .int .i64, .int .i64] (parseV s).proof, .int .i64 (parseV s).w0, .int .i64 (parseV s).w1, .int .i64 (parseV s).w2, .int .i64 (parseV s).w3, .int .i64 (parseV s).twin, .int .i64 (parseV s).spent], .bool (parseOK s)]) []) .no) .no
  | _ => .no

/-! ### verdicts, compared; a verdict's first steps -/
def vdEq (a b : Vd) : Bool := a.kind == b.kind && (sameB a.proof b.proof && (a.w0 == b.w0 && (a.w1 == b.w1 && (a.w2 == b.w2 && (a.w3 == b.w3 && (a.twin == b.twin && a.spent == b.spent))))))
def S_copsekeep_Verdicts : RSpec
  | [.agg [.int .i64 k, .list true [.bool, .int .i64, .int .i64] p, .int .i64 a, .int .i64 b, .int .i64 c, .int .i64 d, .int .i64 t, .int .i64 s],
     .agg [.int .i64 k', .list true [.bool, .int .i64, .int .i64] p', .int .i64 a', .int .i64 b', .int .i64 c', .int .i64 d', .int .i64 t', .int .i64 s']] => .ok (.bool (vdEq ⟨k, p, a, b, c, d, t, s⟩ ⟨k', p', a', b', c', d', t', s'⟩)) []
  | _ => .no
def S_copselaw20_few : RSpec
  | [.agg [.int .i64 k, .list true [.bool, .int .i64, .int .i64] p, .int .i64 a, .int .i64 b, .int .i64 c, .int .i64 d, .int .i64 t, .int .i64 s]] => .ok (.agg [.int .i64 k, .list true [.bool, .int .i64, .int .i64] (p.take 40), .int .i64 a, .int .i64 b, .int .i64 c, .int .i64 d, .int .i64 t, .int .i64 s]) []
  | _ => .no

/-! ### the laws -/
def S_copselaw20_CertRuns : RSpec
  | [] => .ok (.bool true) []
  | _ => .no

def S_copselaw20_CertBack : RSpec
  | [.agg [.int .i64 _, .list true [.bool, .int .i64, .int .i64] _, .int .i64 _, .int .i64 _, .int .i64 _, .int .i64 _, .int .i64 _, .int .i64 _], .agg [.int .i64 _, .list true [.bool, .int .i64, .int .i64] _, .int .i64 _, .int .i64 _, .int .i64 _, .int .i64 _, .int .i64 _, .int .i64 _]] => .ok (.bool true) []
  | _ => .no
def S_copselaw20_CertOnly : RSpec
  | [.agg [.int .i64 _, .list true [.bool, .int .i64, .int .i64] _, .int .i64 _, .int .i64 _, .int .i64 _, .int .i64 _, .int .i64 _, .int .i64 _], .str _, .int .i64 _, .int .u8 _, .int .i64 _] => .ok (.bool true) []
  | _ => .no
def S_copselaw20_CertEdges : RSpec
  | [.int .i64 _, .int .i64 _] => .ok (.bool true) []
  | _ => .no
def S_copselaw20_CertLines : RSpec
  | [.agg [.int .i64 _, .list true [.bool, .int .i64, .int .i64] _, .int .i64 _, .int .i64 _, .int .i64 _, .int .i64 _, .int .i64 _, .int .i64 _]] => .ok (.bool true) []
  | _ => .no

end Go.FM

/-
  WHAT span's, box's, couple's, leaves', bound's, grid's, query's, goal's AND search's FUNCTIONS COME TO: specifications. Of no program.
-/
namespace Go.FM
open Go

def Nd.cs (x : Nd) : List FM.V := [.bool x.lf, .int .i64 x.v, .int .i64 x.f, .int .i64 x.a, .int .i64 x.l, .int .i64 x.r]
def Nd.V (x : Nd) : FM.V := .agg x.cs
def Md.cs (m : Md) : List FM.V := [.int .i64 m.d, .int .i64 m.c, .int .i64 m.b0, .int .i64 m.b1, .int .i64 m.b2, .list true [.int .i64, .list false [.int .u64]] m.ts]
def Md.V (m : Md) : FM.V := .agg m.cs
def Qy.cs (q : Qy) : List FM.V := [.int .i64 q.k, .int .i64 q.c, .int .i64 q.a0, .int .i64 q.b0, .int .i64 q.a1, .int .i64 q.b1, .int .i64 q.a2, .int .i64 q.b2, .int .i64 q.a3, .int .i64 q.b3, .int .i64 q.a4, .int .i64 q.b4, .int .i64 q.lo, .int .i64 q.hi, .int .i64 q.ft, .bool q.fl, .int .i64 q.bu]
def Vd.cs (v : Vd) : List FM.V := [.int .i64 v.kind, .list true [.bool, .int .i64, .int .i64] v.proof, .int .i64 v.w0, .int .i64 v.w1, .int .i64 v.w2, .int .i64 v.w3, .int .i64 v.twin, .int .i64 v.spent]
def Ak.cs (a : Ak) : List FM.V := [.int .i64 a.k, .int .i64 a.c, .int .i64 a.lo, .int .i64 a.size, .int .i64 a.ft, .int .i64 a.bu, .bool a.fl, .list false [.int .i64] a.sp]
def Ak.V (a : Ak) : FM.V := .agg a.cs

structure Sp where
  lo : Int
  hi : Int
def Sp.cs (s : Sp) : List FM.V := [.int .i64 s.lo, .int .i64 s.hi]
def Sp.V (s : Sp) : FM.V := .agg s.cs
structure Bx where
  s0 : Sp
  s1 : Sp
  s2 : Sp
  s3 : Sp
  s4 : Sp
def Bx.g (b : Bx) : Nat → Sp
  | 0 => b.s0
  | 1 => b.s1
  | 2 => b.s2
  | 3 => b.s3
  | _ => b.s4
def Bx.p (b : Bx) (s : Sp) : Nat → Bx
  | 0 => ⟨s, b.s1, b.s2, b.s3, b.s4⟩
  | 1 => ⟨b.s0, s, b.s2, b.s3, b.s4⟩
  | 2 => ⟨b.s0, b.s1, s, b.s3, b.s4⟩
  | 3 => ⟨b.s0, b.s1, b.s2, s, b.s4⟩
  | _ => ⟨b.s0, b.s1, b.s2, b.s3, s⟩
def Bx.cs (b : Bx) : List FM.V := [.int .i64 b.s0.lo, .int .i64 b.s0.hi, .int .i64 b.s1.lo, .int .i64 b.s1.hi, .int .i64 b.s2.lo, .int .i64 b.s2.hi, .int .i64 b.s3.lo, .int .i64 b.s3.hi, .int .i64 b.s4.lo, .int .i64 b.s4.hi]
def Bx.V (b : Bx) : FM.V := .agg b.cs
structure Pt where
  p0 : Int
  p1 : Int
  p2 : Int
  p3 : Int
def Pt.cs (p : Pt) : List FM.V := [.int .i64 p.p0, .int .i64 p.p1, .int .i64 p.p2, .int .i64 p.p3]
def Pt.V (p : Pt) : FM.V := .agg p.cs
def Pt.g (p : Pt) : Nat → Int
  | 0 => p.p0
  | 1 => p.p1
  | 2 => p.p2
  | _ => p.p3

/-! ### values as structures -/
def spOf? : List FM.V → Option Sp
  | [.int .i64 a, .int .i64 b] => some ⟨a, b⟩
  | _ => none
def ptOf? : List FM.V → Option Pt
  | [.int .i64 a, .int .i64 b, .int .i64 c, .int .i64 d] => some ⟨a, b, c, d⟩
  | _ => none
def bxOf? : List FM.V → Option Bx
  | [.int .i64 a0, .int .i64 b0, .int .i64 a1, .int .i64 b1, .int .i64 a2, .int .i64 b2, .int .i64 a3, .int .i64 b3, .int .i64 a4, .int .i64 b4] => some ⟨⟨a0, b0⟩, ⟨a1, b1⟩, ⟨a2, b2⟩, ⟨a3, b3⟩, ⟨a4, b4⟩⟩
  | _ => none
def mdOf? : List FM.V → Option Md
  | [.int .i64 d, .int .i64 c, .int .i64 b0, .int .i64 b1, .int .i64 b2, .list true [.int .i64, .list false [.int .u64]] ts] => some ⟨d, c, b0, b1, b2, ts⟩
  | _ => none
def qyOf? : List FM.V → Option Qy
  | [.int .i64 k, .int .i64 c, .int .i64 a0, .int .i64 b0, .int .i64 a1, .int .i64 b1, .int .i64 a2, .int .i64 b2, .int .i64 a3, .int .i64 b3, .int .i64 a4, .int .i64 b4, .int .i64 lo, .int .i64 hi, .int .i64 ft, .bool fl, .int .i64 bu] =>
    some ⟨k, c, a0, b0, a1, b1, a2, b2, a3, b3, a4, b4, lo, hi, ft, fl, bu⟩
  | _ => none
def vdOf? : List FM.V → Option Vd
  | [.int .i64 k, .list true [.bool, .int .i64, .int .i64] p, .int .i64 a, .int .i64 b, .int .i64 c, .int .i64 d, .int .i64 t, .int .i64 s] => some ⟨k, p, a, b, c, d, t, s⟩
  | _ => none
def withO {α : Type} (of : List FM.V → Option α) (v : FM.V) (k : α → R) : R :=
  match v with
  | .agg l => match of l with | some x => k x | none => .no
  | _ => .no
abbrev withS (v : FM.V) (k : Sp → R) : R := withO spOf? v k
abbrev withP (v : FM.V) (k : Pt → R) : R := withO ptOf? v k
abbrev withB (v : FM.V) (k : Bx → R) : R := withO bxOf? v k
abbrev withM (v : FM.V) (k : Md → R) : R := withO mdOf? v k
abbrev withQ (v : FM.V) (k : Qy → R) : R := withO qyOf? v k
abbrev withV (v : FM.V) (k : Vd → R) : R := withO vdOf? v k
theorem withO_get {α : Type} {of : List FM.V → Option α} {v : FM.V} {k : α → R} {z : FM.V × List (List FM.V)} (h : (withO of v k).get = some z) : ∃ l x, v = .agg l ∧ of l = some x ∧ (k x).get = some z := by
  unfold withO at h
  split at h
  · rename_i l
    split at h
    · rename_i x hx
      exact ⟨l, x, rfl, hx, h⟩
    · simp [R.get] at h
  · simp [R.get] at h
theorem withS_get {v : FM.V} {k : Sp → R} {z : FM.V × List (List FM.V)} (h : (withS v k).get = some z) : ∃ x : Sp, v = x.V ∧ (k x).get = some z := by
  obtain ⟨l, x, rfl, hx, h⟩ := withO_get h
  unfold spOf? at hx
  split at hx
  · simp only [Option.some.injEq] at hx
    subst hx
    exact ⟨_, rfl, h⟩
  · cases hx
theorem withP_get {v : FM.V} {k : Pt → R} {z : FM.V × List (List FM.V)} (h : (withP v k).get = some z) : ∃ x : Pt, v = x.V ∧ (k x).get = some z := by
  obtain ⟨l, x, rfl, hx, h⟩ := withO_get h
  unfold ptOf? at hx
  split at hx
  · simp only [Option.some.injEq] at hx
    subst hx
    exact ⟨_, rfl, h⟩
  · cases hx
theorem withB_get {v : FM.V} {k : Bx → R} {z : FM.V × List (List FM.V)} (h : (withB v k).get = some z) : ∃ x : Bx, v = x.V ∧ (k x).get = some z := by
  obtain ⟨l, x, rfl, hx, h⟩ := withO_get h
  unfold bxOf? at hx
  split at hx
  · simp only [Option.some.injEq] at hx
    subst hx
    exact ⟨_, rfl, h⟩
  · cases hx
theorem withM_get {v : FM.V} {k : Md → R} {z : FM.V × List (List FM.V)} (h : (withM v k).get = some z) : ∃ x : Md, v = x.V ∧ (k x).get = some z := by
  obtain ⟨l, x, rfl, hx, h⟩ := withO_get h
  unfold mdOf? at hx
  split at hx
  · simp only [Option.some.injEq] at hx
    subst hx
    exact ⟨_, rfl, h⟩
  · cases hx
theorem withQ_get {v : FM.V} {k : Qy → R} {z : FM.V × List (List FM.V)} (h : (withQ v k).get = some z) : ∃ x : Qy, v = x.V ∧ (k x).get = some z := by
  obtain ⟨l, x, rfl, hx, h⟩ := withO_get h
  unfold qyOf? at hx
  split at hx
  · simp only [Option.some.injEq] at hx
    subst hx
    exact ⟨_, rfl, h⟩
  · cases hx
theorem withV_get {v : FM.V} {k : Vd → R} {z : FM.V × List (List FM.V)} (h : (withV v k).get = some z) : ∃ x : Vd, v = x.V ∧ (k x).get = some z := by
  obtain ⟨l, x, rfl, hx, h⟩ := withO_get h
  unfold vdOf? at hx
  split at hx
  · simp only [Option.some.injEq] at hx
    subst hx
    exact ⟨_, rfl, h⟩
  · cases hx

/-! ### spans -/
def Sp.emp (s : Sp) : Bool := decide (s.lo > s.hi)
def Sp.has (s : Sp) (n : Int) : Bool := decide (s.lo ≤ n) && decide (n ≤ s.hi)
def spOf (lo hi : Int) : Sp := cond (decide (lo > hi)) ⟨1, 0⟩ ⟨lo, hi⟩
def Sp.meet (a b : Sp) : Sp := spOf (max a.lo b.lo) (min a.hi b.hi)
def Sp.cutL (s : Sp) (a : Int) : Sp := spOf s.lo (min s.hi a)
def Sp.cutH (s : Sp) (a : Int) : Sp := cond (decide (a ≥ s.hi)) ⟨1, 0⟩ (spOf (max s.lo (i64w (a + 1))) s.hi)
def S_span_none : RSpec
  | [] => .ok (.agg [.int .i64 1, .int .i64 0]) []
  | _ => .no
def S_span_of : RSpec
  | [.int .i64 lo, .int .i64 hi] => .ok (spOf lo hi).V []
  | _ => .no
def S_span_Empty : RSpec
  | [s] => withS s fun s => .ok (.bool (s.emp)) []
  | _ => .no
def S_span_Has : RSpec
  | [s, .int .i64 n] => withS s fun s => .ok (.bool (s.has n)) []
  | _ => .no
def S_span_Meet : RSpec
  | [a, b] => withS a fun a => withS b fun b => .ok (a.meet b).V []
  | _ => .no
def S_span_Cut : RSpec
  | [s, .int .i64 n] => withS s fun s => .ok (.tup [(s.cutL n).V, (s.cutH n).V]) []
  | _ => .no

/-! ### boxes -/
def Bx.I (b : Bx) : IV := .agg [.int b.s0.lo, .int b.s0.hi, .int b.s1.lo, .int b.s1.hi, .int b.s2.lo, .int b.s2.hi, .int b.s3.lo, .int b.s3.hi, .int b.s4.lo, .int b.s4.hi]
abbrev cI (x : IV) (j : Nat) : Int := (x.cell j).toInt
def bxI (x : IV) : Bx := ⟨⟨cI x 0, cI x 1⟩, ⟨cI x 2, cI x 3⟩, ⟨cI x 4, cI x 5⟩, ⟨cI x 6, cI x 7⟩, ⟨cI x 8, cI x 9⟩⟩
abbrev kBox : List Kd := [.int .i64, .int .i64, .int .i64, .int .i64, .int .i64, .int .i64, .int .i64, .int .i64, .int .i64, .int .i64]
def Bx.emp (b : Bx) : Bool := b.s0.emp || (b.s1.emp || (b.s2.emp || (b.s3.emp || b.s4.emp)))
def bx0 : Bx := ⟨⟨0, 0⟩, ⟨0, 0⟩, ⟨0, 0⟩, ⟨0, 0⟩, ⟨0, 0⟩⟩
def inPl (i : Int) : Bool := decide (0 ≤ i) && decide (i < 5)
def Bx.cutL (b : Bx) (i a : Int) : Bx := b.p ((b.g i.toNat).cutL a) i.toNat
def Bx.cutH (b : Bx) (i a : Int) : Bx := b.p ((b.g i.toNat).cutH a) i.toNat
def Bx.meet (a b : Bx) : Bx := ⟨a.s0.meet b.s0, a.s1.meet b.s1, a.s2.meet b.s2, a.s3.meet b.s3, a.s4.meet b.s4⟩
def Pt.p (p : Pt) (x : Int) : Nat → Pt
  | 0 => ⟨x, p.p1, p.p2, p.p3⟩
  | 1 => ⟨p.p0, x, p.p2, p.p3⟩
  | 2 => ⟨p.p0, p.p1, x, p.p3⟩
  | _ => ⟨p.p0, p.p1, p.p2, x⟩
def Bx.low (b : Bx) : Pt := ⟨b.s0.lo, b.s1.lo, b.s2.lo, b.s3.lo⟩
def Bx.has (b : Bx) (p : Pt) (t : Int) : Bool := b.s0.has p.p0 && (b.s1.has p.p1 && (b.s2.has p.p2 && (b.s3.has p.p3 && b.s4.has t)))
def S_box_Empty : RSpec
  | [b] => withB b fun b => .ok (.bool (b.emp)) []
  | _ => .no
def S_box_Low : RSpec
  | [b] => withB b fun b => .ok b.low.V []
  | _ => .no
def S_box_Has : RSpec
  | [b, p, .int .i64 t] => withB b fun b => withP p fun p => .ok (.bool (b.has p t)) []
  | _ => .no
def S_box_Cut : RSpec
  | [b, .int .i64 i, .int .i64 a] => withB b fun b => .br (inPl i) (.ok (.tup [(b.cutL i a).V, (b.cutH i a).V]) []) .no
  | _ => .no
def S_box_Meet : RSpec
  | [a, b] => withB a fun a => withB b fun b => .ok (a.meet b).V []
  | _ => .no

/-! ### a point's way; a model's sums -/
def endF (l : List IV) (p : Pt) : Nat → Int → Int × Nd
  | 0, _ => (-1, Nd.zero)
  | n + 1, a =>
    cond (decide (a ≥ ic l.length)) (-1, Nd.zero)
      (cond (!(nodeB (l.getD a.toNat default).toInt)) (-1, Nd.zero)
        (cond (nodeN (l.getD a.toNat default).toInt).lf (a, nodeN (l.getD a.toNat default).toInt)
          (cond (decide (p.g (nodeN (l.getD a.toNat default).toInt).f.toNat ≤ (nodeN (l.getD a.toNat default).toInt).a)) (endF l p n (nodeN (l.getD a.toNat default).toInt).l) (endF l p n (nodeN (l.getD a.toNat default).toInt).r))))
def endAt (l : List IV) (p : Pt) : Int := (endF l p 31 0).1
def endNd (l : List IV) (p : Pt) : Nd := (endF l p 31 0).2
def S_tree_end : RSpec
  | [.list false [.int .u64] l, p] => withP p fun p => .ok (.tup [.int .i64 (endAt l p), (endNd l p).V]) []
  | _ => .no
def valT (l : List IV) (p : Pt) : Int := (endNd l p).v
def S_tree_Value : RSpec
  | [.list false [.int .u64] l, p] => withP p fun p => .ok (.int .i64 (valT l p)) []
  | _ => .no
def biasOf (m : Md) (c : Int) : Int := cond (c == 0) m.b0 (cond (c == 1) m.b1 m.b2)
abbrev tCls (t : IV) : Int := cI t 0
abbrev tNds (t : IV) : List IV := (t.cell 1).toList
def evF (c : Int) (p : Pt) : List IV → Int → Int
  | [], s => s
  | t :: r, s => evF c p r (cond (tCls t == c) (s + valT (tNds t) p) s)
def clsOK (m : Md) (c : Int) : Bool := decide (0 ≤ c) && decide (c < m.c)
def S_model_eval : RSpec
  | [m, .int .i64 k, p] => withM m fun m => withP p fun p => .br (modelB m && clsOK m k) (.ok (.int .i64 (evF k p m.ts (biasOf m k))) []) .no
  | _ => .no
def evalM (m : Md) (k : Int) (p : Pt) : Int := cond (modelB m && clsOK m k) (evF k p m.ts (biasOf m k)) 0
def S_model_Eval : RSpec
  | [m, .int .i64 k, p] => withM m fun m => withP p fun p => .ok (.int .i64 (evalM m k p)) []
  | _ => .no

/-! ### thresholds -/
/-- Numbers, put in at their places. -/
def insZ (x : Int) : List Int → List Int
  | [] => [x]
  | y :: r => cond (decide (x ≤ y)) (x :: y :: r) (y :: insZ x r)
def sortZ : List Int → List Int
  | [] => []
  | x :: r => insZ x (sortZ r)
/-- Equal neighbours, once. -/
def cmpF : Int → List Int → List Int
  | _, [] => []
  | p, x :: r => cond (x == p) (cmpF x r) (x :: cmpF x r)
def cmpZ : List Int → List Int
  | [] => []
  | x :: r => x :: cmpF x r
def thrN (f : Int) (w : IV) : List Int := cond (!(nodeN w.toInt).lf && (nodeN w.toInt).f == f) [(nodeN w.toInt).a] []
def thrRaw (ts : List IV) (f : Int) : List Int := ts.flatMap fun t => (tNds t).flatMap (thrN f)
def thrZ (ts : List IV) (f : Int) : List Int := cmpZ (sortZ (thrRaw ts f))
def iZ (l : List Int) : List IV := l.map IV.int
def S_model_Thresholds : RSpec
  | [m, .int .i64 f] => withM m fun m => .br (modelB m) (.ok (.vec 3 false [.int .i64] (iZ (thrZ m.ts f))) []) .no
  | _ => .no

/-! ### rows that are turned in place -/
def ipSort : Ip := ⟨3, false, fun rs l => match rs with
  | [] => some (iZ (sortZ (l.map IV.toInt)))
  | _ => none⟩
def ipCompact : Ip := ⟨3, true, fun rs l => match rs with
  | [] => some (iZ (cmpZ (l.map IV.toInt)))
  | _ => none⟩
def keepZ (a b : Int) (l : List Int) : List Int := l.filter fun t => !(decide (t < a) || decide (t ≥ b))
def ipDelete : Ip := ⟨3, true, fun rs l => match rs with
  | [.clo f [.bor [.int .i64 a, .int .i64 b]]] => cond (Nat.beq f 62) (some (iZ (keepZ a b (l.map IV.toInt)))) none
  | _ => none⟩

/-! ### queries -/
def Qy.bx (q : Qy) : Bx := ⟨⟨q.a0, q.b0⟩, ⟨q.a1, q.b1⟩, ⟨q.a2, q.b2⟩, ⟨q.a3, q.b3⟩, ⟨q.a4, q.b4⟩⟩
def spOK (d i : Int) (s : Sp) : Bool := !(decide (i ≥ d) && !((s.lo == 0) && (s.hi == 0))) && (!s.emp && (fits32 s.lo && fits32 s.hi))
def regB5 (b : Bx) (d : Int) : Bool := spOK d 0 b.s0 && (spOK d 1 b.s1 && (spOK d 2 b.s2 && (spOK d 3 b.s3 && spOK d 4 b.s4)))
def S_query_region : RSpec
  | [b, .int .i64 d] => withB b fun b => .ok (.bool (regB5 b d)) []
  | _ => .no
def kindB (m : Md) (q : Qy) : Bool :=
  cond (q.k == 1) (decide (q.lo ≤ q.hi) && ((q.ft == 0) && !q.fl))
    (cond (q.k == 2) (decide (m.c ≥ 2) && ((q.lo == 0) && ((q.hi == 0) && ((q.ft == 0) && !q.fl))))
      (cond (q.k == 3) (decide (q.ft ≥ 0) && (decide (q.ft < m.d) && ((q.lo == 0) && (q.hi == 0)))) false))
def rightQ (m : Md) (q : Qy) : Bool := modelB m && (decide (q.c ≥ 0) && (decide (q.c < m.c) && (decide (q.bu ≥ 0) && (decide (q.bu ≤ 65536) && (regB5 q.bx m.d && kindB m q)))))
def paired (q : Qy) : Bool := (q.k == 3) && (decide (q.ft ≥ 0) && decide (q.ft < 4))
def startB (q : Qy) : Bx := q.bx.p (cond (paired q) (q.bx.g q.ft.toNat) ⟨0, 0⟩) 4
def secondP (q : Qy) (p : Pt) (t : Int) : Pt := cond (paired q) (p.p t q.ft.toNat) p
def othersGe (m : Md) (q : Qy) (p : Pt) (own : Int) : Bool := (List.range m.c.toNat).any fun c => !((c : Int) == q.c) && decide (evalM m (c : Int) p ≥ own)
def breaksF (m : Md) (q : Qy) (p : Pt) (t : Int) : Bool :=
  rightQ m q &&
    cond (q.k == 1) (!(Sp.has ⟨q.lo, q.hi⟩ (evalM m q.c p)))
      (cond (q.k == 2) (othersGe m q p (evalM m q.c p))
        (cond (decide (p.g q.ft.toNat ≥ t)) false
          (cond q.fl (decide (evalM m q.c (secondP q p t) > evalM m q.c p)) (decide (evalM m q.c (secondP q p t) < evalM m q.c p)))))
/-! ### leaves as boxes -/
def lvStep (n : Nd) (i : Nat) (own : List IV) : List IV :=
  cond n.lf own ((own.set n.l.toNat ((bxI (own.getD i default)).cutL n.f n.a).I).set n.r.toNat ((bxI (own.getD i default)).cutH n.f n.a).I)
def pcI (b : Bx) (v : Int) : IV := .agg [.int b.s0.lo, .int b.s0.hi, .int b.s1.lo, .int b.s1.hi, .int b.s2.lo, .int b.s2.hi, .int b.s3.lo, .int b.s3.hi, .int b.s4.lo, .int b.s4.hi, .int v]
abbrev pcV (x : IV) : Int := cI x 10
abbrev kPiece : List Kd := [.int .i64, .int .i64, .int .i64, .int .i64, .int .i64, .int .i64, .int .i64, .int .i64, .int .i64, .int .i64, .int .i64]
def lvRun : List IV → Nat → List IV → List IV → List IV
  | [], _, _, out => out
  | w :: r, i, own, out => lvRun r (i + 1) (lvStep (nodeN w.toInt) i own) (cond ((nodeN w.toInt).lf && !(bxI (own.getD i default)).emp) (out ++ [pcI (bxI (own.getD i default)) (nodeN w.toInt).v]) out)
def leavesF (l : List IV) (b : Bx) : List IV := cond (treeB l 4 && !b.emp) (lvRun l 0 ((List.replicate l.length bx0.I).set 0 b.I) []) []
def S_leaves_List : RSpec
  | [.list false [.int .u64] l, b] => withB b fun b => .ok (.list true kPiece (leavesF l b)) []
  | _ => .no

/-! ### bounds -/
def minV : List IV → Int → Int
  | [], a => a
  | x :: r, a => minV r (min a (pcV x))
def maxV : List IV → Int → Int
  | [], a => a
  | x :: r, a => maxV r (max a (pcV x))
def psLo (ps : List IV) : Int := minV ps (pcV (ps.getD 0 default))
def psHi (ps : List IV) : Int := maxV ps (pcV (ps.getD 0 default))
def tOK (l : List IV) (b : Bx) : Bool := !((leavesF l b).isEmpty)
def tLo (l : List IV) (b : Bx) : Int := cond (tOK l b) (psLo (leavesF l b)) 0
def tHi (l : List IV) (b : Bx) : Int := cond (tOK l b) (psHi (leavesF l b)) 0
def S_bound_Tree : RSpec
  | [.list false [.int .u64] l, b] => withB b fun b => .ok (.tup [.int .i64 (tLo l b), .int .i64 (tHi l b), .bool (tOK l b)]) []
  | _ => .no
def sumT (h : List IV → Int) (c : Int) : List IV → Int → Int
  | [], s => s
  | t :: r, s => sumT h c r (cond (tCls t == c) (s + h (tNds t)) s)
def sOK (m : Md) (c : Int) (b : Bx) : Bool := modelB m && (clsOK m c && !b.emp)
def sLo (m : Md) (c : Int) (b : Bx) : Int := cond (sOK m c b) (sumT (fun l => tLo l b) c m.ts (biasOf m c)) 0
def sHi (m : Md) (c : Int) (b : Bx) : Int := cond (sOK m c b) (sumT (fun l => tHi l b) c m.ts (biasOf m c)) 0
def S_bound_Sum : RSpec
  | [m, .int .i64 k, b] => withM m fun m => withB b fun b => .ok (.tup [.int .i64 (sLo m k b), .int .i64 (sHi m k b), .bool (sOK m k b)]) []
  | _ => .no
/-- The least of the margins over classes i, i+1, .. ('z': is there one yet?). -/
def margR (m : Md) (c lo : Int) (b : Bx) : Nat → Int → Int → Bool → Int
  | 0, _, a, _ => a
  | n + 1, i, a, z => cond (i == c) (margR m c lo b n (i + 1) a z)
      (cond (!z || decide (lo - sHi m i b < a)) (margR m c lo b n (i + 1) (lo - sHi m i b) true) (margR m c lo b n (i + 1) a z))
def mgOK (m : Md) (c : Int) (b : Bx) : Bool := sOK m c b && decide (m.c ≥ 2)
def marg (m : Md) (c : Int) (b : Bx) : Int := cond (mgOK m c b) (margR m c (sLo m c b) b m.c.toNat 0 0 false) 0
def S_bound_Margin : RSpec
  | [m, .int .i64 k, b] => withM m fun m => withB b fun b => .ok (.tup [.int .i64 (marg m k b), .bool (mgOK m k b)]) []
  | _ => .no

/-! ### pairs -/
def firstB (q : Qy) (b : Bx) : Bx := cond (paired q) (b.p ⟨0, 0⟩ 4) b
def secondB (q : Qy) (b : Bx) : Bx := cond (paired q) ((b.p b.s4 q.ft.toNat).p ⟨0, 0⟩ 4) b
def ordered (q : Qy) (b : Bx) : Bool := paired q && (!b.emp && decide ((b.g q.ft.toNat).lo < b.s4.hi))
def chOK (m : Md) (q : Qy) (b : Bx) : Bool := paired q && (sOK m q.c (firstB q b) && sOK m q.c (secondB q b))
def chLo (m : Md) (q : Qy) (b : Bx) : Int := cond (chOK m q b) (sLo m q.c (secondB q b) - sHi m q.c (firstB q b)) 0
def chHi (m : Md) (q : Qy) (b : Bx) : Int := cond (chOK m q b) (sHi m q.c (secondB q b) - sLo m q.c (firstB q b)) 0

/-! ### goals -/
def closedF (m : Md) (q : Qy) (b : Bx) : Bool :=
  rightQ m q &&
    cond b.emp true
      (cond (q.k == 1) (sOK m q.c b && (decide (q.lo ≤ sLo m q.c b) && decide (sHi m q.c b ≤ q.hi)))
        (cond (q.k == 2) (mgOK m q.c b && decide (marg m q.c b > 0))
          (cond (!(ordered q b)) true
            (cond q.fl (chOK m q b && decide (chHi m q b ≤ 0)) (chOK m q b && decide (chLo m q b ≥ 0))))))
def featG (q : Qy) (i : Int) : Int := cond (decide (i ≥ 0) && decide (i < 4)) i (cond ((i == 4) && (q.k == 3)) q.ft (-1))
def cutsZ (m : Md) (q : Qy) (b : Bx) (i : Nat) : List Int :=
  cond (decide (featG q (i : Int) < 0)) [] (keepZ (b.g i).lo (b.g i).hi (thrZ m.ts (featG q (i : Int))))
def spR (m : Md) (q : Qy) (b : Bx) : Nat → Nat → Option (Int × Int)
  | 0, _ => none
  | n + 1, i => cond (decide ((cutsZ m q b i).length > 0)) (some ((i : Int), (cutsZ m q b i).getD (((cutsZ m q b i).length - 1) / 2) 0)) (spR m q b n (i + 1))
def splitF (m : Md) (q : Qy) (b : Bx) : Option (Int × Int) := spR m q b 5 0

def S_query_kind : RSpec
  | [m, q] => withM m fun m => withQ q fun q => .ok (.bool (kindB m q)) []
  | _ => .no
def S_query_Right : RSpec
  | [m, q] => withM m fun m => withQ q fun q => .ok (.bool (rightQ m q)) []
  | _ => .no
def S_query_paired : RSpec
  | [q] => withQ q fun q => .ok (.bool (paired q)) []
  | _ => .no
def S_couple_pairs : RSpec
  | [q] => withQ q fun q => .ok (.bool (paired q)) []
  | _ => .no
def S_query_Start : RSpec
  | [q] => withQ q fun q => .ok (startB q).V []
  | _ => .no
def S_query_Second : RSpec
  | [q, p, .int .i64 t] => withQ q fun q => withP p fun p => .ok (secondP q p t).V []
  | _ => .no
def S_query_Breaks : RSpec
  | [m, q, p, .int .i64 t] => withM m fun m => withQ q fun q => withP p fun p => .ok (.bool (breaksF m q p t)) []
  | _ => .no
def S_couple_First : RSpec
  | [q, b] => withQ q fun q => withB b fun b => .ok (firstB q b).V []
  | _ => .no
def S_couple_Second : RSpec
  | [q, b] => withQ q fun q => withB b fun b => .ok (secondB q b).V []
  | _ => .no
def S_couple_Ordered : RSpec
  | [q, b] => withQ q fun q => withB b fun b => .ok (.bool (ordered q b)) []
  | _ => .no
def S_couple_Change : RSpec
  | [m, q, b] => withM m fun m => withQ q fun q => withB b fun b => .ok (.tup [.int .i64 (chLo m q b), .int .i64 (chHi m q b), .bool (chOK m q b)]) []
  | _ => .no
def S_goal_Closed : RSpec
  | [m, q, b] => withM m fun m => withQ q fun q => withB b fun b => .ok (.bool (closedF m q b)) []
  | _ => .no
def S_goal_Corner : RSpec
  | [b] => withB b fun b => .ok (.tup [b.low.V, .int .i64 b.s4.hi]) []
  | _ => .no
def S_grid_feature : RSpec
  | [q, .int .i64 i] => withQ q fun q => .ok (.int .i64 (featG q i)) []
  | _ => .no
def S_grid_Cuts : RSpec
  | [m, q, b, .int .i64 i] => withM m fun m => withQ q fun q => withB b fun b => .br (modelB m && inPl i) (.ok (.list false [.int .i64] (iZ (cutsZ m q b i.toNat))) []) .no
  | _ => .no
def spI (o : Option (Int × Int)) : Int := match o with | none => 0 | some (i, _) => i
def spAt (o : Option (Int × Int)) : Int := match o with | none => 0 | some (_, a) => a
def S_goal_Split : RSpec
  | [m, q, b] => withM m fun m => withQ q fun q => withB b fun b => .br (modelB m) (.ok (.tup [.int .i64 (spI (splitF m q b)), .int .i64 (spAt (splitF m q b)), .bool (splitF m q b).isSome]) []) .no
  | _ => .no

/-! ### a search -/
structure Sr where
  left : List IV
  proof : List IV
  v : Vd
  spent : Int
def stI (s : Bool) (p a : Int) : IV := .agg [.bool s, .int p, .int a]
def topB (l : List IV) : Bx := bxI (l.getD (l.length - 1) default)
def popL (l : List IV) : List IV := l.take (l.length - 1)
def stepF (m : Md) (q : Qy) (s : Sr) : Sr :=
  cond (closedF m q (topB s.left)) ⟨popL s.left, s.proof ++ [stI true 0 0], cond (ic (s.left.length - 1) == 0) ⟨1, s.proof ++ [stI true 0 0], 0, 0, 0, 0, 0, 0⟩ s.v, s.spent + 1⟩
    (cond (breaksF m q (topB s.left).low (topB s.left).s4.hi) ⟨popL s.left, s.proof, ⟨2, [], (topB s.left).s0.lo, (topB s.left).s1.lo, (topB s.left).s2.lo, (topB s.left).s3.lo, (topB s.left).s4.hi, 0⟩, s.spent + 1⟩
      (cond (splitF m q (topB s.left)).isSome
        ⟨popL s.left ++ [((topB s.left).cutH (spI (splitF m q (topB s.left))) (spAt (splitF m q (topB s.left)))).I, ((topB s.left).cutL (spI (splitF m q (topB s.left))) (spAt (splitF m q (topB s.left)))).I],
          s.proof ++ [stI false (spI (splitF m q (topB s.left))) (spAt (splitF m q (topB s.left)))], s.v, s.spent + 1⟩
        ⟨popL s.left, s.proof, ⟨3, [], 0, 0, 0, 0, 0, 0⟩, s.spent + 1⟩))
def overS (q : Qy) (s : Sr) : Bool := !(s.v.kind == 0) || decide (s.spent ≥ q.bu)
def runS (m : Md) (q : Qy) : Nat → Sr → Sr
  | 0, s => s
  | n + 1, s => cond (overS q s) s (runS m q n (stepF m q s))
def newS (m : Md) (q : Qy) : Sr := cond (rightQ m q) ⟨[(startB q).I], [], Vd.none, 0⟩ ⟨[], [], ⟨4, [], 0, 0, 0, 0, 0, 0⟩, 0⟩
def verdS (s : Sr) : Vd := ⟨cond (s.v.kind == 0) 3 s.v.kind, s.v.proof, s.v.w0, s.v.w1, s.v.w2, s.v.w3, s.v.twin, s.spent⟩
def runF (m : Md) (q : Qy) : Vd := verdS (runS m q (q.bu.toNat + 1) (newS m q))

/-! ### a search's cells -/
def seCs (m : Md) (q : Qy) (r : List FM.V) : List FM.V := m.cs ++ (q.cs ++ r)
def seOf? (l : List FM.V) : Option (Md × Qy × List FM.V) :=
  match mdOf? (l.take 6), qyOf? ((l.drop 6).take 17) with
  | some m, some q => some (m, q, (l.drop 6).drop 17)
  | _, _ => none
abbrev lBox (l : List IV) : FM.V := .vec 30 true kBox l
abbrev lStep (l : List IV) : FM.V := .vec 82 true kStep l
abbrev fStep (l : List IV) : FM.V := .list true kStep l
/-- The cells behind 'left' and 'proof'. -/
def vdT (v : Vd) (vp : FM.V) (sp : Int) : List FM.V := [.int .i64 v.kind, vp, .int .i64 v.w0, .int .i64 v.w1, .int .i64 v.w2, .int .i64 v.w3, .int .i64 v.twin, .int .i64 v.spent, .int .i64 sp]
/-- A search: what its 'left' and 'proof' lie in: 0: fresh rows; 1: no proof yet; 2: a proof that is shared with the verdict; 3: nothing. -/
def srV (t : Nat) (m : Md) (q : Qy) (s : Sr) : List FM.V :=
  seCs m q (match t with
    | 0 => lBox s.left :: lStep s.proof :: vdT s.v .zs s.spent
    | 1 => lBox s.left :: .zs :: vdT s.v .zs s.spent
    | 2 => lBox s.left :: fStep s.proof :: vdT s.v (fStep s.v.proof) s.spent
    | _ => .zs :: .zs :: vdT s.v .zs s.spent)
def srT? : List FM.V → Option (Nat × Sr)
  | [.vec 30 true [.int .i64, .int .i64, .int .i64, .int .i64, .int .i64, .int .i64, .int .i64, .int .i64, .int .i64, .int .i64] l, .vec 82 true [.bool, .int .i64, .int .i64] p, .int .i64 k, .zs, .int .i64 a, .int .i64 b, .int .i64 c, .int .i64 d, .int .i64 t, .int .i64 vs, .int .i64 sp] => some (0, ⟨l, p, ⟨k, [], a, b, c, d, t, vs⟩, sp⟩)
  | [.vec 30 true [.int .i64, .int .i64, .int .i64, .int .i64, .int .i64, .int .i64, .int .i64, .int .i64, .int .i64, .int .i64] l, .zs, .int .i64 k, .zs, .int .i64 a, .int .i64 b, .int .i64 c, .int .i64 d, .int .i64 t, .int .i64 vs, .int .i64 sp] => some (1, ⟨l, [], ⟨k, [], a, b, c, d, t, vs⟩, sp⟩)
  | [.vec 30 true [.int .i64, .int .i64, .int .i64, .int .i64, .int .i64, .int .i64, .int .i64, .int .i64, .int .i64, .int .i64] l, .list true [.bool, .int .i64, .int .i64] p, .int .i64 k, .list true [.bool, .int .i64, .int .i64] vp, .int .i64 a, .int .i64 b, .int .i64 c, .int .i64 d, .int .i64 t, .int .i64 vs, .int .i64 sp] => some (2, ⟨l, p, ⟨k, vp, a, b, c, d, t, vs⟩, sp⟩)
  | [.zs, .zs, .int .i64 k, .zs, .int .i64 a, .int .i64 b, .int .i64 c, .int .i64 d, .int .i64 t, .int .i64 vs, .int .i64 sp] => some (3, ⟨[], [], ⟨k, [], a, b, c, d, t, vs⟩, sp⟩)
  | _ => none
def withSr (v : FM.V) (k : Nat → Md → Qy → Sr → R) : R :=
  match v with
  | .bor l => match seOf? l with
    | some (m, q, r) => match srT? r with
      | some (t, s) => k t m q s
      | none => .no
    | none => .no
  | _ => .no
/-- What its proof lies in behind a step. -/
def stepT (m : Md) (q : Qy) (t : Nat) (s : Sr) : Nat :=
  cond (closedF m q (topB s.left)) (cond (ic (s.left.length - 1) == 0) 2 0)
    (cond (breaksF m q (topB s.left).low (topB s.left).s4.hi) t (cond (splitF m q (topB s.left)).isSome 0 t))
def S_search_New : RSpec
  | [m, q] => withM m fun m => withQ q fun q => .br (rightQ m q) (.ok (.bor (srV 1 m q ⟨[(startB q).I], [], Vd.none, 0⟩)) []) (.ok (.bor (srV 3 m q ⟨[], [], ⟨4, [], 0, 0, 0, 0, 0, 0⟩, 0⟩)) [])
  | _ => .no
def S_search_Search_Step : RSpec
  | [x] => withSr x fun t m q s =>
      .br (overS q s) (.ok (.bool false) [srV t m q s])
        (.br (Nat.ble t 1 && (rightQ m q && (decide (0 ≤ s.spent) && (Nat.blt 0 s.left.length && (Nat.ble s.left.length 100000 && Nat.ble s.proof.length 100000)))))
          (.br (closedF m q (topB s.left)) (.br (ic (s.left.length - 1) == 0) (.ok (.bool true) [srV 2 m q (stepF m q s)]) (.ok (.bool true) [srV 0 m q (stepF m q s)]))
            (.br (breaksF m q (topB s.left).low (topB s.left).s4.hi) (.ok (.bool true) [srV t m q (stepF m q s)])
              (.br (splitF m q (topB s.left)).isSome (.ok (.bool true) [srV 0 m q (stepF m q s)]) (.ok (.bool true) [srV t m q (stepF m q s)])))) .no)
  | _ => .no
def S_search_Search_Left : RSpec
  | [x] => withSr x fun t m q s => .ok (.int .i64 (ic s.left.length)) [srV t m q s]
  | _ => .no
def S_search_Search_Verdict : RSpec
  | [x] => withSr x fun t m q s => .br (Nat.ble s.v.proof.length 100000) (.ok (verdS s).V [srV t m q s]) .no
  | _ => .no
def S_search_Run : RSpec
  | [m, q] => withM m fun m => withQ q fun q => .ok (runF m q).V []
  | _ => .no
def S_slices_Clone_apiStepapiStep : RSpec
  | [.list true [.bool, .int .i64, .int .i64] l] => .br (Nat.ble l.length 100000) (.ok (.vec 82 true kStep l) []) .no
  | _ => .no

end Go.FM

/-
  NORMAL FORMS: what the functions' runs come to (written by a program of this claim's own, checked by the kernel).
-/
namespace Go.FM
open Go Go.Proofs

/-! ### copse/span.none -/
def E_span_none (N : Nat) : Env := mkE [] [] 2 N

theorem nf_span_none (N : Nat) : evFun (E_span_none N) c_span_none [.cell 0 28] [[.int .i64, .int .i64]] [] =
  (some ((.agg [(.int .i64 1), (.int .i64 0)]), [])) := by kernel_rfl

/-! ### copse/span.of -/
def E_span_of (N : Nat) : Env := mkE [(64, S_span_none)] [] 12 N

theorem nf_span_of (N : Nat) (lo : Int) (hi : Int) : evFun (E_span_of N) c_span_of [.cell 4 28] [[.int .i64, .int .i64]] [(.int .i64 lo), (.int .i64 hi)] =
  (cond (decide (lo > hi)) (some ((.agg [(.int .i64 1), (.int .i64 0)]), [])) (some ((.agg [(.int .i64 lo), (.int .i64 hi)]), []))) := by kernel_rfl

/-! ### copse/span.Empty -/
def E_span_Empty (N : Nat) : Env := mkE [] [] 8 N

theorem nf_span_Empty (N : Nat) (s : Sp) : evFun (E_span_Empty N) c_span_Empty [.tmp 2] [[.bool]] [(Sp.V s)] =
  (some ((.bool (decide (Sp.lo s > Sp.hi s))), [])) := by kernel_rfl

/-! ### copse/span.Has -/
def E_span_Has (N : Nat) : Env := mkE [] [] 15 N

theorem nf_span_Has (N : Nat) (s : Sp) (n : Int) : evFun (E_span_Has N) c_span_Has [.tmp 4] [[.bool]] [(Sp.V s), (.int .i64 n)] =
  (cond (decide (Sp.lo s ≤ n)) (some ((.bool (decide (n ≤ Sp.hi s))), [])) (some ((.bool false), []))) := by kernel_rfl

/-! ### copse/span.Cut -/
def E_span_Cut (N : Nat) : Env := mkE [(64, S_span_none), (63, S_span_of)] [] 29 N

theorem nf_span_Cut (N : Nat) (s : Sp) (atv : Int) : evFun (E_span_Cut N) c_span_Cut [.cell 4 28, .cell 5 28] [[.int .i64, .int .i64], [.int .i64, .int .i64]] [(Sp.V s), (.int .i64 atv)] =
  (cond (decide (atv ≥ Sp.hi s))
  (some ((.tup [(Sp.V (spOf (Sp.lo s) (min (Sp.hi s) atv))), (.agg [(.int .i64 1), (.int .i64 0)])]), []))
  (some ((.tup [(Sp.V (spOf (Sp.lo s) (min (Sp.hi s) atv))), (Sp.V (spOf (max (Sp.lo s) (IntKind.wrap IntKind.i64 (atv + 1))) (Sp.hi s)))]), []))) := by kernel_rfl

/-! ### copse/tree.end -/
def E_tree_end (N : Nat) : Env := mkE [(66, S_node_Unpack)] [(3, ⟨[0, 3, 4, 5, 6, 9], [3, 5], []⟩)] 46 N

theorem nf_tree_end (N : Nat) (l : List IV) (p : Pt) : evFun (E_tree_end N) c_tree_end [.tmp 4, .cell 5 63] [[.int .i64], [.bool, .int .i64, .int .i64, .int .i64, .int .i64, .int .i64]] [(.list false [.int .u64] l), (Pt.V p)] =
  (lpE (E_tree_end N) (subC c_tree_end [1, 1, 0, 1, 0, 0]) ⟨[0, 3, 4, 5, 6, 9], [3, 5], []⟩ N ⟨[(0, (.list false [(.int .u64)] l)), (3, (.ptr 3 0 0)), (4, (.int .i64 0)), (5, (.ptr 5 0 0)), (6, (.int .i64 0)), (9, (.int .i64 0))], [(3, (some (.box (Pt.cs p)))), (5, (some (.box [(.bool false), (.int .i64 0), (.int .i64 0), (.int .i64 0), (.int .i64 0), (.int .i64 0)])))]⟩ (kBlock 0 (kSq (E_tree_end N) (subC c_tree_end [1, 1, 1]) (outT (E_tree_end N) none [(ResultVar.tmp 4), (ResultVar.cell 5 63)] [[(.int .i64)], [.bool, (.int .i64), (.int .i64), (.int .i64), (.int .i64), (.int .i64)]])))) := by kernel_rfl

theorem st_tree_end_1 (N : Nat) (p : Pt) (l0 : List IV) (x4 : Int) (x6 : Int) (x9 : Int) (bo5_0 : Bool) (xo5_1 : Int) (xo5_2 : Int) (xo5_3 : Int) (xo5_4 : Int) (xo5_5 : Int) (again : St → Res) (k : Out → St → Res) : rnd (E_tree_end N) (subC c_tree_end [1, 1, 0, 1, 0, 0])
    ⟨[(0, (.list false [(.int .u64)] l0)), (3, (.ptr 3 0 0)), (4, (.int .i64 x4)), (5, (.ptr 5 0 0)), (6, (.int .i64 x6)), (9, (.int .i64 x9))], [(3, (some (.box (Pt.cs p)))), (5, (some (.box [(.bool bo5_0), (.int .i64 xo5_1), (.int .i64 xo5_2), (.int .i64 xo5_3), (.int .i64 xo5_4), (.int .i64 xo5_5)])))]⟩
    (kLoop again ⟨[0, 3, 4, 5, 6, 9], [3, 5], []⟩ k) =
  (cond (decide (x9 < 31))
  (cond (decide (x6 ≥ ic (List.length l0)))
   (k (.exit 0) ⟨[(0, (.list false [(.int .u64)] l0)), (3, (.ptr 3 0 0)), (4, (.int .i64 x4)), (5, (.ptr 5 0 0)), (6, (.int .i64 x6)), (9, (.int .i64 x9))], [(3, (some (.box (Pt.cs p)))), (5, (some (.box [(.bool bo5_0), (.int .i64 xo5_1), (.int .i64 xo5_2), (.int .i64 xo5_3), (.int .i64 xo5_4), (.int .i64 xo5_5)])))]⟩)
   (cond (decide (0 ≤ x6) && decide (x6 < ic (List.length l0)))
    (cond (!nodeB (IV.toInt (List.getD l0 (Int.toNat x6) default)))
     (k .ret ⟨[(0, (.list false [(.int .u64)] l0)), (3, (.ptr 3 0 0)), (4, (.int .i64 (-1))), (5, (.ptr 5 0 0)), (6, (.int .i64 x6)), (9, (.int .i64 x9))], [(3, (some (.box (Pt.cs p)))), (5, (some (.box [(.bool false), (.int .i64 0), (.int .i64 0), (.int .i64 0), (.int .i64 0), (.int .i64 0)])))]⟩)
     (cond (Nd.lf (nodeN (IV.toInt (List.getD l0 (Int.toNat x6) default))))
      (k .ret ⟨[(0, (.list false [(.int .u64)] l0)), (3, (.ptr 3 0 0)), (4, (.int .i64 x6)), (5, (.ptr 5 0 0)), (6, (.int .i64 x6)), (9, (.int .i64 x9))], [(3, (some (.box (Pt.cs p)))), (5, (some (.box (Nd.cs (nodeN (IV.toInt (List.getD l0 (Int.toNat x6) default)))))))]⟩)
      (cond (decide (Nd.f (nodeN (IV.toInt (List.getD l0 (Int.toNat x6) default))) = ic 0))
       (cond (decide (Pt.p0 p ≤ Nd.a (nodeN (IV.toInt (List.getD l0 (Int.toNat x6) default)))))
        (again ⟨[(0, (.list false [(.int .u64)] l0)), (3, (.ptr 3 0 0)), (4, (.int .i64 x4)), (5, (.ptr 5 0 0)), (6, (.int .i64 (Nd.l (nodeN (IV.toInt (List.getD l0 (Int.toNat x6) default)))))), (9, (.int .i64 (IntKind.wrap IntKind.i64 (x9 + 1))))], [(3, (some (.box (Pt.cs p)))), (5, (some (.box [(.bool bo5_0), (.int .i64 xo5_1), (.int .i64 xo5_2), (.int .i64 xo5_3), (.int .i64 xo5_4), (.int .i64 xo5_5)])))]⟩)
        (again ⟨[(0, (.list false [(.int .u64)] l0)), (3, (.ptr 3 0 0)), (4, (.int .i64 x4)), (5, (.ptr 5 0 0)), (6, (.int .i64 (Nd.r (nodeN (IV.toInt (List.getD l0 (Int.toNat x6) default)))))), (9, (.int .i64 (IntKind.wrap IntKind.i64 (x9 + 1))))], [(3, (some (.box (Pt.cs p)))), (5, (some (.box [(.bool bo5_0), (.int .i64 xo5_1), (.int .i64 xo5_2), (.int .i64 xo5_3), (.int .i64 xo5_4), (.int .i64 xo5_5)])))]⟩))
       (cond (decide (Nd.f (nodeN (IV.toInt (List.getD l0 (Int.toNat x6) default))) = ic 1))
        (cond (decide (Pt.p1 p ≤ Nd.a (nodeN (IV.toInt (List.getD l0 (Int.toNat x6) default)))))
         (again ⟨[(0, (.list false [(.int .u64)] l0)), (3, (.ptr 3 0 0)), (4, (.int .i64 x4)), (5, (.ptr 5 0 0)), (6, (.int .i64 (Nd.l (nodeN (IV.toInt (List.getD l0 (Int.toNat x6) default)))))), (9, (.int .i64 (IntKind.wrap IntKind.i64 (x9 + 1))))], [(3, (some (.box (Pt.cs p)))), (5, (some (.box [(.bool bo5_0), (.int .i64 xo5_1), (.int .i64 xo5_2), (.int .i64 xo5_3), (.int .i64 xo5_4), (.int .i64 xo5_5)])))]⟩)
         (again ⟨[(0, (.list false [(.int .u64)] l0)), (3, (.ptr 3 0 0)), (4, (.int .i64 x4)), (5, (.ptr 5 0 0)), (6, (.int .i64 (Nd.r (nodeN (IV.toInt (List.getD l0 (Int.toNat x6) default)))))), (9, (.int .i64 (IntKind.wrap IntKind.i64 (x9 + 1))))], [(3, (some (.box (Pt.cs p)))), (5, (some (.box [(.bool bo5_0), (.int .i64 xo5_1), (.int .i64 xo5_2), (.int .i64 xo5_3), (.int .i64 xo5_4), (.int .i64 xo5_5)])))]⟩))
        (cond (decide (Nd.f (nodeN (IV.toInt (List.getD l0 (Int.toNat x6) default))) = ic 2))
         (cond (decide (Pt.p2 p ≤ Nd.a (nodeN (IV.toInt (List.getD l0 (Int.toNat x6) default)))))
          (again ⟨[(0, (.list false [(.int .u64)] l0)), (3, (.ptr 3 0 0)), (4, (.int .i64 x4)), (5, (.ptr 5 0 0)), (6, (.int .i64 (Nd.l (nodeN (IV.toInt (List.getD l0 (Int.toNat x6) default)))))), (9, (.int .i64 (IntKind.wrap IntKind.i64 (x9 + 1))))], [(3, (some (.box (Pt.cs p)))), (5, (some (.box [(.bool bo5_0), (.int .i64 xo5_1), (.int .i64 xo5_2), (.int .i64 xo5_3), (.int .i64 xo5_4), (.int .i64 xo5_5)])))]⟩)
          (again ⟨[(0, (.list false [(.int .u64)] l0)), (3, (.ptr 3 0 0)), (4, (.int .i64 x4)), (5, (.ptr 5 0 0)), (6, (.int .i64 (Nd.r (nodeN (IV.toInt (List.getD l0 (Int.toNat x6) default)))))), (9, (.int .i64 (IntKind.wrap IntKind.i64 (x9 + 1))))], [(3, (some (.box (Pt.cs p)))), (5, (some (.box [(.bool bo5_0), (.int .i64 xo5_1), (.int .i64 xo5_2), (.int .i64 xo5_3), (.int .i64 xo5_4), (.int .i64 xo5_5)])))]⟩))
         (cond (decide (Nd.f (nodeN (IV.toInt (List.getD l0 (Int.toNat x6) default))) = ic 3))
          (cond (decide (Pt.p3 p ≤ Nd.a (nodeN (IV.toInt (List.getD l0 (Int.toNat x6) default)))))
           (again ⟨[(0, (.list false [(.int .u64)] l0)), (3, (.ptr 3 0 0)), (4, (.int .i64 x4)), (5, (.ptr 5 0 0)), (6, (.int .i64 (Nd.l (nodeN (IV.toInt (List.getD l0 (Int.toNat x6) default)))))), (9, (.int .i64 (IntKind.wrap IntKind.i64 (x9 + 1))))], [(3, (some (.box (Pt.cs p)))), (5, (some (.box [(.bool bo5_0), (.int .i64 xo5_1), (.int .i64 xo5_2), (.int .i64 xo5_3), (.int .i64 xo5_4), (.int .i64 xo5_5)])))]⟩)
           (again ⟨[(0, (.list false [(.int .u64)] l0)), (3, (.ptr 3 0 0)), (4, (.int .i64 x4)), (5, (.ptr 5 0 0)), (6, (.int .i64 (Nd.r (nodeN (IV.toInt (List.getD l0 (Int.toNat x6) default)))))), (9, (.int .i64 (IntKind.wrap IntKind.i64 (x9 + 1))))], [(3, (some (.box (Pt.cs p)))), (5, (some (.box [(.bool bo5_0), (.int .i64 xo5_1), (.int .i64 xo5_2), (.int .i64 xo5_3), (.int .i64 xo5_4), (.int .i64 xo5_5)])))]⟩))
          none))))))
    none))
  (k (.exit 0) ⟨[(0, (.list false [(.int .u64)] l0)), (3, (.ptr 3 0 0)), (4, (.int .i64 x4)), (5, (.ptr 5 0 0)), (6, (.int .i64 x6)), (9, (.int .i64 x9))], [(3, (some (.box (Pt.cs p)))), (5, (some (.box [(.bool bo5_0), (.int .i64 xo5_1), (.int .i64 xo5_2), (.int .i64 xo5_3), (.int .i64 xo5_4), (.int .i64 xo5_5)])))]⟩)) := by kernel_rfl

theorem ex_tree_end_1_1 (N : Nat) (p : Pt) (l0 : List IV) (x4 : Int) (x6 : Int) (x9 : Int) (bo5_0 : Bool) (xo5_1 : Int) (xo5_2 : Int) (xo5_3 : Int) (xo5_4 : Int) (xo5_5 : Int) : (kBlock 0 (kSq (E_tree_end N) (subC c_tree_end [1, 1, 1]) (outT (E_tree_end N) none [(ResultVar.tmp 4), (ResultVar.cell 5 63)] [[(.int .i64)], [.bool, (.int .i64), (.int .i64), (.int .i64), (.int .i64), (.int .i64)]]))) (.exit 0)
    ⟨[(0, (.list false [(.int .u64)] l0)), (3, (.ptr 3 0 0)), (4, (.int .i64 x4)), (5, (.ptr 5 0 0)), (6, (.int .i64 x6)), (9, (.int .i64 x9))], [(3, (some (.box (Pt.cs p)))), (5, (some (.box [(.bool bo5_0), (.int .i64 xo5_1), (.int .i64 xo5_2), (.int .i64 xo5_3), (.int .i64 xo5_4), (.int .i64 xo5_5)])))]⟩ =
  (some ((.tup [(.int .i64 (-1)), (.agg [(.bool false), (.int .i64 0), (.int .i64 0), (.int .i64 0), (.int .i64 0), (.int .i64 0)])]), [])) := by kernel_rfl

theorem ex_tree_end_1_2 (N : Nat) (p : Pt) (l0 : List IV) (x4 : Int) (x6 : Int) (x9 : Int) : (kBlock 0 (kSq (E_tree_end N) (subC c_tree_end [1, 1, 1]) (outT (E_tree_end N) none [(ResultVar.tmp 4), (ResultVar.cell 5 63)] [[(.int .i64)], [.bool, (.int .i64), (.int .i64), (.int .i64), (.int .i64), (.int .i64)]]))) .ret
    ⟨[(0, (.list false [(.int .u64)] l0)), (3, (.ptr 3 0 0)), (4, (.int .i64 x4)), (5, (.ptr 5 0 0)), (6, (.int .i64 x6)), (9, (.int .i64 x9))], [(3, (some (.box (Pt.cs p)))), (5, (some (.box (Nd.cs (nodeN (IV.toInt (List.getD l0 (Int.toNat x6) default)))))))]⟩ =
  (some ((.tup [(.int .i64 x4), (Nd.V (nodeN (IV.toInt (List.getD l0 (Int.toNat x6) default))))]), [])) := by kernel_rfl

theorem ex_tree_end_1_3 (N : Nat) (p : Pt) (l0 : List IV) (x4 : Int) (x6 : Int) (x9 : Int) (bo5_0 : Bool) (xo5_1 : Int) (xo5_2 : Int) (xo5_3 : Int) (xo5_4 : Int) (xo5_5 : Int) : (kBlock 0 (kSq (E_tree_end N) (subC c_tree_end [1, 1, 1]) (outT (E_tree_end N) none [(ResultVar.tmp 4), (ResultVar.cell 5 63)] [[(.int .i64)], [.bool, (.int .i64), (.int .i64), (.int .i64), (.int .i64), (.int .i64)]]))) .ret
    ⟨[(0, (.list false [(.int .u64)] l0)), (3, (.ptr 3 0 0)), (4, (.int .i64 x4)), (5, (.ptr 5 0 0)), (6, (.int .i64 x6)), (9, (.int .i64 x9))], [(3, (some (.box (Pt.cs p)))), (5, (some (.box [(.bool bo5_0), (.int .i64 xo5_1), (.int .i64 xo5_2), (.int .i64 xo5_3), (.int .i64 xo5_4), (.int .i64 xo5_5)])))]⟩ =
  (some ((.tup [(.int .i64 x4), (.agg [(.bool bo5_0), (.int .i64 xo5_1), (.int .i64 xo5_2), (.int .i64 xo5_3), (.int .i64 xo5_4), (.int .i64 xo5_5)])]), [])) := by kernel_rfl

/-! ### copse/tree.Value -/
def E_tree_Value (N : Nat) : Env := mkE [(67, S_tree_end)] [] 15 N

theorem nf_tree_Value (N : Nat) (l : List IV) (p : Pt) : evFun (E_tree_Value N) c_tree_Value [.tmp 4] [[.int .i64]] [(.list false [.int .u64] l), (Pt.V p)] =
  (some ((.int .i64 (Nd.v (endNd l p))), [])) := by kernel_rfl

/-! ### copse/model.eval -/
def E_model_eval (N : Nat) : Env := mkE [(54, S_tree_Value)] [(3, ⟨[1, 5, 6, 7, 15, 16, 17], [5], []⟩)] 33 N

theorem nf_model_eval (N : Nat) (m : Md) (classv : Int) (p : Pt) : evFun (E_model_eval N) c_model_eval [.tmp 6] [[.int .i64]] [(Md.V m), (.int .i64 classv), (Pt.V p)] =
  (cond (decide (classv = ic 0))
  (lpE (E_model_eval N) (subC c_model_eval [1, 1, 0, 1, 0, 0]) ⟨[1, 5, 6, 7, 15, 16, 17], [5], []⟩ N ⟨[(1, (.int .i64 classv)), (5, (.ptr 5 0 0)), (6, (.int .i64 0)), (7, (.int .i64 (Md.b0 m))), (15, (.list true kTree (Md.ts m))), (16, (.int .i64 (ic (List.length (Md.ts m))))), (17, (.int .i64 0))], [(5, (some (.box (Pt.cs p))))]⟩ (kBlock 0 (kSq (E_model_eval N) (subC c_model_eval [1, 1, 1]) (outT (E_model_eval N) none [(ResultVar.tmp 6)] [[(.int .i64)]]))))
  (cond (decide (classv = ic 1))
   (lpE (E_model_eval N) (subC c_model_eval [1, 1, 0, 1, 0, 0]) ⟨[1, 5, 6, 7, 15, 16, 17], [5], []⟩ N ⟨[(1, (.int .i64 classv)), (5, (.ptr 5 0 0)), (6, (.int .i64 0)), (7, (.int .i64 (Md.b1 m))), (15, (.list true kTree (Md.ts m))), (16, (.int .i64 (ic (List.length (Md.ts m))))), (17, (.int .i64 0))], [(5, (some (.box (Pt.cs p))))]⟩ (kBlock 0 (kSq (E_model_eval N) (subC c_model_eval [1, 1, 1]) (outT (E_model_eval N) none [(ResultVar.tmp 6)] [[(.int .i64)]]))))
   (cond (decide (classv = ic 2))
    (lpE (E_model_eval N) (subC c_model_eval [1, 1, 0, 1, 0, 0]) ⟨[1, 5, 6, 7, 15, 16, 17], [5], []⟩ N ⟨[(1, (.int .i64 classv)), (5, (.ptr 5 0 0)), (6, (.int .i64 0)), (7, (.int .i64 (Md.b2 m))), (15, (.list true kTree (Md.ts m))), (16, (.int .i64 (ic (List.length (Md.ts m))))), (17, (.int .i64 0))], [(5, (some (.box (Pt.cs p))))]⟩ (kBlock 0 (kSq (E_model_eval N) (subC c_model_eval [1, 1, 1]) (outT (E_model_eval N) none [(ResultVar.tmp 6)] [[(.int .i64)]]))))
    none))) := by kernel_rfl

theorem st_model_eval_1 (N : Nat) (p : Pt) (x1 : Int) (x6 : Int) (x7 : Int) (l15 : List IV) (x16 : Int) (x17 : Int) (again : St → Res) (k : Out → St → Res) : rnd (E_model_eval N) (subC c_model_eval [1, 1, 0, 1, 0, 0])
    ⟨[(1, (.int .i64 x1)), (5, (.ptr 5 0 0)), (6, (.int .i64 x6)), (7, (.int .i64 x7)), (15, (.list true kTree l15)), (16, (.int .i64 x16)), (17, (.int .i64 x17))], [(5, (some (.box (Pt.cs p))))]⟩
    (kLoop again ⟨[1, 5, 6, 7, 15, 16, 17], [5], []⟩ k) =
  (cond (decide (x17 < x16))
  (cond (decide (0 ≤ x17) && decide (x17 < ic (List.length l15)))
   (cond (IV.toInt (IV.cell (List.getD l15 (Int.toNat x17) default) 0) == x1)
    (again ⟨[(1, (.int .i64 x1)), (5, (.ptr 5 0 0)), (6, (.int .i64 x6)), (7, (.int .i64 (IntKind.wrap IntKind.i64 (x7 + valT (IV.toList (IV.cell (List.getD l15 (Int.toNat x17) default) 1)) p)))), (15, (.list true kTree l15)), (16, (.int .i64 x16)), (17, (.int .i64 (IntKind.wrap IntKind.i64 (x17 + 1))))], [(5, (some (.box (Pt.cs p))))]⟩)
    (again ⟨[(1, (.int .i64 x1)), (5, (.ptr 5 0 0)), (6, (.int .i64 x6)), (7, (.int .i64 x7)), (15, (.list true kTree l15)), (16, (.int .i64 x16)), (17, (.int .i64 (IntKind.wrap IntKind.i64 (x17 + 1))))], [(5, (some (.box (Pt.cs p))))]⟩))
   none)
  (k (.exit 0) ⟨[(1, (.int .i64 x1)), (5, (.ptr 5 0 0)), (6, (.int .i64 x6)), (7, (.int .i64 x7)), (15, (.list true kTree l15)), (16, (.int .i64 x16)), (17, (.int .i64 x17))], [(5, (some (.box (Pt.cs p))))]⟩)) := by kernel_rfl

theorem ex_model_eval_1_1 (N : Nat) (p : Pt) (x1 : Int) (x6 : Int) (x7 : Int) (l15 : List IV) (x16 : Int) (x17 : Int) : (kBlock 0 (kSq (E_model_eval N) (subC c_model_eval [1, 1, 1]) (outT (E_model_eval N) none [(ResultVar.tmp 6)] [[(.int .i64)]]))) (.exit 0)
    ⟨[(1, (.int .i64 x1)), (5, (.ptr 5 0 0)), (6, (.int .i64 x6)), (7, (.int .i64 x7)), (15, (.list true kTree l15)), (16, (.int .i64 x16)), (17, (.int .i64 x17))], [(5, (some (.box (Pt.cs p))))]⟩ =
  (some ((.int .i64 x7), [])) := by kernel_rfl

/-! ### copse/model.Eval -/
def E_model_Eval (N : Nat) : Env := mkE [(36, S_model_Right), (39, S_model_eval)] [] 24 N

theorem nf_model_Eval (N : Nat) (m : Md) (classv : Int) (p : Pt) : evFun (E_model_Eval N) c_model_Eval [.tmp 6] [[.int .i64]] [(Md.V m), (.int .i64 classv), (Pt.V p)] =
  (cond (!modelB m)
  (some ((.int .i64 0), []))
  (cond (decide (classv < 0))
   (some ((.int .i64 0), []))
   (cond (decide (classv ≥ Md.c m))
    (some ((.int .i64 0), []))
    (cond (modelB m && clsOK m classv) (some ((.int .i64 (evF classv p (Md.ts m) (biasOf m classv))), [])) none)))) := by kernel_rfl

/-! ### copse/box.Empty -/
def E_box_Empty (N : Nat) : Env := mkE [(53, S_span_Empty)] [(2, ⟨[2, 5, 6], [], []⟩)] 12 N
--RKS box_Empty [[.bool]]

/-! ### copse/box.Low -/
def E_box_Low (N : Nat) : Env := mkE [] [(3, ⟨[1, 2, 3, 5], [1, 2, 3], []⟩)] 16 N
--RKS box_Low [[.int .i64, .int .i64, .int .i64, .int .i64]]

/-! ### copse/box.Cut -/
def E_box_Cut (N : Nat) : Env := mkE [(47, S_span_Cut)] [] 32 N
--RKS box_Cut [[.int .i64, .int .i64, .int .i64, .int .i64, .int .i64, .int .i64, .int .i64, .int .i64, .int .i64, .int .i64], [.int .i64, .int .i64, .int .i64, .int .i64, .int .i64, .int .i64, .int .i64, .int .i64, .int .i64, .int .i64]]

end Go.FM

/-
  NORMAL FORMS: what the functions' runs come to (written by a program of this claim's own, checked by the kernel).
-/
namespace Go.FM
open Go Go.Proofs

/-! ### copse/model.Thresholds -/
def E_model_Thresholds (N : Nat) : Env := mkI [(36, S_model_Right), (66, S_node_Unpack)] [(71, ipCompact), (70, ipSort)] [(5, ⟨[1, 4, 5, 16, 17, 18], [500], [⟨.tmp 5, 500, 3, false, [.int .i64]⟩]⟩), (8, ⟨[1, 4, 5, 16, 17, 18, 23, 24, 25], [500], [⟨.tmp 5, 500, 3, false, [.int .i64]⟩]⟩)] 54 N

theorem nf_model_Thresholds (N : Nat) (m : Md) (feature : Int) : evFun (E_model_Thresholds N) c_model_Thresholds [.tmp 4] [] [(Md.V m), (.int .i64 feature)] =
  (cond (!modelB m)
  (some (.any, []))
  (lpE (E_model_Thresholds N) (subC c_model_Thresholds [1, 1, 1, 0, 1, 0, 0]) ⟨[1, 4, 5, 16, 17, 18], [500], [⟨(.tmp 5), 500, 3, false, [(.int .i64)]⟩]⟩ N ⟨[(1, (.int .i64 feature)), (4, .zs), (5, (.row 500 0 0)), (16, (.list true kTree (Md.ts m))), (17, (.int .i64 (ic (List.length (Md.ts m))))), (18, (.int .i64 0))], [(500, (some (.row true 3 false [(.int .i64)] [])))]⟩ (kBlock 0 (kSq (E_model_Thresholds N) (subC c_model_Thresholds [1, 1, 1, 1]) (outT (E_model_Thresholds N) none [(ResultVar.tmp 4)] []))))) := by kernel_rfl

theorem st_model_Thresholds_1 (N : Nat) (x1 : Int) (n5 : Nat) (l16 : List IV) (x17 : Int) (x18 : Int) (lo500 : List IV) (again : St → Res) (k : Out → St → Res) : rnd (E_model_Thresholds N) (subC c_model_Thresholds [1, 1, 1, 0, 1, 0, 0])
    ⟨[(1, (.int .i64 x1)), (4, .zs), (5, (.row 500 0 n5)), (16, (.list true kTree l16)), (17, (.int .i64 x17)), (18, (.int .i64 x18))], [(500, (some (.row true 3 false [(.int .i64)] lo500)))]⟩
    (kLoop again ⟨[1, 4, 5, 16, 17, 18], [500], [⟨(.tmp 5), 500, 3, false, [(.int .i64)]⟩]⟩ k) =
  (cond (decide (x18 < x17))
  (cond (decide (0 ≤ x18) && decide (x18 < ic (List.length l16)))
   (lpE (E_model_Thresholds N) (subC c_model_Thresholds [1, 1, 1, 0, 1, 0, 0, 1, 1, 0, 0, 1, 1, 0, 0]) ⟨[1, 4, 5, 16, 17, 18, 23, 24, 25], [500], [⟨(.tmp 5), 500, 3, false, [(.int .i64)]⟩]⟩ N ⟨[(1, (.int .i64 x1)), (4, .zs), (5, (.row 500 0 n5)), (16, (.list true kTree l16)), (17, (.int .i64 x17)), (18, (.int .i64 x18)), (23, (.list false [(.int .u64)] (IV.toList (IV.cell (List.getD l16 (Int.toNat x18) default) 1)))), (24, (.int .i64 (ic (List.length (IV.toList (IV.cell (List.getD l16 (Int.toNat x18) default) 1)))))), (25, (.int .i64 0))], [(500, (some (.row true 3 false [(.int .i64)] lo500)))]⟩ (kBlock 2 (kBlock 1 (kSq (E_model_Thresholds N) (subC c_model_Thresholds [1, 1, 1, 0, 1, 0, 0, 1, 1, 1]) (kLoop again ⟨[1, 4, 5, 16, 17, 18], [500], [⟨(.tmp 5), 500, 3, false, [(.int .i64)]⟩]⟩ k)))))
   none)
  (k (.exit 0) ⟨[(1, (.int .i64 x1)), (4, .zs), (5, (.row 500 0 n5)), (16, (.list true kTree l16)), (17, (.int .i64 x17)), (18, (.int .i64 x18))], [(500, (some (.row true 3 false [(.int .i64)] lo500)))]⟩)) := by kernel_rfl

theorem st_model_Thresholds_2 (N : Nat) (x1 : Int) (n5 : Nat) (l16 : List IV) (x17 : Int) (x18 : Int) (l23 : List IV) (x24 : Int) (x25 : Int) (lo500 : List IV) (again : St → Res) (k : Out → St → Res) : rnd (E_model_Thresholds N) (subC c_model_Thresholds [1, 1, 1, 0, 1, 0, 0, 1, 1, 0, 0, 1, 1, 0, 0])
    ⟨[(1, (.int .i64 x1)), (4, .zs), (5, (.row 500 0 n5)), (16, (.list true kTree l16)), (17, (.int .i64 x17)), (18, (.int .i64 x18)), (23, (.list false [(.int .u64)] l23)), (24, (.int .i64 x24)), (25, (.int .i64 x25))], [(500, (some (.row true 3 false [(.int .i64)] lo500)))]⟩
    (kLoop again ⟨[1, 4, 5, 16, 17, 18, 23, 24, 25], [500], [⟨(.tmp 5), 500, 3, false, [(.int .i64)]⟩]⟩ k) =
  (cond (decide (x25 < x24))
  (cond (decide (0 ≤ x25) && decide (x25 < ic (List.length l23)))
   (cond (!Nd.lf (nodeN (IV.toInt (List.getD l23 (Int.toNat x25) default))))
    (cond (Nd.f (nodeN (IV.toInt (List.getD l23 (Int.toNat x25) default))) == x1)
     (cond (decide ((n5 + 1) * 8 ≤ bytesMax))
      (again ⟨[(1, (.int .i64 x1)), (4, .zs), (5, (.row 500 0 (n5 + 1))), (16, (.list true kTree l16)), (17, (.int .i64 x17)), (18, (.int .i64 x18)), (23, (.list false [(.int .u64)] l23)), (24, (.int .i64 x24)), (25, (.int .i64 (IntKind.wrap IntKind.i64 (x25 + 1))))], [(500, (some (.row true 3 false [(.int .i64)] (List.take n5 lo500 ++ [IV.int (Nd.a (nodeN (IV.toInt (List.getD l23 (Int.toNat x25) default))))]))))]⟩)
      none)
     (again ⟨[(1, (.int .i64 x1)), (4, .zs), (5, (.row 500 0 n5)), (16, (.list true kTree l16)), (17, (.int .i64 x17)), (18, (.int .i64 x18)), (23, (.list false [(.int .u64)] l23)), (24, (.int .i64 x24)), (25, (.int .i64 (IntKind.wrap IntKind.i64 (x25 + 1))))], [(500, (some (.row true 3 false [(.int .i64)] lo500)))]⟩))
    (again ⟨[(1, (.int .i64 x1)), (4, .zs), (5, (.row 500 0 n5)), (16, (.list true kTree l16)), (17, (.int .i64 x17)), (18, (.int .i64 x18)), (23, (.list false [(.int .u64)] l23)), (24, (.int .i64 x24)), (25, (.int .i64 (IntKind.wrap IntKind.i64 (x25 + 1))))], [(500, (some (.row true 3 false [(.int .i64)] lo500)))]⟩))
   none)
  (k (.exit 2) ⟨[(1, (.int .i64 x1)), (4, .zs), (5, (.row 500 0 n5)), (16, (.list true kTree l16)), (17, (.int .i64 x17)), (18, (.int .i64 x18)), (23, (.list false [(.int .u64)] l23)), (24, (.int .i64 x24)), (25, (.int .i64 x25))], [(500, (some (.row true 3 false [(.int .i64)] lo500)))]⟩)) := by kernel_rfl

theorem ex_model_Thresholds_1_1 (N : Nat) (x1 : Int) (n5 : Nat) (l16 : List IV) (x17 : Int) (x18 : Int) (lo500 : List IV) : (kBlock 0 (kSq (E_model_Thresholds N) (subC c_model_Thresholds [1, 1, 1, 1]) (outT (E_model_Thresholds N) none [(ResultVar.tmp 4)] []))) (.exit 0)
    ⟨[(1, (.int .i64 x1)), (4, .zs), (5, (.row 500 0 n5)), (16, (.list true kTree l16)), (17, (.int .i64 x17)), (18, (.int .i64 x18))], [(500, (some (.row true 3 false [(.int .i64)] lo500)))]⟩ =
  (cond (Nat.beq n5 (List.length lo500))
  (cond (Nat.beq (List.length (iZ (sortZ (List.map IV.toInt lo500)))) (List.length lo500))
   (cond (Nat.beq n5 (List.length (iZ (sortZ (List.map IV.toInt lo500)))))
    (cond (Nat.ble (List.length (iZ (cmpZ (List.map IV.toInt (iZ (sortZ (List.map IV.toInt lo500))))))) (List.length (iZ (sortZ (List.map IV.toInt lo500)))))
     (some ((.vec 3 false [(.int .i64)] (List.take (List.length (iZ (cmpZ (List.map IV.toInt (iZ (sortZ (List.map IV.toInt lo500))))))) (iZ (cmpZ (List.map IV.toInt (iZ (sortZ (List.map IV.toInt lo500)))))))), []))
     none)
    none)
   none)
  none) := by kernel_rfl

theorem ex_model_Thresholds_2_1 (N : Nat) (again : St → Res) (k : Out → St → Res) (x1 : Int) (n5 : Nat) (l16 : List IV) (x17 : Int) (x18 : Int) (l23 : List IV) (x24 : Int) (x25 : Int) (lo500 : List IV) : (kBlock 2 (kBlock 1 (kSq (E_model_Thresholds N) (subC c_model_Thresholds [1, 1, 1, 0, 1, 0, 0, 1, 1, 1]) (kLoop again ⟨[1, 4, 5, 16, 17, 18], [500], [⟨(.tmp 5), 500, 3, false, [(.int .i64)]⟩]⟩ k)))) (.exit 2)
    ⟨[(1, (.int .i64 x1)), (4, .zs), (5, (.row 500 0 n5)), (16, (.list true kTree l16)), (17, (.int .i64 x17)), (18, (.int .i64 x18)), (23, (.list false [(.int .u64)] l23)), (24, (.int .i64 x24)), (25, (.int .i64 x25))], [(500, (some (.row true 3 false [(.int .i64)] lo500)))]⟩ =
  (again ⟨[(1, (.int .i64 x1)), (4, .zs), (5, (.row 500 0 n5)), (16, (.list true kTree l16)), (17, (.int .i64 x17)), (18, (.int .i64 (IntKind.wrap IntKind.i64 (x18 + 1))))], [(500, (some (.row true 3 false [(.int .i64)] lo500)))]⟩) := by kernel_rfl

/-! ### copse/grid.feature -/
def E_grid_feature (N : Nat) : Env := mkE [] [] 23 N

theorem nf_grid_feature (N : Nat) (q : Qy) (place : Int) : evFun (E_grid_feature N) c_grid_feature [.tmp 4] [[.int .i64]] [(Qy.V q), (.int .i64 place)] =
  (cond (decide (place ≥ 0))
  (cond (decide (place < 4))
   (some ((.int .i64 place), []))
   (cond (place == 4) (cond (Qy.k q == 3) (some ((.int .i64 (Qy.ft q)), [])) (some ((.int .i64 (-1)), []))) (some ((.int .i64 (-1)), []))))
  (cond (place == 4) (cond (Qy.k q == 3) (some ((.int .i64 (Qy.ft q)), [])) (some ((.int .i64 (-1)), []))) (some ((.int .i64 (-1)), [])))) := by kernel_rfl

/-! ### copse/grid.Cuts -/
def E_grid_Cuts (N : Nat) : Env := mkI [(59, S_grid_feature), (61, S_model_Thresholds)] [(60, ipDelete)] [] 24 N
--RKS grid_Cuts [[.list false [.int .i64]]]

/-! ### copse/query.kind -/
def E_query_kind (N : Nat) : Env := mkE [] [] 71 N

theorem nf_query_kind (N : Nat) (m : Md) (a1 : Qy) : evFun (E_query_kind N) c_query_kind [.tmp 4] [[.bool]] [(Md.V m), (Qy.V a1)] =
  (cond (Qy.k a1 == 1)
  (cond (decide (Qy.lo a1 ≤ Qy.hi a1)) (cond (Qy.ft a1 == 0) (some ((.bool (!Qy.fl a1)), [])) (some ((.bool false), []))) (some ((.bool false), [])))
  (cond (Qy.k a1 == 2)
   (cond (decide (Md.c m ≥ 2))
    (cond (Qy.lo a1 == 0)
     (cond (Qy.hi a1 == 0) (cond (Qy.ft a1 == 0) (some ((.bool (!Qy.fl a1)), [])) (some ((.bool false), []))) (some ((.bool false), [])))
     (some ((.bool false), [])))
    (some ((.bool false), [])))
   (cond (Qy.k a1 == 3)
    (cond (decide (Qy.ft a1 ≥ 0))
     (cond (decide (Qy.ft a1 < Md.d m)) (cond (Qy.lo a1 == 0) (some ((.bool (Qy.hi a1 == 0)), [])) (some ((.bool false), []))) (some ((.bool false), [])))
     (some ((.bool false), [])))
    (some ((.bool false), []))))) := by kernel_rfl

/-! ### copse/query.Right -/
def E_query_Right (N : Nat) : Env := mkE [(36, S_model_Right), (38, S_query_kind), (37, S_query_region)] [] 41 N

theorem nf_query_Right (N : Nat) (m : Md) (q : Qy) : evFun (E_query_Right N) c_query_Right [.tmp 4] [[.bool]] [(Md.V m), (Qy.V q)] =
  (cond (modelB m)
  (cond (decide (Qy.c q ≥ 0))
   (cond (decide (Qy.c q < Md.c m))
    (cond (decide (Qy.bu q ≥ 0))
     (cond (decide (Qy.bu q ≤ 65536))
      (cond (regB5 {s0 := {lo := Qy.a0 q, hi := Qy.b0 q}, s1 := {lo := Qy.a1 q, hi := Qy.b1 q}, s2 := {lo := Qy.a2 q, hi := Qy.b2 q}, s3 := {lo := Qy.a3 q, hi := Qy.b3 q}, s4 := {lo := Qy.a4 q, hi := Qy.b4 q}} (Md.d m))
       (some ((.bool (kindB m q)), []))
       (some ((.bool false), [])))
      (some ((.bool false), [])))
     (some ((.bool false), [])))
    (some ((.bool false), [])))
   (some ((.bool false), [])))
  (some ((.bool false), []))) := by kernel_rfl

/-! ### copse/query.paired -/
def E_query_paired (N : Nat) : Env := mkE [] [] 16 N

theorem nf_query_paired (N : Nat) (q : Qy) : evFun (E_query_paired N) c_query_paired [.tmp 2] [[.bool]] [(Qy.V q)] =
  (cond (Qy.k q == 3) (cond (decide (Qy.ft q ≥ 0)) (some ((.bool (decide (Qy.ft q < 4))), [])) (some ((.bool false), []))) (some ((.bool false), []))) := by kernel_rfl

/-! ### copse/query.Start -/
def E_query_Start (N : Nat) : Env := mkE [(28, S_query_paired)] [] 16 N

theorem nf_query_Start (N : Nat) (q : Qy) : evFun (E_query_Start N) c_query_Start [.cell 2 30] [[.int .i64, .int .i64, .int .i64, .int .i64, .int .i64, .int .i64, .int .i64, .int .i64, .int .i64, .int .i64]] [(Qy.V q)] =
  (cond (paired q)
  (cond (decide (Qy.ft q = ic 0))
   (some ((.agg [(.int .i64 (Qy.a0 q)), (.int .i64 (Qy.b0 q)), (.int .i64 (Qy.a1 q)), (.int .i64 (Qy.b1 q)), (.int .i64 (Qy.a2 q)), (.int .i64 (Qy.b2 q)), (.int .i64 (Qy.a3 q)), (.int .i64 (Qy.b3 q)), (.int .i64 (Qy.a0 q)), (.int .i64 (Qy.b0 q))]), []))
   (cond (decide (Qy.ft q = ic 1))
    (some ((.agg [(.int .i64 (Qy.a0 q)), (.int .i64 (Qy.b0 q)), (.int .i64 (Qy.a1 q)), (.int .i64 (Qy.b1 q)), (.int .i64 (Qy.a2 q)), (.int .i64 (Qy.b2 q)), (.int .i64 (Qy.a3 q)), (.int .i64 (Qy.b3 q)), (.int .i64 (Qy.a1 q)), (.int .i64 (Qy.b1 q))]), []))
    (cond (decide (Qy.ft q = ic 2))
     (some ((.agg [(.int .i64 (Qy.a0 q)), (.int .i64 (Qy.b0 q)), (.int .i64 (Qy.a1 q)), (.int .i64 (Qy.b1 q)), (.int .i64 (Qy.a2 q)), (.int .i64 (Qy.b2 q)), (.int .i64 (Qy.a3 q)), (.int .i64 (Qy.b3 q)), (.int .i64 (Qy.a2 q)), (.int .i64 (Qy.b2 q))]), []))
     (cond (decide (Qy.ft q = ic 3))
      (some ((.agg [(.int .i64 (Qy.a0 q)), (.int .i64 (Qy.b0 q)), (.int .i64 (Qy.a1 q)), (.int .i64 (Qy.b1 q)), (.int .i64 (Qy.a2 q)), (.int .i64 (Qy.b2 q)), (.int .i64 (Qy.a3 q)), (.int .i64 (Qy.b3 q)), (.int .i64 (Qy.a3 q)), (.int .i64 (Qy.b3 q))]), []))
      (cond (decide (Qy.ft q = ic 4))
       (some ((.agg [(.int .i64 (Qy.a0 q)), (.int .i64 (Qy.b0 q)), (.int .i64 (Qy.a1 q)), (.int .i64 (Qy.b1 q)), (.int .i64 (Qy.a2 q)), (.int .i64 (Qy.b2 q)), (.int .i64 (Qy.a3 q)), (.int .i64 (Qy.b3 q)), (.int .i64 0), (.int .i64 0)]), []))
       none)))))
  (some ((.agg [(.int .i64 (Qy.a0 q)), (.int .i64 (Qy.b0 q)), (.int .i64 (Qy.a1 q)), (.int .i64 (Qy.b1 q)), (.int .i64 (Qy.a2 q)), (.int .i64 (Qy.b2 q)), (.int .i64 (Qy.a3 q)), (.int .i64 (Qy.b3 q)), (.int .i64 0), (.int .i64 0)]), []))) := by kernel_rfl

/-! ### copse/query.Second -/
def E_query_Second (N : Nat) : Env := mkE [(28, S_query_paired)] [] 14 N

theorem nf_query_Second (N : Nat) (q : Qy) (p : Pt) (twin : Int) : evFun (E_query_Second N) c_query_Second [.cell 6 35] [[.int .i64, .int .i64, .int .i64, .int .i64]] [(Qy.V q), (Pt.V p), (.int .i64 twin)] =
  (cond (paired q)
  (cond (decide (Qy.ft q = ic 0))
   (some ((.agg [(.int .i64 twin), (.int .i64 (Pt.p1 p)), (.int .i64 (Pt.p2 p)), (.int .i64 (Pt.p3 p))]), []))
   (cond (decide (Qy.ft q = ic 1))
    (some ((.agg [(.int .i64 (Pt.p0 p)), (.int .i64 twin), (.int .i64 (Pt.p2 p)), (.int .i64 (Pt.p3 p))]), []))
    (cond (decide (Qy.ft q = ic 2))
     (some ((.agg [(.int .i64 (Pt.p0 p)), (.int .i64 (Pt.p1 p)), (.int .i64 twin), (.int .i64 (Pt.p3 p))]), []))
     (cond (decide (Qy.ft q = ic 3)) (some ((.agg [(.int .i64 (Pt.p0 p)), (.int .i64 (Pt.p1 p)), (.int .i64 (Pt.p2 p)), (.int .i64 twin)]), [])) none))))
  (some ((Pt.V p), []))) := by kernel_rfl

/-! ### copse/query.Breaks -/
def E_query_Breaks (N : Nat) : Env := mkE [(25, S_model_Eval), (24, S_query_Right), (27, S_query_Second), (26, S_span_Has)] [(9, ⟨[4, 5, 6, 8, 9, 36, 37], [4, 5, 6], []⟩)] 75 N

theorem nf_query_Breaks (N : Nat) (m : Md) (a1 : Qy) (a2 : Pt) (a3 : Int) : evFun (E_query_Breaks N) c_query_Breaks [.tmp 8] [[.bool]] [(Md.V m), (Qy.V a1), (Pt.V a2), (.int .i64 a3)] =
  (cond (!rightQ m a1)
  (some ((.bool false), []))
  (cond (Qy.k a1 == 1)
   (some ((.bool (!Sp.has {lo := Qy.lo a1, hi := Qy.hi a1} (evalM m (Qy.c a1) a2))), []))
   (cond (Qy.k a1 == 2)
    (lpE (E_query_Breaks N) (subC c_query_Breaks [1, 1, 1, 0, 1, 0, 1, 1, 1, 0, 0, 1, 0, 0]) ⟨[4, 5, 6, 8, 9, 36, 37], [4, 5, 6], []⟩ N ⟨[(4, (.ptr 4 0 0)), (5, (.ptr 5 0 0)), (6, (.ptr 6 0 0)), (8, (.bool false)), (9, (.int .i64 (evalM m (Qy.c a1) a2))), (36, (.int .i64 (Md.c m))), (37, (.int .i64 0))], [(4, (some (.box (Md.cs m)))), (5, (some (.box (Qy.cs a1)))), (6, (some (.box (Pt.cs a2))))]⟩ (kBlock 1 (kSq (E_query_Breaks N) (subC c_query_Breaks [1, 1, 1, 0, 1, 0, 1, 1, 1, 0, 1]) (kBlock 0 (kSq (E_query_Breaks N) (subC c_query_Breaks [1, 1, 1, 1]) (outT (E_query_Breaks N) none [(ResultVar.tmp 8)] [[.bool]]))))))
    (cond (decide (Qy.ft a1 = ic 0))
     (cond (decide (Pt.p0 a2 ≥ a3))
      (some ((.bool false), []))
      (cond (Qy.fl a1)
       (some ((.bool (decide (evalM m (Qy.c a1) (secondP a1 a2 a3) > evalM m (Qy.c a1) a2))), []))
       (some ((.bool (decide (evalM m (Qy.c a1) (secondP a1 a2 a3) < evalM m (Qy.c a1) a2))), []))))
     (cond (decide (Qy.ft a1 = ic 1))
      (cond (decide (Pt.p1 a2 ≥ a3))
       (some ((.bool false), []))
       (cond (Qy.fl a1)
        (some ((.bool (decide (evalM m (Qy.c a1) (secondP a1 a2 a3) > evalM m (Qy.c a1) a2))), []))
        (some ((.bool (decide (evalM m (Qy.c a1) (secondP a1 a2 a3) < evalM m (Qy.c a1) a2))), []))))
      (cond (decide (Qy.ft a1 = ic 2))
       (cond (decide (Pt.p2 a2 ≥ a3))
        (some ((.bool false), []))
        (cond (Qy.fl a1)
         (some ((.bool (decide (evalM m (Qy.c a1) (secondP a1 a2 a3) > evalM m (Qy.c a1) a2))), []))
         (some ((.bool (decide (evalM m (Qy.c a1) (secondP a1 a2 a3) < evalM m (Qy.c a1) a2))), []))))
       (cond (decide (Qy.ft a1 = ic 3))
        (cond (decide (Pt.p3 a2 ≥ a3))
         (some ((.bool false), []))
         (cond (Qy.fl a1)
          (some ((.bool (decide (evalM m (Qy.c a1) (secondP a1 a2 a3) > evalM m (Qy.c a1) a2))), []))
          (some ((.bool (decide (evalM m (Qy.c a1) (secondP a1 a2 a3) < evalM m (Qy.c a1) a2))), []))))
        none))))))) := by kernel_rfl

theorem st_query_Breaks_1 (N : Nat) (m : Md) (a1 : Qy) (a2 : Pt) (b8 : Bool) (x9 : Int) (x36 : Int) (x37 : Int) (again : St → Res) (k : Out → St → Res) : rnd (E_query_Breaks N) (subC c_query_Breaks [1, 1, 1, 0, 1, 0, 1, 1, 1, 0, 0, 1, 0, 0])
    ⟨[(4, (.ptr 4 0 0)), (5, (.ptr 5 0 0)), (6, (.ptr 6 0 0)), (8, (.bool b8)), (9, (.int .i64 x9)), (36, (.int .i64 x36)), (37, (.int .i64 x37))], [(4, (some (.box (Md.cs m)))), (5, (some (.box (Qy.cs a1)))), (6, (some (.box (Pt.cs a2))))]⟩
    (kLoop again ⟨[4, 5, 6, 8, 9, 36, 37], [4, 5, 6], []⟩ k) =
  (cond (decide (x37 < x36))
  (cond (x37 != Qy.c a1)
   (cond (decide (evalM m x37 a2 ≥ x9))
    (k .ret ⟨[(4, (.ptr 4 0 0)), (5, (.ptr 5 0 0)), (6, (.ptr 6 0 0)), (8, (.bool true)), (9, (.int .i64 x9)), (36, (.int .i64 x36)), (37, (.int .i64 x37))], [(4, (some (.box (Md.cs m)))), (5, (some (.box (Qy.cs a1)))), (6, (some (.box (Pt.cs a2))))]⟩)
    (again ⟨[(4, (.ptr 4 0 0)), (5, (.ptr 5 0 0)), (6, (.ptr 6 0 0)), (8, (.bool b8)), (9, (.int .i64 x9)), (36, (.int .i64 x36)), (37, (.int .i64 (IntKind.wrap IntKind.i64 (x37 + 1))))], [(4, (some (.box (Md.cs m)))), (5, (some (.box (Qy.cs a1)))), (6, (some (.box (Pt.cs a2))))]⟩))
   (again ⟨[(4, (.ptr 4 0 0)), (5, (.ptr 5 0 0)), (6, (.ptr 6 0 0)), (8, (.bool b8)), (9, (.int .i64 x9)), (36, (.int .i64 x36)), (37, (.int .i64 (IntKind.wrap IntKind.i64 (x37 + 1))))], [(4, (some (.box (Md.cs m)))), (5, (some (.box (Qy.cs a1)))), (6, (some (.box (Pt.cs a2))))]⟩))
  (k (.exit 1) ⟨[(4, (.ptr 4 0 0)), (5, (.ptr 5 0 0)), (6, (.ptr 6 0 0)), (8, (.bool b8)), (9, (.int .i64 x9)), (36, (.int .i64 x36)), (37, (.int .i64 x37))], [(4, (some (.box (Md.cs m)))), (5, (some (.box (Qy.cs a1)))), (6, (some (.box (Pt.cs a2))))]⟩)) := by kernel_rfl

theorem ex_query_Breaks_1_1 (N : Nat) (m : Md) (a1 : Qy) (a2 : Pt) (b8 : Bool) (x9 : Int) (x36 : Int) (x37 : Int) : (kBlock 1 (kSq (E_query_Breaks N) (subC c_query_Breaks [1, 1, 1, 0, 1, 0, 1, 1, 1, 0, 1]) (kBlock 0 (kSq (E_query_Breaks N) (subC c_query_Breaks [1, 1, 1, 1]) (outT (E_query_Breaks N) none [(ResultVar.tmp 8)] [[.bool]]))))) (.exit 1)
    ⟨[(4, (.ptr 4 0 0)), (5, (.ptr 5 0 0)), (6, (.ptr 6 0 0)), (8, (.bool b8)), (9, (.int .i64 x9)), (36, (.int .i64 x36)), (37, (.int .i64 x37))], [(4, (some (.box (Md.cs m)))), (5, (some (.box (Qy.cs a1)))), (6, (some (.box (Pt.cs a2))))]⟩ =
  (some ((.bool false), [])) := by kernel_rfl

theorem ex_query_Breaks_1_2 (N : Nat) (m : Md) (a1 : Qy) (a2 : Pt) (b8 : Bool) (x9 : Int) (x36 : Int) (x37 : Int) : (kBlock 1 (kSq (E_query_Breaks N) (subC c_query_Breaks [1, 1, 1, 0, 1, 0, 1, 1, 1, 0, 1]) (kBlock 0 (kSq (E_query_Breaks N) (subC c_query_Breaks [1, 1, 1, 1]) (outT (E_query_Breaks N) none [(ResultVar.tmp 8)] [[.bool]]))))) .ret
    ⟨[(4, (.ptr 4 0 0)), (5, (.ptr 5 0 0)), (6, (.ptr 6 0 0)), (8, (.bool b8)), (9, (.int .i64 x9)), (36, (.int .i64 x36)), (37, (.int .i64 x37))], [(4, (some (.box (Md.cs m)))), (5, (some (.box (Qy.cs a1)))), (6, (some (.box (Pt.cs a2))))]⟩ =
  (some ((.bool b8), [])) := by kernel_rfl

/-! ### copse/query.region -/
def E_query_region (N : Nat) : Env := mkE [(49, S_bits_Fits), (53, S_span_Empty)] [(2, ⟨[1, 4, 7, 8], [], []⟩)] 35 N
--RKS query_region [[.bool]]

end Go.FM

/-
  NORMAL FORMS: what the functions' runs come to (written by a program of this claim's own, checked by the kernel).
-/
namespace Go.FM
open Go Go.Proofs

/-! ### copse/leaves.List -/
def E_leaves_List (N : Nat) : Env := mkE [(32, S_box_Cut), (40, S_box_Empty), (66, S_node_Unpack), (52, S_tree_Right)] [(7, ⟨[4, 5, 6, 24, 25, 26], [20, 500], [⟨.tmp 6, 500, 127, true, [.int .i64, .int .i64, .int .i64, .int .i64, .int .i64, .int .i64, .int .i64, .int .i64, .int .i64, .int .i64, .int .i64]⟩]⟩)] 79 N

theorem nf_leaves_List (N : Nat) (l : List IV) (a1 : Bx) : evFun (E_leaves_List N) c_leaves_List [.tmp 4] [[.list true [.int .i64, .int .i64, .int .i64, .int .i64, .int .i64, .int .i64, .int .i64, .int .i64, .int .i64, .int .i64, .int .i64]]] [(.list false [.int .u64] l), (Bx.V a1)] =
  (cond (!treeB l 4)
  (some ((.list true kPiece []), []))
  (cond (Bx.emp a1)
   (some ((.list true kPiece []), []))
   (cond (true && (true && decide (0 ≤ ic (List.length l))) && (decide (ic (List.length l) = ic (List.length l)) && decide (ic (List.length l) * ic 80 ≤ ic bytesMax)))
    (cond (decide (0 ≤ 0) && decide (0 < ic (Int.toNat (ic (List.length l)) - 0)))
     (lpE (E_leaves_List N) (subC c_leaves_List [1, 1, 1, 1, 1, 0, 1, 0, 0]) ⟨[4, 5, 6, 24, 25, 26], [20, 500], [⟨(.tmp 6), 500, 127, true, kPiece⟩]⟩ N ⟨[(4, .zs), (5, (.row 20 0 (Int.toNat (ic (List.length l))))), (6, (.row 500 0 0)), (24, (.list false [(.int .u64)] l)), (25, (.int .i64 (ic (List.length l)))), (26, (.int .i64 0))], [(20, (some (.row true 30 true kBox (List.set (List.replicate (Int.toNat (ic (List.length l))) (IV.agg [IV.int 0, IV.int 0, IV.int 0, IV.int 0, IV.int 0, IV.int 0, IV.int 0, IV.int 0, IV.int 0, IV.int 0])) 0 (Bx.I a1))))), (500, (some (.row true 127 true kPiece [])))]⟩ (kBlock 0 (kSq (E_leaves_List N) (subC c_leaves_List [1, 1, 1, 1, 1, 1]) (outT (E_leaves_List N) none [(ResultVar.tmp 4)] [[(.list true kPiece)]]))))
     none)
    none))) := by kernel_rfl

theorem st_leaves_List_1 (N : Nat) (n5 : Nat) (n6 : Nat) (l24 : List IV) (x25 : Int) (x26 : Int) (lo20 : List IV) (lo500 : List IV) (again : St → Res) (k : Out → St → Res) : rnd (E_leaves_List N) (subC c_leaves_List [1, 1, 1, 1, 1, 0, 1, 0, 0])
    ⟨[(4, .zs), (5, (.row 20 0 n5)), (6, (.row 500 0 n6)), (24, (.list false [(.int .u64)] l24)), (25, (.int .i64 x25)), (26, (.int .i64 x26))], [(20, (some (.row true 30 true kBox lo20))), (500, (some (.row true 127 true kPiece lo500)))]⟩
    (kLoop again ⟨[4, 5, 6, 24, 25, 26], [20, 500], [⟨(.tmp 6), 500, 127, true, kPiece⟩]⟩ k) =
  (cond (decide (x26 < x25))
  (cond (decide (0 ≤ x26) && decide (x26 < ic (List.length l24)))
   (cond (!Nd.lf (nodeN (IV.toInt (List.getD l24 (Int.toNat x26) default))))
    (cond (decide (0 ≤ x26) && decide (x26 < ic (n5 - 0)))
     (cond (inPl (Nd.f (nodeN (IV.toInt (List.getD l24 (Int.toNat x26) default)))))
      (cond (decide (0 ≤ Nd.l (nodeN (IV.toInt (List.getD l24 (Int.toNat x26) default)))) && decide (Nd.l (nodeN (IV.toInt (List.getD l24 (Int.toNat x26) default))) < ic (n5 - 0)))
       (cond (decide (0 ≤ Nd.r (nodeN (IV.toInt (List.getD l24 (Int.toNat x26) default)))) && decide (Nd.r (nodeN (IV.toInt (List.getD l24 (Int.toNat x26) default))) < ic (n5 - 0)))
        (again ⟨[(4, .zs), (5, (.row 20 0 n5)), (6, (.row 500 0 n6)), (24, (.list false [(.int .u64)] l24)), (25, (.int .i64 x25)), (26, (.int .i64 (IntKind.wrap IntKind.i64 (x26 + 1))))], [(20, (some (.row true 30 true kBox (List.set (List.set lo20 (0 + Int.toNat (Nd.l (nodeN (IV.toInt (List.getD l24 (Int.toNat x26) default))))) (Bx.I (Bx.cutL (bxI (List.getD lo20 (0 + Int.toNat x26) default)) (Nd.f (nodeN (IV.toInt (List.getD l24 (Int.toNat x26) default)))) (Nd.a (nodeN (IV.toInt (List.getD l24 (Int.toNat x26) default))))))) (0 + Int.toNat (Nd.r (nodeN (IV.toInt (List.getD l24 (Int.toNat x26) default))))) (Bx.I (Bx.cutH (bxI (List.getD lo20 (0 + Int.toNat x26) default)) (Nd.f (nodeN (IV.toInt (List.getD l24 (Int.toNat x26) default)))) (Nd.a (nodeN (IV.toInt (List.getD l24 (Int.toNat x26) default)))))))))), (500, (some (.row true 127 true kPiece lo500)))]⟩)
        none)
       none)
      none)
     none)
    (cond (decide (0 ≤ x26) && decide (x26 < ic (n5 - 0)))
     (cond (!Bx.emp (bxI (List.getD lo20 (0 + Int.toNat x26) default)))
      (cond (decide (0 ≤ x26) && decide (x26 < ic (n5 - 0)))
       (cond (decide ((n6 + 1) * 88 ≤ bytesMax))
        (again ⟨[(4, .zs), (5, (.row 20 0 n5)), (6, (.row 500 0 (n6 + 1))), (24, (.list false [(.int .u64)] l24)), (25, (.int .i64 x25)), (26, (.int .i64 (IntKind.wrap IntKind.i64 (x26 + 1))))], [(20, (some (.row true 30 true kBox lo20))), (500, (some (.row true 127 true kPiece (List.take n6 lo500 ++ [(pcI (bxI (List.getD lo20 (0 + Int.toNat x26) default)) (Nd.v (nodeN (IV.toInt (List.getD l24 (Int.toNat x26) default)))))]))))]⟩)
        none)
       none)
      (again ⟨[(4, .zs), (5, (.row 20 0 n5)), (6, (.row 500 0 n6)), (24, (.list false [(.int .u64)] l24)), (25, (.int .i64 x25)), (26, (.int .i64 (IntKind.wrap IntKind.i64 (x26 + 1))))], [(20, (some (.row true 30 true kBox lo20))), (500, (some (.row true 127 true kPiece lo500)))]⟩))
     none))
   none)
  (k (.exit 0) ⟨[(4, .zs), (5, (.row 20 0 n5)), (6, (.row 500 0 n6)), (24, (.list false [(.int .u64)] l24)), (25, (.int .i64 x25)), (26, (.int .i64 x26))], [(20, (some (.row true 30 true kBox lo20))), (500, (some (.row true 127 true kPiece lo500)))]⟩)) := by kernel_rfl

theorem ex_leaves_List_1_1 (N : Nat) (n5 : Nat) (n6 : Nat) (l24 : List IV) (x25 : Int) (x26 : Int) (lo20 : List IV) (lo500 : List IV) : (kBlock 0 (kSq (E_leaves_List N) (subC c_leaves_List [1, 1, 1, 1, 1, 1]) (outT (E_leaves_List N) none [(ResultVar.tmp 4)] [[(.list true kPiece)]]))) (.exit 0)
    ⟨[(4, .zs), (5, (.row 20 0 n5)), (6, (.row 500 0 n6)), (24, (.list false [(.int .u64)] l24)), (25, (.int .i64 x25)), (26, (.int .i64 x26))], [(20, (some (.row true 30 true kBox lo20))), (500, (some (.row true 127 true kPiece lo500)))]⟩ =
  (some ((.list true kPiece (List.drop 0 (List.take n6 lo500))), [])) := by kernel_rfl

/-! ### copse/bound.Tree -/
def E_bound_Tree (N : Nat) : Env := mkE [(68, S_leaves_List)] [(6, ⟨[4, 5, 6, 8, 9, 26, 27, 28], [], []⟩)] 43 N

theorem nf_bound_Tree (N : Nat) (l : List IV) (b : Bx) : evFun (E_bound_Tree N) c_bound_Tree [.tmp 4, .tmp 5, .tmp 6] [[.int .i64], [.int .i64], [.bool]] [(.list false [.int .u64] l), (Bx.V b)] =
  (cond (ic (List.length (leavesF l b)) == 0)
  (some ((.tup [(.int .i64 0), (.int .i64 0), (.bool false)]), []))
  (cond (decide (0 ≤ 0) && decide (0 < ic (List.length (leavesF l b))))
   (cond (decide (0 ≤ 0) && decide (0 < ic (List.length (leavesF l b))))
    (lpE (E_bound_Tree N) (subC c_bound_Tree [1, 1, 1, 1, 0, 1, 0, 0]) ⟨[4, 5, 6, 8, 9, 26, 27, 28], [], []⟩ N ⟨[(4, (.int .i64 0)), (5, (.int .i64 0)), (6, (.bool false)), (8, (.int .i64 (IV.toInt (IV.cell (List.getD (leavesF l b) (Int.toNat 0) default) 10)))), (9, (.int .i64 (IV.toInt (IV.cell (List.getD (leavesF l b) (Int.toNat 0) default) 10)))), (26, (.list true kPiece (leavesF l b))), (27, (.int .i64 (ic (List.length (leavesF l b))))), (28, (.int .i64 0))], []⟩ (kBlock 0 (kSq (E_bound_Tree N) (subC c_bound_Tree [1, 1, 1, 1, 1]) (outT (E_bound_Tree N) none [(ResultVar.tmp 4), (ResultVar.tmp 5), (ResultVar.tmp 6)] [[(.int .i64)], [(.int .i64)], [.bool]]))))
    none)
   none)) := by kernel_rfl

theorem st_bound_Tree_1 (N : Nat) (x4 : Int) (x5 : Int) (b6 : Bool) (x8 : Int) (x9 : Int) (l26 : List IV) (x27 : Int) (x28 : Int) (again : St → Res) (k : Out → St → Res) : rnd (E_bound_Tree N) (subC c_bound_Tree [1, 1, 1, 1, 0, 1, 0, 0])
    ⟨[(4, (.int .i64 x4)), (5, (.int .i64 x5)), (6, (.bool b6)), (8, (.int .i64 x8)), (9, (.int .i64 x9)), (26, (.list true kPiece l26)), (27, (.int .i64 x27)), (28, (.int .i64 x28))], []⟩
    (kLoop again ⟨[4, 5, 6, 8, 9, 26, 27, 28], [], []⟩ k) =
  (cond (decide (x28 < x27))
  (cond (decide (0 ≤ x28) && decide (x28 < ic (List.length l26)))
   (again ⟨[(4, (.int .i64 x4)), (5, (.int .i64 x5)), (6, (.bool b6)), (8, (.int .i64 (min x8 (IV.toInt (IV.cell (List.getD l26 (Int.toNat x28) default) 10))))), (9, (.int .i64 (max x9 (IV.toInt (IV.cell (List.getD l26 (Int.toNat x28) default) 10))))), (26, (.list true kPiece l26)), (27, (.int .i64 x27)), (28, (.int .i64 (IntKind.wrap IntKind.i64 (x28 + 1))))], []⟩)
   none)
  (k (.exit 0) ⟨[(4, (.int .i64 x4)), (5, (.int .i64 x5)), (6, (.bool b6)), (8, (.int .i64 x8)), (9, (.int .i64 x9)), (26, (.list true kPiece l26)), (27, (.int .i64 x27)), (28, (.int .i64 x28))], []⟩)) := by kernel_rfl

theorem ex_bound_Tree_1_1 (N : Nat) (x4 : Int) (x5 : Int) (b6 : Bool) (x8 : Int) (x9 : Int) (l26 : List IV) (x27 : Int) (x28 : Int) : (kBlock 0 (kSq (E_bound_Tree N) (subC c_bound_Tree [1, 1, 1, 1, 1]) (outT (E_bound_Tree N) none [(ResultVar.tmp 4), (ResultVar.tmp 5), (ResultVar.tmp 6)] [[(.int .i64)], [(.int .i64)], [.bool]]))) (.exit 0)
    ⟨[(4, (.int .i64 x4)), (5, (.int .i64 x5)), (6, (.bool b6)), (8, (.int .i64 x8)), (9, (.int .i64 x9)), (26, (.list true kPiece l26)), (27, (.int .i64 x27)), (28, (.int .i64 x28))], []⟩ =
  (some ((.tup [(.int .i64 x8), (.int .i64 x9), (.bool true)]), [])) := by kernel_rfl

/-! ### copse/bound.Sum -/
def E_bound_Sum (N : Nat) : Env := mkE [(55, S_bound_Tree), (40, S_box_Empty), (36, S_model_Right)] [(5, ⟨[1, 5, 6, 7, 8, 9, 10, 42, 43, 44], [5], []⟩)] 69 N

theorem nf_bound_Sum (N : Nat) (m : Md) (a1 : Int) (a2 : Bx) : evFun (E_bound_Sum N) c_bound_Sum [.tmp 6, .tmp 7, .tmp 8] [[.int .i64], [.int .i64], [.bool]] [(Md.V m), (.int .i64 a1), (Bx.V a2)] =
  (cond (!modelB m)
  (some ((.tup [(.int .i64 0), (.int .i64 0), (.bool false)]), []))
  (cond (decide (a1 < 0))
   (some ((.tup [(.int .i64 0), (.int .i64 0), (.bool false)]), []))
   (cond (decide (a1 ≥ Md.c m))
    (some ((.tup [(.int .i64 0), (.int .i64 0), (.bool false)]), []))
    (cond (Bx.emp a2)
     (some ((.tup [(.int .i64 0), (.int .i64 0), (.bool false)]), []))
     (cond (decide (a1 = ic 0))
      (cond (decide (a1 = ic 0))
       (lpE (E_bound_Sum N) (subC c_bound_Sum [1, 1, 1, 0, 1, 0, 0]) ⟨[1, 5, 6, 7, 8, 9, 10, 42, 43, 44], [5], []⟩ N ⟨[(1, (.int .i64 a1)), (5, (.ptr 5 0 0)), (6, (.int .i64 0)), (7, (.int .i64 0)), (8, (.bool false)), (9, (.int .i64 (Md.b0 m))), (10, (.int .i64 (Md.b0 m))), (42, (.list true kTree (Md.ts m))), (43, (.int .i64 (ic (List.length (Md.ts m))))), (44, (.int .i64 0))], [(5, (some (.box (Bx.cs a2))))]⟩ (kBlock 0 (kSq (E_bound_Sum N) (subC c_bound_Sum [1, 1, 1, 1]) (outT (E_bound_Sum N) none [(ResultVar.tmp 6), (ResultVar.tmp 7), (ResultVar.tmp 8)] [[(.int .i64)], [(.int .i64)], [.bool]]))))
       (cond (decide (a1 = ic 1))
        (lpE (E_bound_Sum N) (subC c_bound_Sum [1, 1, 1, 0, 1, 0, 0]) ⟨[1, 5, 6, 7, 8, 9, 10, 42, 43, 44], [5], []⟩ N ⟨[(1, (.int .i64 a1)), (5, (.ptr 5 0 0)), (6, (.int .i64 0)), (7, (.int .i64 0)), (8, (.bool false)), (9, (.int .i64 (Md.b0 m))), (10, (.int .i64 (Md.b1 m))), (42, (.list true kTree (Md.ts m))), (43, (.int .i64 (ic (List.length (Md.ts m))))), (44, (.int .i64 0))], [(5, (some (.box (Bx.cs a2))))]⟩ (kBlock 0 (kSq (E_bound_Sum N) (subC c_bound_Sum [1, 1, 1, 1]) (outT (E_bound_Sum N) none [(ResultVar.tmp 6), (ResultVar.tmp 7), (ResultVar.tmp 8)] [[(.int .i64)], [(.int .i64)], [.bool]]))))
        (cond (decide (a1 = ic 2))
         (lpE (E_bound_Sum N) (subC c_bound_Sum [1, 1, 1, 0, 1, 0, 0]) ⟨[1, 5, 6, 7, 8, 9, 10, 42, 43, 44], [5], []⟩ N ⟨[(1, (.int .i64 a1)), (5, (.ptr 5 0 0)), (6, (.int .i64 0)), (7, (.int .i64 0)), (8, (.bool false)), (9, (.int .i64 (Md.b0 m))), (10, (.int .i64 (Md.b2 m))), (42, (.list true kTree (Md.ts m))), (43, (.int .i64 (ic (List.length (Md.ts m))))), (44, (.int .i64 0))], [(5, (some (.box (Bx.cs a2))))]⟩ (kBlock 0 (kSq (E_bound_Sum N) (subC c_bound_Sum [1, 1, 1, 1]) (outT (E_bound_Sum N) none [(ResultVar.tmp 6), (ResultVar.tmp 7), (ResultVar.tmp 8)] [[(.int .i64)], [(.int .i64)], [.bool]]))))
         none)))
      (cond (decide (a1 = ic 1))
       (cond (decide (a1 = ic 0))
        (lpE (E_bound_Sum N) (subC c_bound_Sum [1, 1, 1, 0, 1, 0, 0]) ⟨[1, 5, 6, 7, 8, 9, 10, 42, 43, 44], [5], []⟩ N ⟨[(1, (.int .i64 a1)), (5, (.ptr 5 0 0)), (6, (.int .i64 0)), (7, (.int .i64 0)), (8, (.bool false)), (9, (.int .i64 (Md.b1 m))), (10, (.int .i64 (Md.b0 m))), (42, (.list true kTree (Md.ts m))), (43, (.int .i64 (ic (List.length (Md.ts m))))), (44, (.int .i64 0))], [(5, (some (.box (Bx.cs a2))))]⟩ (kBlock 0 (kSq (E_bound_Sum N) (subC c_bound_Sum [1, 1, 1, 1]) (outT (E_bound_Sum N) none [(ResultVar.tmp 6), (ResultVar.tmp 7), (ResultVar.tmp 8)] [[(.int .i64)], [(.int .i64)], [.bool]]))))
        (cond (decide (a1 = ic 1))
         (lpE (E_bound_Sum N) (subC c_bound_Sum [1, 1, 1, 0, 1, 0, 0]) ⟨[1, 5, 6, 7, 8, 9, 10, 42, 43, 44], [5], []⟩ N ⟨[(1, (.int .i64 a1)), (5, (.ptr 5 0 0)), (6, (.int .i64 0)), (7, (.int .i64 0)), (8, (.bool false)), (9, (.int .i64 (Md.b1 m))), (10, (.int .i64 (Md.b1 m))), (42, (.list true kTree (Md.ts m))), (43, (.int .i64 (ic (List.length (Md.ts m))))), (44, (.int .i64 0))], [(5, (some (.box (Bx.cs a2))))]⟩ (kBlock 0 (kSq (E_bound_Sum N) (subC c_bound_Sum [1, 1, 1, 1]) (outT (E_bound_Sum N) none [(ResultVar.tmp 6), (ResultVar.tmp 7), (ResultVar.tmp 8)] [[(.int .i64)], [(.int .i64)], [.bool]]))))
         (cond (decide (a1 = ic 2))
          (lpE (E_bound_Sum N) (subC c_bound_Sum [1, 1, 1, 0, 1, 0, 0]) ⟨[1, 5, 6, 7, 8, 9, 10, 42, 43, 44], [5], []⟩ N ⟨[(1, (.int .i64 a1)), (5, (.ptr 5 0 0)), (6, (.int .i64 0)), (7, (.int .i64 0)), (8, (.bool false)), (9, (.int .i64 (Md.b1 m))), (10, (.int .i64 (Md.b2 m))), (42, (.list true kTree (Md.ts m))), (43, (.int .i64 (ic (List.length (Md.ts m))))), (44, (.int .i64 0))], [(5, (some (.box (Bx.cs a2))))]⟩ (kBlock 0 (kSq (E_bound_Sum N) (subC c_bound_Sum [1, 1, 1, 1]) (outT (E_bound_Sum N) none [(ResultVar.tmp 6), (ResultVar.tmp 7), (ResultVar.tmp 8)] [[(.int .i64)], [(.int .i64)], [.bool]]))))
          none)))
       (cond (decide (a1 = ic 2))
        (cond (decide (a1 = ic 0))
         (lpE (E_bound_Sum N) (subC c_bound_Sum [1, 1, 1, 0, 1, 0, 0]) ⟨[1, 5, 6, 7, 8, 9, 10, 42, 43, 44], [5], []⟩ N ⟨[(1, (.int .i64 a1)), (5, (.ptr 5 0 0)), (6, (.int .i64 0)), (7, (.int .i64 0)), (8, (.bool false)), (9, (.int .i64 (Md.b2 m))), (10, (.int .i64 (Md.b0 m))), (42, (.list true kTree (Md.ts m))), (43, (.int .i64 (ic (List.length (Md.ts m))))), (44, (.int .i64 0))], [(5, (some (.box (Bx.cs a2))))]⟩ (kBlock 0 (kSq (E_bound_Sum N) (subC c_bound_Sum [1, 1, 1, 1]) (outT (E_bound_Sum N) none [(ResultVar.tmp 6), (ResultVar.tmp 7), (ResultVar.tmp 8)] [[(.int .i64)], [(.int .i64)], [.bool]]))))
         (cond (decide (a1 = ic 1))
          (lpE (E_bound_Sum N) (subC c_bound_Sum [1, 1, 1, 0, 1, 0, 0]) ⟨[1, 5, 6, 7, 8, 9, 10, 42, 43, 44], [5], []⟩ N ⟨[(1, (.int .i64 a1)), (5, (.ptr 5 0 0)), (6, (.int .i64 0)), (7, (.int .i64 0)), (8, (.bool false)), (9, (.int .i64 (Md.b2 m))), (10, (.int .i64 (Md.b1 m))), (42, (.list true kTree (Md.ts m))), (43, (.int .i64 (ic (List.length (Md.ts m))))), (44, (.int .i64 0))], [(5, (some (.box (Bx.cs a2))))]⟩ (kBlock 0 (kSq (E_bound_Sum N) (subC c_bound_Sum [1, 1, 1, 1]) (outT (E_bound_Sum N) none [(ResultVar.tmp 6), (ResultVar.tmp 7), (ResultVar.tmp 8)] [[(.int .i64)], [(.int .i64)], [.bool]]))))
          (cond (decide (a1 = ic 2))
           (lpE (E_bound_Sum N) (subC c_bound_Sum [1, 1, 1, 0, 1, 0, 0]) ⟨[1, 5, 6, 7, 8, 9, 10, 42, 43, 44], [5], []⟩ N ⟨[(1, (.int .i64 a1)), (5, (.ptr 5 0 0)), (6, (.int .i64 0)), (7, (.int .i64 0)), (8, (.bool false)), (9, (.int .i64 (Md.b2 m))), (10, (.int .i64 (Md.b2 m))), (42, (.list true kTree (Md.ts m))), (43, (.int .i64 (ic (List.length (Md.ts m))))), (44, (.int .i64 0))], [(5, (some (.box (Bx.cs a2))))]⟩ (kBlock 0 (kSq (E_bound_Sum N) (subC c_bound_Sum [1, 1, 1, 1]) (outT (E_bound_Sum N) none [(ResultVar.tmp 6), (ResultVar.tmp 7), (ResultVar.tmp 8)] [[(.int .i64)], [(.int .i64)], [.bool]]))))
           none)))
        none))))))) := by kernel_rfl

theorem st_bound_Sum_1 (N : Nat) (a2 : Bx) (x1 : Int) (x6 : Int) (x7 : Int) (b8 : Bool) (x9 : Int) (x10 : Int) (l42 : List IV) (x43 : Int) (x44 : Int) (again : St → Res) (k : Out → St → Res) : rnd (E_bound_Sum N) (subC c_bound_Sum [1, 1, 1, 0, 1, 0, 0])
    ⟨[(1, (.int .i64 x1)), (5, (.ptr 5 0 0)), (6, (.int .i64 x6)), (7, (.int .i64 x7)), (8, (.bool b8)), (9, (.int .i64 x9)), (10, (.int .i64 x10)), (42, (.list true kTree l42)), (43, (.int .i64 x43)), (44, (.int .i64 x44))], [(5, (some (.box (Bx.cs a2))))]⟩
    (kLoop again ⟨[1, 5, 6, 7, 8, 9, 10, 42, 43, 44], [5], []⟩ k) =
  (cond (decide (x44 < x43))
  (cond (decide (0 ≤ x44) && decide (x44 < ic (List.length l42)))
   (cond (IV.toInt (IV.cell (List.getD l42 (Int.toNat x44) default) 0) != x1)
    (again ⟨[(1, (.int .i64 x1)), (5, (.ptr 5 0 0)), (6, (.int .i64 x6)), (7, (.int .i64 x7)), (8, (.bool b8)), (9, (.int .i64 x9)), (10, (.int .i64 x10)), (42, (.list true kTree l42)), (43, (.int .i64 x43)), (44, (.int .i64 (IntKind.wrap IntKind.i64 (x44 + 1))))], [(5, (some (.box (Bx.cs a2))))]⟩)
    (again ⟨[(1, (.int .i64 x1)), (5, (.ptr 5 0 0)), (6, (.int .i64 x6)), (7, (.int .i64 x7)), (8, (.bool b8)), (9, (.int .i64 (IntKind.wrap IntKind.i64 (x9 + tLo (IV.toList (IV.cell (List.getD l42 (Int.toNat x44) default) 1)) a2)))), (10, (.int .i64 (IntKind.wrap IntKind.i64 (x10 + tHi (IV.toList (IV.cell (List.getD l42 (Int.toNat x44) default) 1)) a2)))), (42, (.list true kTree l42)), (43, (.int .i64 x43)), (44, (.int .i64 (IntKind.wrap IntKind.i64 (x44 + 1))))], [(5, (some (.box (Bx.cs a2))))]⟩))
   none)
  (k (.exit 0) ⟨[(1, (.int .i64 x1)), (5, (.ptr 5 0 0)), (6, (.int .i64 x6)), (7, (.int .i64 x7)), (8, (.bool b8)), (9, (.int .i64 x9)), (10, (.int .i64 x10)), (42, (.list true kTree l42)), (43, (.int .i64 x43)), (44, (.int .i64 x44))], [(5, (some (.box (Bx.cs a2))))]⟩)) := by kernel_rfl

theorem ex_bound_Sum_1_1 (N : Nat) (a2 : Bx) (x1 : Int) (x6 : Int) (x7 : Int) (b8 : Bool) (x9 : Int) (x10 : Int) (l42 : List IV) (x43 : Int) (x44 : Int) : (kBlock 0 (kSq (E_bound_Sum N) (subC c_bound_Sum [1, 1, 1, 1]) (outT (E_bound_Sum N) none [(ResultVar.tmp 6), (ResultVar.tmp 7), (ResultVar.tmp 8)] [[(.int .i64)], [(.int .i64)], [.bool]]))) (.exit 0)
    ⟨[(1, (.int .i64 x1)), (5, (.ptr 5 0 0)), (6, (.int .i64 x6)), (7, (.int .i64 x7)), (8, (.bool b8)), (9, (.int .i64 x9)), (10, (.int .i64 x10)), (42, (.list true kTree l42)), (43, (.int .i64 x43)), (44, (.int .i64 x44))], [(5, (some (.box (Bx.cs a2))))]⟩ =
  (some ((.tup [(.int .i64 x9), (.int .i64 x10), (.bool true)]), [])) := by kernel_rfl

/-! ### copse/bound.Margin -/
def E_bound_Margin (N : Nat) : Env := mkE [(41, S_bound_Sum)] [(6, ⟨[1, 3, 5, 6, 7, 8, 11, 12, 33, 34], [3, 5], []⟩)] 62 N

theorem nf_bound_Margin (N : Nat) (m : Md) (classv : Int) (b : Bx) : evFun (E_bound_Margin N) c_bound_Margin [.tmp 6, .tmp 7] [[.int .i64], [.bool]] [(Md.V m), (.int .i64 classv), (Bx.V b)] =
  (cond (!sOK m classv b)
  (some ((.tup [(.int .i64 0), (.bool false)]), []))
  (cond (decide (Md.c m < 2))
   (some ((.tup [(.int .i64 0), (.bool false)]), []))
   (lpE (E_bound_Margin N) (subC c_bound_Margin [1, 1, 1, 1, 0, 1, 0, 0]) ⟨[1, 3, 5, 6, 7, 8, 11, 12, 33, 34], [3, 5], []⟩ N ⟨[(1, (.int .i64 classv)), (3, (.ptr 3 0 0)), (5, (.ptr 5 0 0)), (6, (.int .i64 0)), (7, (.bool false)), (8, (.int .i64 (sLo m classv b))), (11, (.int .i64 0)), (12, (.bool false)), (33, (.int .i64 (Md.c m))), (34, (.int .i64 0))], [(3, (some (.box (Md.cs m)))), (5, (some (.box (Bx.cs b))))]⟩ (kBlock 0 (kSq (E_bound_Margin N) (subC c_bound_Margin [1, 1, 1, 1, 1]) (outT (E_bound_Margin N) none [(ResultVar.tmp 6), (ResultVar.tmp 7)] [[(.int .i64)], [.bool]])))))) := by kernel_rfl

theorem st_bound_Margin_1 (N : Nat) (m : Md) (b : Bx) (x1 : Int) (x6 : Int) (b7 : Bool) (x8 : Int) (x11 : Int) (b12 : Bool) (x33 : Int) (x34 : Int) (again : St → Res) (k : Out → St → Res) : rnd (E_bound_Margin N) (subC c_bound_Margin [1, 1, 1, 1, 0, 1, 0, 0])
    ⟨[(1, (.int .i64 x1)), (3, (.ptr 3 0 0)), (5, (.ptr 5 0 0)), (6, (.int .i64 x6)), (7, (.bool b7)), (8, (.int .i64 x8)), (11, (.int .i64 x11)), (12, (.bool b12)), (33, (.int .i64 x33)), (34, (.int .i64 x34))], [(3, (some (.box (Md.cs m)))), (5, (some (.box (Bx.cs b))))]⟩
    (kLoop again ⟨[1, 3, 5, 6, 7, 8, 11, 12, 33, 34], [3, 5], []⟩ k) =
  (cond (decide (x34 < x33))
  (cond (x34 == x1)
   (again ⟨[(1, (.int .i64 x1)), (3, (.ptr 3 0 0)), (5, (.ptr 5 0 0)), (6, (.int .i64 x6)), (7, (.bool b7)), (8, (.int .i64 x8)), (11, (.int .i64 x11)), (12, (.bool b12)), (33, (.int .i64 x33)), (34, (.int .i64 (IntKind.wrap IntKind.i64 (x34 + 1))))], [(3, (some (.box (Md.cs m)))), (5, (some (.box (Bx.cs b))))]⟩)
   (cond (!b12)
    (again ⟨[(1, (.int .i64 x1)), (3, (.ptr 3 0 0)), (5, (.ptr 5 0 0)), (6, (.int .i64 x6)), (7, (.bool b7)), (8, (.int .i64 x8)), (11, (.int .i64 (IntKind.wrap IntKind.i64 (x8 - sHi m x34 b)))), (12, (.bool true)), (33, (.int .i64 x33)), (34, (.int .i64 (IntKind.wrap IntKind.i64 (x34 + 1))))], [(3, (some (.box (Md.cs m)))), (5, (some (.box (Bx.cs b))))]⟩)
    (cond (decide (IntKind.wrap IntKind.i64 (x8 - sHi m x34 b) < x11))
     (again ⟨[(1, (.int .i64 x1)), (3, (.ptr 3 0 0)), (5, (.ptr 5 0 0)), (6, (.int .i64 x6)), (7, (.bool b7)), (8, (.int .i64 x8)), (11, (.int .i64 (IntKind.wrap IntKind.i64 (x8 - sHi m x34 b)))), (12, (.bool true)), (33, (.int .i64 x33)), (34, (.int .i64 (IntKind.wrap IntKind.i64 (x34 + 1))))], [(3, (some (.box (Md.cs m)))), (5, (some (.box (Bx.cs b))))]⟩)
     (again ⟨[(1, (.int .i64 x1)), (3, (.ptr 3 0 0)), (5, (.ptr 5 0 0)), (6, (.int .i64 x6)), (7, (.bool b7)), (8, (.int .i64 x8)), (11, (.int .i64 x11)), (12, (.bool b12)), (33, (.int .i64 x33)), (34, (.int .i64 (IntKind.wrap IntKind.i64 (x34 + 1))))], [(3, (some (.box (Md.cs m)))), (5, (some (.box (Bx.cs b))))]⟩))))
  (k (.exit 0) ⟨[(1, (.int .i64 x1)), (3, (.ptr 3 0 0)), (5, (.ptr 5 0 0)), (6, (.int .i64 x6)), (7, (.bool b7)), (8, (.int .i64 x8)), (11, (.int .i64 x11)), (12, (.bool b12)), (33, (.int .i64 x33)), (34, (.int .i64 x34))], [(3, (some (.box (Md.cs m)))), (5, (some (.box (Bx.cs b))))]⟩)) := by kernel_rfl

theorem ex_bound_Margin_1_1 (N : Nat) (m : Md) (b : Bx) (x1 : Int) (x6 : Int) (b7 : Bool) (x8 : Int) (x11 : Int) (b12 : Bool) (x33 : Int) (x34 : Int) : (kBlock 0 (kSq (E_bound_Margin N) (subC c_bound_Margin [1, 1, 1, 1, 1]) (outT (E_bound_Margin N) none [(ResultVar.tmp 6), (ResultVar.tmp 7)] [[(.int .i64)], [.bool]]))) (.exit 0)
    ⟨[(1, (.int .i64 x1)), (3, (.ptr 3 0 0)), (5, (.ptr 5 0 0)), (6, (.int .i64 x6)), (7, (.bool b7)), (8, (.int .i64 x8)), (11, (.int .i64 x11)), (12, (.bool b12)), (33, (.int .i64 x33)), (34, (.int .i64 x34))], [(3, (some (.box (Md.cs m)))), (5, (some (.box (Bx.cs b))))]⟩ =
  (some ((.tup [(.int .i64 x11), (.bool true)]), [])) := by kernel_rfl

/-! ### copse/couple.pairs -/
def E_couple_pairs (N : Nat) : Env := mkE [] [] 16 N

theorem nf_couple_pairs (N : Nat) (q : Qy) : evFun (E_couple_pairs N) c_couple_pairs [.tmp 2] [[.bool]] [(Qy.V q)] =
  (cond (Qy.k q == 3) (cond (decide (Qy.ft q ≥ 0)) (some ((.bool (decide (Qy.ft q < 4))), [])) (some ((.bool false), []))) (some ((.bool false), []))) := by kernel_rfl

/-! ### copse/couple.First -/
def E_couple_First (N : Nat) : Env := mkE [(56, S_couple_pairs)] [] 10 N

theorem nf_couple_First (N : Nat) (q : Qy) (b : Bx) : evFun (E_couple_First N) c_couple_First [.cell 4 30] [[.int .i64, .int .i64, .int .i64, .int .i64, .int .i64, .int .i64, .int .i64, .int .i64, .int .i64, .int .i64]] [(Qy.V q), (Bx.V b)] =
  (cond (paired q)
  (some ((.agg [(.int .i64 (Sp.lo (Bx.s0 b))), (.int .i64 (Sp.hi (Bx.s0 b))), (.int .i64 (Sp.lo (Bx.s1 b))), (.int .i64 (Sp.hi (Bx.s1 b))), (.int .i64 (Sp.lo (Bx.s2 b))), (.int .i64 (Sp.hi (Bx.s2 b))), (.int .i64 (Sp.lo (Bx.s3 b))), (.int .i64 (Sp.hi (Bx.s3 b))), (.int .i64 0), (.int .i64 0)]), []))
  (some ((Bx.V b), []))) := by kernel_rfl

/-! ### copse/couple.Second -/
def E_couple_Second (N : Nat) : Env := mkE [(56, S_couple_pairs)] [] 15 N

theorem nf_couple_Second (N : Nat) (q : Qy) (b : Bx) : evFun (E_couple_Second N) c_couple_Second [.cell 4 30] [[.int .i64, .int .i64, .int .i64, .int .i64, .int .i64, .int .i64, .int .i64, .int .i64, .int .i64, .int .i64]] [(Qy.V q), (Bx.V b)] =
  (cond (paired q)
  (cond (decide (Qy.ft q = ic 0))
   (some ((.agg [(.int .i64 (Sp.lo (Bx.s4 b))), (.int .i64 (Sp.hi (Bx.s4 b))), (.int .i64 (Sp.lo (Bx.s1 b))), (.int .i64 (Sp.hi (Bx.s1 b))), (.int .i64 (Sp.lo (Bx.s2 b))), (.int .i64 (Sp.hi (Bx.s2 b))), (.int .i64 (Sp.lo (Bx.s3 b))), (.int .i64 (Sp.hi (Bx.s3 b))), (.int .i64 0), (.int .i64 0)]), []))
   (cond (decide (Qy.ft q = ic 1))
    (some ((.agg [(.int .i64 (Sp.lo (Bx.s0 b))), (.int .i64 (Sp.hi (Bx.s0 b))), (.int .i64 (Sp.lo (Bx.s4 b))), (.int .i64 (Sp.hi (Bx.s4 b))), (.int .i64 (Sp.lo (Bx.s2 b))), (.int .i64 (Sp.hi (Bx.s2 b))), (.int .i64 (Sp.lo (Bx.s3 b))), (.int .i64 (Sp.hi (Bx.s3 b))), (.int .i64 0), (.int .i64 0)]), []))
    (cond (decide (Qy.ft q = ic 2))
     (some ((.agg [(.int .i64 (Sp.lo (Bx.s0 b))), (.int .i64 (Sp.hi (Bx.s0 b))), (.int .i64 (Sp.lo (Bx.s1 b))), (.int .i64 (Sp.hi (Bx.s1 b))), (.int .i64 (Sp.lo (Bx.s4 b))), (.int .i64 (Sp.hi (Bx.s4 b))), (.int .i64 (Sp.lo (Bx.s3 b))), (.int .i64 (Sp.hi (Bx.s3 b))), (.int .i64 0), (.int .i64 0)]), []))
     (cond (decide (Qy.ft q = ic 3))
      (some ((.agg [(.int .i64 (Sp.lo (Bx.s0 b))), (.int .i64 (Sp.hi (Bx.s0 b))), (.int .i64 (Sp.lo (Bx.s1 b))), (.int .i64 (Sp.hi (Bx.s1 b))), (.int .i64 (Sp.lo (Bx.s2 b))), (.int .i64 (Sp.hi (Bx.s2 b))), (.int .i64 (Sp.lo (Bx.s4 b))), (.int .i64 (Sp.hi (Bx.s4 b))), (.int .i64 0), (.int .i64 0)]), []))
      (cond (decide (Qy.ft q = ic 4))
       (some ((.agg [(.int .i64 (Sp.lo (Bx.s0 b))), (.int .i64 (Sp.hi (Bx.s0 b))), (.int .i64 (Sp.lo (Bx.s1 b))), (.int .i64 (Sp.hi (Bx.s1 b))), (.int .i64 (Sp.lo (Bx.s2 b))), (.int .i64 (Sp.hi (Bx.s2 b))), (.int .i64 (Sp.lo (Bx.s3 b))), (.int .i64 (Sp.hi (Bx.s3 b))), (.int .i64 0), (.int .i64 0)]), []))
       none)))))
  (some ((Bx.V b), []))) := by kernel_rfl

/-! ### copse/couple.Ordered -/
def E_couple_Ordered (N : Nat) : Env := mkE [(40, S_box_Empty), (56, S_couple_pairs)] [] 23 N

theorem nf_couple_Ordered (N : Nat) (q : Qy) (b : Bx) : evFun (E_couple_Ordered N) c_couple_Ordered [.tmp 4] [[.bool]] [(Qy.V q), (Bx.V b)] =
  (cond (paired q)
  (cond (!Bx.emp b)
   (cond (decide (Qy.ft q = ic 0))
    (some ((.bool (decide (Sp.lo (Bx.s0 b) < Sp.hi (Bx.s4 b)))), []))
    (cond (decide (Qy.ft q = ic 1))
     (some ((.bool (decide (Sp.lo (Bx.s1 b) < Sp.hi (Bx.s4 b)))), []))
     (cond (decide (Qy.ft q = ic 2))
      (some ((.bool (decide (Sp.lo (Bx.s2 b) < Sp.hi (Bx.s4 b)))), []))
      (cond (decide (Qy.ft q = ic 3))
       (some ((.bool (decide (Sp.lo (Bx.s3 b) < Sp.hi (Bx.s4 b)))), []))
       (cond (decide (Qy.ft q = ic 4)) (some ((.bool (decide (Sp.lo (Bx.s4 b) < Sp.hi (Bx.s4 b)))), [])) none)))))
   (some ((.bool false), [])))
  (some ((.bool false), []))) := by kernel_rfl

/-! ### copse/couple.Change -/
def E_couple_Change (N : Nat) : Env := mkE [(41, S_bound_Sum), (57, S_couple_First), (58, S_couple_Second), (56, S_couple_pairs)] [] 54 N

theorem nf_couple_Change (N : Nat) (m : Md) (q : Qy) (b : Bx) : evFun (E_couple_Change N) c_couple_Change [.tmp 6, .tmp 7, .tmp 8] [[.int .i64], [.int .i64], [.bool]] [(Md.V m), (Qy.V q), (Bx.V b)] =
  (cond (!paired q)
  (some ((.tup [(.int .i64 0), (.int .i64 0), (.bool false)]), []))
  (cond (!sOK m (Qy.c q) (firstB q b))
   (some ((.tup [(.int .i64 0), (.int .i64 0), (.bool false)]), []))
   (cond (!sOK m (Qy.c q) (secondB q b))
    (some ((.tup [(.int .i64 0), (.int .i64 0), (.bool false)]), []))
    (some ((.tup [(.int .i64 (IntKind.wrap IntKind.i64 (sLo m (Qy.c q) (secondB q b) - sHi m (Qy.c q) (firstB q b)))), (.int .i64 (IntKind.wrap IntKind.i64 (sHi m (Qy.c q) (secondB q b) - sLo m (Qy.c q) (firstB q b)))), (.bool true)]), []))))) := by kernel_rfl

/-! ### copse/goal.Closed -/
def E_goal_Closed (N : Nat) : Env := mkE [(42, S_bound_Margin), (41, S_bound_Sum), (40, S_box_Empty), (44, S_couple_Change), (43, S_couple_Ordered), (24, S_query_Right)] [] 86 N

theorem nf_goal_Closed (N : Nat) (m : Md) (a1 : Qy) (a2 : Bx) : evFun (E_goal_Closed N) c_goal_Closed [.tmp 6] [[.bool]] [(Md.V m), (Qy.V a1), (Bx.V a2)] =
  (cond (!rightQ m a1)
  (some ((.bool false), []))
  (cond (Bx.emp a2)
   (some ((.bool true), []))
   (cond (Qy.k a1 == 1)
    (cond (sOK m (Qy.c a1) a2)
     (cond (decide (Qy.lo a1 ≤ sLo m (Qy.c a1) a2)) (some ((.bool (decide (sHi m (Qy.c a1) a2 ≤ Qy.hi a1))), [])) (some ((.bool false), [])))
     (some ((.bool false), [])))
    (cond (Qy.k a1 == 2)
     (cond (mgOK m (Qy.c a1) a2) (some ((.bool (decide (marg m (Qy.c a1) a2 > 0))), [])) (some ((.bool false), [])))
     (cond (!ordered a1 a2)
      (some ((.bool true), []))
      (cond (Qy.fl a1)
       (cond (chOK m a1 a2) (some ((.bool (decide (chHi m a1 a2 ≤ 0))), [])) (some ((.bool false), [])))
       (cond (chOK m a1 a2) (some ((.bool (decide (chLo m a1 a2 ≥ 0))), [])) (some ((.bool false), []))))))))) := by kernel_rfl

/-! ### copse/goal.Corner -/
def E_goal_Corner (N : Nat) : Env := mkE [(45, S_box_Low)] [] 9 N

theorem nf_goal_Corner (N : Nat) (b : Bx) : evFun (E_goal_Corner N) c_goal_Corner [.cell 2 35, .tmp 3] [[.int .i64, .int .i64, .int .i64, .int .i64], [.int .i64]] [(Bx.V b)] =
  (some ((.tup [(Pt.V (Bx.low b)), (.int .i64 (Sp.hi (Bx.s4 b)))]), [])) := by kernel_rfl

/-! ### copse/goal.Split -/
def E_goal_Split (N : Nat) : Env := mkE [(46, S_grid_Cuts)] [(2, ⟨[3, 4, 5, 6, 7, 8, 11], [3, 4, 5], []⟩)] 31 N

theorem nf_goal_Split (N : Nat) (m : Md) (q : Qy) (b : Bx) : evFun (E_goal_Split N) c_goal_Split [.tmp 6, .tmp 7, .tmp 8] [[.int .i64], [.int .i64], [.bool]] [(Md.V m), (Qy.V q), (Bx.V b)] =
  (lpE (E_goal_Split N) (subC c_goal_Split [1, 0, 1, 0, 0]) ⟨[3, 4, 5, 6, 7, 8, 11], [3, 4, 5], []⟩ N ⟨[(3, (.ptr 3 0 0)), (4, (.ptr 4 0 0)), (5, (.ptr 5 0 0)), (6, (.int .i64 0)), (7, (.int .i64 0)), (8, (.bool false)), (11, (.int .i64 0))], [(3, (some (.box (Md.cs m)))), (4, (some (.box (Qy.cs q)))), (5, (some (.box (Bx.cs b))))]⟩ (kBlock 0 (kSq (E_goal_Split N) (subC c_goal_Split [1, 1]) (outT (E_goal_Split N) none [(ResultVar.tmp 6), (ResultVar.tmp 7), (ResultVar.tmp 8)] [[(.int .i64)], [(.int .i64)], [.bool]])))) := by kernel_rfl

theorem st_goal_Split_1 (N : Nat) (m : Md) (q : Qy) (b : Bx) (x6 : Int) (x7 : Int) (b8 : Bool) (x11 : Int) (again : St → Res) (k : Out → St → Res) : rnd (E_goal_Split N) (subC c_goal_Split [1, 0, 1, 0, 0])
    ⟨[(3, (.ptr 3 0 0)), (4, (.ptr 4 0 0)), (5, (.ptr 5 0 0)), (6, (.int .i64 x6)), (7, (.int .i64 x7)), (8, (.bool b8)), (11, (.int .i64 x11))], [(3, (some (.box (Md.cs m)))), (4, (some (.box (Qy.cs q)))), (5, (some (.box (Bx.cs b))))]⟩
    (kLoop again ⟨[3, 4, 5, 6, 7, 8, 11], [3, 4, 5], []⟩ k) =
  (cond (decide (x11 < 5))
  (cond (modelB m && inPl x11)
   (cond (decide (ic (List.length (iZ (cutsZ m q b (Int.toNat x11)))) > 0))
    (cond (decide (0 ≤ IntKind.wrap IntKind.i64 (Int.tdiv (IntKind.wrap IntKind.i64 (ic (List.length (iZ (cutsZ m q b (Int.toNat x11)))) - 1)) 2)) && decide (IntKind.wrap IntKind.i64 (Int.tdiv (IntKind.wrap IntKind.i64 (ic (List.length (iZ (cutsZ m q b (Int.toNat x11)))) - 1)) 2) < ic (List.length (iZ (cutsZ m q b (Int.toNat x11))))))
     (k .ret ⟨[(3, (.ptr 3 0 0)), (4, (.ptr 4 0 0)), (5, (.ptr 5 0 0)), (6, (.int .i64 x11)), (7, (.int .i64 (IV.toInt (List.getD (iZ (cutsZ m q b (Int.toNat x11))) (Int.toNat (IntKind.wrap IntKind.i64 (Int.tdiv (IntKind.wrap IntKind.i64 (ic (List.length (iZ (cutsZ m q b (Int.toNat x11)))) - 1)) 2))) default)))), (8, (.bool true)), (11, (.int .i64 x11))], [(3, (some (.box (Md.cs m)))), (4, (some (.box (Qy.cs q)))), (5, (some (.box (Bx.cs b))))]⟩)
     none)
    (again ⟨[(3, (.ptr 3 0 0)), (4, (.ptr 4 0 0)), (5, (.ptr 5 0 0)), (6, (.int .i64 x6)), (7, (.int .i64 x7)), (8, (.bool b8)), (11, (.int .i64 (IntKind.wrap IntKind.i64 (x11 + 1))))], [(3, (some (.box (Md.cs m)))), (4, (some (.box (Qy.cs q)))), (5, (some (.box (Bx.cs b))))]⟩))
   none)
  (k (.exit 0) ⟨[(3, (.ptr 3 0 0)), (4, (.ptr 4 0 0)), (5, (.ptr 5 0 0)), (6, (.int .i64 x6)), (7, (.int .i64 x7)), (8, (.bool b8)), (11, (.int .i64 x11))], [(3, (some (.box (Md.cs m)))), (4, (some (.box (Qy.cs q)))), (5, (some (.box (Bx.cs b))))]⟩)) := by kernel_rfl

theorem ex_goal_Split_1_1 (N : Nat) (m : Md) (q : Qy) (b : Bx) (x6 : Int) (x7 : Int) (b8 : Bool) (x11 : Int) : (kBlock 0 (kSq (E_goal_Split N) (subC c_goal_Split [1, 1]) (outT (E_goal_Split N) none [(ResultVar.tmp 6), (ResultVar.tmp 7), (ResultVar.tmp 8)] [[(.int .i64)], [(.int .i64)], [.bool]]))) (.exit 0)
    ⟨[(3, (.ptr 3 0 0)), (4, (.ptr 4 0 0)), (5, (.ptr 5 0 0)), (6, (.int .i64 x6)), (7, (.int .i64 x7)), (8, (.bool b8)), (11, (.int .i64 x11))], [(3, (some (.box (Md.cs m)))), (4, (some (.box (Qy.cs q)))), (5, (some (.box (Bx.cs b))))]⟩ =
  (some ((.tup [(.int .i64 0), (.int .i64 0), (.bool false)]), [])) := by kernel_rfl

theorem ex_goal_Split_1_2 (N : Nat) (m : Md) (q : Qy) (b : Bx) (x6 : Int) (x7 : Int) (b8 : Bool) (x11 : Int) : (kBlock 0 (kSq (E_goal_Split N) (subC c_goal_Split [1, 1]) (outT (E_goal_Split N) none [(ResultVar.tmp 6), (ResultVar.tmp 7), (ResultVar.tmp 8)] [[(.int .i64)], [(.int .i64)], [.bool]]))) .ret
    ⟨[(3, (.ptr 3 0 0)), (4, (.ptr 4 0 0)), (5, (.ptr 5 0 0)), (6, (.int .i64 x6)), (7, (.int .i64 x7)), (8, (.bool b8)), (11, (.int .i64 x11))], [(3, (some (.box (Md.cs m)))), (4, (some (.box (Qy.cs q)))), (5, (some (.box (Bx.cs b))))]⟩ =
  (some ((.tup [(.int .i64 x6), (.int .i64 x7), (.bool b8)]), [])) := by kernel_rfl

end Go.FM

/-
  THE FUNCTIONS OF span, box, tree, model, query, couple, ON THE WAY TO A SEARCH, COME TO WHAT IS SAID.
-/
namespace Go.FM
open Go Go.Proofs

theorem inPl_cases {i : Int} (h : inPl i = true) : i = 0 ∨ i = 1 ∨ i = 2 ∨ i = 3 ∨ i = 4 := by
  unfold inPl at h
  simp only [Bool.and_eq_true, decide_eq_true_eq] at h
  omega

/-! ### spans -/
theorem snd_span_none : SndR PR B0 64 S_span_none := by
  refine snd_mk [] [] S_span_none [[.int .i64, .int .i64]] Try.func64 h_span_none trivial ?_
  intro vs r hwf h
  unfold S_span_none at h
  split at h
  · rw [R.get_ok] at h
    exact ⟨0, (nf_span_none 0).trans h⟩
  · simp [R.get] at h
set_option maxRecDepth 100000 in
theorem snd_span_of : SndR PR B0 63 S_span_of := by
  refine snd_mk [(64, S_span_none)] [] S_span_of [[.int .i64, .int .i64]] Try.func63 h_span_of ⟨snd_span_none, trivial⟩ ?_
  intro vs r hwf h
  unfold S_span_of at h
  split at h
  · rename_i lo hi
    rw [R.get_ok] at h
    refine ⟨0, ?_⟩
    rw [← h]
    refine (nf_span_of 0 lo hi).trans ?_
    unfold spOf
    cases decide (lo > hi) <;> rfl
  · simp [R.get] at h
set_option maxRecDepth 100000 in
theorem snd_span_Empty : SndR PR B0 53 S_span_Empty := by
  refine snd_mk [] [] S_span_Empty [[.bool]] Try.func53 h_span_Empty trivial ?_
  intro vs r hwf h
  unfold S_span_Empty at h
  split at h
  · rename_i s
    replace h := withS_get h
    obtain ⟨s, rfl, h⟩ := h
    rw [R.get_ok] at h
    exact ⟨0, (nf_span_Empty 0 s).trans h⟩
  · simp [R.get] at h
set_option maxRecDepth 100000 in
theorem snd_span_Has : SndR PR B0 26 S_span_Has := by
  refine snd_mk [] [] S_span_Has [[.bool]] Try.func26 h_span_Has trivial ?_
  intro vs r hwf h
  unfold S_span_Has at h
  split at h
  · rename_i s n
    replace h := withS_get h
    obtain ⟨s, rfl, h⟩ := h
    rw [R.get_ok] at h
    refine ⟨0, ?_⟩
    rw [← h]
    refine (nf_span_Has 0 s n).trans ?_
    unfold Sp.has
    cases decide (s.lo ≤ n) <;> rfl
  · simp [R.get] at h
set_option maxRecDepth 100000 in
theorem snd_span_Cut : SndR PR B0 47 S_span_Cut := by
  refine snd_mk [(64, S_span_none), (63, S_span_of)] [] S_span_Cut [[.int .i64, .int .i64], [.int .i64, .int .i64]] Try.func47 h_span_Cut ⟨snd_span_none, snd_span_of, trivial⟩ ?_
  intro vs r hwf h
  unfold S_span_Cut at h
  split at h
  · rename_i s n
    replace h := withS_get h
    obtain ⟨s, rfl, h⟩ := h
    rw [R.get_ok] at h
    refine ⟨0, ?_⟩
    rw [← h]
    refine (nf_span_Cut 0 s n).trans ?_
    unfold Sp.cutH
    cases decide (n ≥ s.hi) <;> rfl
  · simp [R.get] at h

/-! ### boxes -/
theorem run_box_Empty (b : Bx) : evFun (E_box_Empty 6) c_box_Empty [.tmp 2] [[.bool]] [b.V] =
    cond b.s0.emp (some (.bool true, [])) (cond b.s1.emp (some (.bool true, [])) (cond b.s2.emp (some (.bool true, [])) (cond b.s3.emp (some (.bool true, [])) (cond b.s4.emp (some (.bool true, [])) (some (.bool false, [])))))) := by kernel_rfl
set_option maxRecDepth 100000 in
theorem snd_box_Empty : SndR PR B0 40 S_box_Empty := by
  refine snd_mk [(53, S_span_Empty)] [(2, ⟨[2, 5, 6], [], []⟩)] S_box_Empty [[.bool]] Try.func40 h_box_Empty ⟨snd_span_Empty, trivial⟩ ?_
  intro vs r hwf h
  unfold S_box_Empty at h
  split at h
  · rename_i b
    replace h := withB_get h
    obtain ⟨b, rfl, h⟩ := h
    rw [R.get_ok] at h
    refine ⟨6, ?_⟩
    rw [← h]
    refine (run_box_Empty b).trans ?_
    unfold Bx.emp
    cases b.s0.emp <;> cases b.s1.emp <;> cases b.s2.emp <;> cases b.s3.emp <;> cases b.s4.emp <;> rfl
  · simp [R.get] at h
theorem run_box_Low (b : Bx) : evFun (E_box_Low 5) c_box_Low [.cell 2 35] [[.int .i64, .int .i64, .int .i64, .int .i64]] [b.V] = some (b.low.V, []) := by kernel_rfl
set_option maxRecDepth 100000 in
theorem snd_box_Low : SndR PR B0 45 S_box_Low := by
  refine snd_mk [] [(3, ⟨[1, 2, 3, 5], [1, 2, 3], []⟩)] S_box_Low [[.int .i64, .int .i64, .int .i64, .int .i64]] Try.func45 h_box_Low trivial ?_
  intro vs r hwf h
  unfold S_box_Low at h
  split at h
  · rename_i b
    replace h := withB_get h
    obtain ⟨b, rfl, h⟩ := h
    rw [R.get_ok] at h
    exact ⟨5, (run_box_Low b).trans h⟩
  · simp [R.get] at h
set_option maxRecDepth 100000 in
theorem snd_box_Cut : SndR PR B0 32 S_box_Cut := by
  refine snd_mk [(47, S_span_Cut)] [] S_box_Cut [[.int .i64, .int .i64, .int .i64, .int .i64, .int .i64, .int .i64, .int .i64, .int .i64, .int .i64, .int .i64], [.int .i64, .int .i64, .int .i64, .int .i64, .int .i64, .int .i64, .int .i64, .int .i64, .int .i64, .int .i64]] Try.func32 h_box_Cut ⟨snd_span_Cut, trivial⟩ ?_
  intro vs r hwf h
  unfold S_box_Cut at h
  split at h
  · rename_i b i a
    replace h := withB_get h
    obtain ⟨b, rfl, h⟩ := h
    cases hg : (inPl i) with
    | false => rw [hg] at h; simp [R.get] at h
    | true =>
    rw [hg, R.get_br, condT, R.get_ok] at h
    refine ⟨0, ?_⟩
    rw [← h]
    rcases inPl_cases hg with rfl | rfl | rfl | rfl | rfl <;> kernel_rfl
  · simp [R.get] at h

/-! ### pairs -/
set_option maxRecDepth 100000 in
theorem snd_query_paired : SndR PR B0 28 S_query_paired := by
  refine snd_mk [] [] S_query_paired [[.bool]] Try.func28 h_query_paired trivial ?_
  intro vs r hwf h
  unfold S_query_paired at h
  split at h
  · rename_i q
    replace h := withQ_get h
    obtain ⟨q, rfl, h⟩ := h
    rw [R.get_ok] at h
    refine ⟨0, ?_⟩
    rw [← h]
    refine (nf_query_paired 0 q).trans ?_
    unfold paired
    cases (q.k == 3) <;> cases decide (q.ft ≥ 0) <;> rfl
  · simp [R.get] at h
set_option maxRecDepth 100000 in
theorem snd_couple_pairs : SndR PR B0 56 S_couple_pairs := by
  refine snd_mk [] [] S_couple_pairs [[.bool]] Try.func56 h_couple_pairs trivial ?_
  intro vs r hwf h
  unfold S_couple_pairs at h
  split at h
  · rename_i q
    replace h := withQ_get h
    obtain ⟨q, rfl, h⟩ := h
    rw [R.get_ok] at h
    refine ⟨0, ?_⟩
    rw [← h]
    refine (nf_couple_pairs 0 q).trans ?_
    unfold paired
    cases (q.k == 3) <;> cases decide (q.ft ≥ 0) <;> rfl
  · simp [R.get] at h
theorem paired_ft {q : Qy} (h : paired q = true) : q.ft = 0 ∨ q.ft = 1 ∨ q.ft = 2 ∨ q.ft = 3 := by
  unfold paired at h
  simp only [Bool.and_eq_true, decide_eq_true_eq] at h
  omega
set_option maxRecDepth 100000 in
theorem snd_couple_First : SndR PR B0 57 S_couple_First := by
  refine snd_mk [(56, S_couple_pairs)] [] S_couple_First [[.int .i64, .int .i64, .int .i64, .int .i64, .int .i64, .int .i64, .int .i64, .int .i64, .int .i64, .int .i64]] Try.func57 h_couple_First ⟨snd_couple_pairs, trivial⟩ ?_
  intro vs r hwf h
  unfold S_couple_First at h
  split at h
  · rename_i q b
    replace h := withQ_get h
    obtain ⟨q, rfl, h⟩ := h
    replace h := withB_get h
    obtain ⟨b, rfl, h⟩ := h
    rw [R.get_ok] at h
    refine ⟨0, ?_⟩
    rw [← h]
    refine (nf_couple_First 0 q b).trans ?_
    unfold firstB
    cases paired q <;> rfl
  · simp [R.get] at h
set_option maxRecDepth 100000 in
theorem snd_couple_Second : SndR PR B0 58 S_couple_Second := by
  refine snd_mk [(56, S_couple_pairs)] [] S_couple_Second [[.int .i64, .int .i64, .int .i64, .int .i64, .int .i64, .int .i64, .int .i64, .int .i64, .int .i64, .int .i64]] Try.func58 h_couple_Second ⟨snd_couple_pairs, trivial⟩ ?_
  intro vs r hwf h
  unfold S_couple_Second at h
  split at h
  · rename_i q b
    replace h := withQ_get h
    obtain ⟨q, rfl, h⟩ := h
    replace h := withB_get h
    obtain ⟨b, rfl, h⟩ := h
    rw [R.get_ok] at h
    refine ⟨0, ?_⟩
    rw [← h]
    refine (nf_couple_Second 0 q b).trans ?_
    unfold secondB
    cases hp : paired q with
    | false => rfl
    | true => rcases paired_ft hp with e | e | e | e <;> rw [e] <;> rfl
  · simp [R.get] at h
set_option maxRecDepth 100000 in
theorem snd_couple_Ordered : SndR PR B0 43 S_couple_Ordered := by
  refine snd_mk [(40, S_box_Empty), (56, S_couple_pairs)] [] S_couple_Ordered [[.bool]] Try.func43 h_couple_Ordered ⟨snd_box_Empty, snd_couple_pairs, trivial⟩ ?_
  intro vs r hwf h
  unfold S_couple_Ordered at h
  split at h
  · rename_i q b
    replace h := withQ_get h
    obtain ⟨q, rfl, h⟩ := h
    replace h := withB_get h
    obtain ⟨b, rfl, h⟩ := h
    rw [R.get_ok] at h
    refine ⟨0, ?_⟩
    rw [← h]
    refine (nf_couple_Ordered 0 q b).trans ?_
    unfold ordered
    cases hp : paired q with
    | false => rfl
    | true => cases b.emp <;> rcases paired_ft hp with e | e | e | e <;> rw [e] <;> rfl
  · simp [R.get] at h
set_option maxRecDepth 100000 in
theorem snd_query_Start : SndR PR B0 13 S_query_Start := by
  refine snd_mk [(28, S_query_paired)] [] S_query_Start [[.int .i64, .int .i64, .int .i64, .int .i64, .int .i64, .int .i64, .int .i64, .int .i64, .int .i64, .int .i64]] Try.func13 h_query_Start ⟨snd_query_paired, trivial⟩ ?_
  intro vs r hwf h
  unfold S_query_Start at h
  split at h
  · rename_i q
    replace h := withQ_get h
    obtain ⟨q, rfl, h⟩ := h
    rw [R.get_ok] at h
    refine ⟨0, ?_⟩
    rw [← h]
    refine (nf_query_Start 0 q).trans ?_
    unfold startB
    cases hp : paired q with
    | false => rfl
    | true => rcases paired_ft hp with e | e | e | e <;> rw [e] <;> rfl
  · simp [R.get] at h
set_option maxRecDepth 100000 in
theorem snd_query_Second : SndR PR B0 27 S_query_Second := by
  refine snd_mk [(28, S_query_paired)] [] S_query_Second [[.int .i64, .int .i64, .int .i64, .int .i64]] Try.func27 h_query_Second ⟨snd_query_paired, trivial⟩ ?_
  intro vs r hwf h
  unfold S_query_Second at h
  split at h
  · rename_i q p t
    replace h := withQ_get h
    obtain ⟨q, rfl, h⟩ := h
    replace h := withP_get h
    obtain ⟨p, rfl, h⟩ := h
    rw [R.get_ok] at h
    refine ⟨0, ?_⟩
    rw [← h]
    refine (nf_query_Second 0 q p t).trans ?_
    unfold secondP
    cases hp : paired q with
    | false => rfl
    | true => rcases paired_ft hp with e | e | e | e <;> rw [e] <;> rfl
  · simp [R.get] at h

/-! ### queries that may be asked -/
def regR (d i : Int) (s : Sp) (rest : Res) : Res :=
  cond (decide (i ≥ d)) (cond (!((s.lo == 0) && ((s.hi == 0) && true))) (some (.bool false, [])) (cond s.emp (some (.bool false, [])) (cond (!(fits32 s.lo)) (some (.bool false, [])) (cond (!(fits32 s.hi)) (some (.bool false, [])) rest))))
    (cond s.emp (some (.bool false, [])) (cond (!(fits32 s.lo)) (some (.bool false, [])) (cond (!(fits32 s.hi)) (some (.bool false, [])) rest)))
theorem regR_eq (d i : Int) (s : Sp) (rest : Res) : regR d i s rest = cond (spOK d i s) rest (some (.bool false, [])) := by
  unfold regR spOK
  rw [Bool.and_true]
  cases decide (i ≥ d) <;> cases ((s.lo == 0) && (s.hi == 0)) <;> cases s.emp <;> cases fits32 s.lo <;> cases fits32 s.hi <;> rfl
theorem run_query_region (b : Bx) (d : Int) : evFun (E_query_region 6) c_query_region [.tmp 4] [[.bool]] [b.V, .int .i64 d] = regR d 0 b.s0 (regR d 1 b.s1 (regR d 2 b.s2 (regR d 3 b.s3 (regR d 4 b.s4 (some (.bool true, [])))))) := by kernel_rfl
set_option maxRecDepth 100000 in
theorem snd_query_region : SndR PR B0 37 S_query_region := by
  refine snd_mk [(49, S_bits_Fits), (53, S_span_Empty)] [(2, ⟨[1, 4, 7, 8], [], []⟩)] S_query_region [[.bool]] Try.func37 h_query_region ⟨snd_bits_Fits, snd_span_Empty, trivial⟩ ?_
  intro vs r hwf h
  unfold S_query_region at h
  split at h
  · rename_i b d
    replace h := withB_get h
    obtain ⟨b, rfl, h⟩ := h
    rw [R.get_ok] at h
    refine ⟨6, ?_⟩
    rw [← h]
    refine (run_query_region b d).trans ?_
    rw [regR_eq, regR_eq, regR_eq, regR_eq, regR_eq]
    unfold regB5
    cases spOK d 0 b.s0 <;> cases spOK d 1 b.s1 <;> cases spOK d 2 b.s2 <;> cases spOK d 3 b.s3 <;> cases spOK d 4 b.s4 <;> rfl
  · simp [R.get] at h
set_option maxRecDepth 100000 in
theorem snd_query_kind : SndR PR B0 38 S_query_kind := by
  refine snd_mk [] [] S_query_kind [[.bool]] Try.func38 h_query_kind trivial ?_
  intro vs r hwf h
  unfold S_query_kind at h
  split at h
  · rename_i m q
    replace h := withM_get h
    obtain ⟨m, rfl, h⟩ := h
    replace h := withQ_get h
    obtain ⟨q, rfl, h⟩ := h
    rw [R.get_ok] at h
    refine ⟨0, ?_⟩
    rw [← h]
    refine (nf_query_kind 0 m q).trans ?_
    unfold kindB
    cases (q.k == 1) <;> cases (q.k == 2) <;> cases (q.k == 3) <;> cases decide (q.lo ≤ q.hi) <;> cases (q.ft == 0) <;> cases decide (m.c ≥ 2) <;> cases (q.lo == 0) <;> cases (q.hi == 0) <;> cases decide (q.ft ≥ 0) <;> cases decide (q.ft < m.d) <;> rfl
  · simp [R.get] at h
set_option maxRecDepth 100000 in
theorem snd_query_Right : SndR PR B0 24 S_query_Right := by
  refine snd_mk [(36, S_model_Right), (38, S_query_kind), (37, S_query_region)] [] S_query_Right [[.bool]] Try.func24 h_query_Right ⟨snd_model_Right, snd_query_kind, snd_query_region, trivial⟩ ?_
  intro vs r hwf h
  unfold S_query_Right at h
  split at h
  · rename_i m q
    replace h := withM_get h
    obtain ⟨m, rfl, h⟩ := h
    replace h := withQ_get h
    obtain ⟨q, rfl, h⟩ := h
    rw [R.get_ok] at h
    refine ⟨0, ?_⟩
    rw [← h]
    refine (nf_query_Right 0 m q).trans ?_
    unfold rightQ Qy.bx
    generalize regB5 _ _ = rg
    cases modelB m <;> cases decide (q.c ≥ 0) <;> cases decide (q.c < m.c) <;> cases decide (q.bu ≥ 0) <;> cases decide (q.bu ≤ 65536) <;> cases rg <;> rfl
  · simp [R.get] at h

/-! ### a point's way through a tree -/
theorem node_fork {w : Int} (hb : nodeB w = true) (hl : (nodeN w).lf = false) : (0 ≤ (nodeN w).f ∧ (nodeN w).f < 4) ∧ (1 ≤ (nodeN w).l ∧ (nodeN w).l < 31) ∧ (1 ≤ (nodeN w).r ∧ (nodeN w).r < 31) ∧ fits32 (nodeN w).a = true := by
  have h := (node_pack hb).2
  unfold rightNd at h
  rw [hl, condF] at h
  unfold childB at h
  simp only [Bool.and_eq_true, decide_eq_true_eq] at h
  exact ⟨⟨h.2.1, h.2.2.1⟩, h.2.2.2.2.1, h.2.2.2.2.2, h.2.2.2.1⟩
theorem node_val (w : Int) : fits32 (nodeN w).v = true := by
  cases hb : nodeB w with
  | false =>
    have e : nodeN w = Nd.zero := by unfold nodeN; rw [hb]; rfl
    rw [e]
    rfl
  | true =>
    have h := (node_pack hb).2
    unfold rightNd at h
    cases hl : (nodeN w).lf with
    | true =>
      rw [hl, condT, Bool.and_eq_true] at h
      exact h.2
    | false =>
      rw [hl, condF, Bool.and_eq_true, beq_iff_eq] at h
      rw [h.1]
      rfl
abbrev xstE (l : List IV) (p : Pt) (a j : Int) : St :=
  ⟨[(0, (.list false [(.int .u64)] l)), (3, (.ptr 3 0 0)), (4, (.int .i64 0)), (5, (.ptr 5 0 0)), (6, (.int .i64 a)), (9, (.int .i64 j))], [(3, (some (.box (Pt.cs p)))), (5, (some (.box [(.bool false), (.int .i64 0), (.int .i64 0), (.int .i64 0), (.int .i64 0), (.int .i64 0)])))]⟩
theorem end_run (N : Nat) (l : List IV) (p : Pt) : ∀ (m j n : Nat) (a : Int), 0 ≤ a → j + m = 31 → m < n →
    lpE (E_tree_end N) (subC c_tree_end [1, 1, 0, 1, 0, 0]) ⟨[0, 3, 4, 5, 6, 9], [3, 5], []⟩ n (xstE l p a (j : Int)) (kBlock 0 (kSq (E_tree_end N) (subC c_tree_end [1, 1, 1]) (outT (E_tree_end N) none [(ResultVar.tmp 4), (ResultVar.cell 5 63)] [[(.int .i64)], [.bool, (.int .i64), (.int .i64), (.int .i64), (.int .i64), (.int .i64)]]))) =
      some (.tup [.int .i64 (endF l p m a).1, (endF l p m a).2.V], [])
  | m, j, 0, a, _, _, h => absurd h (by omega)
  | 0, j, n + 1, a, ha, hd, _ => by
    have hj : j = 31 := by omega
    subst hj
    rw [lpE_succ, st_tree_end_1, decide_eq_false (show ¬ ((31 : Nat) : Int) < 31 by omega), condF]
    exact ex_tree_end_1_1 N p l _ _ _ _ _ _ _ _ _
  | m + 1, j, n + 1, a, ha, hd, hn => by
    have ej : IntKind.wrap IntKind.i64 ((j : Int) + 1) = ((j + 1 : Nat) : Int) := succ_w (by omega)
    rw [lpE_succ, st_tree_end_1, decide_eq_true (show (j : Int) < 31 by omega), condT, endF, ej]
    cases hge : decide (a ≥ ic l.length) with
    | true =>
      rw [condT, condT]
      exact ex_tree_end_1_1 N p l _ _ _ _ _ _ _ _ _
    | false =>
      have hge := of_decide_eq_false hge
      rw [condF, condF, decide_eq_true ha, decide_eq_true (show a < ic l.length by omega), Bool.and_self, condT]
      generalize (l.getD a.toNat default).toInt = w
      cases hb : nodeB w with
      | false =>
        rw [Bool.not_false, condT, condT]
        exact ex_tree_end_1_3 N p l _ _ _ _ _ _ _ _ _
      | true =>
        rw [Bool.not_true, condF, condF]
        cases hl : (nodeN w).lf with
        | true =>
          rw [condT, condT]
          rfl
        | false =>
          obtain ⟨⟨f0, f4⟩, ⟨l1, l31⟩, ⟨r1, r31⟩, _⟩ := node_fork hb hl
          rw [condF, condF]
          have step : ∀ c : Bool, (cond c (lpE (E_tree_end N) (subC c_tree_end [1, 1, 0, 1, 0, 0]) ⟨[0, 3, 4, 5, 6, 9], [3, 5], []⟩ n (xstE l p (nodeN w).l ((j + 1 : Nat) : Int)) (kBlock 0 (kSq (E_tree_end N) (subC c_tree_end [1, 1, 1]) (outT (E_tree_end N) none [(ResultVar.tmp 4), (ResultVar.cell 5 63)] [[(.int .i64)], [.bool, (.int .i64), (.int .i64), (.int .i64), (.int .i64), (.int .i64)]]))))
              (lpE (E_tree_end N) (subC c_tree_end [1, 1, 0, 1, 0, 0]) ⟨[0, 3, 4, 5, 6, 9], [3, 5], []⟩ n (xstE l p (nodeN w).r ((j + 1 : Nat) : Int)) (kBlock 0 (kSq (E_tree_end N) (subC c_tree_end [1, 1, 1]) (outT (E_tree_end N) none [(ResultVar.tmp 4), (ResultVar.cell 5 63)] [[(.int .i64)], [.bool, (.int .i64), (.int .i64), (.int .i64), (.int .i64), (.int .i64)]]))))) =
              some (.tup [.int .i64 (cond c (endF l p m (nodeN w).l) (endF l p m (nodeN w).r)).1, (cond c (endF l p m (nodeN w).l) (endF l p m (nodeN w).r)).2.V], []) := fun c => by
            cases c with
            | true => exact end_run N l p m (j + 1) n (nodeN w).l (by omega) (by omega) (by omega)
            | false => exact end_run N l p m (j + 1) n (nodeN w).r (by omega) (by omega) (by omega)
          obtain e | e | e | e : (nodeN w).f = 0 ∨ (nodeN w).f = 1 ∨ (nodeN w).f = 2 ∨ (nodeN w).f = 3 := by omega
          all_goals
            rw [e]
            exact step _
set_option maxRecDepth 100000 in
theorem snd_tree_end : SndR PR B0 67 S_tree_end := by
  refine snd_mk [(66, S_node_Unpack)] [(3, ⟨[0, 3, 4, 5, 6, 9], [3, 5], []⟩)] S_tree_end [[.int .i64], [.bool, .int .i64, .int .i64, .int .i64, .int .i64, .int .i64]] Try.func67 h_tree_end ⟨snd_node_Unpack, trivial⟩ ?_
  intro vs r hwf h
  unfold S_tree_end at h
  split at h
  · rename_i l p
    replace h := withP_get h
    obtain ⟨p, rfl, h⟩ := h
    rw [R.get_ok] at h
    refine ⟨32, ?_⟩
    rw [← h]
    exact (nf_tree_end 32 l p).trans (end_run 32 l p 31 0 32 0 (by omega) rfl (by omega))
  · simp [R.get] at h
set_option maxRecDepth 100000 in
theorem snd_tree_Value : SndR PR B0 54 S_tree_Value := by
  refine snd_mk [(67, S_tree_end)] [] S_tree_Value [[.int .i64]] Try.func54 h_tree_Value ⟨snd_tree_end, trivial⟩ ?_
  intro vs r hwf h
  unfold S_tree_Value at h
  split at h
  · rename_i l p
    replace h := withP_get h
    obtain ⟨p, rfl, h⟩ := h
    rw [R.get_ok] at h
    exact ⟨0, (nf_tree_Value 0 l p).trans h⟩
  · simp [R.get] at h

/-! ### a model's sums -/
theorem fits32_in {n : Int} (h : fits32 n = true) : -2147483648 ≤ n ∧ n ≤ 2147483647 := by
  unfold fits32 at h
  simpa only [Bool.and_eq_true, decide_eq_true_eq] using h
theorem endF_val (l : List IV) (p : Pt) : ∀ (n : Nat) (a : Int), fits32 (endF l p n a).2.v = true
  | 0, _ => rfl
  | n + 1, a => by
    rw [endF]
    cases decide (a ≥ ic l.length) with
    | true => rfl
    | false =>
      rw [condF]
      generalize (l.getD a.toNat default).toInt = w
      cases nodeB w with
      | false => rfl
      | true =>
        rw [Bool.not_true, condF]
        cases (nodeN w).lf with
        | true => exact node_val w
        | false =>
          rw [condF]
          cases decide (p.g (nodeN w).f.toNat ≤ (nodeN w).a) with
          | true => exact endF_val l p n _
          | false => exact endF_val l p n _
theorem valT_in (l : List IV) (p : Pt) : -2147483648 ≤ valT l p ∧ valT l p ≤ 2147483647 := fits32_in (endF_val l p 31 0)
theorem modelB_parts {m : Md} (h : modelB m = true) : (1 ≤ m.d ∧ m.d ≤ 4) ∧ (1 ≤ m.c ∧ m.c ≤ 3) ∧ m.ts.length ≤ 8 ∧ (fits32 m.b0 = true ∧ fits32 m.b1 = true ∧ fits32 m.b2 = true) ∧ m.ts.all (treeOK m.d m.c) = true := by
  unfold modelB biasB at h
  simp only [Bool.and_eq_true, Bool.not_eq_true', decide_eq_false_iff_not] at h
  obtain ⟨⟨h1, h2, h3, h4, h5⟩, ⟨h6, h7, h8⟩, h9⟩ := h
  exact ⟨⟨by omega, by omega⟩, ⟨by omega, by omega⟩, Nat.le_of_ble_eq_true h5, ⟨h6.1, h7.1, h8.1⟩, h9⟩
theorem clsOK_in {m : Md} {k : Int} (h : clsOK m k = true) : 0 ≤ k ∧ k < m.c := by
  unfold clsOK at h
  simpa only [Bool.and_eq_true, decide_eq_true_eq] using h
theorem cls_cases {m : Md} {k : Int} (hm : modelB m = true) (h : clsOK m k = true) : k = 0 ∨ k = 1 ∨ k = 2 := by
  have := clsOK_in h
  have := (modelB_parts hm).2.1
  omega
theorem bias_in {m : Md} (hm : modelB m = true) (k : Int) : -2147483648 ≤ biasOf m k ∧ biasOf m k ≤ 2147483647 := by
  obtain ⟨h0, h1, h2⟩ := (modelB_parts hm).2.2.2.1
  unfold biasOf
  cases (k == 0) with
  | true => exact fits32_in h0
  | false =>
    cases (k == 1) with
    | true => exact fits32_in h1
    | false => exact fits32_in h2
abbrev xstV (ts : List IV) (p : Pt) (k s i : Int) : St :=
  ⟨[(1, (.int .i64 k)), (5, (.ptr 5 0 0)), (6, (.int .i64 0)), (7, (.int .i64 s)), (15, (.list true [(.int .i64), (.list false [(.int .u64)])] ts)), (16, (.int .i64 (ic (List.length ts)))), (17, (.int .i64 i))], [(5, (some (.box (Pt.cs p))))]⟩
theorem eval_run (N : Nat) (ts : List IV) (p : Pt) (k : Int) (hts : ts.length ≤ 8) : ∀ (m i n : Nat) (s : Int), i + m = ts.length → m < n → -2147483648 * (i + 1) ≤ s ∧ s ≤ 2147483648 * (i + 1) →
    lpE (E_model_eval N) (subC c_model_eval [1, 1, 0, 1, 0, 0]) ⟨[1, 5, 6, 7, 15, 16, 17], [5], []⟩ n (xstV ts p k s (i : Int)) (kBlock 0 (kSq (E_model_eval N) (subC c_model_eval [1, 1, 1]) (outT (E_model_eval N) none [(ResultVar.tmp 6)] [[(.int .i64)]]))) =
      some (.int .i64 (evF k p (ts.drop i) s), [])
  | m, i, 0, s, _, h, _ => absurd h (by omega)
  | 0, i, n + 1, s, hd, _, _ => by
    have hi : i = ts.length := by omega
    subst hi
    rw [lpE_succ, st_model_eval_1, idx_ge (Nat.le_refl _), condF, List.drop_length]
    exact ex_model_eval_1_1 N p _ _ _ _ _ _
  | m + 1, i, n + 1, s, hd, hn, hs => by
    have hi : i < ts.length := by omega
    have ei : IntKind.wrap IntKind.i64 ((i : Int) + 1) = ((i + 1 : Nat) : Int) := succ_w (by omega)
    rw [lpE_succ, st_model_eval_1, ei, idx_lt hi, condT, idx_0, Bool.and_self, condT, getD_i hi, List.drop_eq_getElem_cons hi, evF]
    have hv := valT_in (tNds ts[i]) p
    cases hc : ((ts[i].cell 0).toInt == k) with
    | true =>
      rw [condT, condT]
      have ew : IntKind.wrap IntKind.i64 (s + valT (tNds ts[i]) p) = s + valT (tNds ts[i]) p := wrap_id (by omega) (by omega)
      have ih := eval_run N ts p k hts m (i + 1) n (s + valT (tNds ts[i]) p) (by omega) (by omega) (by omega)
      rw [← ew] at ih
      refine Eq.trans ih ?_
      rw [ew]
    | false =>
      rw [condF, condF]
      exact eval_run N ts p k hts m (i + 1) n s (by omega) (by omega) (by omega)
set_option maxRecDepth 100000 in
theorem snd_model_eval : SndR PR B0 39 S_model_eval := by
  refine snd_mk [(54, S_tree_Value)] [(3, ⟨[1, 5, 6, 7, 15, 16, 17], [5], []⟩)] S_model_eval [[.int .i64]] Try.func39 h_model_eval ⟨snd_tree_Value, trivial⟩ ?_
  intro vs r hwf h
  unfold S_model_eval at h
  split at h
  · rename_i m k p
    replace h := withM_get h
    obtain ⟨m, rfl, h⟩ := h
    replace h := withP_get h
    obtain ⟨p, rfl, h⟩ := h
    cases hg : (modelB m && clsOK m k) with
    | false => rw [hg] at h; simp [R.get] at h
    | true =>
    rw [hg, R.get_br, condT, R.get_ok] at h
    rw [Bool.and_eq_true] at hg
    have hb := bias_in hg.1 k
    have run := eval_run 10 m.ts p k (modelB_parts hg.1).2.2.1 m.ts.length 0 10 (biasOf m k) (by omega) (by have := (modelB_parts hg.1).2.2.1; omega) (by omega)
    refine ⟨10, ?_⟩
    rw [← h]
    refine (nf_model_eval 10 m k p).trans ?_
    rcases cls_cases hg.1 hg.2 with rfl | rfl | rfl <;> exact run
  · simp [R.get] at h
set_option maxRecDepth 100000 in
theorem snd_model_Eval : SndR PR B0 25 S_model_Eval := by
  refine snd_mk [(36, S_model_Right), (39, S_model_eval)] [] S_model_Eval [[.int .i64]] Try.func25 h_model_Eval ⟨snd_model_Right, snd_model_eval, trivial⟩ ?_
  intro vs r hwf h
  unfold S_model_Eval at h
  split at h
  · rename_i m k p
    replace h := withM_get h
    obtain ⟨m, rfl, h⟩ := h
    replace h := withP_get h
    obtain ⟨p, rfl, h⟩ := h
    rw [R.get_ok] at h
    refine ⟨0, ?_⟩
    rw [← h]
    refine (nf_model_Eval 0 m k p).trans ?_
    unfold evalM clsOK
    cases modelB m with
    | false => rfl
    | true =>
      cases h0 : decide (k < 0) with
      | true => rw [decide_eq_false (show ¬ 0 ≤ k by have := of_decide_eq_true h0; omega)]; rfl
      | false =>
        rw [decide_eq_true (show 0 ≤ k by have := of_decide_eq_false h0; omega)]
        cases h1 : decide (k ≥ m.c) with
        | true => rw [decide_eq_false (show ¬ k < m.c by have := of_decide_eq_true h1; omega)]; rfl
        | false => rw [decide_eq_true (show k < m.c by have := of_decide_eq_false h1; omega)]; rfl
  · simp [R.get] at h

/-! ### what breaks a query -/
abbrev xstBr (m : Md) (q : Qy) (p : Pt) (own i : Int) : St :=
  ⟨[(4, (.ptr 4 0 0)), (5, (.ptr 5 0 0)), (6, (.ptr 6 0 0)), (8, (.bool false)), (9, (.int .i64 own)), (36, (.int .i64 (Md.c m))), (37, (.int .i64 i))], [(4, (some (.box (Md.cs m)))), (5, (some (.box (Qy.cs q)))), (6, (some (.box (Pt.cs p))))]⟩
def anyGe (m : Md) (q : Qy) (p : Pt) (own : Int) : Nat → Nat → Bool
  | 0, _ => false
  | d + 1, i => (!((i : Int) == q.c) && decide (evalM m (i : Int) p ≥ own)) || anyGe m q p own d (i + 1)
theorem anyGe_eq (m : Md) (q : Qy) (p : Pt) (own : Int) : ∀ d i, anyGe m q p own d i = (List.range' i d).any fun c => !((c : Int) == q.c) && decide (evalM m (c : Int) p ≥ own)
  | 0, _ => rfl
  | d + 1, i => by rw [anyGe, anyGe_eq m q p own d (i + 1), List.range'_succ, List.any_cons]
theorem breaks_run (N : Nat) (m : Md) (q : Qy) (p : Pt) (own : Int) (hc : 0 ≤ m.c ∧ m.c ≤ 3) : ∀ (d i n : Nat), ((i + d : Nat) : Int) = m.c → d < n →
    lpE (E_query_Breaks N) (subC c_query_Breaks [1, 1, 1, 0, 1, 0, 1, 1, 1, 0, 0, 1, 0, 0]) ⟨[4, 5, 6, 8, 9, 36, 37], [4, 5, 6], []⟩ n (xstBr m q p own (i : Int)) (kBlock 1 (kSq (E_query_Breaks N) (subC c_query_Breaks [1, 1, 1, 0, 1, 0, 1, 1, 1, 0, 1]) (kBlock 0 (kSq (E_query_Breaks N) (subC c_query_Breaks [1, 1, 1, 1]) (outT (E_query_Breaks N) none [(ResultVar.tmp 8)] [[.bool]]))))) =
      some (.bool (anyGe m q p own d i), [])
  | d, i, 0, _, h => absurd h (by omega)
  | 0, i, n + 1, hd, _ => by
    rw [lpE_succ, st_query_Breaks_1, decide_eq_false (show ¬ (i : Int) < m.c by omega), condF]
    exact ex_query_Breaks_1_1 N m q p _ _ _ _
  | d + 1, i, n + 1, hd, hn => by
    have ei : IntKind.wrap IntKind.i64 ((i : Int) + 1) = ((i + 1 : Nat) : Int) := succ_w (by omega)
    rw [lpE_succ, st_query_Breaks_1, ei, decide_eq_true (show (i : Int) < m.c by omega), condT, anyGe]
    have ih := breaks_run N m q p own hc d (i + 1) n (by omega) (by omega)
    have en : ((i : Int) != q.c) = !((i : Int) == q.c) := rfl
    rw [en]
    cases ((i : Int) == q.c) with
    | true => exact ih
    | false =>
      rw [Bool.not_false, condT, Bool.true_and]
      cases decide (evalM m (i : Int) p ≥ own) with
      | true => exact ex_query_Breaks_1_2 N m q p _ _ _ _
      | false => exact ih
theorem rightQ_parts {m : Md} {q : Qy} (h : rightQ m q = true) : modelB m = true ∧ (0 ≤ q.c ∧ q.c < m.c) ∧ (0 ≤ q.bu ∧ q.bu ≤ 65536) ∧ regB5 q.bx m.d = true ∧ kindB m q = true := by
  unfold rightQ at h
  simp only [Bool.and_eq_true, decide_eq_true_eq] at h
  exact ⟨h.1, ⟨h.2.1, h.2.2.1⟩, ⟨h.2.2.2.1, h.2.2.2.2.1⟩, h.2.2.2.2.2.1, h.2.2.2.2.2.2⟩
theorem kind_cases {m : Md} {q : Qy} (h : kindB m q = true) : (q.k = 1 ∧ q.lo ≤ q.hi ∧ q.ft = 0 ∧ q.fl = false) ∨ (q.k = 2 ∧ 2 ≤ m.c ∧ q.lo = 0 ∧ q.hi = 0 ∧ q.ft = 0 ∧ q.fl = false) ∨ (q.k = 3 ∧ (0 ≤ q.ft ∧ q.ft < m.d) ∧ q.lo = 0 ∧ q.hi = 0) := by
  unfold kindB at h
  cases h1 : (q.k == 1) with
  | true =>
    rw [h1, condT] at h
    simp only [Bool.and_eq_true, decide_eq_true_eq, beq_iff_eq, Bool.not_eq_true'] at h
    exact .inl ⟨beq_iff_eq.1 h1, h⟩
  | false =>
    rw [h1, condF] at h
    cases h2 : (q.k == 2) with
    | true =>
      rw [h2, condT] at h
      simp only [Bool.and_eq_true, decide_eq_true_eq, beq_iff_eq, Bool.not_eq_true', ge_iff_le] at h
      exact .inr (.inl ⟨beq_iff_eq.1 h2, h⟩)
    | false =>
      rw [h2, condF] at h
      cases h3 : (q.k == 3) with
      | true =>
        rw [h3, condT] at h
        simp only [Bool.and_eq_true, decide_eq_true_eq, beq_iff_eq, ge_iff_le] at h
        exact .inr (.inr ⟨beq_iff_eq.1 h3, ⟨h.1, h.2.1⟩, h.2.2⟩)
      | false => rw [h3, condF] at h; cases h
set_option maxRecDepth 100000 in
theorem snd_query_Breaks : SndR PR B0 12 S_query_Breaks := by
  refine snd_mk [(25, S_model_Eval), (24, S_query_Right), (27, S_query_Second), (26, S_span_Has)] [(9, ⟨[4, 5, 6, 8, 9, 36, 37], [4, 5, 6], []⟩)] S_query_Breaks [[.bool]] Try.func12 h_query_Breaks ⟨snd_model_Eval, snd_query_Right, snd_query_Second, snd_span_Has, trivial⟩ ?_
  intro vs r hwf h
  unfold S_query_Breaks at h
  split at h
  · rename_i m q p t
    replace h := withM_get h
    obtain ⟨m, rfl, h⟩ := h
    replace h := withQ_get h
    obtain ⟨q, rfl, h⟩ := h
    replace h := withP_get h
    obtain ⟨p, rfl, h⟩ := h
    rw [R.get_ok] at h
    refine ⟨10, ?_⟩
    rw [← h]
    refine (nf_query_Breaks 10 m q p t).trans ?_
    unfold breaksF
    cases hr : rightQ m q with
    | false => rfl
    | true =>
      obtain ⟨hm, _, _, _, hk⟩ := rightQ_parts hr
      have hmp := modelB_parts hm
      rw [Bool.not_true, condF, Bool.true_and]
      cases h1 : (q.k == 1) with
      | true => rfl
      | false =>
        rw [condF, condF]
        cases h2 : (q.k == 2) with
        | true =>
          rw [condT, condT]
          refine (breaks_run 10 m q p _ (by omega) m.c.toNat 0 10 (by omega) (by omega)).trans ?_
          rw [anyGe_eq, ← List.range_eq_range']
          rfl
        | false =>
          rw [condF, condF]
          rcases kind_cases hk with ⟨e, _⟩ | ⟨e, _⟩ | ⟨_, ⟨f0, fd⟩, _⟩
          · rw [e] at h1; cases h1
          · rw [e] at h2; cases h2
          · have step : ∀ x : Int, cond (decide (x ≥ t)) (some (V.bool false, [])) (cond q.fl (some (V.bool (decide (evalM m q.c (secondP q p t) > evalM m q.c p)), [])) (some (V.bool (decide (evalM m q.c (secondP q p t) < evalM m q.c p)), []))) =
                some (V.bool (cond (decide (x ≥ t)) false (cond q.fl (decide (evalM m q.c (secondP q p t) > evalM m q.c p)) (decide (evalM m q.c (secondP q p t) < evalM m q.c p)))), ([] : List (List V))) := fun x => by
              cases decide (x ≥ t) with
              | true => rfl
              | false => cases q.fl <;> rfl
            obtain e | e | e | e : q.ft = 0 ∨ q.ft = 1 ∨ q.ft = 2 ∨ q.ft = 3 := by omega
            all_goals
              rw [e]
              exact step _
  · simp [R.get] at h
end Go.FM

/-
  slices.Sort, slices.Compact, slices.DeleteFunc OF WHOLE NUMBERS: they turn a row of the call's own in place: contracts over this program; after the shelf's own.
-/
namespace Go.FM
open Go Go.Proofs Go.RowKit Go.Sort

/-! ### plain lists -/
theorem insZ_perm (x : Int) : ∀ l, (insZ x l).Perm (x :: l)
  | [] => List.Perm.refl _
  | y :: r => by
    rw [insZ]
    cases decide (x ≤ y) with
    | true => exact List.Perm.refl _
    | false => exact ((insZ_perm x r).cons y).trans (List.Perm.swap x y r)
theorem sortZ_perm : ∀ l, (sortZ l).Perm l
  | [] => List.Perm.refl _
  | x :: r => (insZ_perm x (sortZ r)).trans ((sortZ_perm r).cons x)
theorem insZ_sorted (x : Int) : ∀ {l : List Int}, l.Pairwise (· ≤ ·) → (insZ x l).Pairwise (· ≤ ·)
  | [], _ => by simp [insZ]
  | y :: r, h => by
    rw [insZ]
    cases hd : decide (x ≤ y) with
    | true =>
      have hd := of_decide_eq_true hd
      rw [condT]
      rw [List.pairwise_cons] at h ⊢
      refine ⟨fun z hz => ?_, by rw [List.pairwise_cons]; exact h⟩
      rcases List.mem_cons.1 hz with rfl | hz
      · exact hd
      · exact Int.le_trans hd (h.1 z hz)
    | false =>
      have hd := of_decide_eq_false hd
      rw [condF]
      rw [List.pairwise_cons] at h ⊢
      refine ⟨fun z hz => ?_, insZ_sorted x h.2⟩
      rcases List.mem_cons.1 ((insZ_perm x r).mem_iff.1 hz) with rfl | hz
      · omega
      · exact h.1 z hz
theorem sortZ_sorted : ∀ l, (sortZ l).Pairwise (· ≤ ·)
  | [] => List.Pairwise.nil
  | x :: r => insZ_sorted x (sortZ_sorted r)
theorem merge_sortZ (l : List Int) : (l.mergeSort fun x y => decide (x ≤ y)) = sortZ l := by
  refine List.Perm.eq_of_pairwise (le := (· ≤ ·)) (fun a b _ _ h1 h2 => Int.le_antisymm h1 h2) ?_ (sortZ_sorted l) ((List.mergeSort_perm l _).trans (sortZ_perm l).symm)
  have := List.pairwise_mergeSort (le := fun (x y : Int) => decide (x ≤ y)) (fun a b c h1 h2 => decide_eq_true (Int.le_trans (of_decide_eq_true h1) (of_decide_eq_true h2))) (fun a b => by
    rcases Int.le_total a b with h | h
    · rw [decide_eq_true h]; rfl
    · rw [decide_eq_true h, Bool.or_true]) l
  exact this.imp fun h => by simpa using h
theorem cmpF_snoc (x : Int) : ∀ (l : List Int) (p : Int), cmpF p (l ++ [x]) = cmpF p l ++ cond ((l.getLast?.getD p) == x) [] [x]
  | [], p => by
    show cond (x == p) (cmpF x []) (x :: cmpF x []) = _
    rw [show ((([] : List Int).getLast?.getD p) == x) = (x == p) by show (p == x) = (x == p); rw [Bool.eq_iff_iff, beq_iff_eq, beq_iff_eq]; exact eq_comm]
    cases (x == p) <;> rfl
  | y :: r, p => by
    rw [List.cons_append, cmpF, cmpF, cmpF_snoc x r y]
    have e : ((y :: r).getLast?.getD p) = r.getLast?.getD y := by
      cases r with
      | nil => rfl
      | cons z r => rw [List.getLast?_cons_cons, List.getLast?_eq_some_getLast (List.cons_ne_nil z r)]; rfl
    rw [e]
    cases (y == p) <;> rfl
theorem cmpZ_snoc (x : Int) (l : List Int) : cmpZ (l ++ [x]) = cmpZ l ++ cond (l.getLast? == some x) [] [x] := by
  cases l with
  | nil => rfl
  | cons y r =>
    rw [List.cons_append, cmpZ, cmpZ, cmpF_snoc, List.cons_append]
    congr 2
    have : ((y :: r).getLast? == some x) = (r.getLast?.getD y == x) := by
      cases r with
      | nil => show (some y == some x) = (y == x); rw [Bool.eq_iff_iff]; simp
      | cons z r => rw [List.getLast?_cons_cons, List.getLast?_eq_some_getLast (List.cons_ne_nil z r)]; rw [Bool.eq_iff_iff]; simp
    rw [this]
theorem compact_cmpZ (l : List Int) : Lib.compact l = cmpZ l := by
  have key : ∀ m, m ≤ l.length → Lib.compactUpTo l.toArray m = cmpZ (l.take m) := by
    intro m
    induction m with
    | zero => intro _; rfl
    | succ m ih =>
      intro hm
      have e1 : Lib.compactUpTo l.toArray (m + 1) = Lib.compactUpTo l.toArray m ++ cond (Lib.keeps l.toArray m) [l.toArray[m]!] [] := by
        unfold Lib.compactUpTo
        rw [List.range_succ, List.filter_append, List.map_append]
        congr 1
        cases hk : Lib.keeps l.toArray m <;> simp [hk]
      have hml : m < l.length := by omega
      have e2 : l.toArray[m]! = l[m] := by simp [hml]
      rw [e1, ih (by omega), List.take_succ_eq_append_getElem hml, cmpZ_snoc, e2]
      congr 1
      cases m with
      | zero => simp [Lib.keeps]
      | succ k =>
        have hk : k < l.length := by omega
        have e3 : (l.take (k + 1)).getLast? = some l[k] := by rw [List.getLast?_take]; simp [hk]
        rw [e3]
        have e4 : l.toArray[k]! = l[k] := by simp [hk]
        cases hq : Lib.keeps l.toArray (k + 1) with
        | true =>
          have : ¬ (l[k + 1] = l[k]) := fun he => by
            rw [Lib.keeps_neg (Nat.succ_pos k) (by show l.toArray[k + 1]! = l.toArray[k]!; rw [e2, e4]; exact he)] at hq
            cases hq
          rw [condT]
          rw [show (some l[k] == some l[k + 1]) = false by simp; exact fun h => this h.symm]
          rfl
        | false =>
          have : l[k + 1] = l[k] := by
            by_cases he : l[k + 1] = l[k]
            · exact he
            · rw [Lib.keeps_pos (by show l.toArray[k + 1]! ≠ l.toArray[k]!; rw [e2, e4]; exact he)] at hq
              cases hq
          rw [condF, this]
          rw [show (some l[k] == some l[k]) = true by simp]
          rfl
  unfold Lib.compact
  rw [key _ (Nat.le_refl _), List.take_length]
theorem cmpF_len : ∀ (l : List Int) (p : Int), (cmpF p l).length ≤ l.length
  | [], _ => Nat.le_refl _
  | x :: r, p => by
    have := cmpF_len r x
    rw [cmpF]
    cases (x == p)
    · rw [condF, List.length_cons, List.length_cons]; omega
    · rw [condT, List.length_cons]; omega
theorem cmpZ_len (l : List Int) : (cmpZ l).length ≤ l.length := by
  cases l with
  | nil => exact Nat.le_refl _
  | cons x r => rw [cmpZ, List.length_cons, List.length_cons]; have := cmpF_len r x; omega
theorem cmpF_mem {p x : Int} : ∀ {l : List Int}, x ∈ cmpF p l → x ∈ l
  | [], h => by cases h
  | y :: r, h => by
    rw [cmpF] at h
    cases hb : (y == p)
    · rw [hb, condF] at h
      rcases List.mem_cons.1 h with h | h
      · exact h ▸ List.mem_cons_self ..
      · exact List.mem_cons_of_mem _ (cmpF_mem h)
    · rw [hb, condT] at h
      exact List.mem_cons_of_mem _ (cmpF_mem h)
theorem cmpZ_mem {x : Int} {l : List Int} (h : x ∈ cmpZ l) : x ∈ l := by
  cases l with
  | nil => cases h
  | cons y r =>
    rcases List.mem_cons.1 h with h | h
    · exact h ▸ List.mem_cons_self ..
    · exact List.mem_cons_of_mem _ (cmpF_mem h)

/-! ### rows -/
theorem iZ_len (l : List Int) : (iZ l).length = l.length := List.length_map ..
theorem iZ_toInt (l : List Int) : (iZ l).map IV.toInt = l := by
  unfold iZ
  rw [List.map_map]
  exact List.map_id l
theorem cellsI_iZ (l : List Int) : cellsI (iZ l) = l.map (Value.int .i64) := by
  unfold cellsI iZ
  rw [List.map_map]
  rfl
theorem cellsI_map (l : List IV) : cellsI l = (l.map IV.toInt).map (Value.int .i64) := by
  unfold cellsI
  rw [List.map_map]
  rfl
abbrev encZ : Int → Value := Value.int .i64
theorem own_holds {w : World} {e g n cap : Nat} {zs : List Int} (h : w.ownsRow 0 e 1 (.slice (some ⟨g, 0, none⟩) n cap) zs.length (zs.map encZ)) : n = zs.length ∧ n ≤ cap ∧ cap ≤ maxLen ∧ g < w.heap.size ∧ Holds encZ w g 0 zs.toArray := by
  rcases h.2 with ⟨h1, _⟩ | ⟨g', cap', cur, h1, _, h2, h3, h4, h5, h6⟩
  · cases h1
  · simp only [Value.slice.injEq, Option.some.injEq, Addr.mk.injEq, and_true] at h1
    obtain ⟨rfl, rfl, rfl⟩ := h1
    refine ⟨rfl, h3, h4, (Array.getElem?_eq_some_iff.1 h2).1, fun j hj => ?_⟩
    have hj' : j < zs.length := by simpa using hj
    rw [Nat.zero_add]
    constructor
    · have hc : cur[j]? = some (encZ zs[j]) := by
        have : (cur.toList.take (zs.length * 1))[j]? = some (encZ zs[j]) := by rw [h6]; simp [hj']
        rw [List.getElem?_take, if_pos (by omega)] at this
        simpa using this
      simp only [World.cell?, h2]
      simp [hc, hj']
    · simp [World.frozen?, h2]
theorem heap_put {w : World} {g : Nat} {cur : Array Value} {e : TypeId} {fr : Nat × Nat} (h : w.heap[g]? = some (.cells cur e fr)) (q : Nat) (os : Array Obj) (zs : List Int) :
    (grow (putRow encZ (Sort.ahead w q) g 0 zs.toArray) os).heap[g]? = some (.cells (putCells encZ 0 zs.toArray cur) e fr) := by
  have hg : g < w.heap.size := (Array.getElem?_eq_some_iff.1 h).1
  have h0 : (putRow encZ (Sort.ahead w q) g 0 zs.toArray).heap[g]? = some (.cells (putCells encZ 0 zs.toArray cur) e fr) := by
    unfold putRow mapBlock
    simp [Array.getElem?_modify, onCells, h]
  unfold grow
  simp only
  rw [Array.getElem?_append_left (by rw [size_putRow]; exact hg)]
  exact h0
theorem put_cells {cur : Array Value} {zs : List Int} (h : zs.length ≤ cur.size) : (putCells encZ 0 zs.toArray cur).size = cur.size ∧ (putCells encZ 0 zs.toArray cur).toList.take zs.length = zs.map encZ := by
  refine ⟨by simp [putCells], ?_⟩
  apply List.ext_getElem?
  intro k
  rw [List.getElem?_take]
  by_cases hk : k < zs.length
  · rw [if_pos hk]
    have hc : k < cur.size := by omega
    simp [putCells, hk, hc]
  · rw [if_neg hk]
    simp [hk]
/-- Behind a call that has written the row: the world; the row's start. -/
theorem own_put {w : World} {e g n cap : Nat} {zs : List Int} (h : w.ownsRow 0 e 1 (.slice (some ⟨g, 0, none⟩) n cap) zs.length (zs.map encZ)) (q : Nat) (os : Array Obj) (ys rest : List Int) (hl : (ys ++ rest).length = zs.length) :
    w.grownBy (grow (putRow encZ (Sort.ahead w q) g 0 (ys ++ rest).toArray) os) (some g) ∧
      (grow (putRow encZ (Sort.ahead w q) g 0 (ys ++ rest).toArray) os).ownsRow 0 e 1 (.slice (some ⟨g, 0, none⟩) ys.length cap) ys.length (ys.map encZ) := by
  have hh := own_holds h
  rcases h.2 with ⟨h1, _⟩ | ⟨g', cap', cur, h1, _, h2, h3, h4, h5, h6⟩
  · cases h1
  · simp only [Value.slice.injEq, Option.some.injEq, Addr.mk.injEq, and_true] at h1
    obtain ⟨rfl, rfl, rfl⟩ := h1
    rw [List.length_append] at hl
    have hcur : (ys ++ rest).length ≤ cur.size := by rw [List.length_append]; omega
    obtain ⟨p1, p2⟩ := put_cells (zs := ys ++ rest) hcur
    refine ⟨⟨rfl, rfl, rfl, ?_, fun k hk hne => ?_⟩, by simp, .inr ⟨g, cap, _, rfl, Nat.zero_le _, heap_put h2 q os _, by omega, h4, by rw [p1, h5], ?_⟩⟩
    · show w.heap.size ≤ ((putRow encZ (Sort.ahead w q) g 0 (ys ++ rest).toArray).heap ++ os).size
      rw [Array.size_append, size_putRow]
      exact Nat.le_add_right _ _
    · have hne' : g ≠ k := fun e => hne (by rw [e])
      unfold grow
      simp only
      rw [Array.getElem?_append_left (by rw [size_putRow]; exact hk)]
      unfold putRow mapBlock
      simp [Array.getElem?_modify, hne']
    · rw [Nat.mul_one]
      have := congrArg (List.take ys.length) p2
      rw [List.take_take, Nat.min_eq_left (by rw [List.length_append]; omega), List.map_append, List.take_left' (by simp)] at this
      exact this

/-! ### the three -/
theorem grown_refl (w : World) (r : Option Nat) : w.grownBy w r := ⟨rfl, rfl, rfl, Nat.le_refl _, fun _ _ _ => rfl⟩
theorem rng_of {l : List IV} (h : ∀ x ∈ l, IntKind.i64.min ≤ x.toInt ∧ x.toInt ≤ IntKind.i64.max) {ys : List Int} (hs : ∀ y ∈ ys, y ∈ l.map IV.toInt) : ∀ x ∈ iZ ys, IntKind.i64.min ≤ x.toInt ∧ x.toInt ≤ IntKind.i64.max := by
  intro x hx
  obtain ⟨y, hy, rfl⟩ := List.mem_map.1 hx
  obtain ⟨z, hz, hzy⟩ := List.mem_map.1 (hs y hy)
  show IntKind.i64.min ≤ y ∧ y ≤ IntKind.i64.max
  rw [← hzy]
  exact h z hz
theorem own_cases {w : World} {e : Nat} {v : Value} {l : List IV} (h : w.ownsRow 0 e 1 v l.length (cellsI l)) : (v = .slice none 0 0 ∧ l = []) ∨ ∃ g cap, v = .slice (some ⟨g, 0, none⟩) (l.map IV.toInt).length cap ∧ w.ownsRow 0 e 1 (.slice (some ⟨g, 0, none⟩) (l.map IV.toInt).length cap) (l.map IV.toInt).length ((l.map IV.toInt).map encZ) := by
  rcases h.2 with ⟨h1, h2⟩ | ⟨g, cap, cur, h1, _⟩
  · exact .inl ⟨h1, List.length_eq_zero_iff.1 h2⟩
  · rw [h1] at h
    refine .inr ⟨g, cap, by rw [h1, List.length_map], ?_⟩
    rw [List.length_map, ← cellsI_map]
    exact h

set_option maxRecDepth 100000 in
theorem snd_ipSort : IpSnd PR 70 ipSort := by
  intro w v l l' rs ys hown hrng hlen hr hg
  unfold ipSort at hg
  simp only at hg
  split at hg
  · simp only [Option.some.injEq] at hg
    subst hg
    obtain rfl : ys = [] := by
      cases ys with
      | nil => rfl
      | cons y ys => simp [restOK] at hr
    refine Does.of_calls Try.func70 (by kernel_rfl) (by kernel_rfl) ?_
    have hmem : ∀ y ∈ sortZ (l.map IV.toInt), y ∈ l.map IV.toInt := fun y hy => (sortZ_perm _).mem_iff.1 hy
    rcases own_cases hown with ⟨rfl, rfl⟩ | ⟨g, cap, rfl, ho⟩
    · refine (Try.slices_Sort_int_none none 0 w).mono ?_
      rintro e w' ⟨rfl, rfl⟩
      exact ⟨_, rfl, grown_refl _ _, fun x hx => (by cases hx), fun h => (by cases h), fun _ => hown⟩
    · obtain ⟨_, _, hcm, hgs, hH⟩ := own_holds ho
      refine (Try.slices_Sort_int g 0 cap (l.map IV.toInt) w hH hgs (by rw [List.length_map]; unfold strMax at hlen; omega)).mono ?_
      rintro e w' ⟨rfl, q, os, rfl⟩
      rw [merge_sortZ]
      have hl : (sortZ (l.map IV.toInt) ++ []).length = (l.map IV.toInt).length := by rw [List.append_nil]; exact (sortZ_perm _).length_eq
      have hp := own_put ho q os (sortZ (l.map IV.toInt)) [] hl
      rw [List.append_nil] at hp hl
      refine ⟨_, rfl, hp.1, rng_of hrng hmem, fun h => (by cases h), fun _ => ?_⟩
      rw [cellsI_iZ, iZ_len, ← hl]
      exact hp.2
  · cases hg

set_option maxRecDepth 100000 in
theorem snd_ipCompact : IpSnd PR 71 ipCompact := by
  intro w v l l' rs ys hown hrng hlen hr hg
  unfold ipCompact at hg
  simp only at hg
  split at hg
  · simp only [Option.some.injEq] at hg
    subst hg
    obtain rfl : ys = [] := by
      cases ys with
      | nil => rfl
      | cons y ys => simp [restOK] at hr
    refine Does.of_calls Try.func71 (by kernel_rfl) (by kernel_rfl) ?_
    rcases own_cases hown with ⟨rfl, rfl⟩ | ⟨g, cap, rfl, ho⟩
    · refine (Try.slices_Compact_int_empty none 0 w).mono ?_
      rintro e w' ⟨rfl, rfl⟩
      exact ⟨_, rfl, grown_refl _ _, fun x hx => (by cases hx), fun _ => ⟨hown, fun b hb => (by simp [Value.ownBlock] at hb)⟩, fun h => by cases h⟩
    · obtain ⟨_, hnc, hcm, hgs, hH⟩ := own_holds ho
      refine (Try.slices_Compact_int g 0 cap (l.map IV.toInt) w hH (by rw [List.length_map]; unfold strMax at hlen; omega) hnc).mono ?_
      rintro e w' ⟨rfl, q, rfl⟩
      rw [compact_cmpZ]
      have hlc := cmpZ_len (l.map IV.toInt)
      have hp := own_put ho q #[] (cmpZ (l.map IV.toInt)) (List.replicate ((l.map IV.toInt).length - (cmpZ (l.map IV.toInt)).length) 0) (by rw [List.length_append, List.length_replicate]; omega)
      rw [grow_empty] at hp
      refine ⟨_, rfl, hp.1, rng_of hrng fun y hy => cmpZ_mem hy, fun _ => ⟨?_, fun b hb => .inl hb⟩, fun h => by cases h⟩
      rw [cellsI_iZ, iZ_len]
      exact hp.2
  · cases hg

/-! ### a closure over a span -/
set_option maxHeartbeats 1000000 in
set_option maxRecDepth 100000 in
theorem cuts_gives (a b x : Int) (B : Nat) (W : World) (ha : W.cell? ⟨B, 0, none⟩ = some (.int .i64 a)) (hb : W.cell? ⟨B, 1, none⟩ = some (.int .i64 b)) :
    FnGives Try.prog 62 #[.pointer (some ⟨B, 0, none⟩)] #[.int .i64 x] (.bool (decide (x < a) || decide (x ≥ b))) W := by
  show Calls Try.prog 62 #[.int .i64 x, .pointer (some ⟨B, 0, none⟩)] W _
  go_enter Try.func62, Try.ntmps62
  go_wp2
  all_goals (go_ret; exact ⟨by simp_all, 0, rfl⟩)
set_option maxHeartbeats 1000000 in
set_option maxRecDepth 100000 in
theorem delete_nil (fv : Value) (w : World) : Calls Try.prog 60 #[.slice none 0 0, fv] w fun e w' => e = .returned (.slice none 0 0) ∧ ∃ q, w' = w.drewN q := by
  go_enter Try.func60, Try.ntmps60
  go_wp2_with (go_at_call 69; refine (Try.slices_IndexFunc_empty (α := Int) none 0 fv _).mono ?_; rintro e w' ⟨rfl, rfl⟩)
  go_ret
  exact ⟨rfl, 0, rfl⟩

theorem pred_cells {w : World} {v : Value} {f : Nat} {a b : Int} {ys : List Value} (h : restOK w v [.clo f [.bor [.int .i64 a, .int .i64 b]]] ys) : ∃ B, ys = [.func (.func f) #[] #[.pointer (some ⟨B, 0, none⟩)]] ∧ B < w.heap.size ∧ w.cell? ⟨B, 0, none⟩ = some (.int .i64 a) ∧ w.cell? ⟨B, 1, none⟩ = some (.int .i64 b) ∧ v.ownBlock ≠ some B := by
  cases ys with
  | nil => simp [restOK] at h
  | cons y r =>
    cases r with
    | cons _ _ => simp [restOK] at h
    | nil =>
      simp only [restOK] at h
      obtain ⟨B, c, T, rfl, hh, hc, hne⟩ := h
      refine ⟨B, rfl, (Array.getElem?_eq_some_iff.1 hh).1, ?_, ?_, hne⟩
      · simp only [World.cell?, hh]
        rw [← Array.getElem?_toList, hc]
        rfl
      · simp only [World.cell?, hh]
        rw [← Array.getElem?_toList, hc]
        rfl
set_option maxRecDepth 100000 in
theorem snd_ipDelete : IpSnd PR 60 ipDelete := by
  intro w v l l' rs ys hown hrng hlen hr hg
  unfold ipDelete at hg
  simp only at hg
  split at hg
  · rename_i f a b
    cases hf : Nat.beq f 62 with
    | false => rw [hf, condF] at hg; cases hg
    | true =>
      rw [hf, condT, Option.some.injEq] at hg
      subst hg
      obtain rfl := beq_eq'.1 hf
      obtain ⟨B, rfl, hBs, ha, hb, hne⟩ := pred_cells hr
      have pe : keepZ a b (l.map IV.toInt) = (l.map IV.toInt).filter fun x => !(decide (x < a) || decide (x ≥ b)) := rfl
      have eg : ∀ args w, (callFunc 62 args).run Try.prog w = .ok (.enter 62 args) w := enters_of Try.func62 (by kernel_rfl) rfl
      have hp : PredAt Try.prog 62 #[.pointer (some ⟨B, 0, none⟩)] encZ (fun x => decide (x < a) || decide (x ≥ b)) w :=
        fun W x hbw => cuts_gives a b x B W ((hbw.cell (p := ⟨B, 0, none⟩) hBs).trans ha) ((hbw.cell (p := ⟨B, 1, none⟩) hBs).trans hb)
      rcases own_cases hown with ⟨rfl, rfl⟩ | ⟨g, cap, rfl, ho⟩
      · refine Does.of_calls Try.func60 (by kernel_rfl) (by kernel_rfl) ((delete_nil _ w).mono ?_)
        rintro e w' ⟨rfl, q, rfl⟩
        exact ⟨_, rfl, ⟨rfl, rfl, rfl, Nat.le_refl _, fun _ _ _ => rfl⟩, fun x hx => (by cases hx), fun _ => ⟨World.ownsRow_nil _ 0 _ _, fun b hb => (by simp [Value.ownBlock] at hb)⟩, fun h => by cases h⟩
      · obtain ⟨_, hnc, hcm, hgs, hH⟩ := own_holds ho
        have hBg : B ≠ g := fun e => hne (by rw [e]; rfl)
        have hpo : PredOver Try.prog 62 #[.pointer (some ⟨B, 0, none⟩)] encZ (fun x => decide (x < a) || decide (x ≥ b)) g 0 (l.map IV.toInt).toArray.size w :=
          fun n os dk x _ => by
            have hcell : ∀ o u, w.cell? ⟨B, o, none⟩ = some u → (sortWorld encZ w g 0 n dk os).cell? ⟨B, o, none⟩ = some u := fun o u hu => by
              unfold sortWorld
              rw [cell?_grow _ _ _ (by show B < (putRow _ _ _ _ _).heap.size; rw [size_putRow]; exact hBs), cell?_putRow_other _ _ g 0 _ _ (Or.inl hBg)]
              exact hu
            exact cuts_gives a b x B _ (hcell 0 _ ha) (hcell 1 _ hb)
        refine Does.of_calls Try.func60 (by kernel_rfl) (by kernel_rfl) ?_
        have hcall := Try.slices_DeleteFunc encZ (fun _ => rfl) (fun x => decide (x < a) || decide (x ≥ b)) 62 #[.pointer (some ⟨B, 0, none⟩)] eg 0 Try.zeroValue3 g 0 cap (l.map IV.toInt).toArray w hp hpo hH (by simp; unfold strMax at hlen; omega) (by simp; rw [List.length_map] at hnc; exact hnc)
        have es : (l.map IV.toInt).toArray.size = (l.map IV.toInt).length := by simp
        rw [es] at hcall
        refine hcall.mono ?_
        rintro e w' ⟨rfl, q, rfl⟩
        have ef : (l.map IV.toInt).toArray.toList.filter (fun x => !(decide (x < a) || decide (x ≥ b))) = keepZ a b (l.map IV.toInt) := rfl
        rw [ef]
        have hlc : (keepZ a b (l.map IV.toInt)).length ≤ (l.map IV.toInt).length := List.length_filter_le ..
        have hp2 := own_put ho q #[] (keepZ a b (l.map IV.toInt)) (List.replicate ((l.map IV.toInt).length - (keepZ a b (l.map IV.toInt)).length) 0) (by rw [List.length_append, List.length_replicate]; omega)
        rw [grow_empty] at hp2
        refine ⟨_, rfl, hp2.1, rng_of hrng fun y hy => (List.mem_filter.1 hy).1, fun _ => ⟨?_, fun b hb => .inl hb⟩, fun h => by cases h⟩
        rw [cellsI_iZ, iZ_len]
        exact hp2.2
  · cases hg

end Go.FM
