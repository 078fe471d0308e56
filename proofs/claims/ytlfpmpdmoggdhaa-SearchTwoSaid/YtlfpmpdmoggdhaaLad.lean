/-
  SEARCHES, IN PLAIN LEAN: boxes that stay right; each step decides a cell, or cuts it. No program in sight.

-/
import Derived.Test.YtlfpmpdmoggdhaaLac
import Derived.Test.YtlfpmpdmoggdhaaLaa
import Derived.Shelf.Vars
import Derived.Lib.LaidU8
import Derived.Lib.LaidTab
import Derived.Carry
import Derived.Test.YtlfpmpdmoggdhaaSmc
import Derived.ChangeArms
import Derived.OpenShut
import Derived.Lib.ItoaMem
import Derived.Test.YtlfpmpdmoggdhaaRows
import Derived.ProofKit
import Derived.LaidMore
import Derived.LaidHandle
import Derived.Deep.DeepHandedRow
import Derived.Stop.Joined
import Derived.Deep.DeepWitnessRowRef

/-
  SEARCHES, IN PLAIN LEAN: boxes that stay right; each step decides a cell, or cuts it. No program in sight.
-/
namespace Go.FM
open Go

def Bx.good (b : Bx) : Prop := ∀ i, i < 5 → -2147483648 ≤ (b.g i).lo ∧ (b.g i).lo ≤ (b.g i).hi ∧ (b.g i).hi ≤ 2147483647
theorem Bx.good.emp {b : Bx} (h : b.good) : b.emp = false := bx_emp.2 fun i hi => (h i hi).2.1
theorem Bx.good.ok {b : Bx} (h : b.good) : b.ok := fun i hi => (h i hi).2.2
def Sp.good (s : Sp) : Prop := -2147483648 ≤ s.lo ∧ s.lo ≤ s.hi ∧ s.hi ≤ 2147483647
theorem p_good {b : Bx} (hb : b.good) {s : Sp} (hs : s.good) {i : Nat} (hi : i < 5) : (b.p s i).good := by
  intro j hj
  rw [bx_g_p b s hi hj]
  by_cases h : j = i
  · rw [if_pos h]; exact hs
  · rw [if_neg h]; exact hb j hj
theorem spOf_good {lo hi : Int} (h0 : -2147483648 ≤ lo) (h1 : lo ≤ hi) (h2 : hi ≤ 2147483647) : (spOf lo hi).good := by
  unfold spOf
  rw [decide_eq_false (by omega), condF]
  exact ⟨h0, h1, h2⟩
theorem cutL_good {b : Bx} (hb : b.good) {i : Nat} (hi : i < 5) {a : Int} (h1 : (b.g i).lo ≤ a) (h2 : a < (b.g i).hi) : (b.cutL (i : Int) a).good := by
  unfold Bx.cutL
  rw [Int.toNat_natCast]
  have h := hb i hi
  refine p_good hb (spOf_good h.1 ?_ ?_) hi <;> omega
theorem cutH_good {b : Bx} (hb : b.good) {i : Nat} (hi : i < 5) {a : Int} (h1 : (b.g i).lo ≤ a) (h2 : a < (b.g i).hi) : (b.cutH (i : Int) a).good := by
  unfold Bx.cutH
  rw [Int.toNat_natCast]
  have h := hb i hi
  have e : i64w (a + 1) = a + 1 := wrap_id (by omega) (by omega)
  refine p_good hb ?_ hi
  unfold Sp.cutH
  rw [decide_eq_false (by omega), condF, e]
  exact spOf_good (by omega) (by omega) h.2.2
theorem spOK_good {d i : Int} {s : Sp} (h : spOK d i s = true) : s.good := by
  unfold spOK at h
  simp only [Bool.and_eq_true, Bool.not_eq_true', fits32, Sp.emp, decide_eq_true_eq, decide_eq_false_iff_not] at h
  obtain ⟨_, h1, h2, h3⟩ := h
  exact ⟨h2.1, by omega, h3.2⟩
theorem rightQ_get {m : Md} {q : Qy} (h : rightQ m q = true) : modelB m = true ∧ (0 ≤ q.c ∧ q.c < m.c) ∧ (0 ≤ q.bu ∧ q.bu ≤ 65536) ∧ regB5 q.bx m.d = true ∧ kindB m q = true := by
  unfold rightQ at h
  simp only [Bool.and_eq_true, decide_eq_true_eq] at h
  exact ⟨h.1, ⟨h.2.1, h.2.2.1⟩, ⟨h.2.2.2.1, h.2.2.2.2.1⟩, h.2.2.2.2.2.1, h.2.2.2.2.2.2⟩
theorem reg_good {b : Bx} {d : Int} (h : regB5 b d = true) : b.good := by
  unfold regB5 at h
  simp only [Bool.and_eq_true] at h
  intro i hi
  match i, hi with
  | 0, _ => exact spOK_good h.1
  | 1, _ => exact spOK_good h.2.1
  | 2, _ => exact spOK_good h.2.2.1
  | 3, _ => exact spOK_good h.2.2.2.1
  | 4, _ => exact spOK_good h.2.2.2.2
  | n + 5, hi => omega
theorem start_good {m : Md} {q : Qy} (h : rightQ m q = true) : (startB q).good := by
  have hb := reg_good (rightQ_get h).2.2.2.1
  unfold startB
  refine p_good hb ?_ (by omega)
  cases hp : paired q with
  | false => rw [condF]; exact ⟨by decide, by decide, by decide⟩
  | true =>
    rw [condT]
    unfold paired at hp
    simp only [Bool.and_eq_true, decide_eq_true_eq] at hp
    exact hb q.ft.toNat (by omega)
/-- What is left is right. -/
def leftG (s : Sr) : Prop := ∀ x ∈ s.left, (bxI x).good
theorem top_good {s : Sr} (h : leftG s) (hl : 0 < s.left.length) : (topB s.left).good := by
  unfold topB
  refine h _ ?_
  rw [List.getD_eq_getElem?_getD, List.getElem?_eq_getElem (by omega)]
  exact List.getElem_mem _
theorem new_leftG {m : Md} {q : Qy} (h : rightQ m q = true) : leftG ⟨[(startB q).I], [], Vd.none, 0⟩ := by
  intro x hx
  obtain rfl := List.mem_singleton.1 hx
  rw [bx_I]
  exact start_good h
/-- A step: a cell falls, or breaks, or is cut in two. -/
theorem step_split {m : Md} {q : Qy} {s : Sr} (hr : rightQ m q = true) (hg : leftG s) (hl : 0 < s.left.length) (h1 : closedF m q (topB s.left) = false) (h2 : breaksF m q (topB s.left).low (topB s.left).s4.hi = false) :
    (splitF m q (topB s.left)).isSome = true := by
  have ht := top_good hg hl
  cases hs : (splitF m q (topB s.left)).isSome with
  | true => rfl
  | false =>
    rcases cell_decided hr ht.emp ht.ok (split_none hs) with h | h
    · rw [h1] at h; cases h
    · rw [h2] at h; cases h
theorem pop_mem {l : List IV} {x : IV} (h : x ∈ popL l) : x ∈ l := List.mem_of_mem_take h
theorem step_leftG {m : Md} {q : Qy} {s : Sr} (hg : leftG s) (hl : 0 < s.left.length) : leftG (stepF m q s) := by
  have hp : ∀ x ∈ popL s.left, (bxI x).good := fun x hx => hg x (pop_mem hx)
  unfold stepF
  cases closedF m q (topB s.left) with
  | true => exact hp
  | false =>
    cases breaksF m q (topB s.left).low (topB s.left).s4.hi with
    | true => exact hp
    | false =>
      cases hs : (splitF m q (topB s.left)).isSome with
      | false => exact hp
      | true =>
        obtain ⟨j, hj, ei, _, _, hm⟩ := split_some hs
        have hc := cuts_mem.1 hm
        have ht := top_good hg hl
        intro x hx
        rw [condF, condF, condT] at hx
        rcases List.mem_append.1 hx with hx | hx
        · exact hp x hx
        · rw [ei] at hx
          rcases List.mem_cons.1 hx with rfl | hx
          · rw [bx_I]; exact cutH_good ht hj hc.2.2.1 hc.2.2.2
          · obtain rfl := List.mem_singleton.1 hx
            rw [bx_I]; exact cutL_good ht hj hc.2.2.1 hc.2.2.2


/-! ### the queries that are asked are right -/
theorem win (n lo hi : Int) (h : lo ≤ hi) (h0 : -2000000000000000000 ≤ lo) (h1 : hi ≤ 2000000000000000000) : lo ≤ withinZ n lo hi ∧ withinZ n lo hi ≤ hi :=
  (within_in (n := n) (lo := lo) (hi := hi) (by omega) (by omega) (by omega)).2
theorem M_right (f : Ft) : modelB f.M = true := model_right _ _ _ _
theorem M_okDC (f : Ft) : okDC f.M = true := by
  have hd : 1 ≤ f.M.d ∧ f.M.d ≤ 3 := dimF_in f.d
  have hc : 1 ≤ f.M.c ∧ f.M.c ≤ 3 := clsF_in f.c
  unfold okDC
  rw [decide_eq_true hd.1, decide_eq_true (show f.M.d ≤ 4 by omega), decide_eq_true hc.1, decide_eq_true hc.2]
  rfl
theorem reg_ok (d : Int) (l : List IV) (i : Nat) : spOK d (i : Int) ⟨regA d l (i : Int), regB d l (i : Int)⟩ = true := by
  have h1 := win (pickZ l (2 * (i : Int))) (-2) 9 (by omega) (by omega) (by omega)
  have h2 := win (pickZ l (2 * (i : Int) + 1)) 0 11 (by omega) (by omega) (by omega)
  unfold spOK Sp.emp regA regB fits32
  by_cases h : (i : Int) < d
  · rw [decide_eq_true h, condT, condT, decide_eq_false (show ¬ (i : Int) ≥ d by omega)]
    simp only [Bool.false_and, Bool.not_false, Bool.true_and, Bool.and_eq_true, Bool.not_eq_true', decide_eq_true_eq, decide_eq_false_iff_not]
    omega
  · rw [decide_eq_false h, condF, condF]
    simp
theorem kindA_in (a : Ak) (c : Int) : kindA a c = 1 ∨ (kindA a c = 2 ∧ 2 ≤ c) ∨ kindA a c = 3 := by
  have h := win a.k 1 3 (by omega) (by omega) (by omega)
  unfold kindA
  cases h2 : (withinZ a.k 1 3 == 2) with
  | true =>
    have h2' : withinZ a.k 1 3 = 2 := by simpa using h2
    by_cases hc : c < 2
    · rw [decide_eq_true hc]; exact .inl rfl
    · rw [decide_eq_false hc]; exact .inr (.inl ⟨h2', by omega⟩)
  | false =>
    have h2' : withinZ a.k 1 3 ≠ 2 := by simpa using h2
    rw [Bool.false_and, condF]
    omega
theorem ask_right (f : Ft) (a : Ak) {w : Int} (h0 : 0 ≤ w) (h1 : w ≤ 65536) : rightQ f.M ((askQ0 a f.M).bud w) = true := by
  have hd : 1 ≤ f.M.d ∧ f.M.d ≤ 3 := dimF_in f.d
  have hc : 1 ≤ f.M.c ∧ f.M.c ≤ 3 := clsF_in f.c
  have hm := M_right f
  generalize f.M = m at hd hc hm ⊢
  have hcl := win a.c 0 (m.c - 1) (by omega) (by omega) (by omega)
  have hlo := win a.size 0 18000 (by omega) (by omega) (by omega)
  have hft := win a.ft 0 (m.d - 1) (by omega) (by omega) (by omega)
  have hreg : regB5 ((askQ0 a m).bud w).bx m.d = true := by
    unfold regB5
    simp only [Bool.and_eq_true]
    refine ⟨reg_ok m.d a.sp 0, reg_ok m.d a.sp 1, reg_ok m.d a.sp 2, reg_ok m.d a.sp 3, ?_⟩
    show spOK m.d 4 ⟨0, 0⟩ = true
    unfold spOK
    simp [Sp.emp, fits32]
  have hkind : kindB m ((askQ0 a m).bud w) = true := by
    unfold kindB
    show cond (kindA a m.c == 1) (decide (cond (kindA a m.c == 1) (loA a) 0 ≤ cond (kindA a m.c == 1) (loA a + withinZ a.size 0 18000) 0) && ((cond (kindA a m.c == 3) (withinZ a.ft 0 (m.d - 1)) 0 == 0) && !(cond (kindA a m.c == 3) a.fl false)))
      (cond (kindA a m.c == 2) (decide (m.c ≥ 2) && ((cond (kindA a m.c == 1) (loA a) 0 == 0) && ((cond (kindA a m.c == 1) (loA a + withinZ a.size 0 18000) 0 == 0) && ((cond (kindA a m.c == 3) (withinZ a.ft 0 (m.d - 1)) 0 == 0) && !(cond (kindA a m.c == 3) a.fl false)))))
        (cond (kindA a m.c == 3) (decide (cond (kindA a m.c == 3) (withinZ a.ft 0 (m.d - 1)) 0 ≥ 0) && (decide (cond (kindA a m.c == 3) (withinZ a.ft 0 (m.d - 1)) 0 < m.d) && ((cond (kindA a m.c == 1) (loA a) 0 == 0) && (cond (kindA a m.c == 1) (loA a + withinZ a.size 0 18000) 0 == 0)))) false)) = true
    rcases kindA_in a m.c with h | ⟨h, h2⟩ | h
    · rw [h]
      show (decide (loA a ≤ loA a + withinZ a.size 0 18000) && true) = true
      rw [decide_eq_true (by omega)]; rfl
    · rw [h]
      show (decide (m.c ≥ 2) && true) = true
      rw [decide_eq_true h2]; rfl
    · rw [h]
      show (decide (withinZ a.ft 0 (m.d - 1) ≥ 0) && (decide (withinZ a.ft 0 (m.d - 1) < m.d) && true)) = true
      rw [decide_eq_true hft.1, decide_eq_true (by omega)]; rfl
  unfold rightQ
  rw [hm, hreg, hkind, decide_eq_true (show ((askQ0 a m).bud w).c ≥ 0 from hcl.1), decide_eq_true (show ((askQ0 a m).bud w).c < m.c by show withinZ a.c 0 (m.c - 1) < m.c; omega), decide_eq_true (show ((askQ0 a m).bud w).bu ≥ 0 from h0), decide_eq_true (show ((askQ0 a m).bud w).bu ≤ 65536 from h1)]
  rfl
theorem right_span {m : Md} {q : Qy} (h : rightQ m q = true) : ¬ q.a0 > q.b0 := by
  have := (reg_good (rightQ_get h).2.2.2.1) 0 (by omega)
  have h2 : q.a0 ≤ q.b0 := this.2.1
  omega
end Go.FM

/-
  copselaw22.SearchLeft: ITS RUN.
-/
namespace Go.FM
open Go Go.Proofs

theorem sndZ_copsekeep_Forest_Model : SndR PR B0 9 Z_copsekeep_Forest_Model := Snd.mono snd_copsekeep_Forest_Model fun _ _ h => S_model_Z h
theorem sndZ_copsekeep_Ask_Query : SndR PR B0 10 Z_copsekeep_Ask_Query := Snd.mono snd_copsekeep_Ask_Query fun _ _ h => S_query_Z h
theorem sndZ_search_New : SndR PR B0 14 Z_search_New := Snd.mono snd_search_New fun _ _ h => S_new_Z h
theorem sndZ2_search_New : SndR PR B0 14 Z2_search_New := Snd.mono snd_search_New fun _ _ h => S_new_Z2 h

/-- A step of a search, and on. -/
@[reducible] def stepK (m : Md) (q : Qy) (sh : Bool) (s : Sr) (over : Bool → Sr → Res) (K : Bool → Sr → Res) : Res := match sh with
  | false => cond (overS q s) (over false s) (cond (okS m q s)
      (cond (closedF m q (topB s.left)) (cond (ic (s.left.length - 1) == 0) (K true (stepF m q s)) (K false (stepF m q s)))
          (cond (breaksF m q (topB s.left).low (topB s.left).s4.hi) (K false (stepF m q s))
            (cond (splitF m q (topB s.left)).isSome (K false (stepF m q s)) (K false (stepF m q s))))) none)
  | true => cond (overS q s) (over true s) none

abbrev kpLf : KP := ⟨[6, 7, 8, 9, 10, 11], [7, 8, 26, 500, 501], [⟨.cell 26 23, 500, 30, true, kBox⟩, ⟨.cell 26 24, 501, 82, true, kStep⟩]⟩
def lftSt (m : Md) (q : Qy) (sh : Bool) (s : Sr) (b : Bool) (n i : Int) : St :=
  ⟨[(6, .bool b), (7, .ptr 7 0 0), (8, .ptr 8 0 0), (9, .ptr 26 0 0), (10, .int .i64 n), (11, .int .i64 i)], [(7, some (.box m.cs)), (8, some (.box q.cs)), (26, some (.box (seCs m q (runB sh s)))), (500, some (.row true 30 true kBox s.left)), (501, runP sh s)]⟩
noncomputable abbrev kLft (N : Nat) : Out → St → Res := kBlock 0 (kSq (E_copselaw22_SearchLeft N) (subC c_copselaw22_SearchLeft [1, 1, 1, 1, 1, 1, 1, 1]) (outT (E_copselaw22_SearchLeft N) none [.tmp 6] [[.bool]]))
def zQ : List V := [.int .i64 0, .int .i64 0, .int .i64 0, .int .i64 0, .int .i64 0, .int .i64 0, .int .i64 0, .int .i64 0, .int .i64 0, .int .i64 0, .int .i64 0, .int .i64 0, .int .i64 0, .int .i64 0, .int .i64 0, .bool false, .int .i64 0]
def zM : List V := [.int .i64 0, .int .i64 0, .int .i64 0, .int .i64 0, .int .i64 0, .zs]
/-- Its state, the query made. -/
def lftS1 (f : Ft) (a : Ak) (m : Md) (q0 q : Qy) (w z : Int) : St :=
  ⟨[(23, .ptr 8 0 16), (22, .int .i64 w), (21, .int .i64 z), (8, .ptr 8 0 0), (20, q0.V), (19, m.V), (18, a.V), (7, .ptr 7 0 0), (17, m.V), (16, f.V), (6, .bool false), (4, .ptr 4 0 0), (3, .ptr 3 0 0), (0, f.V), (1, a.V), (2, .int .i64 z)],
   [(8, some (.box q.cs)), (8, some (.box q0.cs)), (8, some (.box zQ)), (7, some (.box m.cs)), (7, some (.box zM)), (4, some (.box a.cs)), (3, some (.box f.cs))]⟩
set_option maxRecDepth 100000 in
theorem nf_left_1 (N : Nat) (f : Ft) (a : Ak) (z : Int) : evFun (E_copselaw22_SearchLeft N) c_copselaw22_SearchLeft [.tmp 6] [[.bool]] [f.V, a.V, .int .i64 z] =
    cond (okDC f.M) (kSq (E_copselaw22_SearchLeft N) (subC c_copselaw22_SearchLeft [1, 1, 1, 1]) (outT (E_copselaw22_SearchLeft N) none [.tmp 6] [[.bool]]) .normal (lftS1 f a f.M (askQ0 a f.M) ((askQ0 a f.M).bud (withinZ z 0 500)) (withinZ z 0 500) z)) none := by kernel_rfl
set_option maxRecDepth 100000 in
theorem nf_left_2 (N : Nat) (f : Ft) (a : Ak) (m : Md) (q0 q : Qy) (w z : Int) : kSq (E_copselaw22_SearchLeft N) (subC c_copselaw22_SearchLeft [1, 1, 1, 1]) (outT (E_copselaw22_SearchLeft N) none [.tmp 6] [[.bool]]) .normal (lftS1 f a m q0 q w z) =
      cond (decide (q.a0 > q.b0)) (some (.bool false, []))
      (cond (rightQ m q)
        (lpE (E_copselaw22_SearchLeft N) (subC c_copselaw22_SearchLeft [1, 1, 1, 1, 1, 1, 1, 0, 1, 0, 0]) kpLf N (lftSt m q false ⟨[(startB q).I], [], Vd.none, 0⟩ false 1 0) (kLft N)) none) := by kernel_rfl

set_option maxRecDepth 100000 in
theorem ex_left_own (N : Nat) (m : Md) (q : Qy) (s : Sr) (b : Bool) (n i : Int) : kLft N (.exit 0) (lftSt m q false s b n i) =
    cond ((verdS (tkS s)).kind != 3) (some (.bool true, [])) (cond ((verdS (tkS s)).spent == q.bu) (some (.bool true, [])) (some (.bool false, []))) := by kernel_rfl
set_option maxRecDepth 100000 in
theorem ex_left_shared (N : Nat) (m : Md) (q : Qy) (s : Sr) (b : Bool) (n i : Int) : kLft N (.exit 0) (lftSt m q true s b n i) =
    cond (Nat.ble s.v.proof.length 100000) (cond ((verdS (tkS2 s)).kind != 3) (some (.bool true, [])) (cond ((verdS (tkS2 s)).spent == q.bu) (some (.bool true, [])) (some (.bool false, [])))) none := by kernel_rfl
def aftX (again : St → Res) (k : Out → St → Res) (m : Md) (q : Qy) (sh : Bool) (s1 s2 : Sr) (b : Bool) (n i : Int) : Res :=
  cond ((verdS s2).kind == 2) (k (.exit 0) (lftSt m q sh s2 b n i)) 
    (cond (ic s1.left.length != i64w (n - 1))
      (cond (ic s1.left.length != i64w (n + 1)) (k .ret (lftSt m q sh s2 false n i))
        (cond (!((ic s1.left.length == 0) == ((verdS s2).kind == 1))) (k .ret (lftSt m q sh s2 false n i)) (again (lftSt m q sh s2 b (ic s1.left.length) (i64w (i + 1))))))
      (cond (!((ic s1.left.length == 0) == ((verdS s2).kind == 1))) (k .ret (lftSt m q sh s2 false n i)) (again (lftSt m q sh s2 b (ic s1.left.length) (i64w (i + 1))))))
def aftL (again : St → Res) (k : Out → St → Res) (m : Md) (q : Qy) (b : Bool) (n i : Int) (sh : Bool) (s : Sr) : Res := match sh with
  | false => aftX again k m q false (tkS s) (tkS (tkS s)) b n i
  | true => cond (Nat.ble s.v.proof.length 100000) (aftX again k m q true (tkS2 s) (tkS2 (tkS2 s)) b n i) none
set_option maxRecDepth 100000 in
theorem st_left_own (N : Nat) (m : Md) (q : Qy) (s : Sr) (b : Bool) (n i : Int) (again : St → Res) (k : Out → St → Res) : rnd (E_copselaw22_SearchLeft N) (subC c_copselaw22_SearchLeft [1, 1, 1, 1, 1, 1, 1, 0, 1, 0, 0]) (lftSt m q false s b n i) (kLoop again kpLf k) =
    cond (decide (i < 600)) (stepK m q false (tkS s) (fun sh s => k (.exit 0) (lftSt m q sh s b n i)) (aftL again k m q b n i)) (k (.exit 0) (lftSt m q false s b n i)) := by kernel_rfl
set_option maxRecDepth 100000 in
theorem st_left_shared (N : Nat) (m : Md) (q : Qy) (s : Sr) (b : Bool) (n i : Int) (again : St → Res) (k : Out → St → Res) : rnd (E_copselaw22_SearchLeft N) (subC c_copselaw22_SearchLeft [1, 1, 1, 1, 1, 1, 1, 0, 1, 0, 0]) (lftSt m q true s b n i) (kLoop again kpLf k) =
    cond (decide (i < 600)) (cond (overS q (tkS2 s)) (k (.exit 0) (lftSt m q true (tkS2 s) b n i)) none) (k (.exit 0) (lftSt m q true s b n i)) := by kernel_rfl

/-! ### the loop -/
theorem aftX_again {again : St → Res} {k : Out → St → Res} {m : Md} {q : Qy} {sh : Bool} {s : Sr} {n i : Nat} (hk : (verdS s).kind ≠ 2) (hl : s.left.length + 1 = n ∨ s.left.length = n + 1) (hz : s.left.length = 0 ↔ (verdS s).kind = 1) (hn : n < 1000000) :
    aftX again k m q sh s s false (ic n) (i : Int) = again (lftSt m q sh s false (ic s.left.length) (i64w ((i : Int) + 1))) := by
  unfold aftX
  have e1 : i64w (ic n - 1) = ic n - 1 := wrap_id (by simp only [ic]; omega) (by simp only [ic]; omega)
  have e2 : i64w (ic n + 1) = ic n + 1 := wrap_id (by simp only [ic]; omega) (by simp only [ic]; omega)
  have ek : ((verdS s).kind == 2) = false := beq_eq_false_iff_ne.2 hk
  have ez : (!((ic s.left.length == 0) == ((verdS s).kind == 1))) = false := by
    by_cases h : s.left.length = 0
    · rw [hz.1 h, show ic s.left.length = 0 by simp only [ic]; omega]; rfl
    · have h1 : ((verdS s).kind == 1) = false := beq_eq_false_iff_ne.2 fun h' => h (hz.2 h')
      have h2 : (ic s.left.length == 0) = false := beq_eq_false_iff_ne.2 (by simp only [ic]; omega)
      rw [h1, h2]; rfl
  rw [ek, condF, e1, e2, ez]
  rcases hl with h | h
  · have e : (ic s.left.length != ic n - 1) = false := by
      have : ic s.left.length = ic n - 1 := by simp only [ic]; omega
      simp [this]
    rw [e, condF, condF]
  · have e : (ic s.left.length != ic n + 1) = false := by
      have : ic s.left.length = ic n + 1 := by simp only [ic]; omega
      simp [this]
    rw [e, condF]
    cases (ic s.left.length != ic n - 1) <;> rfl
theorem exit_true {q : Qy} {s : Sr} (h : s.v.kind = 0 → s.spent = q.bu) (h3 : s.v.kind ≠ 3) :
    (cond ((verdS s).kind != 3) (some (V.bool true, [])) (cond ((verdS s).spent == q.bu) (some (V.bool true, [])) (some (V.bool false, []))) : Res) = some (V.bool true, []) := by
  by_cases hk : s.v.kind = 0
  · have : ((verdS s).spent == q.bu) = true := by
      have : s.spent = q.bu := h hk
      simpa [verdS] using this
    rw [this]
    cases ((verdS s).kind != 3) <;> rfl
  · have : ((verdS s).kind != 3) = true := by
      have e : (s.v.kind == 0) = false := beq_eq_false_iff_ne.2 hk
      simp [verdS, e, h3]
    rw [this, condT]
theorem left_run (N : Nat) (m : Md) (q : Qy) (hr : rightQ m q = true) (hbu : q.bu ≤ 500) : ∀ (d n : Nat) (sh : Bool) (s : Sr) (i : Nat), SrInv q sh s → leftG s → s.spent = (i : Int) → (s.v.kind = 0 ∨ s.v.kind = 1) → q.bu < s.spent + d → d < n →
    lpE (E_copselaw22_SearchLeft N) (subC c_copselaw22_SearchLeft [1, 1, 1, 1, 1, 1, 1, 0, 1, 0, 0]) kpLf n (lftSt m q sh s false (ic s.left.length) (i : Int)) (kLft N) = some (.bool true, [])
  | d, 0, _, _, _, _, _, _, _, _, h => absurd h (by omega)
  | 0, n + 1, sh, s, i, hi, _, _, _, hd, _ => by
    have h1 := hi.sp1
    have h3 := (rightQ_get hr).2.2.1.1
    omega
  | d + 1, n + 1, sh, s, i, hi, hg, hs, hk, hd, hn => by
    have h0 := hi.sp0
    have h1 := hi.sp1
    have h2 := hi.left
    have h3 := (rightQ_get hr).2.2.1.1
    have hover : overS q s = true → s.v.kind = 0 → s.spent = q.bu := fun ho hk0 => by
      unfold overS at ho
      rw [hk0] at ho
      have : s.spent ≥ q.bu := by simpa using ho
      omega
    rw [lpE_succ]
    cases sh with
    | true =>
      have hk1 : s.v.kind = 1 := by
        rcases hk with h | h
        · exact absurd h (hi.shut rfl)
        · exact h
      have ho : overS q s = true := by unfold overS; rw [hk1]; rfl
      have h4 := hi.vp
      rw [st_left_shared, tkS2_eq, decide_eq_true (show (i : Int) < 600 by omega), condT, ho, condT, ex_left_shared, tkS2_eq, Nat.ble_eq_true_of_le (show s.v.proof.length ≤ 100000 by omega), condT]
      exact exit_true (fun h => by omega) (by omega)
    | false =>
      rw [st_left_own, tkS_eq (hi.own rfl), decide_eq_true (show (i : Int) < 600 by omega), condT]
      simp only [stepK]
      cases ho : overS q s with
      | true =>
        rw [condT, ex_left_own, tkS_eq (hi.own rfl)]
        exact exit_true (hover ho) (by omega)
      | false =>
        have hk0 : s.v.kind = 0 := by
          unfold overS at ho
          rw [Bool.or_eq_false_iff] at ho
          simpa using ho.1
        have hl := hi.open_ hk0
        obtain ⟨hi', hs'⟩ := hi.step (m := m) ho
        have hg' := step_leftG (m := m) (q := q) hg hl
        rw [condF, okS_of hr hi hk0, condT]
        have hi1 : i64w ((i : Int) + 1) = ((i + 1 : Nat) : Int) := succ_w (by omega)
        have hsp : (stepF m q s).spent = ((i + 1 : Nat) : Int) := by rw [hs', hs]; rfl
        have ih := fun sh hi' hk' => left_run N m q hr hbu d n sh (stepF m q s) (i + 1) hi' hg' hsp hk' (by rw [hs']; omega) (by omega)
        cases hc : closedF m q (topB s.left) with
        | true =>
          rw [condT]
          rw [hc, Bool.true_and] at hi'
          have el : (stepF m q s).left.length + 1 = s.left.length := by
            unfold stepF
            rw [hc, condT]
            show (popL s.left).length + 1 = _
            rw [popL_len]; omega
          cases he : (ic (s.left.length - 1) == 0) with
          | true =>
            rw [he] at hi'
            have hlen : s.left.length = 1 := by
              have : ic (s.left.length - 1) = 0 := by simpa using he
              simp only [ic] at this
              omega
            have ek : (stepF m q s).v.kind = 1 := by
              unfold stepF
              rw [hc, condT, he]; rfl
            have h4 := hi'.vp
            have h5 := hi'.sp1
            simp only [cond_true, aftL]
            rw [Nat.ble_eq_true_of_le (show (stepF m q s).v.proof.length ≤ 100000 by omega), condT, tkS2_eq, tkS2_eq]
            have evk : (verdS (stepF m q s)).kind = 1 := by simp [verdS, ek]
            rw [aftX_again (by omega) (.inl el) (by rw [evk]; exact ⟨fun _ => rfl, fun _ => by omega⟩) (by omega), hi1]
            exact ih true hi' (.inr ek)
          | false =>
            rw [he] at hi'
            have hlen : s.left.length ≠ 1 := fun h => by rw [h] at he; exact absurd he (by decide)
            have ek : (stepF m q s).v.kind = 0 := by
              unfold stepF
              rw [hc, condT, he]; exact hk0
            simp only [cond_false, aftL]
            rw [tkS_eq (hi'.own rfl), tkS_eq (hi'.own rfl)]
            have evk : (verdS (stepF m q s)).kind = 3 := by simp [verdS, ek]
            rw [aftX_again (by omega) (.inl el) (by rw [evk]; exact ⟨fun _ => by omega, fun h => absurd h (by decide)⟩) (by omega), hi1]
            exact ih false hi' (.inl ek)
        | false =>
          rw [condF]
          rw [hc, Bool.false_and] at hi'
          cases hb : breaksF m q (topB s.left).low (topB s.left).s4.hi with
          | true =>
            have ek : (stepF m q s).v.kind = 2 := by
              unfold stepF
              rw [hc, condF, hb]; rfl
            simp only [cond_true, aftL]
            rw [tkS_eq (hi'.own rfl), tkS_eq (hi'.own rfl)]
            unfold aftX
            have evk : (verdS (stepF m q s)).kind = 2 := by simp [verdS, ek]
            rw [show ((verdS (stepF m q s)).kind == 2) = true by rw [evk]; rfl, condT, ex_left_own, tkS_eq (hi'.own rfl)]
            exact exit_true (fun h => by omega) (by omega)
          | false =>
            have hsp2 := step_split hr hg hl hc hb
            rw [condF, hsp2, condT]
            have ek : (stepF m q s).v.kind = 0 := by
              unfold stepF
              rw [hc, condF, hb, condF, hsp2, condT]; exact hk0
            have el : (stepF m q s).left.length = s.left.length + 1 := by
              unfold stepF
              rw [hc, condF, hb, condF, hsp2, condT]
              show (popL s.left ++ [_, _]).length = _
              rw [List.length_append, popL_len]
              simp only [List.length_cons, List.length_nil]
              omega
            simp only [aftL]
            rw [tkS_eq (hi'.own rfl), tkS_eq (hi'.own rfl)]
            have evk : (verdS (stepF m q s)).kind = 3 := by simp [verdS, ek]
            rw [aftX_again (by omega) (.inr el) (by rw [evk]; exact ⟨fun h => by omega, fun h => absurd h (by decide)⟩) (by omega), hi1]
            exact ih false hi' (.inl ek)

set_option maxRecDepth 100000 in
theorem snd_copselaw22_SearchLeft : SndR PR B0 6 S_copselaw22_SearchLeft := by
  refine snd_mk [(18, S_copsebook_Within), (3, S_copselaw22_SearchRuns), (19, S_search_Search_Left), (15, S_search_Search_Step), (17, S_search_Search_Verdict), (14, Z2_search_New), (10, Z_copsekeep_Ask_Query), (9, Z_copsekeep_Forest_Model)] [(9, ⟨[6, 7, 8, 9, 10, 11], [7, 8, 26, 500, 501], [⟨.cell 26 23, 500, 30, true, kBox⟩, ⟨.cell 26 24, 501, 82, true, kStep⟩]⟩)] S_copselaw22_SearchLeft [[.bool]] Try.func6 h_copselaw22_SearchLeft ⟨snd_copsebook_Within, snd_copselaw22_SearchRuns, snd_search_Search_Left, snd_search_Search_Step, snd_search_Search_Verdict, sndZ2_search_New, sndZ_copsekeep_Ask_Query, sndZ_copsekeep_Forest_Model, trivial⟩ ?_
  intro vs r hwf h
  unfold S_copselaw22_SearchLeft at h
  split at h
  · rename_i f a z
    replace h := withF_get h
    obtain ⟨f, rfl, h⟩ := h
    replace h := withA_get h
    obtain ⟨a, rfl, h⟩ := h
    rw [R.get_ok] at h
    refine ⟨1000, ?_⟩
    rw [← h]
    refine (nf_left_1 1000 f a z).trans ?_
    have hw := win z 0 500 (by omega) (by omega) (by omega)
    have hr := ask_right f a hw.1 (show withinZ z 0 500 ≤ 65536 by omega)
    rw [M_okDC, condT, nf_left_2]
    have hb : ((askQ0 a f.M).bud (withinZ z 0 500)).bu ≤ 500 := hw.2
    generalize (askQ0 a f.M).bud (withinZ z 0 500) = q at hr hb ⊢
    rw [decide_eq_false (right_span hr), condF, hr, condT]
    have h3 := (rightQ_get hr).2.2.1
    exact left_run 1000 f.M q hr hb (q.bu.toNat + 1) 1000 false _ 0 (new_inv hr) (new_leftG hr) rfl (.inl rfl) (by show q.bu < 0 + _; omega) (by omega)
  · simp [R.get] at h
end Go.FM

/-
  copsekeep.Inside AND copselaw22.SearchPoint COME TO WHAT IS SAID.
-/
namespace Go.FM
open Go Go.Proofs

set_option maxRecDepth 100000 in
theorem nf_inside (b : Bx) (l : List IV) : evFun (E_copsekeep_Inside 6) c_copsekeep_Inside [.cell 4 35] [[.int .i64, .int .i64, .int .i64, .int .i64]] [b.V, .list false [.int .i64] l] =
   cond (insOK b 0) none (cond (insOK b 1) none (cond (insOK b 2) none (cond (insOK b 3) none (some ((insideP b l).V, []))))) := by kernel_rfl

set_option maxRecDepth 100000 in
theorem snd_copsekeep_Inside : SndR PR B0 11 S_copsekeep_Inside := by
  refine snd_mk [(18, S_copsebook_Within), (21, S_copsekeep_pick)] [(3, ⟨[1, 2, 4, 5, 7], [2, 4, 5], []⟩)] S_copsekeep_Inside [[.int .i64, .int .i64, .int .i64, .int .i64]] Try.func11 h_copsekeep_Inside ⟨snd_copsebook_Within, snd_copsekeep_pick, trivial⟩ ?_
  intro vs r hwf h
  unfold S_copsekeep_Inside at h
  split at h
  · rename_i b l
    replace h := withB_get h
    obtain ⟨b, rfl, h⟩ := h
    cases hg : (!(insOK b 0) && (!(insOK b 1) && (!(insOK b 2) && !(insOK b 3)))) with
    | false => rw [hg] at h; simp [R.get] at h
    | true =>
    rw [hg, R.get_br, condT, R.get_ok] at h
    refine ⟨6, (nf_inside b l).trans ?_⟩
    simp only [Bool.and_eq_true, Bool.not_eq_true'] at hg
    rw [hg.1, hg.2.1, hg.2.2.1, hg.2.2.2]
    exact h
  · simp [R.get] at h

def insAll (b : Bx) : Bool := !(insOK b 0) && (!(insOK b 1) && (!(insOK b 2) && !(insOK b 3)))
def pntQ (q : Qy) (p : Pt) : Qy := q.reg ⟨⟨p.p0, p.p0⟩, ⟨p.p1, p.p1⟩, ⟨p.p2, p.p2⟩, ⟨p.p3, p.p3⟩, ⟨q.a4, q.b4⟩⟩
def pntT (m : Md) (q : Qy) (p : Pt) : Res :=
  cond (breaksF m (q.bud 1) p (startB (q.bud 1)).s4.hi)
    (cond ((runF m (q.bud 1)).kind == 2)
      (cond ((runF m (q.bud 1)).w0 == p.p0 && ((runF m (q.bud 1)).w1 == p.p1 && ((runF m (q.bud 1)).w2 == p.p2 && ((runF m (q.bud 1)).w3 == p.p3 && true))))
        (cond ((runF m (q.bud 1)).spent == 1) (some (.bool true, [])) (some (.bool false, []))) (some (.bool false, []))) (some (.bool false, [])))
    (cond ((runF m (q.bud 1)).kind == 1)
      (cond (ic (runF m (q.bud 1)).proof.length == 1)
        (cond ((runF m (q.bud 0)).kind == 3) (some (.bool true, [])) (some (.bool false, []))) (some (.bool false, []))) (some (.bool false, [])))
set_option maxRecDepth 100000 in
theorem nf_pnt_1 (N : Nat) (f : Ft) (a : Ak) (l : List IV) : evFun (E_copselaw22_SearchPoint N) c_copselaw22_SearchPoint [.tmp 6] [[.bool]] [f.V, a.V, .list false [.int .i64] l] =
    cond (okDC f.M) (cond (insAll (askQ0 a f.M).bx) (lpE (E_copselaw22_SearchPoint N) (subC c_copselaw22_SearchPoint [1, 1, 1, 1, 0, 1, 0, 0]) ⟨[6, 7, 8, 9, 22], [7, 8, 9], []⟩ N
     ⟨[(6, .bool false), (7, .ptr 7 0 0), (8, .ptr 8 0 0), (9, .ptr 9 0 0), (22, .int .i64 0)], [(7, some (.box f.M.cs)), (8, some (.box (askQ0 a f.M).cs)), (9, some (.box (insideP (askQ0 a f.M).bx l).cs))]⟩
     (kBlock 0 (kSq (E_copselaw22_SearchPoint N) (subC c_copselaw22_SearchPoint [1, 1, 1, 1, 1]) (outT (E_copselaw22_SearchPoint N) none [.tmp 6] [[.bool]])))) none) none := by kernel_rfl
set_option maxRecDepth 100000 in
theorem nf_pnt_2 (N : Nat) (m : Md) (q : Qy) (p : Pt) : lpE (E_copselaw22_SearchPoint N) (subC c_copselaw22_SearchPoint [1, 1, 1, 1, 0, 1, 0, 0]) ⟨[6, 7, 8, 9, 22], [7, 8, 9], []⟩ 5
     ⟨[(6, .bool false), (7, .ptr 7 0 0), (8, .ptr 8 0 0), (9, .ptr 9 0 0), (22, .int .i64 0)], [(7, some (.box m.cs)), (8, some (.box q.cs)), (9, some (.box p.cs))]⟩
     (kBlock 0 (kSq (E_copselaw22_SearchPoint N) (subC c_copselaw22_SearchPoint [1, 1, 1, 1, 1]) (outT (E_copselaw22_SearchPoint N) none [.tmp 6] [[.bool]]))) = 
     pntT m (pntQ q p) p := by kernel_rfl

/-! ### the plain law -/
theorem ins_in (b : Bx) (l : List IV) {i : Nat} (h0 : -2147483648 ≤ (b.g i).lo) (h1 : (b.g i).lo ≤ (b.g i).hi) (h2 : (b.g i).hi ≤ 2147483647) : insOK b i = false ∧ (b.g i).lo ≤ insZ1 b l i ∧ insZ1 b l i ≤ (b.g i).hi := by
  have e : max (b.g i).lo (b.g i).hi = (b.g i).hi := by omega
  have h := within_in (n := pickZ l (i : Int)) (lo := (b.g i).lo) (hi := (b.g i).hi) h1 (by omega) (by omega)
  unfold insOK insZ1
  rw [e]
  exact ⟨decide_eq_false (by omega), h.2⟩
theorem spOK_pt {d i x lo hi : Int} (h : spOK d i ⟨lo, hi⟩ = true) (h0 : lo ≤ x) (h1 : x ≤ hi) : spOK d i ⟨x, x⟩ = true := by
  unfold spOK Sp.emp fits32 at h ⊢
  simp only [Bool.and_eq_true, Bool.not_eq_true', Bool.and_eq_false_iff, decide_eq_true_eq, decide_eq_false_iff_not, beq_iff_eq, Bool.not_eq_false'] at h ⊢
  omega
theorem bud_right {m : Md} {q : Qy} {a b : Int} (h : rightQ m (q.bud a) = true) (h0 : 0 ≤ b) (h1 : b ≤ 65536) : rightQ m (q.bud b) = true := by
  unfold rightQ at h ⊢
  simp only [Bool.and_eq_true, decide_eq_true_eq] at h ⊢
  exact ⟨h.1, h.2.1, h.2.2.1, h0, h1, h.2.2.2.2.2.1, h.2.2.2.2.2.2⟩
theorem pnt_right {m : Md} {q : Qy} {l : List IV} {c : Int} (h : rightQ m (q.bud c) = true) : insAll q.bx = true ∧ rightQ m ((pntQ q (insideP q.bx l)).bud c) = true := by
  have hg := rightQ_get h
  have hreg : regB5 q.bx m.d = true := hg.2.2.2.1
  have hb := reg_good hreg
  have i0 := ins_in q.bx l (i := 0) (hb 0 (by omega)).1 (hb 0 (by omega)).2.1 (hb 0 (by omega)).2.2
  have i1 := ins_in q.bx l (i := 1) (hb 1 (by omega)).1 (hb 1 (by omega)).2.1 (hb 1 (by omega)).2.2
  have i2 := ins_in q.bx l (i := 2) (hb 2 (by omega)).1 (hb 2 (by omega)).2.1 (hb 2 (by omega)).2.2
  have i3 := ins_in q.bx l (i := 3) (hb 3 (by omega)).1 (hb 3 (by omega)).2.1 (hb 3 (by omega)).2.2
  refine ⟨by unfold insAll; rw [i0.1, i1.1, i2.1, i3.1]; rfl, ?_⟩
  have hreg' : regB5 ((pntQ q (insideP q.bx l)).bud c).bx m.d = true := by
    unfold regB5 at hreg ⊢
    simp only [Bool.and_eq_true] at hreg ⊢
    exact ⟨spOK_pt hreg.1 i0.2.1 i0.2.2, spOK_pt hreg.2.1 i1.2.1 i1.2.2, spOK_pt hreg.2.2.1 i2.2.1 i2.2.2, spOK_pt hreg.2.2.2.1 i3.2.1 i3.2.2, hreg.2.2.2.2⟩
  unfold rightQ at h ⊢
  simp only [Bool.and_eq_true, decide_eq_true_eq] at h ⊢
  exact ⟨h.1, h.2.1, h.2.2.1, h.2.2.2.1, h.2.2.2.2.1, hreg', h.2.2.2.2.2.2⟩
theorem pnt_true {m : Md} {q : Qy} {p : Pt} (h : rightQ m ((pntQ q p).bud 1) = true) (h4 : q.a4 = q.b4) : pntT m (pntQ q p) p = some (.bool true, []) := by
  have h0 : rightQ m ((pntQ q p).bud 0) = true := bud_right h (by omega) (by omega)
  have hB := start_good h
  have hlow : (startB ((pntQ q p).bud 1)).low = p := rfl
  have e0 : runF m ((pntQ q p).bud 0) = ⟨3, [], 0, 0, 0, 0, 0, 0⟩ := by
    unfold runF newS
    rw [h0, condT]
    rfl
  have e1 : runF m ((pntQ q p).bud 1) = verdS (stepF m ((pntQ q p).bud 1) ⟨[(startB ((pntQ q p).bud 1)).I], [], Vd.none, 0⟩) := by
    unfold runF newS
    rw [h, condT]
    show verdS (cond (overS ((pntQ q p).bud 1) ⟨[(startB ((pntQ q p).bud 1)).I], [], Vd.none, 0⟩) _ (runS m ((pntQ q p).bud 1) 1 (stepF m ((pntQ q p).bud 1) ⟨[(startB ((pntQ q p).bud 1)).I], [], Vd.none, 0⟩))) = _
    have o0 : overS ((pntQ q p).bud 1) ⟨[(startB ((pntQ q p).bud 1)).I], [], Vd.none, 0⟩ = false := rfl
    have hsp : (stepF m ((pntQ q p).bud 1) ⟨[(startB ((pntQ q p).bud 1)).I], [], Vd.none, 0⟩).spent = 1 := by
      unfold stepF
      cases closedF m _ _ <;> cases breaksF m _ _ _ <;> cases (splitF m _ _).isSome <;> rfl
    have o1 : overS ((pntQ q p).bud 1) (stepF m ((pntQ q p).bud 1) ⟨[(startB ((pntQ q p).bud 1)).I], [], Vd.none, 0⟩) = true := by
      unfold overS
      rw [hsp]
      show (_ || decide ((1 : Int) ≥ 1)) = true
      simp
    rw [o0, condF, runS, o1, condT]
  have hcut : ∀ i, i < 5 → cutsZ m ((pntQ q p).bud 1) (startB ((pntQ q p).bud 1)) i = [] := by
    intro i hi
    have hflat : ∀ j, j < 5 → ((startB ((pntQ q p).bud 1)).g j).lo = ((startB ((pntQ q p).bud 1)).g j).hi := by
      intro j hj
      match j, hj with
      | 0, _ => rfl
      | 1, _ => rfl
      | 2, _ => rfl
      | 3, _ => rfl
      | 4, _ =>
        show (cond (paired _) (((pntQ q p).bud 1).bx.g q.ft.toNat) ⟨0, 0⟩ : Sp).lo = (cond (paired _) (((pntQ q p).bud 1).bx.g q.ft.toNat) ⟨0, 0⟩ : Sp).hi
        cases paired ((pntQ q p).bud 1) with
        | false => rfl
        | true =>
          simp only [cond_true]
          match q.ft.toNat with
          | 0 => rfl
          | 1 => rfl
          | 2 => rfl
          | 3 => rfl
          | n + 4 => exact h4
      | n + 5, hj => omega
    cases hc : cutsZ m ((pntQ q p).bud 1) (startB ((pntQ q p).bud 1)) i with
    | nil => rfl
    | cons a r =>
      have hm : a ∈ cutsZ m ((pntQ q p).bud 1) (startB ((pntQ q p).bud 1)) i := by rw [hc]; exact List.mem_cons_self ..
      have := cuts_mem.1 hm
      have := hflat i hi
      omega
  unfold pntT
  rw [e0, e1]
  cases hb : breaksF m ((pntQ q p).bud 1) p (startB ((pntQ q p).bud 1)).s4.hi with
  | true =>
    have hc : closedF m ((pntQ q p).bud 1) (startB ((pntQ q p).bud 1)) = false := by
      cases hc : closedF m ((pntQ q p).bud 1) (startB ((pntQ q p).bud 1)) with
      | false => rfl
      | true =>
        have := closed_sound hB.ok hc (bx_low _ hB.emp)
        rw [hlow, hb] at this
        cases this
    have e2 : stepF m ((pntQ q p).bud 1) ⟨[(startB ((pntQ q p).bud 1)).I], [], Vd.none, 0⟩ = ⟨[], [], ⟨2, [], p.p0, p.p1, p.p2, p.p3, (startB ((pntQ q p).bud 1)).s4.hi, 0⟩, 1⟩ := by
      unfold stepF
      rw [show topB ([(startB ((pntQ q p).bud 1)).I]) = startB ((pntQ q p).bud 1) from rfl, hc, condF, hlow, hb, condT]
      rfl
    rw [e2, condT]
    simp [verdS]
  | false =>
    have hc : closedF m ((pntQ q p).bud 1) (startB ((pntQ q p).bud 1)) = true := by
      rcases cell_decided h hB.emp hB.ok hcut with hc | hc
      · exact hc
      · rw [hlow, hb] at hc; cases hc
    have e2 : stepF m ((pntQ q p).bud 1) ⟨[(startB ((pntQ q p).bud 1)).I], [], Vd.none, 0⟩ = ⟨[], [stI true 0 0], ⟨1, [stI true 0 0], 0, 0, 0, 0, 0, 0⟩, 1⟩ := by
      unfold stepF
      rw [show topB ([(startB ((pntQ q p).bud 1)).I]) = startB ((pntQ q p).bud 1) from rfl, hc, condT]
      rfl
    rw [e2, condF]
    rfl

set_option maxRecDepth 100000 in
theorem snd_copselaw22_SearchPoint : SndR PR B0 4 S_copselaw22_SearchPoint := by
  refine snd_mk [(11, S_copsekeep_Inside), (3, S_copselaw22_SearchRuns), (12, S_query_Breaks), (13, S_query_Start), (8, S_search_Run), (10, Z_copsekeep_Ask_Query), (9, Z_copsekeep_Forest_Model)] [(5, ⟨[6, 7, 8, 9, 22], [7, 8, 9], []⟩)] S_copselaw22_SearchPoint [[.bool]] Try.func4 h_copselaw22_SearchPoint ⟨snd_copsekeep_Inside, snd_copselaw22_SearchRuns, snd_query_Breaks, snd_query_Start, snd_search_Run, sndZ_copsekeep_Ask_Query, sndZ_copsekeep_Forest_Model, trivial⟩ ?_
  intro vs r hwf h
  unfold S_copselaw22_SearchPoint at h
  split at h
  · rename_i f a l
    replace h := withF_get h
    obtain ⟨f, rfl, h⟩ := h
    replace h := withA_get h
    obtain ⟨a, rfl, h⟩ := h
    rw [R.get_ok] at h
    refine ⟨5, ?_⟩
    rw [← h]
    refine (nf_pnt_1 5 f a l).trans ?_
    have hr := ask_right f a (w := 1) (by omega) (by omega)
    have hp := pnt_right (l := l) hr
    rw [M_okDC, condT, hp.1, condT, nf_pnt_2]
    exact pnt_true hp.2 rfl
  · simp [R.get] at h
end Go.FM

/-
  copsebook.Same AND copsekeep.Verdicts COME TO WHAT IS SAID.
-/
namespace Go.FM
open Go Go.Proofs

theorem same_runV (N : Nat) (l m : List IV) (K : Out → St → Res) (hlm : l.length = m.length) (hl : l.length ≤ strMax)
    (hx : ∀ b4 x5, K (.exit 0) ⟨[(0, (.list true kStep l)), (1, (.list true kStep m)), (4, (.bool b4)), (5, (.int .i64 x5))], []⟩ = some (.bool true, []))
    (hr : ∀ b4 x5, K .ret ⟨[(0, (.list true kStep l)), (1, (.list true kStep m)), (4, (.bool b4)), (5, (.int .i64 x5))], []⟩ = some (.bool b4, [])) :
    ∀ (d i n : Nat), i + d = l.length → d < n → lpE (E_copsebook_Same_apiStep N) (subC c_copsebook_Same_apiStep [1, 1, 0, 1, 0, 0]) ⟨[0, 1, 4, 5], [], []⟩ n ⟨[(0, (.list true kStep l)), (1, (.list true kStep m)), (4, (.bool false)), (5, (.int .i64 (i : Int)))], []⟩ K = some (.bool (sameB (l.drop i) (m.drop i)), [])
  | 0, i, n + 1, hd, _ => by
    rw [lpE_succ, st_copsebook_Same_apiStep_1, idx_ge (by omega), List.drop_of_length_le (by omega), List.drop_of_length_le (by omega)]
    simp only [cond_false, sameB]
    exact hx ..
  | d + 1, i, n + 1, hd, hn => by
    have hi : i < l.length := by omega
    have hm : i < m.length := by omega
    unfold strMax at hl
    rw [lpE_succ, st_copsebook_Same_apiStep_1, idx_lt hi, idx_lt hm, idx_0, succ_w (by omega), getD_i hi, getD_i hm, List.drop_eq_getElem_cons hi, List.drop_eq_getElem_cons hm]
    generalize l[i] = x
    generalize m[i] = y
    have ih := same_runV N l m K hlm (by unfold strMax; omega) hx hr d (i + 1) n (by omega) (by omega)
    rw [ih]
    simp only [sameB]
    generalize sameB (List.drop (i + 1) l) (List.drop (i + 1) m) = rest
    unfold stEq stSum stPlace stAt
    simp only [cond_true, Bool.and_true]
    cases IV.toBool (IV.cell x 0) == IV.toBool (IV.cell y 0) <;> cases IV.toInt (IV.cell x 1) == IV.toInt (IV.cell y 1) <;> cases IV.toInt (IV.cell x 2) == IV.toInt (IV.cell y 2) <;>
      (simp only [cond_true, cond_false, Bool.not_true, Bool.not_false, Bool.and_true, Bool.and_false, Bool.true_and, Bool.false_and, hr]
       try rfl)
  | 0, _, 0, _, h => by omega
  | _ + 1, _, 0, _, h => by omega

theorem sameB_length : ∀ {l m : List IV}, sameB l m = true → l.length = m.length
  | [], [], _ => rfl
  | [], _ :: _, h => by simp [sameB] at h
  | _ :: _, [], h => by simp [sameB] at h
  | x :: l, y :: m, h => by
    simp only [sameB, Bool.and_eq_true] at h
    simp [sameB_length h.2]

set_option maxRecDepth 100000 in
theorem snd_copsebook_Same_apiStep : SndR PR B0 33 S_copsebook_Same_apiStep := by
  refine snd_mk [] [(4, ⟨[0, 1, 4, 5], [], []⟩)] S_copsebook_Same_apiStep [[.bool]] Try.func33 h_copsebook_Same_apiStep trivial ?_
  intro vs r hwf h
  unfold S_copsebook_Same_apiStep at h
  split at h
  · rename_i l m
    rw [R.get_ok] at h
    refine ⟨l.length + 1, ?_⟩
    rw [← h]
    refine (nf_copsebook_Same_apiStep (l.length + 1) l m).trans ?_
    have hl := (hwf (by simp [oneBor])).1
    simp only [wfV, wfL] at hl
    by_cases hlm : l.length = m.length
    · have e : (ic l.length != ic m.length) = false := by simp [ic, hlm]
      rw [e]
      simp only [cond_false]
      have := same_runV (l.length + 1) l m _ hlm hl.1 (fun b4 x5 => ex_copsebook_Same_apiStep_1_1 (l.length + 1) l m b4 x5) (fun b4 x5 => ex_copsebook_Same_apiStep_1_2 (l.length + 1) l m b4 x5) l.length 0 (l.length + 1) (by omega) (by omega)
      rw [List.drop_zero, List.drop_zero] at this
      exact this
    · have e : (ic l.length != ic m.length) = true := by simp [ic]; omega
      rw [e]
      have : sameB l m = false := by
        cases hs : sameB l m with
        | false => rfl
        | true => exact absurd (sameB_length hs) hlm
      rw [this]
      rfl
  · simp [R.get] at h
set_option maxRecDepth 100000 in
theorem snd_copsekeep_Verdicts : SndR PR B0 16 S_copsekeep_Verdicts := by
  refine snd_mk [(33, S_copsebook_Same_apiStep)] [] S_copsekeep_Verdicts [[.bool]] Try.func16 h_copsekeep_Verdicts ⟨snd_copsebook_Same_apiStep, trivial⟩ ?_
  intro vs r hwf h
  unfold S_copsekeep_Verdicts at h
  split at h
  · rename_i k p a b c d t s k' p' a' b' c' d' t' s'
    rw [R.get_ok] at h
    refine ⟨0, ?_⟩
    rw [← h]
    refine (nf_copsekeep_Verdicts 0 ⟨k, p, a, b, c, d, t, s⟩ ⟨k', p', a', b', c', d', t', s'⟩).trans ?_
    simp only [vdEq, Bool.and_true]
    cases k == k'
    · rfl
    cases sameB p p'
    · rfl
    cases a == a' <;> cases b == b' <;> cases c == c' <;> cases d == d' <;> cases t == t' <;> rfl
  · simp [R.get] at h
end Go.FM

/-
  copselaw22.SearchTwo: ITS RUN.
-/
namespace Go.FM
open Go Go.Proofs

/-- Its state, the queries made. -/
def twoS1 (f g : Ft) (a b : Ak) (m n : Md) (q0 r0 q r : Qy) (l : List IV) : St :=
  ⟨[(32, .ptr 14 0 16), (31, .ptr 13 0 16), (14, .ptr 14 0 0), (13, .ptr 13 0 0), (30, r0.V), (29, n.V), (28, b.V), (27, q0.V), (26, m.V), (25, a.V), (12, .ptr 12 0 0), (11, .ptr 11 0 0), (24, n.V), (23, g.V), (22, m.V), (21, f.V), (10, .bool false), (8, .ptr 8 0 0), (7, .ptr 7 0 0), (6, .ptr 6 0 0), (5, .ptr 5 0 0), (0, f.V), (1, g.V), (2, a.V), (3, b.V), (4, .list false [.bool] l)],
   [(14, some (.box r.cs)), (13, some (.box q.cs)), (14, some (.box r0.cs)), (13, some (.box q0.cs)), (14, some (.box zQ)), (13, some (.box zQ)), (12, some (.box n.cs)), (11, some (.box m.cs)), (12, some (.box zM)), (11, some (.box zM)), (8, some (.box b.cs)), (7, some (.box a.cs)), (6, some (.box g.cs)), (5, some (.box f.cs))]⟩
def runB2 (sh : Bool) (s : Sr) : List V := match sh with
  | false => .row 502 0 s.left.length :: .row 503 0 s.proof.length :: vdT s.v .zs s.spent
  | true => .row 502 0 s.left.length :: fStep s.proof :: vdT s.v (fStep s.v.proof) s.spent
def twoO (m n : Md) (q r : Qy) (v w : Vd) (sh : Bool) (s : Sr) (th : Bool) (t : Sr) : Store :=
  [(15, some (.box v.cs)), (16, some (.box w.cs)), (41, some (.box (seCs m q (runB sh s)))), (44, some (.box (seCs n r (runB2 th t)))), (500, some (.row true 30 true kBox s.left)), (501, runP sh s), (502, some (.row true 30 true kBox t.left)), (503, runP th t)]
def twoSt (l : List IV) (m n : Md) (q r : Qy) (v w : Vd) (sh : Bool) (s : Sr) (th : Bool) (t : Sr) (i : Int) : St :=
  ⟨[(4, .list false [.bool] l), (10, .bool false), (15, .ptr 15 0 0), (16, .ptr 16 0 0), (17, .ptr 41 0 0), (18, .ptr 44 0 0), (19, .int .i64 i)], twoO m n q r v w sh s th t⟩
def twoSu (m n : Md) (q r : Qy) (v w : Vd) (sh : Bool) (s : Sr) (th : Bool) (t : Sr) (i : Int) : St :=
  ⟨[(10, .bool false), (15, .ptr 15 0 0), (16, .ptr 16 0 0), (17, .ptr 41 0 0), (18, .ptr 44 0 0), (20, .int .i64 i)], twoO m n q r v w sh s th t⟩
abbrev cT : List Can := [⟨.cell 41 23, 500, 30, true, kBox⟩, ⟨.cell 41 24, 501, 82, true, kStep⟩, ⟨.cell 44 23, 502, 30, true, kBox⟩, ⟨.cell 44 24, 503, 82, true, kStep⟩]
abbrev kpW1 : KP := ⟨[4, 10, 15, 16, 17, 18, 19], [15, 16, 41, 44, 500, 501, 502, 503], cT⟩
abbrev kpW2 : KP := ⟨[10, 15, 16, 17, 18, 20], [15, 16, 41, 44, 500, 501, 502, 503], cT⟩
abbrev pT1 : List Nat := [1, 1, 1, 1, 1, 1, 1, 0, 1, 0, 0]
abbrev pT2 : List Nat := [1, 1, 1, 1, 1, 1, 1, 1, 0, 1, 0, 0]
noncomputable abbrev kTwo1 (N : Nat) : Out → St → Res := kBlock 0 (kSq (E_copselaw22_SearchTwo N) (subC c_copselaw22_SearchTwo [1, 1, 1, 1, 1, 1, 1, 1]) (outT (E_copselaw22_SearchTwo N) none [.tmp 10] [[.bool]]))
noncomputable abbrev kTwo2 (N : Nat) : Out → St → Res := kBlock 2 (kSq (E_copselaw22_SearchTwo N) (subC c_copselaw22_SearchTwo [1, 1, 1, 1, 1, 1, 1, 1, 1]) (outT (E_copselaw22_SearchTwo N) none [.tmp 10] [[.bool]]))
set_option maxRecDepth 100000 in
theorem nf_two_1 (N : Nat) (f g : Ft) (a b : Ak) (l : List IV) : evFun (E_copselaw22_SearchTwo N) c_copselaw22_SearchTwo [.tmp 10] [[.bool]] [f.V, g.V, a.V, b.V, .list false [.bool] l] =
    cond (okDC f.M) (cond (okDC g.M) (kSq (E_copselaw22_SearchTwo N) (subC c_copselaw22_SearchTwo [1, 1, 1, 1]) (outT (E_copselaw22_SearchTwo N) none [.tmp 10] [[.bool]]) .normal
      (twoS1 f g a b f.M g.M (askQ0 a f.M) (askQ0 b g.M) ((askQ0 a f.M).bud 200) ((askQ0 b g.M).bud 200) l)) none) none := by kernel_rfl
set_option maxRecDepth 100000 in
theorem nf_two_2 (N : Nat) (f g : Ft) (a b : Ak) (m n : Md) (q0 r0 q r : Qy) (l : List IV) : kSq (E_copselaw22_SearchTwo N) (subC c_copselaw22_SearchTwo [1, 1, 1, 1]) (outT (E_copselaw22_SearchTwo N) none [.tmp 10] [[.bool]]) .normal (twoS1 f g a b m n q0 r0 q r l) =
    cond (rightQ m q) (cond (rightQ n r) (lpE (E_copselaw22_SearchTwo N) (subC c_copselaw22_SearchTwo pT1) kpW1 N
      (twoSt l m n q r (runF m q) (runF n r) false ⟨[(startB q).I], [], Vd.none, 0⟩ false ⟨[(startB r).I], [], Vd.none, 0⟩ 0) (kTwo1 N)) none) none := by kernel_rfl
def tkN (sh : Bool) (s : Sr) : Sr := match sh with | false => tkS s | true => tkS2 s
@[reducible] def grd (sh : Bool) (s : Sr) (X : Res) : Res := match sh with | false => X | true => cond (Nat.ble s.v.proof.length 100000) X none
set_option maxRecDepth 100000 in
theorem st_two_1 (N : Nat) (l : List IV) (m n : Md) (q r : Qy) (v w : Vd) (sh : Bool) (s : Sr) (th : Bool) (t : Sr) (i : Int) (again : St → Res) (k : Out → St → Res) : rnd (E_copselaw22_SearchTwo N) (subC c_copselaw22_SearchTwo pT1) (twoSt l m n q r v w sh s th t i) (kLoop again kpW1 k) =
    cond (decide (i < ic l.length)) (cond (decide (i < 60)) (cond (decide (0 ≤ i) && decide (i < ic l.length)) (cond (l.getD i.toNat default).toBool
      (stepK m q sh (tkN sh s) (fun sh s => again (twoSt l m n q r v w sh s th t (i64w (i + 1)))) (fun sh s => again (twoSt l m n q r v w sh s th t (i64w (i + 1)))))
      (stepK n r th (tkN th t) (fun th t => again (twoSt l m n q r v w sh s th t (i64w (i + 1)))) (fun th t => again (twoSt l m n q r v w sh s th t (i64w (i + 1)))))) none)
      (k (.exit 0) (twoSt l m n q r v w sh s th t i))) (k (.exit 0) (twoSt l m n q r v w sh s th t i)) := by
  cases sh <;> cases th <;> kernel_rfl
set_option maxRecDepth 100000 in
theorem st_two_2 (N : Nat) (m n : Md) (q r : Qy) (v w : Vd) (sh : Bool) (s : Sr) (th : Bool) (t : Sr) (i : Int) (again : St → Res) (k : Out → St → Res) : rnd (E_copselaw22_SearchTwo N) (subC c_copselaw22_SearchTwo pT2) (twoSu m n q r v w sh s th t i) (kLoop again kpW2 k) =
    cond (decide (i < 201)) (stepK m q sh (tkN sh s)
        (fun sh s => stepK n r th (tkN th t) (fun th t => again (twoSu m n q r v w sh s th t (i64w (i + 1)))) (fun th t => again (twoSu m n q r v w sh s th t (i64w (i + 1)))))
        (fun sh s => stepK n r th (tkN th t) (fun th t => again (twoSu m n q r v w sh s th t (i64w (i + 1)))) (fun th t => again (twoSu m n q r v w sh s th t (i64w (i + 1))))))
      (k (.exit 2) (twoSu m n q r v w sh s th t i)) := by
  cases sh <;> cases th <;> kernel_rfl
set_option maxRecDepth 100000 in
theorem ex_two_1 (N : Nat) (l : List IV) (m n : Md) (q r : Qy) (v w : Vd) (sh : Bool) (s : Sr) (th : Bool) (t : Sr) (i : Int) : kTwo1 N (.exit 0) (twoSt l m n q r v w sh s th t i) =
    lpE (E_copselaw22_SearchTwo N) (subC c_copselaw22_SearchTwo pT2) kpW2 N (twoSu m n q r v w sh s th t 0) (kTwo2 N) := by
  cases sh <;> cases th <;> kernel_rfl
set_option maxRecDepth 100000 in
theorem ex_two_2 (N : Nat) (m n : Md) (q r : Qy) (v w : Vd) (sh : Bool) (s : Sr) (th : Bool) (t : Sr) (i : Int) : kTwo2 N (.exit 2) (twoSu m n q r v w sh s th t i) =
    grd sh s (cond (vdEq (verdS (tkN sh s)) v) (grd th t (cond (vdEq (verdS (tkN th t)) w) (some (.bool true, [])) (some (.bool false, [])))) (some (.bool false, []))) := by
  cases sh <;> cases th <;> kernel_rfl

/-! ### searches that go on, and end alike -/
theorem stEq_self (x : IV) : stEq x x = true := by unfold stEq; simp
theorem sameB_self : ∀ (l : List IV), sameB l l = true
  | [] => rfl
  | x :: l => by simp only [sameB, stEq_self, sameB_self l, Bool.and_self]
theorem vdEq_self (v : Vd) : vdEq v v = true := by unfold vdEq; simp [sameB_self]
theorem over_run {m : Md} {q : Qy} {s : Sr} (h : overS q s = true) : ∀ d, runS m q d s = s
  | 0 => rfl
  | d + 1 => by rw [runS, h, condT]
theorem step_spent (m : Md) (q : Qy) (s : Sr) : (stepF m q s).spent = s.spent + 1 := by
  unfold stepF
  cases closedF m _ _ <;> cases breaksF m _ _ _ <;> cases (splitF m _ _).isSome <;> rfl
theorem run_more (m : Md) (q : Qy) : ∀ (d : Nat) (s : Sr), q.bu < s.spent + d → runS m q d s = runS m q (d + 1) s
  | 0, s, h => by
    have ho : overS q s = true := by
      unfold overS
      rw [decide_eq_true (show s.spent ≥ q.bu by omega)]
      simp
    rw [over_run ho, over_run ho]
  | d + 1, s, h => by
    rw [runS, runS]
    cases overS q s with
    | true => rfl
    | false =>
      rw [condF, condF]
      exact run_more m q d (stepF m q s) (by rw [step_spent]; omega)
/-- A search on its way to 'fin'. -/
structure Jn (m : Md) (q : Qy) (sh : Bool) (s fin : Sr) : Prop where
  inv : SrInv q sh s
  right : rightQ m q = true
  run : ∀ d : Nat, q.bu < s.spent + d → runS m q d s = fin
theorem jn_tk {m : Md} {q : Qy} {sh : Bool} {s fin : Sr} (h : Jn m q sh s fin) : tkN sh s = s := by
  cases sh with
  | false => exact tkS_eq (h.inv.own rfl)
  | true => exact tkS2_eq s
theorem jn_new {m : Md} {q : Qy} (hr : rightQ m q = true) : Jn m q false ⟨[(startB q).I], [], Vd.none, 0⟩ (runS m q (q.bu.toNat + 1) (newS m q)) := by
  refine ⟨new_inv hr, hr, fun d hd => ?_⟩
  have h0 := (rightQ_get hr).2.2.1.1
  have e : newS m q = ⟨[(startB q).I], [], Vd.none, 0⟩ := by unfold newS; rw [hr, condT]
  rw [e]
  replace hd : q.bu < 0 + (d : Int) := hd
  obtain ⟨j, rfl⟩ : ∃ j, d = q.bu.toNat + 1 + j := ⟨d - (q.bu.toNat + 1), by omega⟩
  clear hd
  induction j with
  | zero => rfl
  | succ j ih => rw [← ih]; exact (run_more m q _ _ (by show q.bu < 0 + ((q.bu.toNat + 1 + j : Nat) : Int); omega)).symm
theorem jn_step {m : Md} {q : Qy} {sh : Bool} {s fin : Sr} (h : Jn m q sh s fin) (X : Bool → Sr → Res) :
    ∃ sh' s', Jn m q sh' s' fin ∧ stepK m q sh (tkN sh s) X X = X sh' s' ∧ ((overS q s = true ∧ s' = s) ∨ (overS q s = false ∧ s'.spent = s.spent + 1)) := by
  rw [jn_tk h]
  cases ho : overS q s with
  | true =>
    refine ⟨sh, s, h, ?_, .inl ⟨rfl, rfl⟩⟩
    cases sh <;> simp only [stepK] <;> rw [ho, condT]
  | false =>
    cases sh with
    | true =>
      unfold overS at ho
      rw [Bool.or_eq_false_iff] at ho
      have := h.inv.shut rfl
      simp at ho
      exact absurd ho.1 this
    | false =>
      have hk0 : s.v.kind = 0 := by
        unfold overS at ho
        rw [Bool.or_eq_false_iff] at ho
        simpa using ho.1
      obtain ⟨hi', hs'⟩ := h.inv.step (m := m) ho
      refine ⟨_, stepF m q s, ⟨hi', h.right, fun d hd => ?_⟩, ?_, .inr ⟨rfl, hs'⟩⟩
      · have := h.run (d + 1) (by rw [hs'] at hd; omega)
        rw [runS, ho, condF] at this
        exact this
      · simp only [stepK]
        rw [ho, condF, okS_of h.right h.inv hk0, condT]
        cases closedF m q (topB s.left) with
        | true =>
          rw [condT, Bool.true_and]
          cases (ic (s.left.length - 1) == 0) <;> rfl
        | false =>
          rw [condF, Bool.false_and]
          cases breaksF m q (topB s.left).low (topB s.left).s4.hi with
          | true => rfl
          | false => cases (splitF m q (topB s.left)).isSome <;> rfl
theorem jn_end {m : Md} {q : Qy} {sh : Bool} {s fin : Sr} (h : Jn m q sh s fin) (ho : overS q s = true ∨ q.bu ≤ s.spent) (X Y : Res) : grd sh s (cond (vdEq (verdS (tkN sh s)) (verdS fin)) X Y) = X := by
  have ho : overS q s = true := by
    rcases ho with ho | ho
    · exact ho
    · unfold overS
      rw [decide_eq_true (show s.spent ≥ q.bu from ho)]
      simp
  have e : s = fin := by
    have := h.run (q.bu.toNat + 1) (by have := h.inv.sp0; omega)
    rw [over_run ho] at this
    exact this
  rw [jn_tk h, ← e, vdEq_self, condT]
  have h1 := h.inv.vp
  have h2 := h.inv.sp1
  have h3 := (rightQ_get h.right).2.2.1
  cases sh with
  | false => rfl
  | true =>
    simp only [grd]
    rw [Nat.ble_eq_true_of_le (show s.v.proof.length ≤ 100000 by omega), condT]
theorem two_run_2 (N : Nat) (m n : Md) (q r : Qy) (fs ft : Sr) (hq : q.bu ≤ 200) (hr : r.bu ≤ 200) : ∀ (d c : Nat) (i : Nat) (sh : Bool) (s : Sr) (th : Bool) (t : Sr), Jn m q sh s fs → Jn n r th t ft → i + d = 201 → d < c → (overS q s = true ∨ (i : Int) ≤ s.spent) → (overS r t = true ∨ (i : Int) ≤ t.spent) →
    lpE (E_copselaw22_SearchTwo N) (subC c_copselaw22_SearchTwo pT2) kpW2 c (twoSu m n q r (verdS fs) (verdS ft) sh s th t (i : Int)) (kTwo2 N) = some (.bool true, [])
  | d, 0, _, _, _, _, _, _, _, _, h, _, _ => absurd h (by omega)
  | 0, c + 1, i, sh, s, th, t, hs, ht, hi, _, os, ot => by
    rw [lpE_succ, st_two_2, decide_eq_false (show ¬ (i : Int) < 201 by omega), condF, ex_two_2, jn_end hs, jn_end ht]
    · rcases ot with h | h
      · exact .inl h
      · exact .inr (by omega)
    · rcases os with h | h
      · exact .inl h
      · exact .inr (by omega)
  | d + 1, c + 1, i, sh, s, th, t, hs, ht, hi, hc, os, ot => by
    rw [lpE_succ, st_two_2, decide_eq_true (show (i : Int) < 201 by omega), condT]
    obtain ⟨sh', s', hs', es, ds⟩ := jn_step hs (fun sh s => stepK n r th (tkN th t) (fun th t => (fun st => lpE (E_copselaw22_SearchTwo N) (subC c_copselaw22_SearchTwo pT2) kpW2 c st (kTwo2 N)) (twoSu m n q r (verdS fs) (verdS ft) sh s th t (i64w ((i : Int) + 1)))) (fun th t => (fun st => lpE (E_copselaw22_SearchTwo N) (subC c_copselaw22_SearchTwo pT2) kpW2 c st (kTwo2 N)) (twoSu m n q r (verdS fs) (verdS ft) sh s th t (i64w ((i : Int) + 1)))))
    obtain ⟨th', t', ht', et, dt⟩ := jn_step ht (fun th t => (fun st => lpE (E_copselaw22_SearchTwo N) (subC c_copselaw22_SearchTwo pT2) kpW2 c st (kTwo2 N)) (twoSu m n q r (verdS fs) (verdS ft) sh' s' th t (i64w ((i : Int) + 1))))
    refine es.trans (et.trans ?_)
    have hi1 : i64w ((i : Int) + 1) = ((i + 1 : Nat) : Int) := succ_w (by omega)
    rw [hi1]
    refine two_run_2 N m n q r fs ft hq hr d c (i + 1) sh' s' th' t' hs' ht' (by omega) (by omega) ?_ ?_
    · rcases ds with ⟨h, rfl⟩ | ⟨h, h2⟩
      · exact .inl h
      · rcases os with h' | h'
        · rw [h] at h'; cases h'
        · exact .inr (by omega)
    · rcases dt with ⟨h, rfl⟩ | ⟨h, h2⟩
      · exact .inl h
      · rcases ot with h' | h'
        · rw [h] at h'; cases h'
        · exact .inr (by omega)
theorem two_run_1 (N : Nat) (hN : 300 < N) (l : List IV) (m n : Md) (q r : Qy) (fs ft : Sr) (hq : q.bu ≤ 200) (hr : r.bu ≤ 200) : ∀ (d c : Nat) (i : Nat) (sh : Bool) (s : Sr) (th : Bool) (t : Sr), Jn m q sh s fs → Jn n r th t ft → i + d = 60 → d < c →
    lpE (E_copselaw22_SearchTwo N) (subC c_copselaw22_SearchTwo pT1) kpW1 c (twoSt l m n q r (verdS fs) (verdS ft) sh s th t (i : Int)) (kTwo1 N) = some (.bool true, [])
  | d, 0, _, _, _, _, _, _, _, _, h => absurd h (by omega)
  | d, c + 1, i, sh, s, th, t, hs, ht, hi, hc => by
    have hend : kTwo1 N (.exit 0) (twoSt l m n q r (verdS fs) (verdS ft) sh s th t (i : Int)) = some (.bool true, []) := by
      rw [ex_two_1]
      exact two_run_2 N m n q r fs ft hq hr 201 N 0 sh s th t hs ht rfl (by omega) (.inr hs.inv.sp0) (.inr ht.inv.sp0)
    rw [lpE_succ, st_two_1]
    by_cases h1 : (i : Int) < ic l.length
    · by_cases h2 : (i : Int) < 60
      · rw [decide_eq_true h1, condT, decide_eq_true h2, condT, decide_eq_true (show (0 : Int) ≤ (i : Int) by omega), Bool.true_and, condT]
        obtain ⟨d, rfl⟩ : ∃ d', d = d' + 1 := ⟨d - 1, by omega⟩
        have hi1 : i64w ((i : Int) + 1) = ((i + 1 : Nat) : Int) := succ_w (by omega)
        cases (l.getD ((i : Int).toNat) default).toBool with
        | true =>
          rw [condT]
          obtain ⟨sh', s', hs', es, _⟩ := jn_step hs (fun sh s => (fun st => lpE (E_copselaw22_SearchTwo N) (subC c_copselaw22_SearchTwo pT1) kpW1 c st (kTwo1 N)) (twoSt l m n q r (verdS fs) (verdS ft) sh s th t (i64w ((i : Int) + 1))))
          refine es.trans ?_
          rw [hi1]
          exact two_run_1 N hN l m n q r fs ft hq hr d c (i + 1) sh' s' th t hs' ht (by omega) (by omega)
        | false =>
          rw [condF]
          obtain ⟨th', t', ht', et, _⟩ := jn_step ht (fun th t => (fun st => lpE (E_copselaw22_SearchTwo N) (subC c_copselaw22_SearchTwo pT1) kpW1 c st (kTwo1 N)) (twoSt l m n q r (verdS fs) (verdS ft) sh s th t (i64w ((i : Int) + 1))))
          refine et.trans ?_
          rw [hi1]
          exact two_run_1 N hN l m n q r fs ft hq hr d c (i + 1) sh s th' t' hs ht' (by omega) (by omega)
      · rw [decide_eq_true h1, condT, decide_eq_false h2, condF]
        exact hend
    · rw [decide_eq_false h1, condF]
      exact hend

set_option maxRecDepth 100000 in
theorem snd_copselaw22_SearchTwo : SndR PR B0 5 S_copselaw22_SearchTwo := by
  refine snd_mk [(16, S_copsekeep_Verdicts), (3, S_copselaw22_SearchRuns), (8, S_search_Run), (15, S_search_Search_Step), (17, S_search_Search_Verdict), (10, Z_copsekeep_Ask_Query), (9, Z_copsekeep_Forest_Model), (14, Z_search_New)] [(9, ⟨[4, 10, 15, 16, 17, 18, 19], [15, 16, 41, 44, 500, 501, 502, 503], [⟨.cell 41 23, 500, 30, true, kBox⟩, ⟨.cell 41 24, 501, 82, true, kStep⟩, ⟨.cell 44 23, 502, 30, true, kBox⟩, ⟨.cell 44 24, 503, 82, true, kStep⟩]⟩), (15, ⟨[10, 15, 16, 17, 18, 20], [15, 16, 41, 44, 500, 501, 502, 503], [⟨.cell 41 23, 500, 30, true, kBox⟩, ⟨.cell 41 24, 501, 82, true, kStep⟩, ⟨.cell 44 23, 502, 30, true, kBox⟩, ⟨.cell 44 24, 503, 82, true, kStep⟩]⟩)] S_copselaw22_SearchTwo [[.bool]] Try.func5 h_copselaw22_SearchTwo ⟨snd_copsekeep_Verdicts, snd_copselaw22_SearchRuns, snd_search_Run, snd_search_Search_Step, snd_search_Search_Verdict, sndZ_copsekeep_Ask_Query, sndZ_copsekeep_Forest_Model, sndZ_search_New, trivial⟩ ?_
  intro vs r hwf h
  unfold S_copselaw22_SearchTwo at h
  split at h
  · rename_i f g a b l
    replace h := withF_get h
    obtain ⟨f, rfl, h⟩ := h
    replace h := withF_get h
    obtain ⟨g, rfl, h⟩ := h
    replace h := withA_get h
    obtain ⟨a, rfl, h⟩ := h
    replace h := withA_get h
    obtain ⟨b, rfl, h⟩ := h
    rw [R.get_ok] at h
    refine ⟨1000, ?_⟩
    rw [← h]
    refine (nf_two_1 1000 f g a b l).trans ?_
    have hq := ask_right f a (w := 200) (by omega) (by omega)
    have hr := ask_right g b (w := 200) (by omega) (by omega)
    rw [M_okDC, condT, M_okDC, condT, nf_two_2, hq, condT, hr, condT]
    have bq : ((askQ0 a f.M).bud 200).bu ≤ 200 := Int.le_refl _
    have br : ((askQ0 b g.M).bud 200).bu ≤ 200 := Int.le_refl _
    generalize (askQ0 a f.M).bud 200 = q at hq bq ⊢
    generalize (askQ0 b g.M).bud 200 = r at hr br ⊢
    exact two_run_1 1000 (by omega) l f.M g.M q r _ _ bq br 60 1000 0 _ _ _ _ (jn_new hq) (jn_new hr) rfl (by omega)
  · simp [R.get] at h
end Go.FM

/-
  FROM A ROW's PREMISES TO WHAT THE SMALL MACHINE ASKS OF THE PACKAGE-LEVEL VARIABLES; a call out of the row's world.
-/
namespace Go.FM
open Go Go.Proofs Go.RowKit

set_option maxRecDepth 100000 in
theorem heap_of_var {P : Program} {w : World} {name : String} {g : Nat} {cs : Array Value} (hn : P.globalNamed name = some g) (hv : w.var? P name = some cs) : ∃ T fr, w.heap[g]? = some (.cells cs T fr) := by
  unfold World.var? at hv
  rw [hn] at hv
  simp only [Option.bind_some] at hv
  split at hv
  · rename_i c T fr hh
    simp only [Option.some.injEq] at hv
    subst hv
    exact ⟨T, fr, hh⟩
  · cases hv

set_option maxRecDepth 100000 in
theorem err_cell {w : World} {name : String} {g t : Nat} {ms : Array (String × TypeId)} {tn : String} {d : DataW Unit} (h : Lib.VarReads Try.prog w name (.iface tn d)) (hn : Try.prog.globalNamed name = some g)
    (ht : (Try.prog.globals[g]?).map (·.type) = some t) (hu : Try.prog.underlying t = some (.interface ms)) : ∃ c T fr te pe, w.heap[g]? = some (.cells c T fr) ∧ c[0]? = some (.iface te pe) := by
  obtain ⟨g', t', cs, fuel, p, h1, h2, h3, h4⟩ := h
  obtain rfl := Option.some.inj (hn.symm.trans h1)
  obtain rfl := Option.some.inj (ht.symm.trans h2)
  obtain ⟨f', u, v, hcs, _, _⟩ := iface_of_trod hu h4
  obtain ⟨T, fr, hh⟩ := heap_of_var hn h3
  refine ⟨cs, T, fr, u, v, hh, ?_⟩
  have : cs = #[.iface u v] := by
    apply Array.ext'
    rw [hcs]
  rw [this]
  rfl

set_option maxRecDepth 100000 in
theorem glob_row {W : World} {l : List (String × DataW Unit)} (hL : laidMet Try.prog l W) (hsh : W.ShapedOpen Try.prog)
    : Glob B0 W := by
  have hz : ∀ g, g < 0 → g < Try.prog.globals.size → g < W.heap.size := fun g _ hg => by
    have hb : ((List.range Try.prog.globals.size).all fun g => (((begin Try.prog (fun _ _ => 0) default).world.heap[g]?).bind Obj.row?).isSome) = true := by kernel_rfl
    have := List.all_eq_true.1 hb g (List.mem_range.2 hg)
    obtain ⟨⟨z, t⟩, hz⟩ := Option.isSome_iff_exists.1 this
    obtain ⟨cs, hh, _⟩ := hsh.1 g z t hg hz
    exact (Array.getElem?_eq_some_iff.1 hh).1
  have hsize : 0 ≤ W.heap.size := by
    first
    | exact Nat.zero_le _
    | (have := hz (0 - 1) (by decide) (of_decide_eq_true (by kernel_rfl))
       omega)
  have low : ∀ {g : Nat}, g < 0 → (fun b => if b < B0.ng then W.heap[b]? else none) g = W.heap[g]? := fun h => if_pos (show _ < B0.ng from h)
  refine ⟨hsize, ?_⟩
  show GF _
  constructor
  first | exact trivial | skip

/-! ### a call out of the row's world -/
def X0 : Zone := ⟨fun _ => False, fun _ => False⟩
def γ0 : Nat → Value := fun _ => .nilIface
abbrev O0 : Nat → Prop := Owned X0 γ0 []
set_option maxRecDepth 100000 in
theorem O0_no (b : Nat) : ¬ O0 b := by
  rintro (⟨n, ob, h, _⟩ | h)
  · simp [objOf, lkd] at h
  · exact h

set_option maxRecDepth 100000 in
theorem rel0 (W : World) : Rel B0.base 0 W X0 γ0 ⟨[], []⟩ act0 W := by
  have no : ∀ n ob, objOf ([] : Store) n ≠ some ob := fun n ob h => by simp [objOf, lkd] at h
  refine ⟨rfl, rfl, fun i => by simp only [St.get, lkd, VRel], fun n ob h => absurd h (no n ob), fun b h => ?_, fun n m ob ob' b _ h => absurd h (no n ob), Keep.refl _ _, fun b h => ?_, fun b h => h.elim, fun p _ ob h => absurd h (no _ ob)⟩
  · obtain ⟨n, ob, h, _⟩ := h
    exact absurd h (no n ob)
  · obtain ⟨n, ob, h, _⟩ := h
    exact absurd h (no n ob)

set_option maxRecDepth 100000 in
theorem calls_of_does {f : Nat} {fn : Func} (hf : PR.funcs[f]? = some fn) (hn : (fn.name == "runtime.NumGoroutine") = false) (hb : fn.body.isNone = false) {xs : List Value} {w : World} {R : Ending → World → Prop} (h : Does PR f xs w R) : Calls PR f xs.toArray w R := by
  have : (callFunc f xs.toArray).run PR w = .ok (.enter f xs.toArray) w := by
    unfold callFunc
    have hn' : ¬ fn.name = "runtime.NumGoroutine" := by simpa using hn
    have hb' : ¬ fn.body = none := fun h => by rw [h] at hb; cases hb
    simp [hf, hn', hb']
  unfold Does at h
  rw [this] at h
  exact h

set_option maxRecDepth 100000 in
/-- A law's call: true, and nothing that was there has turned. -/
theorem calls_true {f : Nat} {fn : Func} {sp : RSpec} (hS : SndR PR B0 f sp) (hf : PR.funcs[f]? = some fn) (hn : (fn.name == "runtime.NumGoroutine") = false) (hb : fn.body.isNone = false) {vs : List V} {xs : List Value} {W : World}
    (hsp : (sp vs).get = some (.bool true, [])) (hbor : borOf vs = none) (hG : Glob B0 W) (hV : VRels γ0 [] W O0 (vs.map entV) xs) :
    Calls PR f xs.toArray W fun e w' => e = .returned (.bool true) ∧ Below W.heap.size W w' := by
  refine calls_of_does hf hn hb ?_
  have em : memIn vs = [] := by unfold memIn; rw [hbor]
  refine Does.mono (hS W X0 γ0 vs xs (.bool true) [] hsp hG (fun b h => h.elim) (by rw [em]; exact rel0 W) (by rw [em]; exact hV)) ?_
  rintro e w' ⟨x, rfl, γ', hR, hx, _⟩
  simp only [retV, entV, VRel] at hx
  subst hx
  exact ⟨rfl, hR.keep.os, hR.keep.tape, hR.keep.output, hR.keep.size, fun b hb => hR.keep.block b hb (fun h => h)⟩

end Go.FM

/-
  WHAT A ROW's READING OF AN ARGUMENT SAYS OF ITS CELLS, as the small machine asks it; of no program.
-/
namespace Go.FM
open Go

def agT (P : Program) (e : TypeId) : Bool := match P.underlying e with | some (.struct _) => true | some (.array _ _) => true | _ => false
def kdPs (f : TypeId → Option (List Kd)) (cell : TypeId → Nat) : Nat → List (TypeId × Nat) → Option (List Kd)
  | _, [] => some []
  | off, (t, o) :: r => match Nat.beq o off with
    | true => match f t with
      | some ks => match Nat.beq (cell t) ks.length with
        | true => match kdPs f cell (off + ks.length) r with
          | some ks' => some (ks ++ ks')
          | none => none
        | false => none
      | none => none
    | false => none
/-- The kinds of a type's cells. -/
def kdT (P : Program) : Nat → TypeId → Option (List Kd)
  | 0, _ => none
  | n + 1, t => match P.underlying t with
    | some .bool => some [.bool]
    | some (.int k) => some [.int k]
    | some .string => some [.str]
    | some (.slice e) => match kdT P n e with
      | some ks => match Nat.ble 1 (P.bytesOf e) && (Nat.beq (P.cellsOf e) ks.length && (Nat.ble 1 ks.length && (agT P e || Nat.beq ks.length 1))) with
        | true => some [.list (agT P e) ks]
        | false => none
      | none => none
    | some (.struct fs) => match kdPs (kdT P n) P.cellsOf 0 (fs.toList.map fun f => (f.type, f.offset)) with
      | some ks => match Nat.beq (P.cellsOf t) ks.length with | true => some ks | false => none
      | none => none
    | some (.array m e) => match kdPs (kdT P n) P.cellsOf 0 ((List.range m).map fun i => (e, i * P.cellsOf e)) with
      | some ks => match Nat.beq (P.cellsOf t) ks.length with | true => some ks | false => none
      | none => none
    | _ => none

def CellsK (w : World) (O : Nat → Prop) : List Kd → List IV → List Value → Prop
  | [], [], [] => True
  | k :: ks, x :: f, v :: cs => Kd.Rel w O k x v ∧ CellsK w O ks f cs
  | _, _, _ => False

section
variable {w : World} {O : Nat → Prop}
set_option maxRecDepth 100000 in
theorem CellsK.append : ∀ {ks : List Kd} {f : List IV} {cs : List Value} {ks' : List Kd} {f' : List IV} {cs' : List Value}, CellsK w O ks f cs → CellsK w O ks' f' cs' → CellsK w O (ks ++ ks') (f ++ f') (cs ++ cs')
  | [], [], [], _, _, _, _, h' => h'
  | _ :: ks, _ :: f, _ :: cs, _, _, _, h, h' => by
    simp only [CellsK] at h
    simp only [List.cons_append, CellsK]
    exact ⟨h.1, h.2.append h'⟩
  | [], _ :: _, _, _, _, _, h, _ => by simp [CellsK] at h
  | [], [], _ :: _, _, _, _, h, _ => by simp [CellsK] at h
  | _ :: _, [], _, _, _, _, h, _ => by simp [CellsK] at h
  | _ :: _, _ :: _, [], _, _, _, h, _ => by simp [CellsK] at h
set_option maxRecDepth 100000 in
theorem CellsK.get : ∀ {ks : List Kd} {f : List IV} {cs : List Value}, CellsK w O ks f cs → ∀ (j : Nat) (k : Kd), ks[j]? = some k → ∃ v, cs[j]? = some v ∧ Kd.Rel w O k (nth f j) v
  | [], _, _, _, j, k, h => by simp at h
  | k :: ks, x :: f, v :: cs, h, j, k', hj => by
    simp only [CellsK] at h
    cases j with
    | zero =>
      simp only [List.getElem?_cons_zero, Option.some.injEq] at hj
      subst hj
      exact ⟨v, rfl, by simpa only [nth] using h.1⟩
    | succ j =>
      obtain ⟨u, h1, h2⟩ := h.2.get j k' (by simpa using hj)
      exact ⟨u, by simpa using h1, by simpa only [nth] using h2⟩
  | _ :: _, [], _, h, _, _, _ => by simp [CellsK] at h
  | _ :: _, _ :: _, [], h, _, _, _ => by simp [CellsK] at h

set_option maxRecDepth 100000 in
theorem choose_list {α : Type} {Q : Nat → α → Prop} : ∀ n, (∀ i, i < n → ∃ x, Q i x) → ∃ L : List α, L.length = n ∧ ∀ i x, L[i]? = some x → Q i x
  | 0, _ => ⟨[], rfl, fun i x h => by simp at h⟩
  | n + 1, h => by
    obtain ⟨L, hl, hL⟩ := choose_list n (fun i hi => h i (by omega))
    obtain ⟨x, hx⟩ := h n (by omega)
    refine ⟨L ++ [x], by simp [hl], fun i y hy => ?_⟩
    rw [List.getElem?_append] at hy
    split at hy
    · exact hL i y hy
    · rename_i hi
      have : i - L.length = 0 := by
        rcases Nat.eq_zero_or_pos (i - L.length) with e | e
        · exact e
        · rw [List.getElem?_eq_none (by simp; omega)] at hy
          cases hy
      rw [this] at hy
      simp only [List.getElem?_cons_zero, Option.some.injEq] at hy
      subst hy
      have : i = n := by omega
      subst this
      exact hx
end

set_option maxRecDepth 100000 in
theorem mem_each {H : Type} {P : Program} : ∀ {ts : List TypeId} {ds : List (DataW H)} {i : Nat} {t : TypeId} {d : DataW H}, ts[i]? = some t → ds[i]? = some d → ∀ y ∈ d.weights P t, y ∈ DataW.weightsEach P ts ds
  | [], _, i, _, _, h, _, _, _ => by simp at h
  | _ :: _, [], i, _, _, _, h, _, _ => by simp at h
  | t0 :: ts, d0 :: ds, 0, t, d, h, h', y, hy => by
    simp only [List.getElem?_cons_zero, Option.some.injEq] at h h'
    subst h; subst h'
    simp only [DataW.weightsEach, List.mem_append]
    exact .inl hy
  | t0 :: ts, d0 :: ds, i + 1, t, d, h, h', y, hy => by
    simp only [DataW.weightsEach, List.mem_append]
    exact .inr (mem_each (by simpa using h) (by simpa using h') y hy)
set_option maxRecDepth 100000 in
theorem mem_allW {H : Type} {P : Program} {e : TypeId} : ∀ {ds : List (DataW H)} {d : DataW H}, d ∈ ds → ∀ y ∈ d.weights P e, y ∈ DataW.weightsAll P e ds
  | [], _, h, _, _ => by cases h
  | d0 :: ds, d, h, y, hy => by
    simp only [DataW.weightsAll, List.mem_append]
    rcases List.mem_cons.1 h with rfl | h
    · exact .inl hy
    · exact .inr (mem_allW h y hy)

section
variable {H : Type} {enc : TypeId × Value → H} {P : Program} {w : World} {base : Nat} {sp : Nat → Bool} {held : Bool} {O : Nat → Prop}

set_option maxRecDepth 100000 in
theorem parts_cells {f : TypeId → Option (List Kd)} {n : Nat} {cs : List Value}
    (ih : ∀ (t : TypeId) (ks : List Kd) (cs : List Value) (d : DataW H) (p : List MemPlace), f t = some ks → DataW.trod enc P w base sp held n t cs = some (d, p) → (∀ y ∈ d.weights P t, y ≤ reachBytes) → ∃ g, CellsK w O ks g cs) :
    ∀ (parts : List (TypeId × Nat)) (off : Nat) (ks : List Kd) (xs : List (DataW H × List MemPlace)), kdPs f P.cellsOf off parts = some ks → xs.length = parts.length →
      (∀ (i : Nat) (t : TypeId) (o : Nat), parts[i]? = some (t, o) → DataW.trod enc P w base sp held n t ((cs.drop o).take (P.cellsOf t)) = xs[i]?) →
      (∀ (i : Nat) (t : TypeId) (o : Nat) (x : DataW H × List MemPlace), parts[i]? = some (t, o) → xs[i]? = some x → ∀ y ∈ x.1.weights P t, y ≤ reachBytes) → ∃ g, CellsK w O ks g ((cs.drop off).take ks.length)
  | [], off, ks, xs, h, _, _, _ => by
    simp only [kdPs, Option.some.injEq] at h
    subst h
    exact ⟨[], by simp only [List.length_nil, List.take_zero, CellsK]⟩
  | (t, o) :: r, off, ks, [], h, hl, _, _ => by simp at hl
  | (t, o) :: r, off, ks, x :: xs, h, hl, ht, hw => by
    simp only [kdPs] at h
    split at h
    case h_2 => cases h
    rename_i ho
    obtain rfl := Nat.eq_of_beq_eq_true ho
    split at h
    case h_2 => cases h
    rename_i k1 hk1
    split at h
    case h_2 => cases h
    rename_i hc
    have hc := Nat.eq_of_beq_eq_true hc
    split at h
    case h_2 => cases h
    rename_i k2 hk2
    simp only [Option.some.injEq] at h
    subst h
    have h0 := ht 0 t o rfl
    simp only [List.getElem?_cons_zero] at h0
    obtain ⟨d, p⟩ := x
    obtain ⟨g1, hg1⟩ := ih t k1 _ d p hk1 h0 (hw 0 t o (d, p) rfl rfl)
    obtain ⟨g2, hg2⟩ := parts_cells ih r (o + k1.length) k2 xs hk2 (by simpa using hl) (fun i t' o' hi => by simpa using ht (i + 1) t' o' (by simpa using hi)) (fun i t' o' x hi hx => hw (i + 1) t' o' x (by simpa using hi) (by simpa using hx))
    refine ⟨g1 ++ g2, ?_⟩
    rw [List.length_append, List.take_add, List.drop_drop]
    rw [hc] at hg1
    exact hg1.append hg2


set_option maxRecDepth 100000 in
theorem spot_of {a : Addr} {v : Value} (h : w.cell? a = some v) : a.spot = none ∧ a.block < w.heap.size := by
  unfold World.cell? at h
  split at h
  · rename_i c _ _ hc
    split at h
    · cases h
    · rename_i hs
      exact ⟨by simpa using hs, (Array.getElem?_eq_some_iff.1 hc).1⟩
  · cases h

set_option maxRecDepth 100000 in
theorem trod_kd (hO : ∀ b, ¬ O b) : ∀ (n : Nat) (t : TypeId) (ks : List Kd) (fuel : Nat) (cs : List Value) (d : DataW H) (p : List MemPlace), kdT P n t = some ks →
    DataW.trod enc P w base sp held fuel t cs = some (d, p) → (∀ y ∈ d.weights P t, y ≤ reachBytes) → ∃ g, CellsK w O ks g cs
  | 0, _, _, _, _, _, _, h, _, _ => by simp [kdT] at h
  | n + 1, t, ks, fuel, cs, d, p, h, ht, hw => by
    simp only [kdT] at h
    split at h
    · rename_i hu
      simp only [Option.some.injEq] at h
      subst h
      obtain ⟨b, rfl, _⟩ := DataW.trod_bool hu ht
      exact ⟨[.bool b], by simp only [CellsK, Kd.Rel, IV.toBool, and_self]⟩
    · rename_i k hu
      simp only [Option.some.injEq] at h
      subst h
      obtain ⟨m, rfl, _, hm⟩ := DataW.trod_int hu ht
      simp only [Lit.wf, Bool.and_eq_true, decide_eq_true_eq] at hm
      exact ⟨[.int m], by simp only [CellsK, Kd.Rel, IV.toInt, and_true, true_and]; exact hm⟩
    · rename_i hu
      simp only [Option.some.injEq] at h
      subst h
      obtain ⟨s, rfl, hd, hs⟩ := DataW.trod_string hu ht
      simp only [Prod.mk.injEq] at hd
      refine ⟨[.str s], ?_⟩
      simp only [CellsK, Kd.Rel, IV.toStr, and_true, true_and]
      rw [hd.1] at hw
      have := hw s.data.toList.length (by simp [DataW.weights])
      have e : s.data.toList.length = s.size := by rw [Array.length_toList]; rfl
      rw [e] at this
      unfold reachBytes at this
      unfold strMax
      omega
    · rename_i e hu
      split at h
      case h_2 => cases h
      rename_i k1 hk1
      split at h
      case h_2 => cases h
      rename_i hc
      simp only [Option.some.injEq] at h
      subst h
      simp only [Bool.and_eq_true, Bool.or_eq_true] at hc
      obtain ⟨hb, hce, hk0, hag⟩ := hc
      have hb := Nat.le_of_ble_eq_true hb
      have hce := Nat.eq_of_beq_eq_true hce
      have hk0 := Nat.le_of_ble_eq_true hk0
      rcases DataW.trod_slice hu ht with ⟨rfl, _⟩ | ⟨a, len, cap, elems, rest, m, _, rfl, hx, _, hlc, hcap, hlen, hel, _⟩
      · refine ⟨[.list []], ?_⟩
        simp only [CellsK, Kd.Rel, IV.toList, and_true]
        exact ⟨none, 0, rfl, Nat.le_refl _, Nat.zero_le _, Nat.zero_le _, fun i y hi => by simp at hi⟩
      · simp only [Prod.mk.injEq] at hx
        obtain ⟨rfl, _⟩ := hx
        simp only [DataW.weights, hu, List.mem_cons, List.mem_append] at hw
        have hsz : len ≤ strMax := by
          have := hw _ (.inl rfl)
          rw [List.length_map, hlen] at this
          have h1 : len * 1 ≤ (len + (rest.map (·.1)).length) * P.bytesOf e := Nat.mul_le_mul (by omega) hb
          unfold reachBytes at this
          unfold strMax
          omega
        have hex : ∀ i, i < len → ∃ g : List IV, ∃ ci, w.cells? base (a.add (i * k1.length)) k1.length = some ci ∧ CellsK w O k1 g ci := by
          intro i hi
          have h1 := hel i hi
          have hi' : i < elems.length := by omega
          rw [List.getElem?_eq_getElem hi', hce] at h1
          simp only [Option.bind_eq_some_iff] at h1
          obtain ⟨ci, h2, h3⟩ := h1
          obtain ⟨g, hg⟩ := trod_kd hO n e k1 m ci elems[i].1 elems[i].2 hk1 h3 (fun y hy => hw y (.inr (.inl (mem_allW (List.mem_map_of_mem (List.getElem_mem hi')) y hy))))
          exact ⟨g, ci, h2, hg⟩
        obtain ⟨L, hL, hLi⟩ := choose_list len hex
        refine ⟨[.list (L.map fun g => match agT P e with | true => IV.agg g | false => nth g 0)], ?_⟩
        simp only [CellsK, Kd.Rel, IV.toList, and_true, List.length_map, hL]
        refine ⟨some a, cap, rfl, hlc, hcap, hsz, fun i y hi => ?_⟩
        rw [List.getElem?_map, Option.map_eq_some_iff] at hi
        obtain ⟨g, hg, rfl⟩ := hi
        obtain ⟨ci, hci, hgc⟩ := hLi i g hg
        have hil : i < len := by rw [← hL]; exact (List.getElem?_eq_some_iff.1 hg).1
        -- the first cell of the row
        have cellAt : ∀ j k, k1[j]? = some k → ∃ u, w.cell? ((a.add (i * k1.length)).add j) = some u ∧ Kd.Rel w O k (nth g j) u := by
          intro j k hk
          obtain ⟨u, h1, h2⟩ := hgc.get j k hk
          refine ⟨u, ?_, h2⟩
          have hj : j < k1.length := (List.getElem?_eq_some_iff.1 hk).1
          unfold World.cells? at hci
          split at hci
          · obtain ⟨b, hb1, hb2⟩ := Lib.mapM_at hci j j (by simp [hj])
            rw [h1] at hb1
            simp only [Option.some.injEq] at hb1
            rw [hb2, hb1]
          · cases hci
        have hspot : a.spot = none ∧ a.block < w.heap.size := by
          obtain ⟨g0, hg0⟩ : ∃ g0, L[0]? = some g0 := ⟨L[0]'(by omega), List.getElem?_eq_getElem (by omega)⟩
          obtain ⟨c0, hc0, hgc0⟩ := hLi 0 g0 hg0
          obtain ⟨u, h1, _⟩ := hgc0.get 0 k1[0] (List.getElem?_eq_getElem (by omega))
          unfold World.cells? at hc0
          split at hc0
          · obtain ⟨b, _, hb2⟩ := Lib.mapM_at hc0 0 0 (List.getElem?_range (show 0 < k1.length by omega))
            have := spot_of hb2
            rw [Nat.zero_mul] at this
            simpa [Addr.add] using this
          · cases hc0
        obtain ⟨ab, ao, asp⟩ := a
        obtain ⟨hs1, hs2⟩ := hspot
        simp only at hs1 hs2
        subst hs1
        refine ⟨ab, ao, rfl, hO ab, hs2, ?_⟩
        rw [Kd.RelAll_iff]
        intro j k hk
        obtain ⟨u, h1, h2⟩ := cellAt j k hk
        rw [Lib.add_plain, Lib.add_plain] at h1
        rw [Nat.zero_add]
        refine ⟨u, h1, ?_⟩
        cases hat : agT P e with
        | true =>
          show Kd.Rel w O k (nth g j) u
          exact h2
        | false =>
          rw [hat] at hag
          have h1l : k1.length = 1 := Nat.eq_of_beq_eq_true (by simpa using hag)
          have hj : j < k1.length := (List.getElem?_eq_some_iff.1 hk).1
          have : j = 0 := by omega
          subst this
          exact h2
    · rename_i fs hu
      split at h
      case h_2 => cases h
      rename_i k1 hk1
      split at h
      case h_2 => cases h
      rename_i hc
      have hc := Nat.eq_of_beq_eq_true hc
      simp only [Option.some.injEq] at h
      subst h
      obtain ⟨xs, m, _, hx, hcl, hxl, hall⟩ := DataW.trod_struct hu ht
      simp only [Prod.mk.injEq] at hx
      obtain ⟨rfl, _⟩ := hx
      simp only [DataW.weights, hu] at hw
      have key := parts_cells (enc := enc) (P := P) (w := w) (base := base) (sp := sp) (held := held) (O := O) (f := kdT P n) (n := m) (cs := cs) (fun t ks cs d p h1 h2 h3 => trod_kd hO n t ks m cs d p h1 h2 h3) (fs.toList.map fun f => (f.type, f.offset)) 0 k1 xs hk1 (by simp [hxl]) (fun i t o hi => by
          rw [List.getElem?_map, Option.map_eq_some_iff] at hi
          obtain ⟨f, hf, he⟩ := hi
          simp only [Prod.mk.injEq] at he
          obtain ⟨rfl, rfl⟩ := he
          exact hall i f (by simpa using hf)) (fun i t o x hi hx y hy => by
          rw [List.getElem?_map, Option.map_eq_some_iff] at hi
          obtain ⟨f, hf, he⟩ := hi
          simp only [Prod.mk.injEq] at he
          obtain ⟨rfl, rfl⟩ := he
          exact hw y (mem_each (i := i) (by rw [List.getElem?_map, hf]; rfl) (by rw [List.getElem?_map, hx]; rfl) y hy))
      obtain ⟨g, hg⟩ := key
      rw [List.drop_zero, List.take_of_length_le (by omega)] at hg
      exact ⟨g, hg⟩
    · rename_i m0 e hu
      split at h
      case h_2 => cases h
      rename_i k1 hk1
      split at h
      case h_2 => cases h
      rename_i hc
      have hc := Nat.eq_of_beq_eq_true hc
      simp only [Option.some.injEq] at h
      subst h
      obtain ⟨xs, m, _, hx, hcl, hxl, hall⟩ := DataW.trod_array hu ht
      simp only [Prod.mk.injEq] at hx
      obtain ⟨rfl, _⟩ := hx
      simp only [DataW.weights, hu] at hw
      have key := parts_cells (enc := enc) (P := P) (w := w) (base := base) (sp := sp) (held := held) (O := O) (f := kdT P n) (n := m) (cs := cs) (fun t ks cs d p h1 h2 h3 => trod_kd hO n t ks m cs d p h1 h2 h3) ((List.range m0).map fun i => (e, i * P.cellsOf e)) 0 k1 xs hk1 (by simp [hxl]) (fun i t o hi => by
          rw [List.getElem?_map, Option.map_eq_some_iff] at hi
          obtain ⟨f, hf, he⟩ := hi
          simp only [Prod.mk.injEq] at he
          obtain ⟨rfl, rfl⟩ := he
          have hfi := List.getElem?_eq_some_iff.1 hf
          obtain ⟨hl, he⟩ := hfi
          rw [List.getElem_range] at he
          subst he
          exact hall i (by simpa using hl)) (fun i t o x hi hx y hy => by
          rw [List.getElem?_map, Option.map_eq_some_iff] at hi
          obtain ⟨f, hf, he⟩ := hi
          simp only [Prod.mk.injEq] at he
          obtain ⟨rfl, rfl⟩ := he
          exact hw y (mem_allW (List.mem_map_of_mem (List.mem_of_getElem? hx)) y hy))
      obtain ⟨g, hg⟩ := key
      rw [List.drop_zero, List.take_of_length_le (by omega)] at hg
      exact ⟨g, hg⟩
    · cases h

end
end Go.FM

/-
  A LAW's ROW: out of what the small machine says of the law's function; over this program.
-/
namespace Go.FM
open Go Go.Proofs Go.RowKit Go.ChangeShapes Go.WideShapes

/-! ### arguments -/
def vOf : Kd → IV → V
  | .int k, x => .int k x.toInt
  | .bool, x => .bool x.toBool
  | .str, x => .str x.toStr
  | .list ag ks, x => .list ag ks x.toList
set_option maxRecDepth 100000 in
theorem vOf_rel {γ : Nat → Value} {o : Store} {w : World} {O : Nat → Prop} {k : Kd} {x : IV} {v : Value} (h : Kd.Rel w O k x v) : VRel γ o w O (vOf k x) v := by
  cases k with
  | int k => simpa only [vOf, VRel, Kd.Rel] using h
  | bool => simpa only [vOf, VRel, Kd.Rel] using h
  | str => simpa only [vOf, VRel, Kd.Rel] using h
  | list ag ks =>
    simp only [vOf, VRel]
    simpa only [Kd.Rel, IV.toList] using h
def vsOf : List Kd → List IV → List V
  | k :: ks, x :: f => vOf k x :: vsOf ks f
  | _, _ => []
set_option maxRecDepth 100000 in
theorem vsOf_rel {γ : Nat → Value} {o : Store} {w : World} {O : Nat → Prop} : ∀ {ks : List Kd} {f : List IV} {cs : List Value}, CellsK w O ks f cs → VRels γ o w O (vsOf ks f) cs
  | [], [], [], _ => by simp only [vsOf, VRels]
  | _ :: _, _ :: _, _ :: _, h => by
    simp only [CellsK] at h
    simp only [vsOf, VRels]
    exact ⟨vOf_rel h.1, vsOf_rel h.2⟩
  | [], _ :: _, _, h => by simp [CellsK] at h
  | [], [], _ :: _, h => by simp [CellsK] at h
  | _ :: _, [], _, h => by simp [CellsK] at h
  | _ :: _, _ :: _, [], h => by simp [CellsK] at h
set_option maxRecDepth 100000 in
theorem CellsK.len {w : World} {O : Nat → Prop} : ∀ {ks : List Kd} {f : List IV} {cs : List Value}, CellsK w O ks f cs → f.length = ks.length
  | [], [], [], _ => rfl
  | _ :: _, _ :: _, _ :: _, h => by
    simp only [CellsK] at h
    simp only [List.length_cons, h.2.len]
  | [], _ :: _, _, h => by simp [CellsK] at h
  | [], [], _ :: _, h => by simp [CellsK] at h
  | _ :: _, [], _, h => by simp [CellsK] at h
  | _ :: _, _ :: _, [], h => by simp [CellsK] at h

section
variable {H : Type} {enc : TypeId × Value → H} {P : Program} {W : World} {base b0 : Nat} {sp : Nat → Bool} {held : Bool}
set_option maxRecDepth 100000 in
/-- A struct. -/
theorem arg_agg {n : Nat} {t : TypeId} {ks : List Kd} {v : Value} {d : DataW H} {p : List MemPlace} (hk : kdT P n t = some ks) (hu : agT P t = true) (hval : Value.okWide P W .any base t v)
    (h : DataW.Trod enc P W b0 sp held t v d p) (hw : ∀ y ∈ d.weights P t, y ≤ reachBytes) : ∃ g : List IV, g.length = ks.length ∧ VRel γ0 [] W O0 (.agg (vsOf ks g)) v := by
  obtain ⟨cs, rfl⟩ : ∃ cs, v = .agg cs := by
    unfold agT at hu
    unfold Value.okWide at hval
    split at hu
    · rename_i hh; rw [hh] at hval; exact hval.imp (fun _ h => h.1)
    · rename_i hh; rw [hh] at hval; exact hval.imp (fun _ h => h.1)
    · cases hu
  obtain ⟨fuel, hf⟩ := h
  obtain ⟨g, hg⟩ := trod_kd (O := O0) O0_no n t ks fuel _ d p hk hf hw
  refine ⟨g, hg.len, ?_⟩
  simp only [VRel]
  exact ⟨cs, rfl, vsOf_rel hg⟩
set_option maxRecDepth 100000 in
/-- A value of one cell. -/
theorem arg_one {n : Nat} {t : TypeId} {k : Kd} {v : Value} {d : DataW H} {p : List MemPlace} (hk : kdT P n t = some [k]) (hu : agT P t = false) (hval : Value.okWide P W .any base t v)
    (h : DataW.Trod enc P W b0 sp held t v d p) (hw : ∀ y ∈ d.weights P t, y ≤ reachBytes) : ∃ x : IV, VRel γ0 [] W O0 (vOf k x) v := by
  obtain ⟨fuel, hf⟩ := h
  obtain ⟨g, hg⟩ := trod_kd (O := O0) O0_no n t [k] fuel _ d p hk hf hw
  have hc : v.cells.toList = [v] := by
    cases v with
    | agg cs =>
      exfalso
      unfold agT at hu
      unfold Value.okWide at hval
      split at hu
      · cases hu
      · cases hu
      · rename_i h1 h2
        split at hval
        · rename_i hh; exact h1 _ hh
        · rename_i hh; exact h2 _ _ hh
        · unfold Cell.okWide Cell.ok at hval
          split at hval <;> first | (split at hval <;> simp_all) | simp_all
    | _ => rfl
  rw [hc] at hg
  match g, hg with
  | [x], hg =>
    simp only [CellsK, and_true] at hg
    exact ⟨x, vOf_rel hg⟩

set_option maxRecDepth 100000 in
theorem trodAll_below (hl : laidOutB P = true) {W' : World} (hb : Below W.heap.size W W') : ∀ {ts : List TypeId} {vs : List Value} {ds : List (DataW H)} {ps : List MemPlace}, DataW.TrodAll enc P W 0 (fun _ => true) true ts vs ds ps →
    (∀ t ∈ ts, P.readableRec t = true ∧ t < P.types.size) → (∀ x ∈ ps, x.block < W.heap.size) → DataW.TrodAll enc P W' 0 (fun b => decide (b < W.heap.size)) true ts vs ds ps
  | [], vs, ds, ps, h, _, _ => by
    obtain ⟨rfl, rfl, rfl⟩ := trodAll_nil h
    rfl
  | t :: ts, vs, ds, ps, h, ht, hp => by
    obtain ⟨v, vs1, d, ds1, a, b, rfl, rfl, rfl, h1, h2⟩ := trodAll_cons h
    have hh := ht t (List.mem_cons_self ..)
    exact ⟨a, b, Below.trod hl hh.1 hh.2 h1 hb (fun x hx => hp x (List.mem_append.2 (.inl hx))), trodAll_below hl hb h2 (fun t' h' => ht t' (List.mem_cons_of_mem _ h')) (fun x hx => hp x (List.mem_append.2 (.inr hx))), rfl⟩
end

set_option maxRecDepth 100000 in
theorem seatOwn : ownKnob Try.prog.godebug = none := by kernel_rfl
set_option maxRecDepth 100000 in
theorem seatLaidOut : laidOutB Try.prog = true := by kernel_rfl

set_option maxRecDepth 100000 in
/-- A law's row: the call is true whatever comes. -/
theorem law_lifted {os : Os} (started : os.Started) {H : Type} {enc : TypeId × Value → H} {spec : ChangeSpec} {f : Nat} {fn : Func} {sp : RSpec} {laid : List (String × DataW Unit)} (hS : SndR PR B0 f sp) (hf : Try.prog.funcs[f]? = some fn)
    (hn : (fn.name == "runtime.NumGoroutine") = false) (hb : fn.body.isNone = false) (hini : Try.prog.inits.idxOf? f = none) (hres : fn.resultTypes = #[4]) (hvars : spec.vars = [])
    (hspec : ∀ (ds : List (DataW H)), ds.length = fn.params.toList.length → spec.fn H ds = { results := [.lit (.bool true)], args := ds })
    (hpar : fn.params.toList.all (fun t => Try.prog.readableRec t && decide (t < Try.prog.types.size)) = true)
    (hglob : ∀ W : World, laidMetH Try.prog laid W → W.ShapedOpen Try.prog → Glob B0 W)
    (witness : ∃ (w : World) (tape : Tape) (i : Input), w.os = os ∧ (w.forCall tape i).Shaped Try.prog ∧ i.vars = [] ∧ Input.okWide Try.prog (w.forCall tape i) .any w.heap.size f i ∧
      (OpenSpec.ofChange spec).preRow enc Try.prog fn [] false laid (w.forCall tape i).memory i.args ∧ ({} : Assume).holds Try.prog (lone (Frame.enter Try.prog f i.args .normal) [] (w.forCall tape i)))
    (harg : ∀ (W : World) (base : Nat) (vs : List Value) (ds : List (DataW H)) (p : List MemPlace), DataW.TrodAll enc Try.prog W 0 (fun _ => true) true fn.params.toList vs ds p →
      (∀ (j : Nat) t v, fn.params.toList[j]? = some t → vs[j]? = some v → Value.okWide Try.prog W .any base t v) →
      (∀ (j : Nat) t d, fn.params.toList[j]? = some t → ds[j]? = some d → ∀ y ∈ d.weights Try.prog t, y ≤ reachBytes) →
      ∃ l : List V, (sp l).get = some (.bool true, []) ∧ borOf l = none ∧ VRels γ0 [] W O0 (l.map entV) vs) :
    ReturnsInHanded {} Try.checked os f .any ((OpenSpec.ofChange spec).preRow enc Try.prog fn [] false laid) (spec.post enc Try.prog fn false true false false) := by
  refine returnsInHanded_of_row (C := Try.checked) (s := OpenSpec.ofChange spec) (F := fun _ _ _ => 0) seatOwn started hini hf witness ?_
  intro W base args ds gs before hval hW _ _ hwt hL hsh _
  have hW' := hW
  obtain ⟨p, q, hA, hV, rfl, _, _⟩ := hW
  have hvars' : (OpenSpec.ofChange spec).vars = [] := hvars
  rw [hvars'] at hV
  obtain ⟨rfl, rfl⟩ := trodVars_none hV
  have hlen : ds.length = fn.params.toList.length := by
    have : ∀ {ts : List TypeId} {vs : List Value} {ds : List (DataW H)} {ps : List MemPlace}, DataW.TrodAll enc Try.prog W 0 (fun _ => true) true ts vs ds ps → ds.length = ts.length := by
      intro ts
      induction ts with
      | nil => intro vs ds ps h; obtain ⟨_, rfl, _⟩ := trodAll_nil h; rfl
      | cons t ts ih =>
        intro vs ds ps h
        obtain ⟨v, vs1, d, ds1, a, b, rfl, rfl, rfl, h1, h2⟩ := trodAll_cons h
        simp only [List.length_cons, ih h2]
    exact this hA
  simp only [List.append_nil] at hW' hwt
  obtain ⟨l, hl, hbor, hrel⟩ := harg W base args.toList ds p hA (fun j t v h1 h2 => hval j t v (by simpa using h1) (by simpa using h2)) (fun j t d h1 h2 y hy => by
    have hm := mem_each (P := Try.prog) (ts := fn.params.toList ++ (OpenSpec.ofChange spec).bare.plain.varTypes Try.prog) (ds := ds) (i := j) (t := t) (d := d) (by
      rw [List.getElem?_append_left (by rw [← hlen]; exact (List.getElem?_eq_some_iff.1 h2).1)]
      exact h1) h2 y hy
    have := List.all_eq_true.1 hwt y hm
    simpa using this)
  have hc := calls_true hS hf hn hb hl hbor (hglob W hL hsh) hrel
  have ea : args.toList.toArray = args := by simp
  rw [ea] at hc
  refine hc.mono ?_
  rintro e W' ⟨rfl, bel⟩
  have hfn : spec.fn H (ds ++ []) = { results := [.lit (.bool true)], args := ds } := by rw [List.append_nil]; exact hspec ds hlen
  have hlt : ∀ x ∈ p, x.block < W.heap.size := fun x hx => hW'.lt x hx
  have post : spec.post enc Try.prog fn false true false false W args (.bool true) W' := by
    refine ⟨ds, [], p, [], p, [], hW', ?_, ?_, ?_, bel.frame _, fun h => by cases h⟩
    · rw [hfn, hres]
      exact trodAll_mk1 (shut_bool Try.underlying4 _)
    · rw [hfn]
      exact trodAll_below seatLaidOut bel hA (fun t ht => by
        have := List.all_eq_true.1 hpar t ht
        simpa using this) hlt
    · rw [hvars, hfn]
      rfl
  exact ⟨_, rfl, post⟩

end Go.FM

/-
  THE SEAT's OWN WORLD: the door's heap; no variable is laid.
-/
namespace Go.Proofs.Ytlfpmpdmoggdhaa
open Go Go.ChangeShapes Go.WideShapes Go.ChangeAt Go.RowKit Go.FM

noncomputable def seatWorld (os : Os) : World := World.doorLaid Try.prog 72 os
theorem seat_met (os : Os) (args : Array Value) : laidMetH Try.prog [] ((seatWorld os).forCall (fun _ _ => 0) ⟨#[], args, []⟩).memory :=
  laidMetH_of_parts3 (fuel := 8) (laidMet_of_run' 8 (by kernel_rfl) (by kernel_rfl)) (by kernel_rfl) (by kernel_rfl)
theorem seat_glob {W : World} (_ : laidMetH Try.prog [] W) (_ : W.ShapedOpen Try.prog) : Glob B0 W := ⟨Nat.zero_le _, ⟨trivial⟩⟩

end Go.Proofs.Ytlfpmpdmoggdhaa
