/-
  The laws of chapter 9 come to true; no conditions beyond what each argument keeps.
-/
import Derived.Test.YtbhpdofmcbhbfaaGreatDoorLib
import Derived.Test.YtbhpdofmcbhbfaaGreatDoorDfn
import Derived.Test.YtbhpdofmcbhbfaaGreatDoorDlw
import Derived.Test.YtbhpdofmcbhbfaaGreatDoorXfn
import Derived.Test.YtbhpdofmcbhbfaaGreatDoorKfn

/-
  NORMAL FORMS: what the functions' runs come to (written by a program of this claim's own, checked by the kernel).
-/
namespace Go.FM
open Go Go.Proofs

/-! ### copse/copselaw9.TextRuns -/
def E_copselaw9_TextRuns (N : Nat) : Env := mkE [(11, S_copsekeep_Models), (8, S_copseref6_Pack), (9, S_text_Parse), (10, S_text_Print)] [] 35 N

theorem nf_copselaw9_TextRuns (N : Nat) : evFun (E_copselaw9_TextRuns N) c_copselaw9_TextRuns [.tmp 0] [[.bool]] [] =
  (some ((.bool true), [])) := by kernel_rfl

/-! ### copse/copselaw9.TextBack -/
def E_copselaw9_TextBack (N : Nat) : Env := mkE [(12, S_copsekeep_Forest_Model), (11, S_copsekeep_Models), (3, S_copselaw9_TextRuns), (9, S_text_Parse), (10, S_text_Print)] [] 63 N

theorem nf_copselaw9_TextBack (N : Nat) (f_Dim : Int) (f_Classes : Int) (f_Bias : List IV) (f_Trees : List IV) (g_Dim : Int) (g_Classes : Int) (g_Bias : List IV) (g_Trees : List IV) : evFun (E_copselaw9_TextBack N) c_copselaw9_TextBack [.tmp 4] [[.bool]] [(.agg [(.int .i64 f_Dim), (.int .i64 f_Classes), (.list false [.int .i64] f_Bias), (.list true [.int .i64, .list false [.int .i64], .list false [.int .i64], .list false [.int .i64], .list false [.int .i64]] f_Trees)]), (.agg [(.int .i64 g_Dim), (.int .i64 g_Classes), (.list false [.int .i64] g_Bias), (.list true [.int .i64, .list false [.int .i64], .list false [.int .i64], .list false [.int .i64], .list false [.int .i64]] g_Trees)])] =
  (cond (decide (ByteArray.size (printM (modelF f_Dim f_Classes f_Bias f_Trees)) < 4294967281))
  (cond (!textOK (printM (modelF f_Dim f_Classes f_Bias f_Trees)))
    (some ((.bool false), []))
    (cond (!sameM (textM (printM (modelF f_Dim f_Classes f_Bias f_Trees))) (modelF f_Dim f_Classes f_Bias f_Trees))
      (some ((.bool false), []))
      (cond (!(ByteArray.toList (printM (modelF f_Dim f_Classes f_Bias f_Trees)) == ByteArray.toList (printM (modelF g_Dim g_Classes g_Bias g_Trees))) == sameM (modelF f_Dim f_Classes f_Bias f_Trees) (modelF g_Dim g_Classes g_Bias g_Trees))
        (some ((.bool false), []))
        (some ((.bool true), [])))))
  none) := by kernel_rfl

end Go.FM

/-
  NORMAL FORMS: what the functions' runs come to (written by a program of this claim's own, checked by the kernel).
-/
namespace Go.FM
open Go Go.Proofs

/-! ### copse/copselaw9.TextOnly -/
def E_copselaw9_TextOnly (N : Nat) : Env := mkE [(15, S_copsebook_Within), (12, S_copsekeep_Forest_Model), (11, S_copsekeep_Models), (3, S_copselaw9_TextRuns), (9, S_text_Parse), (10, S_text_Print)] [] 101 N

def textK (tt : ByteArray) (a1 : Int) : Int := withinZ a1 0 (IntKind.wrap IntKind.i64 (ic (ByteArray.size tt) - 1))
def textTail (F : Md) (tt t : ByteArray) : Res :=
  (cond (decide (ByteArray.size t < 4294967281))
    (cond (textOK t)
      (cond (ByteArray.toList (printM (textM t)) == ByteArray.toList t)
        (cond ((ByteArray.toList t == ByteArray.toList tt) == sameM (textM t) F) (some ((.bool true), [])) (some ((.bool false), [])))
        (some ((.bool false), [])))
      (cond (!ByteArray.toList t == ByteArray.toList tt)
        (cond (sameM (textM t) { d := 0, c := 0, b0 := 0, b1 := 0, b2 := 0, ts := [] }) (some ((.bool true), [])) (some ((.bool false), [])))
        (some ((.bool false), []))))
    none)
def textArms (F : Md) (tt : ByteArray) (a1 a2 a3 : Int) : Res :=
  (cond (decide (withinM 0 (IntKind.wrap IntKind.i64 (ic (ByteArray.size tt) - 1)) = 0))
    none
    (cond (withinZ a3 0 3 == 0)
      (cond (decide (0 ≤ textK tt a1) && decide (textK tt a1 ≤ ic (ByteArray.size tt)))
        (cond (decide (ByteArray.size (ByteArray.extract tt 0 (Int.toNat (textK tt a1))) + ByteArray.size (strOfNums (List.map IV.toInt (List.drop 0 (List.take 1 [IV.int a2])))) ≤ strMax))
          (cond (decide (0 ≤ IntKind.wrap IntKind.i64 (textK tt a1 + 1)) && decide (IntKind.wrap IntKind.i64 (textK tt a1 + 1) ≤ ic (ByteArray.size tt)))
            (cond (decide (ByteArray.size (ByteArray.extract tt 0 (Int.toNat (textK tt a1)) ++ strOfNums (List.map IV.toInt (List.drop 0 (List.take 1 [IV.int a2])))) + ByteArray.size (ByteArray.extract tt (Int.toNat (IntKind.wrap IntKind.i64 (textK tt a1 + 1))) (ByteArray.size tt)) ≤ strMax))
              (textTail F tt (ByteArray.extract tt 0 (Int.toNat (textK tt a1)) ++ strOfNums (List.map IV.toInt (List.drop 0 (List.take 1 [IV.int a2]))) ++ ByteArray.extract tt (Int.toNat (IntKind.wrap IntKind.i64 (textK tt a1 + 1))) (ByteArray.size tt)))
              none)
            none)
          none)
        none)
      (cond (withinZ a3 0 3 == 1)
        (cond (decide (0 ≤ textK tt a1) && decide (textK tt a1 ≤ ic (ByteArray.size tt)))
          (cond (decide (ByteArray.size (ByteArray.extract tt 0 (Int.toNat (textK tt a1))) + ByteArray.size (strOfNums (List.map IV.toInt (List.drop 0 (List.take 1 [IV.int a2])))) ≤ strMax))
            (cond (decide (0 ≤ textK tt a1) && decide (textK tt a1 ≤ ic (ByteArray.size tt)))
              (cond (decide (ByteArray.size (ByteArray.extract tt 0 (Int.toNat (textK tt a1)) ++ strOfNums (List.map IV.toInt (List.drop 0 (List.take 1 [IV.int a2])))) + ByteArray.size (ByteArray.extract tt (Int.toNat (textK tt a1)) (ByteArray.size tt)) ≤ strMax))
                (textTail F tt (ByteArray.extract tt 0 (Int.toNat (textK tt a1)) ++ strOfNums (List.map IV.toInt (List.drop 0 (List.take 1 [IV.int a2]))) ++ ByteArray.extract tt (Int.toNat (textK tt a1)) (ByteArray.size tt)))
                none)
              none)
            none)
          none)
        (cond (withinZ a3 0 3 == 2)
          (cond (decide (0 ≤ textK tt a1) && decide (textK tt a1 ≤ ic (ByteArray.size tt)))
            (cond (decide (0 ≤ IntKind.wrap IntKind.i64 (textK tt a1 + 1)) && decide (IntKind.wrap IntKind.i64 (textK tt a1 + 1) ≤ ic (ByteArray.size tt)))
              (cond (decide (ByteArray.size (ByteArray.extract tt 0 (Int.toNat (textK tt a1))) + ByteArray.size (ByteArray.extract tt (Int.toNat (IntKind.wrap IntKind.i64 (textK tt a1 + 1))) (ByteArray.size tt)) ≤ strMax))
                (textTail F tt (ByteArray.extract tt 0 (Int.toNat (textK tt a1)) ++ ByteArray.extract tt (Int.toNat (IntKind.wrap IntKind.i64 (textK tt a1 + 1))) (ByteArray.size tt)))
                none)
              none)
            none)
          (cond (decide (0 ≤ textK tt a1) && decide (textK tt a1 ≤ ic (ByteArray.size tt)))
            (textTail F tt (ByteArray.extract tt 0 (Int.toNat (textK tt a1))))
            none)))))

theorem nf_copselaw9_TextOnly (N : Nat) (f_Dim : Int) (f_Classes : Int) (f_Bias : List IV) (f_Trees : List IV) (a1 : Int) (a2 : Int) (a3 : Int) : evFun (E_copselaw9_TextOnly N) c_copselaw9_TextOnly [.tmp 8] [[.bool]] [(.agg [(.int .i64 f_Dim), (.int .i64 f_Classes), (.list false [.int .i64] f_Bias), (.list true [.int .i64, .list false [.int .i64], .list false [.int .i64], .list false [.int .i64], .list false [.int .i64]] f_Trees)]), (.int .i64 a1), (.int .u8 a2), (.int .i64 a3)] = 
  (cond (decide (ic (ByteArray.size (printM (modelF f_Dim f_Classes f_Bias f_Trees))) < 1)) (some ((.bool false), [])) (textArms (modelF f_Dim f_Classes f_Bias f_Trees) (printM (modelF f_Dim f_Classes f_Bias f_Trees)) a1 a2 a3)) := by kernel_rfl

end Go.FM

/-
  text's LAWS COME TO true (1): TextRuns, TextBack, TextOnly.
-/
namespace Go.FM
open Go Go.Proofs

set_option maxRecDepth 100000 in
theorem snd_copselaw9_TextRuns : SndR PR B0 3 S_copselaw9_TextRuns := by
  refine snd_mk [(11, S_copsekeep_Models), (8, S_copseref6_Pack), (9, S_text_Parse), (10, S_text_Print)] [] S_copselaw9_TextRuns [[.bool]] Tryz.func3 h_copselaw9_TextRuns ⟨snd_copsekeep_Models, snd_copseref6_Pack, snd_text_Parse, snd_text_Print, trivial⟩ ?_
  intro vs r hwf h
  unfold S_copselaw9_TextRuns at h
  split at h
  · refine ⟨0, ?_⟩
    rw [← h]
    exact nf_copselaw9_TextRuns 0
  · simp [R.get] at h

/-! ### how long a model's text is -/
theorem print_size {m : Md} (h : modelB m = true) : 1 ≤ (printM m).size ∧ (printM m).size ≤ 300000 := by
  obtain ⟨hd, hc, hl, _, ht⟩ := model_get h
  have hp : printM m = textB (linesM m) := by unfold printM; rw [h]; rfl
  have hall : ∀ (ts : List IV), ts.all (treeOK m.d m.c) = true → (∀ l ∈ treesW ts, l.length ≤ 8 ∧ ∀ w ∈ l, w.size ≤ 100) ∧ (treesW ts).length ≤ 32 * ts.length := fun ts => by
    induction ts with
    | nil => exact fun _ => ⟨fun l hl => (by cases hl), Nat.le_refl _⟩
    | cons t r ih =>
      intro h
      rw [List.all_cons, Bool.and_eq_true] at h
      obtain ⟨i1, i2⟩ := ih h.2
      obtain ⟨j1, j2⟩ := treeW_ok hc.2 h.1
      rw [treesW]
      refine ⟨fun l hl => ?_, ?_⟩
      · rcases List.mem_append.1 hl with hl | hl
        · exact j1 l hl
        · exact i1 l hl
      · rw [List.length_append, List.length_cons]
        omega
  obtain ⟨a1, a2⟩ := hall m.ts ht
  have hz := text_size (linesM m) (fun l hl => by
    have hl : l ∈ headM m ++ treesW m.ts := hl
    rcases List.mem_append.1 hl with hl | hl
    · exact headM_ok h l hl
    · exact a1 l hl)
  have hn : (linesM m).length = 2 + (treesW m.ts).length := by
    show (headM m ++ treesW m.ts).length = _
    rw [List.length_append]
    rfl
  rw [hp]
  refine ⟨?_, by omega⟩
  have e : textB (linesM m) = lineB [w_forest, itoaB m.d, itoaB m.c] ++ textB (([w_bias :: ([m.b0, m.b1, m.b2].take m.c.toNat).map printB]) ++ treesW m.ts) := rfl
  rw [e, ByteArray.size_append]
  have : 1 ≤ (lineB [w_forest, itoaB m.d, itoaB m.c]).size := by
    unfold lineB
    rw [ByteArray.size_append]
    have e1 : ByteArray.size w_lf = 1 := rfl
    omega
  omega
theorem print_same {m n : Md} (hm : modelB m = true) (hn : modelB n = true) (wm : wfM m) (wn : wfM n) : ((printM m).toList == (printM n).toList) = sameM m n := by
  rw [bytes_beq]
  cases h : sameM m n with
  | true =>
    rw [sameM_eq wm wn h]
    exact decide_eq_true rfl
  | false =>
    refine decide_eq_false fun e => ?_
    have h1 := (text_back hm wm).2
    have h2 := (text_back hn wn).2
    rw [e, h2] at h1
    rw [h1, sameM_self] at h
    cases h

def S_copselaw9_TextBack : RSpec
  | [.agg [.int .i64 _, .int .i64 _, .list false [.int .i64] _, .list true [.int .i64, .list false [.int .i64], .list false [.int .i64], .list false [.int .i64], .list false [.int .i64]] _],
     .agg [.int .i64 _, .int .i64 _, .list false [.int .i64] _, .list true [.int .i64, .list false [.int .i64], .list false [.int .i64], .list false [.int .i64], .list false [.int .i64]] _]] => .ok (.bool true) []
  | _ => .no
def S_copselaw9_TextOnly : RSpec
  | [.agg [.int .i64 _, .int .i64 _, .list false [.int .i64] _, .list true [.int .i64, .list false [.int .i64], .list false [.int .i64], .list false [.int .i64], .list false [.int .i64]] _], .int .i64 _, .int .u8 _, .int .i64 _] => .ok (.bool true) []
  | _ => .no

set_option maxRecDepth 100000 in
theorem snd_copselaw9_TextBack : SndR PR B0 5 S_copselaw9_TextBack := by
  refine snd_mk [(12, S_copsekeep_Forest_Model), (11, S_copsekeep_Models), (3, S_copselaw9_TextRuns), (9, S_text_Parse), (10, S_text_Print)] [] S_copselaw9_TextBack [[.bool]] Tryz.func5 h_copselaw9_TextBack ⟨snd_copsekeep_Forest_Model, snd_copsekeep_Models, snd_copselaw9_TextRuns, snd_text_Parse, snd_text_Print, trivial⟩ ?_
  intro vs r hwf h
  unfold S_copselaw9_TextBack at h
  split at h
  · rename_i d c bi ts d' c' bi' ts'
    refine ⟨0, ?_⟩
    rw [R.get_ok] at h
    rw [← h]
    refine (nf_copselaw9_TextBack 0 d c bi ts d' c' bi' ts').trans ?_
    have hm := model_right d c bi ts
    have hn := model_right d' c' bi' ts'
    have wm := modelF_wf d c bi ts
    have wn := modelF_wf d' c' bi' ts'
    generalize modelF d c bi ts = m at hm wm ⊢
    generalize modelF d' c' bi' ts' = n at hn wn ⊢
    obtain ⟨z1, z2⟩ := print_size hm
    obtain ⟨t1, t2⟩ := text_back hm wm
    rw [decide_eq_true (show (printM m).size < 4294967281 by omega), condT, t1, t2, sameM_self, Bool.not_true, condF, condF, print_same hm hn wm wn]
    simp only [beq_self_eq_true, Bool.not_true, condF]
  · simp [R.get] at h

/-! ### any text -/
theorem textTail_true {F : Md} (hF : modelB F = true) (wF : wfM F) {t : ByteArray} (h : t.size < 4294967281) : textTail F (printM F) t = some (.bool true, []) := by
  unfold textTail
  obtain ⟨t1, t2⟩ := text_back hF wF
  rw [decide_eq_true h, condT]
  cases hp : textOK t with
  | true =>
    have h1 := text_only hp
    have hs : ((t.toList == (printM F).toList) == sameM (textM t) F) = true := by
      rw [bytes_beq]
      cases hh : sameM (textM t) F with
      | true =>
        have := sameM_eq (textM_wf t) wF hh
        rw [this] at h1
        rw [decide_eq_true h1.symm]
        rfl
      | false =>
        have : decide (t = printM F) = false := decide_eq_false fun e => by
          rw [e, t2, sameM_self] at hh
          cases hh
        rw [this]
        rfl
    rw [condT, h1, beq_self_eq_true, condT, hs, condT]
  | false =>
    have h1 := text_none hp
    have hs : (t.toList == (printM F).toList) = false := beq_no fun e => by
      rw [e, t1] at hp
      cases hp
    have hz : sameM (textM t) ⟨0, 0, 0, 0, 0, []⟩ = true := by rw [h1]; rfl
    rw [condF, hs, hz]
    rfl

theorem xx_sizeT (x : Int) : (strOfNums (List.map IV.toInt (List.drop 0 (List.take 1 [IV.int x])))).size = 1 := rfl
theorem ext_sizeT (s : ByteArray) (a b : Nat) : (s.extract a b).size = min b s.size - a := ByteArray.size_extract

theorem textArms_true {F : Md} (hF : modelB F = true) (wF : wfM F) (a2 a3 a4 : Int) : textArms F (printM F) a2 a3 a4 = some (.bool true, []) := by
  obtain ⟨h0, h1⟩ := print_size hF
  have T := fun (t : ByteArray) (h : t.size < 4294967281) => textTail_true hF wF h
  generalize printM F = tt at h0 h1 T ⊢
  have e0 : IntKind.wrap IntKind.i64 (ic tt.size - 1) = ic tt.size - 1 := wrap_id (by simp only [ic]; omega) (by simp only [ic]; omega)
  obtain ⟨m0, k0, k1⟩ := within_in (n := a2) (lo := 0) (hi := ic tt.size - 1) (by simp only [ic]; omega) (by omega) (by simp only [ic]; omega)
  have hK : textK tt a2 = withinZ a2 0 (ic tt.size - 1) := by unfold textK; rw [e0]
  rw [← hK] at k0 k1
  simp only [ic] at k1
  unfold textArms
  rw [e0, m0, decide_eq_false (show ¬ ic tt.size - 1 - 0 + 1 = 0 by simp only [ic]; omega), condF]
  generalize textK tt a2 = K at k0 k1 ⊢
  have eK : IntKind.wrap IntKind.i64 (K + 1) = K + 1 := wrap_id (by omega) (by omega)
  rw [eK]
  have d1 : decide (0 ≤ K) = true := decide_eq_true k0
  have d2 : decide (K ≤ ic tt.size) = true := decide_eq_true (by simp only [ic]; omega)
  have d3 : decide (0 ≤ K + 1) = true := decide_eq_true (by omega)
  have d4 : decide (K + 1 ≤ ic tt.size) = true := decide_eq_true (by simp only [ic]; omega)
  simp only [d1, d2, d3, d4, Bool.and_self, cond_true, ByteArray.size_append, ext_sizeT, xx_sizeT]
  have m : strMax = 140737488355327 := rfl
  rw [decide_eq_true (show min K.toNat tt.size - 0 + 1 ≤ strMax by omega), decide_eq_true (show min K.toNat tt.size - 0 + 1 + (min tt.size tt.size - (K + 1).toNat) ≤ strMax by omega),
    decide_eq_true (show min K.toNat tt.size - 0 + 1 + (min tt.size tt.size - K.toNat) ≤ strMax by omega), decide_eq_true (show min K.toNat tt.size - 0 + (min tt.size tt.size - (K + 1).toNat) ≤ strMax by omega)]
  simp only [cond_true]
  rw [T (_ ++ _ ++ _) (by simp only [ByteArray.size_append, ext_sizeT, xx_sizeT]; omega), T (_ ++ _ ++ _) (by simp only [ByteArray.size_append, ext_sizeT, xx_sizeT]; omega), T (_ ++ _) (by simp only [ByteArray.size_append, ext_sizeT]; omega),
    T _ (by simp only [ext_sizeT]; omega)]
  simp only [Bool.cond_self]

set_option maxRecDepth 100000 in
theorem snd_copselaw9_TextOnly : SndR PR B0 6 S_copselaw9_TextOnly := by
  refine snd_mk [(15, S_copsebook_Within), (12, S_copsekeep_Forest_Model), (11, S_copsekeep_Models), (3, S_copselaw9_TextRuns), (9, S_text_Parse), (10, S_text_Print)] [] S_copselaw9_TextOnly [[.bool]] Tryz.func6 h_copselaw9_TextOnly ⟨snd_copsebook_Within, snd_copsekeep_Forest_Model, snd_copsekeep_Models, snd_copselaw9_TextRuns, snd_text_Parse, snd_text_Print, trivial⟩ ?_
  intro vs r hwf h
  unfold S_copselaw9_TextOnly at h
  split at h
  · rename_i d c bi ts a1 a2 a3
    refine ⟨0, ?_⟩
    rw [R.get_ok] at h
    rw [← h]
    refine (nf_copselaw9_TextOnly 0 d c bi ts a1 a2 a3).trans ?_
    have hm := model_right d c bi ts
    have wm := modelF_wf d c bi ts
    generalize modelF d c bi ts = m at hm wm ⊢
    obtain ⟨z1, z2⟩ := print_size hm
    rw [decide_eq_false (show ¬ ic (printM m).size < 1 by simp only [ic]; omega), condF]
    exact textArms_true hm wm a1 a2 a3
  · simp [R.get] at h

end Go.FM

/-
  NORMAL FORMS: what the functions' runs come to (written by a program of this claim's own, checked by the kernel).
-/
namespace Go.FM
open Go Go.Proofs

/-! ### copse/copselaw9.TextLines -/
def E_copselaw9_TextLines (N : Nat) : Env := mkE [(12, S_copsekeep_Forest_Model), (11, S_copsekeep_Models), (16, S_copsekeep_Tree_Nodes), (3, S_copselaw9_TextRuns), (9, S_text_Parse), (10, S_text_Print)] [(5, ⟨[3, 4, 5, 6, 7, 21, 22], [3, 5], []⟩), (12, ⟨[3, 4, 5, 6, 7, 9, 33, 34, 35], [3, 5], []⟩)] 99 N

theorem nf_copselaw9_TextLines (N : Nat) (f_Dim : Int) (f_Classes : Int) (f_Bias : List IV) (f_Trees : List IV) (a1_Class : Int) (a1_Part : List IV) (a1_By : List IV) (a1_At : List IV) (a1_Val : List IV) : evFun (E_copselaw9_TextLines N) c_copselaw9_TextLines [.tmp 4] [[.bool]] [(.agg [(.int .i64 f_Dim), (.int .i64 f_Classes), (.list false [.int .i64] f_Bias), (.list true [.int .i64, .list false [.int .i64], .list false [.int .i64], .list false [.int .i64], .list false [.int .i64]] f_Trees)]), (.agg [(.int .i64 a1_Class), (.list false [.int .i64] a1_Part), (.list false [.int .i64] a1_By), (.list false [.int .i64] a1_At), (.list false [.int .i64] a1_Val)])] =
  (lpE (E_copselaw9_TextLines N) (subC c_copselaw9_TextLines [1, 1, 1, 1, 0, 1, 0, 0]) ⟨[3, 4, 5, 6, 7, 21, 22], [3, 5], []⟩ N ⟨[(3, (.ptr 3 0 0)), (4, (.bool false)), (5, (.ptr 5 0 0)), (6, (.str (printM (modelF f_Dim f_Classes f_Bias f_Trees)))), (7, (.int .i64 0)), (21, (.int .i64 (ic (ByteArray.size (printM (modelF f_Dim f_Classes f_Bias f_Trees)))))), (22, (.int .i64 0))], [(3, (some (.box [(.int .i64 a1_Class), (.list false [(.int .i64)] a1_Part), (.list false [(.int .i64)] a1_By), (.list false [(.int .i64)] a1_At), (.list false [(.int .i64)] a1_Val)]))), (5, (some (.box [(.int .i64 (dimF f_Dim)), (.int .i64 (clsF f_Classes)), (.int .i64 (biasF f_Classes f_Bias 0)), (.int .i64 (biasF f_Classes f_Bias 1)), (.int .i64 (biasF f_Classes f_Bias 2)), (.list true [(.int .i64), (.list false [(.int .u64)])] (treesF f_Dim f_Classes f_Trees))])))]⟩ (kBlock 0 (kSq (E_copselaw9_TextLines N) (subC c_copselaw9_TextLines [1, 1, 1, 1, 1]) (outT (E_copselaw9_TextLines N) none [(ResultVar.tmp 4)] [[.bool]])))) := by kernel_rfl

theorem st_copselaw9_TextLines_1 (N : Nat) (b4 : Bool) (s6 : ByteArray) (x7 : Int) (x21 : Int) (x22 : Int) (xo3_0 : Int) (lo3_1 : List IV) (lo3_2 : List IV) (lo3_3 : List IV) (lo3_4 : List IV) (xo5_0 : Int) (xo5_1 : Int) (xo5_2 : Int) (xo5_3 : Int) (xo5_4 : Int) (lo5_5 : List IV) (again : St → Res) (k : Out → St → Res) : rnd (E_copselaw9_TextLines N) (subC c_copselaw9_TextLines [1, 1, 1, 1, 0, 1, 0, 0])
    ⟨[(3, (.ptr 3 0 0)), (4, (.bool b4)), (5, (.ptr 5 0 0)), (6, (.str s6)), (7, (.int .i64 x7)), (21, (.int .i64 x21)), (22, (.int .i64 x22))], [(3, (some (.box [(.int .i64 xo3_0), (.list false [(.int .i64)] lo3_1), (.list false [(.int .i64)] lo3_2), (.list false [(.int .i64)] lo3_3), (.list false [(.int .i64)] lo3_4)]))), (5, (some (.box [(.int .i64 xo5_0), (.int .i64 xo5_1), (.int .i64 xo5_2), (.int .i64 xo5_3), (.int .i64 xo5_4), (.list true [(.int .i64), (.list false [(.int .u64)])] lo5_5)])))]⟩
    (kLoop again ⟨[3, 4, 5, 6, 7, 21, 22], [3, 5], []⟩ k) =
  (cond (decide (x22 < x21))
  (cond (decide (0 ≤ x22) && decide (x22 < ic (ByteArray.size s6)))
    (cond (ic (UInt8.toNat (List.getD (Array.toList (ByteArray.data s6)) (Int.toNat x22) 0)) == 10)
      (again ⟨[(3, (.ptr 3 0 0)), (4, (.bool b4)), (5, (.ptr 5 0 0)), (6, (.str s6)), (7, (.int .i64 (IntKind.wrap IntKind.i64 (x7 + 1)))), (21, (.int .i64 x21)), (22, (.int .i64 (IntKind.wrap IntKind.i64 (x22 + 1))))], [(3, (some (.box [(.int .i64 xo3_0), (.list false [(.int .i64)] lo3_1), (.list false [(.int .i64)] lo3_2), (.list false [(.int .i64)] lo3_3), (.list false [(.int .i64)] lo3_4)]))), (5, (some (.box [(.int .i64 xo5_0), (.int .i64 xo5_1), (.int .i64 xo5_2), (.int .i64 xo5_3), (.int .i64 xo5_4), (.list true [(.int .i64), (.list false [(.int .u64)])] lo5_5)])))]⟩)
      (again ⟨[(3, (.ptr 3 0 0)), (4, (.bool b4)), (5, (.ptr 5 0 0)), (6, (.str s6)), (7, (.int .i64 x7)), (21, (.int .i64 x21)), (22, (.int .i64 (IntKind.wrap IntKind.i64 (x22 + 1))))], [(3, (some (.box [(.int .i64 xo3_0), (.list false [(.int .i64)] lo3_1), (.list false [(.int .i64)] lo3_2), (.list false [(.int .i64)] lo3_3), (.list false [(.int .i64)] lo3_4)]))), (5, (some (.box [(.int .i64 xo5_0), (.int .i64 xo5_1), (.int .i64 xo5_2), (.int .i64 xo5_3), (.int .i64 xo5_4), (.list true [(.int .i64), (.list false [(.int .u64)])] lo5_5)])))]⟩))
    none)
  (k (.exit 0) ⟨[(3, (.ptr 3 0 0)), (4, (.bool b4)), (5, (.ptr 5 0 0)), (6, (.str s6)), (7, (.int .i64 x7)), (21, (.int .i64 x21)), (22, (.int .i64 x22))], [(3, (some (.box [(.int .i64 xo3_0), (.list false [(.int .i64)] lo3_1), (.list false [(.int .i64)] lo3_2), (.list false [(.int .i64)] lo3_3), (.list false [(.int .i64)] lo3_4)]))), (5, (some (.box [(.int .i64 xo5_0), (.int .i64 xo5_1), (.int .i64 xo5_2), (.int .i64 xo5_3), (.int .i64 xo5_4), (.list true [(.int .i64), (.list false [(.int .u64)])] lo5_5)])))]⟩)) := by kernel_rfl

theorem ex_copselaw9_TextLines_1_1 (N : Nat) (b4 : Bool) (s6 : ByteArray) (x7 : Int) (x21 : Int) (x22 : Int) (xo3_0 : Int) (lo3_1 : List IV) (lo3_2 : List IV) (lo3_3 : List IV) (lo3_4 : List IV) (xo5_0 : Int) (xo5_1 : Int) (xo5_2 : Int) (xo5_3 : Int) (xo5_4 : Int) (lo5_5 : List IV) : (kBlock 0 (kSq (E_copselaw9_TextLines N) (subC c_copselaw9_TextLines [1, 1, 1, 1, 1]) (outT (E_copselaw9_TextLines N) none [(ResultVar.tmp 4)] [[.bool]]))) (.exit 0)
    ⟨[(3, (.ptr 3 0 0)), (4, (.bool b4)), (5, (.ptr 5 0 0)), (6, (.str s6)), (7, (.int .i64 x7)), (21, (.int .i64 x21)), (22, (.int .i64 x22))], [(3, (some (.box [(.int .i64 xo3_0), (.list false [(.int .i64)] lo3_1), (.list false [(.int .i64)] lo3_2), (.list false [(.int .i64)] lo3_3), (.list false [(.int .i64)] lo3_4)]))), (5, (some (.box [(.int .i64 xo5_0), (.int .i64 xo5_1), (.int .i64 xo5_2), (.int .i64 xo5_3), (.int .i64 xo5_4), (.list true [(.int .i64), (.list false [(.int .u64)])] lo5_5)])))]⟩ =
  (lpE (E_copselaw9_TextLines N) (subC c_copselaw9_TextLines [1, 1, 1, 1, 1, 1, 0, 1, 0, 0]) ⟨[3, 4, 5, 6, 7, 9, 33, 34, 35], [3, 5], []⟩ N ⟨[(3, (.ptr 3 0 0)), (4, (.bool b4)), (5, (.ptr 5 0 0)), (6, (.str s6)), (7, (.int .i64 x7)), (9, (.int .i64 0)), (33, (.list true [(.int .i64), (.list false [(.int .u64)])] lo5_5)), (34, (.int .i64 (ic (List.length lo5_5)))), (35, (.int .i64 0))], [(3, (some (.box [(.int .i64 xo3_0), (.list false [(.int .i64)] lo3_1), (.list false [(.int .i64)] lo3_2), (.list false [(.int .i64)] lo3_3), (.list false [(.int .i64)] lo3_4)]))), (5, (some (.box [(.int .i64 xo5_0), (.int .i64 xo5_1), (.int .i64 xo5_2), (.int .i64 xo5_3), (.int .i64 xo5_4), (.list true [(.int .i64), (.list false [(.int .u64)])] lo5_5)])))]⟩ (kBlock 2 (kSq (E_copselaw9_TextLines N) (subC c_copselaw9_TextLines [1, 1, 1, 1, 1, 1, 1]) (outT (E_copselaw9_TextLines N) none [(ResultVar.tmp 4)] [[.bool]])))) := by kernel_rfl

theorem st_copselaw9_TextLines_2 (N : Nat) (b4 : Bool) (s6 : ByteArray) (x7 : Int) (x9 : Int) (l33 : List IV) (x34 : Int) (x35 : Int) (xo3_0 : Int) (lo3_1 : List IV) (lo3_2 : List IV) (lo3_3 : List IV) (lo3_4 : List IV) (xo5_0 : Int) (xo5_1 : Int) (xo5_2 : Int) (xo5_3 : Int) (xo5_4 : Int) (lo5_5 : List IV) (again : St → Res) (k : Out → St → Res) : rnd (E_copselaw9_TextLines N) (subC c_copselaw9_TextLines [1, 1, 1, 1, 1, 1, 0, 1, 0, 0])
    ⟨[(3, (.ptr 3 0 0)), (4, (.bool b4)), (5, (.ptr 5 0 0)), (6, (.str s6)), (7, (.int .i64 x7)), (9, (.int .i64 x9)), (33, (.list true [(.int .i64), (.list false [(.int .u64)])] l33)), (34, (.int .i64 x34)), (35, (.int .i64 x35))], [(3, (some (.box [(.int .i64 xo3_0), (.list false [(.int .i64)] lo3_1), (.list false [(.int .i64)] lo3_2), (.list false [(.int .i64)] lo3_3), (.list false [(.int .i64)] lo3_4)]))), (5, (some (.box [(.int .i64 xo5_0), (.int .i64 xo5_1), (.int .i64 xo5_2), (.int .i64 xo5_3), (.int .i64 xo5_4), (.list true [(.int .i64), (.list false [(.int .u64)])] lo5_5)])))]⟩
    (kLoop again ⟨[3, 4, 5, 6, 7, 9, 33, 34, 35], [3, 5], []⟩ k) =
  (cond (decide (x35 < x34))
  (cond (decide (0 ≤ x35) && decide (x35 < ic (List.length l33)))
    (again ⟨[(3, (.ptr 3 0 0)), (4, (.bool b4)), (5, (.ptr 5 0 0)), (6, (.str s6)), (7, (.int .i64 x7)), (9, (.int .i64 (IntKind.wrap IntKind.i64 (x9 + ic (List.length (IV.toList (IV.cell (List.getD l33 (Int.toNat x35) default) 1))))))), (33, (.list true [(.int .i64), (.list false [(.int .u64)])] l33)), (34, (.int .i64 x34)), (35, (.int .i64 (IntKind.wrap IntKind.i64 (x35 + 1))))], [(3, (some (.box [(.int .i64 xo3_0), (.list false [(.int .i64)] lo3_1), (.list false [(.int .i64)] lo3_2), (.list false [(.int .i64)] lo3_3), (.list false [(.int .i64)] lo3_4)]))), (5, (some (.box [(.int .i64 xo5_0), (.int .i64 xo5_1), (.int .i64 xo5_2), (.int .i64 xo5_3), (.int .i64 xo5_4), (.list true [(.int .i64), (.list false [(.int .u64)])] lo5_5)])))]⟩)
    none)
  (k (.exit 2) ⟨[(3, (.ptr 3 0 0)), (4, (.bool b4)), (5, (.ptr 5 0 0)), (6, (.str s6)), (7, (.int .i64 x7)), (9, (.int .i64 x9)), (33, (.list true [(.int .i64), (.list false [(.int .u64)])] l33)), (34, (.int .i64 x34)), (35, (.int .i64 x35))], [(3, (some (.box [(.int .i64 xo3_0), (.list false [(.int .i64)] lo3_1), (.list false [(.int .i64)] lo3_2), (.list false [(.int .i64)] lo3_3), (.list false [(.int .i64)] lo3_4)]))), (5, (some (.box [(.int .i64 xo5_0), (.int .i64 xo5_1), (.int .i64 xo5_2), (.int .i64 xo5_3), (.int .i64 xo5_4), (.list true [(.int .i64), (.list false [(.int .u64)])] lo5_5)])))]⟩)) := by kernel_rfl

theorem ex_copselaw9_TextLines_2_1 (N : Nat) (b4 : Bool) (s6 : ByteArray) (x7 : Int) (x9 : Int) (l33 : List IV) (x34 : Int) (x35 : Int) (xo3_0 : Int) (lo3_1 : List IV) (lo3_2 : List IV) (lo3_3 : List IV) (lo3_4 : List IV) (xo5_0 : Int) (xo5_1 : Int) (xo5_2 : Int) (xo5_3 : Int) (xo5_4 : Int) (lo5_5 : List IV) : (kBlock 2 (kSq (E_copselaw9_TextLines N) (subC c_copselaw9_TextLines [1, 1, 1, 1, 1, 1, 1]) (outT (E_copselaw9_TextLines N) none [(ResultVar.tmp 4)] [[.bool]]))) (.exit 2)
    ⟨[(3, (.ptr 3 0 0)), (4, (.bool b4)), (5, (.ptr 5 0 0)), (6, (.str s6)), (7, (.int .i64 x7)), (9, (.int .i64 x9)), (33, (.list true [(.int .i64), (.list false [(.int .u64)])] l33)), (34, (.int .i64 x34)), (35, (.int .i64 x35))], [(3, (some (.box [(.int .i64 xo3_0), (.list false [(.int .i64)] lo3_1), (.list false [(.int .i64)] lo3_2), (.list false [(.int .i64)] lo3_3), (.list false [(.int .i64)] lo3_4)]))), (5, (some (.box [(.int .i64 xo5_0), (.int .i64 xo5_1), (.int .i64 xo5_2), (.int .i64 xo5_3), (.int .i64 xo5_4), (.list true [(.int .i64), (.list false [(.int .u64)])] lo5_5)])))]⟩ =
  (cond (decide ((0 + List.length lo5_5) * TI.bytes (Env.tyd (E_copselaw9_TextLines N) 29) ≤ bytesMax))
  (cond (decide (1 ≤ xo5_0) && decide (xo5_0 ≤ 4))
    (cond (decide ((0 + List.length lo5_5 + List.length (List.drop 0 (List.take 1 [IV.agg [IV.int 0, IV.list (nodesL lo3_1 lo3_2 lo3_3 lo3_4 xo5_0)]]))) * TI.bytes (Env.tyd (E_copselaw9_TextLines N) 29) ≤ bytesMax))
      (cond (decide (ByteArray.size (printM { d := xo5_0, c := xo5_1, b0 := xo5_2, b1 := xo5_3, b2 := xo5_4, ts := List.drop 0 (List.take (0 + List.length lo5_5 + List.length (List.drop 0 (List.take 1 [IV.agg [IV.int 0, IV.list (nodesL lo3_1 lo3_2 lo3_3 lo3_4 xo5_0)]]))) (List.take (0 + List.length lo5_5) (List.take 0 [] ++ lo5_5) ++ List.drop 0 (List.take 1 [IV.agg [IV.int 0, IV.list (nodesL lo3_1 lo3_2 lo3_3 lo3_4 xo5_0)]]))) }) < 4294967281))
        (cond (x7 == IntKind.wrap IntKind.i64 (IntKind.wrap IntKind.i64 (2 + ic (List.length lo5_5)) + x9))
          (cond (decide (ic (ByteArray.size (printM { d := xo5_0, c := xo5_1, b0 := xo5_2, b1 := xo5_3, b2 := xo5_4, ts := List.drop 0 (List.take (0 + List.length lo5_5 + List.length (List.drop 0 (List.take 1 [IV.agg [IV.int 0, IV.list (nodesL lo3_1 lo3_2 lo3_3 lo3_4 xo5_0)]]))) (List.take (0 + List.length lo5_5) (List.take 0 [] ++ lo5_5) ++ List.drop 0 (List.take 1 [IV.agg [IV.int 0, IV.list (nodesL lo3_1 lo3_2 lo3_3 lo3_4 xo5_0)]]))) })) > ic (ByteArray.size s6)))
            (cond (decide (0 ≤ ic (ByteArray.size s6)) && decide (ic (ByteArray.size s6) ≤ ic (ByteArray.size (printM { d := xo5_0, c := xo5_1, b0 := xo5_2, b1 := xo5_3, b2 := xo5_4, ts := List.drop 0 (List.take (0 + List.length lo5_5 + List.length (List.drop 0 (List.take 1 [IV.agg [IV.int 0, IV.list (nodesL lo3_1 lo3_2 lo3_3 lo3_4 xo5_0)]]))) (List.take (0 + List.length lo5_5) (List.take 0 [] ++ lo5_5) ++ List.drop 0 (List.take 1 [IV.agg [IV.int 0, IV.list (nodesL lo3_1 lo3_2 lo3_3 lo3_4 xo5_0)]]))) }))))
              (cond (ByteArray.toList (ByteArray.extract (printM { d := xo5_0, c := xo5_1, b0 := xo5_2, b1 := xo5_3, b2 := xo5_4, ts := List.drop 0 (List.take (0 + List.length lo5_5 + List.length (List.drop 0 (List.take 1 [IV.agg [IV.int 0, IV.list (nodesL lo3_1 lo3_2 lo3_3 lo3_4 xo5_0)]]))) (List.take (0 + List.length lo5_5) (List.take 0 [] ++ lo5_5) ++ List.drop 0 (List.take 1 [IV.agg [IV.int 0, IV.list (nodesL lo3_1 lo3_2 lo3_3 lo3_4 xo5_0)]]))) }) 0 (Int.toNat (ic (ByteArray.size s6)))) == ByteArray.toList s6)
                (cond (textOK (printM { d := xo5_0, c := xo5_1, b0 := xo5_2, b1 := xo5_3, b2 := xo5_4, ts := List.drop 0 (List.take (0 + List.length lo5_5 + List.length (List.drop 0 (List.take 1 [IV.agg [IV.int 0, IV.list (nodesL lo3_1 lo3_2 lo3_3 lo3_4 xo5_0)]]))) (List.take (0 + List.length lo5_5) (List.take 0 [] ++ lo5_5) ++ List.drop 0 (List.take 1 [IV.agg [IV.int 0, IV.list (nodesL lo3_1 lo3_2 lo3_3 lo3_4 xo5_0)]]))) }))
                  (cond (sameM (textM (printM { d := xo5_0, c := xo5_1, b0 := xo5_2, b1 := xo5_3, b2 := xo5_4, ts := List.drop 0 (List.take (0 + List.length lo5_5 + List.length (List.drop 0 (List.take 1 [IV.agg [IV.int 0, IV.list (nodesL lo3_1 lo3_2 lo3_3 lo3_4 xo5_0)]]))) (List.take (0 + List.length lo5_5) (List.take 0 [] ++ lo5_5) ++ List.drop 0 (List.take 1 [IV.agg [IV.int 0, IV.list (nodesL lo3_1 lo3_2 lo3_3 lo3_4 xo5_0)]]))) })) { d := xo5_0, c := xo5_1, b0 := xo5_2, b1 := xo5_3, b2 := xo5_4, ts := List.drop 0 (List.take (0 + List.length lo5_5 + List.length (List.drop 0 (List.take 1 [IV.agg [IV.int 0, IV.list (nodesL lo3_1 lo3_2 lo3_3 lo3_4 xo5_0)]]))) (List.take (0 + List.length lo5_5) (List.take 0 [] ++ lo5_5) ++ List.drop 0 (List.take 1 [IV.agg [IV.int 0, IV.list (nodesL lo3_1 lo3_2 lo3_3 lo3_4 xo5_0)]]))) })
                    (some ((.bool true), []))
                    (some ((.bool false), [])))
                  (some ((.bool false), [])))
                (some ((.bool false), [])))
              none)
            (some ((.bool false), [])))
          (some ((.bool false), [])))
        none)
      none)
    none)
  none) := by kernel_rfl

end Go.FM

/-
  text's LAWS COME TO true (2): TextLines.
-/
namespace Go.FM
open Go Go.Proofs

def S_copselaw9_TextLines : RSpec
  | [.agg [.int .i64 _, .int .i64 _, .list false [.int .i64] _, .list true [.int .i64, .list false [.int .i64], .list false [.int .i64], .list false [.int .i64], .list false [.int .i64]] _],
     .agg [.int .i64 _, .list false [.int .i64] _, .list false [.int .i64] _, .list false [.int .i64] _, .list false [.int .i64] _]] => .ok (.bool true) []
  | _ => .no

/-! ### how many lines -/
theorem count_line {ws : List ByteArray} (h : WsOK ws) : (lineB ws).data.toList.count 10 = 1 := by
  have hn : (10 : UInt8) ∉ (joinB ws w_space).data.toList := by
    rw [joinB_data]
    refine mem_joinC 32 10 (by decide) _ fun v hv => ?_
    obtain ⟨u, hu, rfl⟩ := List.mem_map.1 hv
    exact h.lf u hu
  rw [lineB_data, List.count_append, List.count_eq_zero_of_not_mem hn]
  rfl
theorem count_text : ∀ (L : List (List ByteArray)), (∀ ws ∈ L, WsOK ws) → (textB L).data.toList.count 10 = L.length
  | [], _ => rfl
  | l :: L, h => by
    have e : (textB (l :: L)).data.toList = (lineB l).data.toList ++ (textB L).data.toList := by
      rw [textB]
      simp
    rw [e, List.count_append, count_line (h l (List.mem_cons_self ..)), count_text L (fun ws hw => h ws (List.mem_cons_of_mem _ hw)), List.length_cons]
    omega
def nodesN (ts : List IV) : Nat := (ts.map fun t => (t.cell 1).toList.length).sum
theorem treesW_len : ∀ (ts : List IV), (treesW ts).length = ts.length + nodesN ts
  | [] => rfl
  | t :: r => by
    have e : (treeW t).length = 1 + (t.cell 1).toList.length := by
      unfold treeW nodesW
      rw [List.length_cons, List.length_map]
      omega
    rw [treesW, List.length_append, e, treesW_len r, List.length_cons]
    unfold nodesN
    rw [List.map_cons, List.sum_cons]
    omega
theorem count_print {m : Md} (h : modelB m = true) : (printM m).data.toList.count 10 = 2 + (m.ts.length + nodesN m.ts) := by
  have hp : printM m = textB (linesM m) := by unfold printM; rw [h]; rfl
  rw [hp, count_text (linesM m) (fun ws hws => by
    have hws : ws ∈ headM m ++ treesW m.ts := hws
    rcases List.mem_append.1 hws with hws | hws
    · exact headM_ws m ws hws
    · exact treesW_ws m.ts ws hws)]
  show (headM m ++ treesW m.ts).length = _
  rw [List.length_append, treesW_len]
  rfl

/-! ### a tree more -/
def moreM (m : Md) (t : IV) : Md := ⟨m.d, m.c, m.b0, m.b1, m.b2, m.ts ++ [t]⟩
theorem treesW_app : ∀ (a b : List IV), treesW (a ++ b) = treesW a ++ treesW b
  | [], _ => rfl
  | t :: a, b => by rw [List.cons_append, treesW, treesW, treesW_app a b, List.append_assoc]
theorem print_more {m : Md} (h : modelB m = true) {t : IV} (hm : modelB (moreM m t) = true) : printM (moreM m t) = printM m ++ textB (treeW t) := by
  have hp : printM m = textB (linesM m) := by unfold printM; rw [h]; rfl
  have hq : printM (moreM m t) = textB (linesM (moreM m t)) := by unfold printM; rw [hm]; rfl
  rw [hp, hq, ← textB_app]
  congr 1
  show headM m ++ treesW (m.ts ++ [t]) = (headM m ++ treesW m.ts) ++ treeW t
  rw [treesW_app, ← List.append_assoc]
  congr 1
  show treeW t ++ [] = treeW t
  rw [List.append_nil]
theorem ext_app (s t : ByteArray) : (s ++ t).extract 0 s.size = s := by
  apply bytes_ext
  rw [ByteArray.data_extract, Array.toList_extract, List.extract_eq_take_drop, size_len]
  simp

/-! ### the walk -/
abbrev xsL (k : Int) (p1 p2 p3 p4 : List IV) (m : Md) (s : ByteArray) (c i : Int) : St :=
  ⟨[(3, (.ptr 3 0 0)), (4, (.bool false)), (5, (.ptr 5 0 0)), (6, (.str s)), (7, (.int .i64 c)), (21, (.int .i64 (ic s.size))), (22, (.int .i64 i))], [(3, (some (.box [(.int .i64 k), (.list false [(.int .i64)] p1), (.list false [(.int .i64)] p2), (.list false [(.int .i64)] p3), (.list false [(.int .i64)] p4)]))), (5, (some (.box [(.int .i64 m.d), (.int .i64 m.c), (.int .i64 m.b0), (.int .i64 m.b1), (.int .i64 m.b2), (.list true [(.int .i64), (.list false [(.int .u64)])] m.ts)])))]⟩
theorem byte_ten (c : UInt8) : (ic c.toNat == 10) = (c == 10) := by
  rw [Bool.eq_iff_iff, beq_iff_eq, beq_iff_eq]
  constructor
  · intro h
    apply UInt8.toNat_inj.1
    have h : ((c.toNat : Nat) : Int) = 10 := h
    show c.toNat = 10
    omega
  · intro h
    subst h
    rfl
theorem lines_run (N : Nat) (k : Int) (p1 p2 p3 p4 : List IV) (m : Md) (s : ByteArray) (hs : s.size ≤ 1000000) (K : Out → St → Res) : ∀ (d i n c : Nat), i + d = s.size → d < n → c ≤ i →
    lpE (E_copselaw9_TextLines N) (subC c_copselaw9_TextLines [1, 1, 1, 1, 0, 1, 0, 0]) ⟨[3, 4, 5, 6, 7, 21, 22], [3, 5], []⟩ n (xsL k p1 p2 p3 p4 m s (c : Int) (i : Int)) K =
      K (.exit 0) (xsL k p1 p2 p3 p4 m s ((c + (s.data.toList.drop i).count 10 : Nat) : Int) (ic s.size))
  | d, i, 0, c, _, h, _ => absurd h (by omega)
  | 0, i, n + 1, c, hd, _, _ => by
    have hi : i = s.size := by omega
    subst hi
    rw [lpE_succ, st_copselaw9_TextLines_1, decide_eq_false (show ¬ (s.size : Int) < ic s.size by simp only [ic]; omega), condF]
    have : List.drop s.size s.data.toList = [] := by rw [size_len]; exact List.drop_length
    rw [this]
    rfl
  | d + 1, i, n + 1, c, hd, hn, hc => by
    have hil : i < s.data.toList.length := by rw [← size_len]; omega
    have ei : IntKind.wrap IntKind.i64 ((i : Int) + 1) = ((i + 1 : Nat) : Int) := by
      rw [wrap_id (by omega) (by omega)]
      omega
    have ec : IntKind.wrap IntKind.i64 ((c : Int) + 1) = ((c + 1 : Nat) : Int) := by
      rw [wrap_id (by omega) (by omega)]
      omega
    have hg : s.data.toList.getD (Int.toNat (i : Int)) 0 = s.data.toList[i] := by
      rw [Int.toNat_natCast, List.getD_eq_getElem?_getD, List.getElem?_eq_getElem hil]
      rfl
    rw [lpE_succ, st_copselaw9_TextLines_1, ei, ec, hg, byte_ten, decide_eq_true (show (i : Int) < ic s.size by simp only [ic]; omega), condT, decide_eq_true (show (0 : Int) ≤ (i : Int) by omega), Bool.and_self, condT, List.drop_eq_getElem_cons hil, List.count_cons]
    cases (s.data.toList[i] == 10) with
    | true =>
      rw [condT]
      refine (lines_run N k p1 p2 p3 p4 m s hs K d (i + 1) n (c + 1) (by omega) (by omega) (by omega)).trans ?_
      have : c + 1 + List.count 10 (List.drop (i + 1) s.data.toList) = c + (List.count 10 (List.drop (i + 1) s.data.toList) + if true = true then 1 else 0) := by
        rw [if_pos rfl]
        omega
      rw [this]
    | false =>
      rw [condF]
      exact lines_run N k p1 p2 p3 p4 m s hs K d (i + 1) n c (by omega) (by omega) (by omega)

abbrev xsM (k : Int) (p1 p2 p3 p4 : List IV) (m : Md) (s : ByteArray) (c x i : Int) : St :=
  ⟨[(3, (.ptr 3 0 0)), (4, (.bool false)), (5, (.ptr 5 0 0)), (6, (.str s)), (7, (.int .i64 c)), (9, (.int .i64 x)), (33, (.list true [(.int .i64), (.list false [(.int .u64)])] m.ts)), (34, (.int .i64 (ic m.ts.length))), (35, (.int .i64 i))], [(3, (some (.box [(.int .i64 k), (.list false [(.int .i64)] p1), (.list false [(.int .i64)] p2), (.list false [(.int .i64)] p3), (.list false [(.int .i64)] p4)]))), (5, (some (.box [(.int .i64 m.d), (.int .i64 m.c), (.int .i64 m.b0), (.int .i64 m.b1), (.int .i64 m.b2), (.list true [(.int .i64), (.list false [(.int .u64)])] m.ts)])))]⟩
theorem sizes_run (N : Nat) (k : Int) (p1 p2 p3 p4 : List IV) (m : Md) (s : ByteArray) (c : Int) (hl : m.ts.length ≤ 8) (ht : ∀ t ∈ m.ts, (t.cell 1).toList.length ≤ 31) (K : Out → St → Res) : ∀ (d i n x : Nat), i + d = m.ts.length → d < n → x ≤ 31 * i →
    lpE (E_copselaw9_TextLines N) (subC c_copselaw9_TextLines [1, 1, 1, 1, 1, 1, 0, 1, 0, 0]) ⟨[3, 4, 5, 6, 7, 9, 33, 34, 35], [3, 5], []⟩ n (xsM k p1 p2 p3 p4 m s c (x : Int) (i : Int)) K =
      K (.exit 2) (xsM k p1 p2 p3 p4 m s c ((x + nodesN (m.ts.drop i) : Nat) : Int) (ic m.ts.length))
  | d, i, 0, x, _, h, _ => absurd h (by omega)
  | 0, i, n + 1, x, hd, _, _ => by
    have hi : i = m.ts.length := by omega
    subst hi
    rw [lpE_succ, st_copselaw9_TextLines_2, decide_eq_false (show ¬ (m.ts.length : Int) < ic m.ts.length by simp only [ic]; omega), condF, List.drop_length]
    rfl
  | d + 1, i, n + 1, x, hd, hn, hx => by
    have hil : i < m.ts.length := by omega
    have ei : IntKind.wrap IntKind.i64 ((i : Int) + 1) = ((i + 1 : Nat) : Int) := by
      rw [wrap_id (by omega) (by omega)]
      omega
    have hg : m.ts.getD (Int.toNat (i : Int)) default = m.ts[i] := by
      rw [Int.toNat_natCast, List.getD_eq_getElem?_getD, List.getElem?_eq_getElem hil]
      rfl
    have h31 := ht m.ts[i] (List.getElem_mem hil)
    have ex : IntKind.wrap IntKind.i64 ((x : Int) + ic (List.length (IV.toList (IV.cell m.ts[i] 1)))) = ((x + (IV.toList (IV.cell m.ts[i] 1)).length : Nat) : Int) := by
      simp only [ic]
      rw [wrap_id (by omega) (by omega)]
      omega
    rw [lpE_succ, st_copselaw9_TextLines_2, ei, hg, ex, decide_eq_true (show (i : Int) < ic m.ts.length by simp only [ic]; omega), condT, decide_eq_true (show (0 : Int) ≤ (i : Int) by omega), Bool.and_self, condT, List.drop_eq_getElem_cons hil]
    refine (sizes_run N k p1 p2 p3 p4 m s c hl ht K d (i + 1) n _ (by omega) (by omega) (by omega)).trans ?_
    have : x + (IV.toList (IV.cell m.ts[i] 1)).length + nodesN (List.drop (i + 1) m.ts) = x + nodesN (m.ts[i] :: List.drop (i + 1) m.ts) := by
      unfold nodesN
      rw [List.map_cons, List.sum_cons]
      omega
    rw [this]

theorem lines_exit (N : Nat) (hN : 40 ≤ N) (k : Int) (p1 p2 p3 p4 : List IV) {m : Md} (hm : modelB m = true) (wm : wfM m) (h4 : m.ts.length ≤ 4) (hd4 : 1 ≤ m.d ∧ m.d ≤ 4) :
    (kBlock 0 (kSq (E_copselaw9_TextLines N) (subC c_copselaw9_TextLines [1, 1, 1, 1, 1]) (outT (E_copselaw9_TextLines N) none [(ResultVar.tmp 4)] [[.bool]]))) (.exit 0) (xsL k p1 p2 p3 p4 m (printM m) ((2 + (m.ts.length + nodesN m.ts) : Nat) : Int) (ic (printM m).size)) = some (.bool true, []) := by
  obtain ⟨hd, hc, hl, hb, ht⟩ := model_get hm
  have ht' : ∀ t ∈ m.ts, (t.cell 1).toList.length ≤ 31 := fun t htm => (treeOK_get (List.all_eq_true.1 ht t htm)).2.2.2.1
  have hsum : ∀ (l : List IV), (∀ t ∈ l, (t.cell 1).toList.length ≤ 31) → nodesN l ≤ 31 * l.length := fun l => by
    induction l with
    | nil => exact fun _ => Nat.le_refl _
    | cons t r ih =>
      intro h
      have := ih fun u hu => h u (List.mem_cons_of_mem _ hu)
      have := h t (List.mem_cons_self ..)
      unfold nodesN at *
      rw [List.map_cons, List.sum_cons, List.length_cons]
      omega
  have hn := hsum m.ts ht'
  refine (ex_copselaw9_TextLines_1_1 N false (printM m) _ (ic (printM m).size) (ic (printM m).size) k p1 p2 p3 p4 m.d m.c m.b0 m.b1 m.b2 m.ts).trans ?_
  refine (sizes_run N k p1 p2 p3 p4 m (printM m) _ hl ht' _ m.ts.length 0 N 0 (by omega) (by omega) (by omega)).trans ?_
  refine (ex_copselaw9_TextLines_2_1 N false (printM m) _ _ m.ts (ic m.ts.length) (ic m.ts.length) k p1 p2 p3 p4 m.d m.c m.b0 m.b1 m.b2 m.ts).trans ?_
  have e1 : List.drop 0 (List.take 1 [IV.agg [IV.int 0, IV.list (nodesL p1 p2 p3 p4 m.d)]]) = [IV.agg [IV.int 0, IV.list (nodesL p1 p2 p3 p4 m.d)]] := rfl
  have e2 : List.length [IV.agg [IV.int 0, IV.list (nodesL p1 p2 p3 p4 m.d)]] = 1 := rfl
  have e3 : List.drop 0 (List.take (0 + m.ts.length + 1) (List.take (0 + m.ts.length) (List.take 0 [] ++ m.ts) ++ [IV.agg [IV.int 0, IV.list (nodesL p1 p2 p3 p4 m.d)]])) = m.ts ++ [IV.agg [IV.int 0, IV.list (nodesL p1 p2 p3 p4 m.d)]] := by
    have a1 : (List.take 0 ([] : List IV) ++ m.ts) = m.ts := rfl
    rw [a1, List.drop_zero, List.take_of_length_le (l := m.ts) (by omega), List.take_of_length_le (by rw [List.length_append, List.length_cons, List.length_nil]; omega)]
  rw [e1, e2, e3]
  generalize ht0 : IV.agg [IV.int 0, IV.list (nodesL p1 p2 p3 p4 m.d)] = t
  have hmore : modelB (moreM m t) = true := by
    refine model_of (m := moreM m t) hd hc (by show (m.ts ++ [t]).length ≤ 8; rw [List.length_append, List.length_cons, List.length_nil]; omega) hb.1 hb.2.1 hb.2.2 ?_
    show (m.ts ++ [t]).all (treeOK m.d m.c) = true
    rw [List.all_append, ht, Bool.true_and, ← ht0]
    show ((!(decide ((0 : Int) < 0)) && (!(decide ((0 : Int) ≥ m.c)) && treeB (nodesL p1 p2 p3 p4 m.d) m.d)) && true) = true
    rw [decide_eq_false (show ¬ (0 : Int) ≥ m.c by omega), nodes_tree p1 p2 p3 p4 hd4]
    rfl
  have wmore : wfM (moreM m t) := by
    intro u hu
    have hu : u ∈ m.ts ++ [t] := hu
    rcases List.mem_append.1 hu with hu | hu
    · exact wm u hu
    · rw [List.mem_singleton.1 hu, ← ht0]
      refine ⟨_, _, rfl, fun w hw => ?_⟩
      unfold nodesL at hw
      obtain ⟨x, _, rfl⟩ := List.mem_map.1 hw
      exact ⟨_, rfl⟩
  have hp := print_more hm hmore
  obtain ⟨z1, z2⟩ := print_size hmore
  obtain ⟨t1, t2⟩ := text_back hmore wmore
  have eM : (⟨m.d, m.c, m.b0, m.b1, m.b2, m.ts ++ [t]⟩ : Md) = moreM m t := rfl
  have eb : TI.bytes (Env.tyd (E_copselaw9_TextLines N) 29) = 32 := rfl
  have hgt : (printM m).size < (printM (moreM m t)).size := by
    rw [hp, ByteArray.size_append]
    have : treeW t = [w_tree, itoaB (t.cell 0).toInt, itoaB (ic (t.cell 1).toList.length)] :: nodesW (t.cell 1).toList := rfl
    rw [this, textB, ByteArray.size_append]
    have : 1 ≤ (lineB [w_tree, itoaB (t.cell 0).toInt, itoaB (ic (t.cell 1).toList.length)]).size := by
      unfold lineB
      rw [ByteArray.size_append]
      have e1 : ByteArray.size w_lf = 1 := rfl
      omega
    omega
  have hx : ByteArray.extract (printM (moreM m t)) 0 (Int.toNat (ic (printM m).size)) = printM m := by
    have : Int.toNat (ic (printM m).size) = (printM m).size := by simp only [ic]; omega
    rw [this, hp, ext_app]
  have w1 : IntKind.wrap IntKind.i64 (2 + ic m.ts.length) = 2 + (m.ts.length : Int) := by
    simp only [ic]
    exact wrap_id (by omega) (by omega)
  have w2 : IntKind.wrap IntKind.i64 (2 + (m.ts.length : Int) + ((0 + nodesN (List.drop 0 m.ts) : Nat) : Int)) = ((2 + (m.ts.length + nodesN m.ts) : Nat) : Int) := by
    rw [List.drop_zero, wrap_id (by omega) (by omega)]
    omega
  rw [eM, eb, w1, w2, hx, t1, t2, sameM_self, beq_yes, beq_self_eq_true,
    decide_eq_true (show (0 + m.ts.length) * 32 ≤ bytesMax by unfold bytesMax; omega), decide_eq_true hd4.1, decide_eq_true hd4.2, decide_eq_true (show (0 + m.ts.length + 1) * 32 ≤ bytesMax by unfold bytesMax; omega),
    decide_eq_true (show (printM (moreM m t)).size < 4294967281 by omega), decide_eq_true (show ic (printM (moreM m t)).size > ic (printM m).size by simp only [ic]; omega), decide_eq_true (show (0 : Int) ≤ ic (printM m).size by simp only [ic]; omega), decide_eq_true (show ic (printM m).size ≤ ic (printM (moreM m t)).size by simp only [ic]; omega)]
  rfl

set_option maxRecDepth 100000 in
theorem snd_copselaw9_TextLines : SndR PR B0 7 S_copselaw9_TextLines := by
  refine snd_mk [(12, S_copsekeep_Forest_Model), (11, S_copsekeep_Models), (16, S_copsekeep_Tree_Nodes), (3, S_copselaw9_TextRuns), (9, S_text_Parse), (10, S_text_Print)] [(5, ⟨[3, 4, 5, 6, 7, 21, 22], [3, 5], []⟩), (12, ⟨[3, 4, 5, 6, 7, 9, 33, 34, 35], [3, 5], []⟩)] S_copselaw9_TextLines [[.bool]] Tryz.func7 h_copselaw9_TextLines ⟨snd_copsekeep_Forest_Model, snd_copsekeep_Models, snd_copsekeep_Tree_Nodes, snd_copselaw9_TextRuns, snd_text_Parse, snd_text_Print, trivial⟩ ?_
  intro vs r hwf h
  unfold S_copselaw9_TextLines at h
  split at h
  · rename_i d c bi ts k p1 p2 p3 p4
    refine ⟨300001, ?_⟩
    rw [R.get_ok] at h
    rw [← h]
    refine (nf_copselaw9_TextLines 300001 d c bi ts k p1 p2 p3 p4).trans ?_
    have hm := model_right d c bi ts
    have wm := modelF_wf d c bi ts
    have h4 : (modelF d c bi ts).ts.length ≤ 4 := trees_len d c ts
    have hd := dimF_in d
    have hd4 : 1 ≤ (modelF d c bi ts).d ∧ (modelF d c bi ts).d ≤ 4 := ⟨hd.1, by show dimF d ≤ 4; omega⟩
    obtain ⟨z1, z2⟩ := print_size hm
    have run := lines_run 300001 k p1 p2 p3 p4 (modelF d c bi ts) (printM (modelF d c bi ts)) (by omega) (kBlock 0 (kSq (E_copselaw9_TextLines 300001) (subC c_copselaw9_TextLines [1, 1, 1, 1, 1]) (outT (E_copselaw9_TextLines 300001) none [(ResultVar.tmp 4)] [[.bool]]))) (printM (modelF d c bi ts)).size 0 300001 0 (by omega) (by omega) (by omega)
    rw [List.drop_zero, Nat.zero_add, count_print hm] at run
    refine run.trans ?_
    exact lines_exit 300001 (by omega) k p1 p2 p3 p4 hm wm h4 hd4
  · simp [R.get] at h

end Go.FM
