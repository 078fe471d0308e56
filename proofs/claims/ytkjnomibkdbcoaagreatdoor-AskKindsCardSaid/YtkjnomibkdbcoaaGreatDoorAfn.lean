/-
  What the functions of package ask come to: each proved of the program by the small machine; under each specification's own bounds on sizes.
-/
import Derived.Test.YtkjnomibkdbcoaaGreatDoorLib
import Derived.Test.YtkjnomibkdbcoaaGreatDoorDfn
import Derived.Test.YtkjnomibkdbcoaaGreatDoorDlw

/-
  NORMAL FORMS: what the functions' runs come to (written by a program of this claim's own, checked by the kernel).
-/
namespace Go.FM
open Go Go.Proofs

/-! ### copse/ask.told -/
def E_ask_told (N : Nat) : Env := mkE [] [] 39 N

theorem nf_ask_told (N : Nat) (q_Kind : Int) (q_Class : Int) (q_Region_0_Lo : Int) (q_Region_0_Hi : Int) (q_Region_1_Lo : Int) (q_Region_1_Hi : Int) (q_Region_2_Lo : Int) (q_Region_2_Hi : Int) (q_Region_3_Lo : Int) (q_Region_3_Hi : Int) (q_Region_4_Lo : Int) (q_Region_4_Hi : Int) (q_Lo : Int) (q_Hi : Int) (q_Feature : Int) (q_Falls : Bool) (q_Budget : Int) (dim : Int) : evFun (E_ask_told N) c_ask_told [.cell 4 38] [[.int .i64, .int .i64, .int .i64, .int .i64, .int .i64, .int .i64, .int .i64, .int .i64, .int .i64, .int .i64, .int .i64, .int .i64, .int .i64, .int .i64, .int .i64, .bool, .int .i64]] [(.agg [(.int .i64 q_Kind), (.int .i64 q_Class), (.int .i64 q_Region_0_Lo), (.int .i64 q_Region_0_Hi), (.int .i64 q_Region_1_Lo), (.int .i64 q_Region_1_Hi), (.int .i64 q_Region_2_Lo), (.int .i64 q_Region_2_Hi), (.int .i64 q_Region_3_Lo), (.int .i64 q_Region_3_Hi), (.int .i64 q_Region_4_Lo), (.int .i64 q_Region_4_Hi), (.int .i64 q_Lo), (.int .i64 q_Hi), (.int .i64 q_Feature), (.bool q_Falls), (.int .i64 q_Budget)]), (.int .i64 dim)] =
  (cond (decide (0 ≤ dim) && decide (dim ≤ ic 5))
  (cond (decide (0 ≤ dim) && decide (dim ≤ ic 5))
    (cond (decide (ic (min (Int.toNat dim) (Int.toNat dim)) = ic 0))
      (cond (q_Kind == 1)
        (some ((.agg [(.int .i64 q_Kind), (.int .i64 q_Class), (.int .i64 0), (.int .i64 0), (.int .i64 0), (.int .i64 0), (.int .i64 0), (.int .i64 0), (.int .i64 0), (.int .i64 0), (.int .i64 0), (.int .i64 0), (.int .i64 q_Lo), (.int .i64 q_Hi), (.int .i64 0), (.bool false), (.int .i64 q_Budget)]), []))
        (cond (q_Kind == 3)
          (some ((.agg [(.int .i64 q_Kind), (.int .i64 q_Class), (.int .i64 0), (.int .i64 0), (.int .i64 0), (.int .i64 0), (.int .i64 0), (.int .i64 0), (.int .i64 0), (.int .i64 0), (.int .i64 0), (.int .i64 0), (.int .i64 0), (.int .i64 0), (.int .i64 q_Feature), (.bool q_Falls), (.int .i64 q_Budget)]), []))
          (some ((.agg [(.int .i64 q_Kind), (.int .i64 q_Class), (.int .i64 0), (.int .i64 0), (.int .i64 0), (.int .i64 0), (.int .i64 0), (.int .i64 0), (.int .i64 0), (.int .i64 0), (.int .i64 0), (.int .i64 0), (.int .i64 0), (.int .i64 0), (.int .i64 0), (.bool false), (.int .i64 q_Budget)]), []))))
      (cond (decide (ic (min (Int.toNat dim) (Int.toNat dim)) = ic 1))
        (cond (q_Kind == 1)
          (some ((.agg [(.int .i64 q_Kind), (.int .i64 q_Class), (.int .i64 q_Region_0_Lo), (.int .i64 q_Region_0_Hi), (.int .i64 0), (.int .i64 0), (.int .i64 0), (.int .i64 0), (.int .i64 0), (.int .i64 0), (.int .i64 0), (.int .i64 0), (.int .i64 q_Lo), (.int .i64 q_Hi), (.int .i64 0), (.bool false), (.int .i64 q_Budget)]), []))
          (cond (q_Kind == 3)
            (some ((.agg [(.int .i64 q_Kind), (.int .i64 q_Class), (.int .i64 q_Region_0_Lo), (.int .i64 q_Region_0_Hi), (.int .i64 0), (.int .i64 0), (.int .i64 0), (.int .i64 0), (.int .i64 0), (.int .i64 0), (.int .i64 0), (.int .i64 0), (.int .i64 0), (.int .i64 0), (.int .i64 q_Feature), (.bool q_Falls), (.int .i64 q_Budget)]), []))
            (some ((.agg [(.int .i64 q_Kind), (.int .i64 q_Class), (.int .i64 q_Region_0_Lo), (.int .i64 q_Region_0_Hi), (.int .i64 0), (.int .i64 0), (.int .i64 0), (.int .i64 0), (.int .i64 0), (.int .i64 0), (.int .i64 0), (.int .i64 0), (.int .i64 0), (.int .i64 0), (.int .i64 0), (.bool false), (.int .i64 q_Budget)]), []))))
        (cond (decide (ic (min (Int.toNat dim) (Int.toNat dim)) = ic 2))
          (cond (q_Kind == 1)
            (some ((.agg [(.int .i64 q_Kind), (.int .i64 q_Class), (.int .i64 q_Region_0_Lo), (.int .i64 q_Region_0_Hi), (.int .i64 q_Region_1_Lo), (.int .i64 q_Region_1_Hi), (.int .i64 0), (.int .i64 0), (.int .i64 0), (.int .i64 0), (.int .i64 0), (.int .i64 0), (.int .i64 q_Lo), (.int .i64 q_Hi), (.int .i64 0), (.bool false), (.int .i64 q_Budget)]), []))
            (cond (q_Kind == 3)
              (some ((.agg [(.int .i64 q_Kind), (.int .i64 q_Class), (.int .i64 q_Region_0_Lo), (.int .i64 q_Region_0_Hi), (.int .i64 q_Region_1_Lo), (.int .i64 q_Region_1_Hi), (.int .i64 0), (.int .i64 0), (.int .i64 0), (.int .i64 0), (.int .i64 0), (.int .i64 0), (.int .i64 0), (.int .i64 0), (.int .i64 q_Feature), (.bool q_Falls), (.int .i64 q_Budget)]), []))
              (some ((.agg [(.int .i64 q_Kind), (.int .i64 q_Class), (.int .i64 q_Region_0_Lo), (.int .i64 q_Region_0_Hi), (.int .i64 q_Region_1_Lo), (.int .i64 q_Region_1_Hi), (.int .i64 0), (.int .i64 0), (.int .i64 0), (.int .i64 0), (.int .i64 0), (.int .i64 0), (.int .i64 0), (.int .i64 0), (.int .i64 0), (.bool false), (.int .i64 q_Budget)]), []))))
          (cond (decide (ic (min (Int.toNat dim) (Int.toNat dim)) = ic 3))
            (cond (q_Kind == 1)
              (some ((.agg [(.int .i64 q_Kind), (.int .i64 q_Class), (.int .i64 q_Region_0_Lo), (.int .i64 q_Region_0_Hi), (.int .i64 q_Region_1_Lo), (.int .i64 q_Region_1_Hi), (.int .i64 q_Region_2_Lo), (.int .i64 q_Region_2_Hi), (.int .i64 0), (.int .i64 0), (.int .i64 0), (.int .i64 0), (.int .i64 q_Lo), (.int .i64 q_Hi), (.int .i64 0), (.bool false), (.int .i64 q_Budget)]), []))
              (cond (q_Kind == 3)
                (some ((.agg [(.int .i64 q_Kind), (.int .i64 q_Class), (.int .i64 q_Region_0_Lo), (.int .i64 q_Region_0_Hi), (.int .i64 q_Region_1_Lo), (.int .i64 q_Region_1_Hi), (.int .i64 q_Region_2_Lo), (.int .i64 q_Region_2_Hi), (.int .i64 0), (.int .i64 0), (.int .i64 0), (.int .i64 0), (.int .i64 0), (.int .i64 0), (.int .i64 q_Feature), (.bool q_Falls), (.int .i64 q_Budget)]), []))
                (some ((.agg [(.int .i64 q_Kind), (.int .i64 q_Class), (.int .i64 q_Region_0_Lo), (.int .i64 q_Region_0_Hi), (.int .i64 q_Region_1_Lo), (.int .i64 q_Region_1_Hi), (.int .i64 q_Region_2_Lo), (.int .i64 q_Region_2_Hi), (.int .i64 0), (.int .i64 0), (.int .i64 0), (.int .i64 0), (.int .i64 0), (.int .i64 0), (.int .i64 0), (.bool false), (.int .i64 q_Budget)]), []))))
            (cond (decide (ic (min (Int.toNat dim) (Int.toNat dim)) = ic 4))
              (cond (q_Kind == 1)
                (some ((.agg [(.int .i64 q_Kind), (.int .i64 q_Class), (.int .i64 q_Region_0_Lo), (.int .i64 q_Region_0_Hi), (.int .i64 q_Region_1_Lo), (.int .i64 q_Region_1_Hi), (.int .i64 q_Region_2_Lo), (.int .i64 q_Region_2_Hi), (.int .i64 q_Region_3_Lo), (.int .i64 q_Region_3_Hi), (.int .i64 0), (.int .i64 0), (.int .i64 q_Lo), (.int .i64 q_Hi), (.int .i64 0), (.bool false), (.int .i64 q_Budget)]), []))
                (cond (q_Kind == 3)
                  (some ((.agg [(.int .i64 q_Kind), (.int .i64 q_Class), (.int .i64 q_Region_0_Lo), (.int .i64 q_Region_0_Hi), (.int .i64 q_Region_1_Lo), (.int .i64 q_Region_1_Hi), (.int .i64 q_Region_2_Lo), (.int .i64 q_Region_2_Hi), (.int .i64 q_Region_3_Lo), (.int .i64 q_Region_3_Hi), (.int .i64 0), (.int .i64 0), (.int .i64 0), (.int .i64 0), (.int .i64 q_Feature), (.bool q_Falls), (.int .i64 q_Budget)]), []))
                  (some ((.agg [(.int .i64 q_Kind), (.int .i64 q_Class), (.int .i64 q_Region_0_Lo), (.int .i64 q_Region_0_Hi), (.int .i64 q_Region_1_Lo), (.int .i64 q_Region_1_Hi), (.int .i64 q_Region_2_Lo), (.int .i64 q_Region_2_Hi), (.int .i64 q_Region_3_Lo), (.int .i64 q_Region_3_Hi), (.int .i64 0), (.int .i64 0), (.int .i64 0), (.int .i64 0), (.int .i64 0), (.bool false), (.int .i64 q_Budget)]), []))))
              (cond (decide (ic (min (Int.toNat dim) (Int.toNat dim)) = ic 5))
                (cond (q_Kind == 1)
                  (some ((.agg [(.int .i64 q_Kind), (.int .i64 q_Class), (.int .i64 q_Region_0_Lo), (.int .i64 q_Region_0_Hi), (.int .i64 q_Region_1_Lo), (.int .i64 q_Region_1_Hi), (.int .i64 q_Region_2_Lo), (.int .i64 q_Region_2_Hi), (.int .i64 q_Region_3_Lo), (.int .i64 q_Region_3_Hi), (.int .i64 q_Region_4_Lo), (.int .i64 q_Region_4_Hi), (.int .i64 q_Lo), (.int .i64 q_Hi), (.int .i64 0), (.bool false), (.int .i64 q_Budget)]), []))
                  (cond (q_Kind == 3)
                    (some ((.agg [(.int .i64 q_Kind), (.int .i64 q_Class), (.int .i64 q_Region_0_Lo), (.int .i64 q_Region_0_Hi), (.int .i64 q_Region_1_Lo), (.int .i64 q_Region_1_Hi), (.int .i64 q_Region_2_Lo), (.int .i64 q_Region_2_Hi), (.int .i64 q_Region_3_Lo), (.int .i64 q_Region_3_Hi), (.int .i64 q_Region_4_Lo), (.int .i64 q_Region_4_Hi), (.int .i64 0), (.int .i64 0), (.int .i64 q_Feature), (.bool q_Falls), (.int .i64 q_Budget)]), []))
                    (some ((.agg [(.int .i64 q_Kind), (.int .i64 q_Class), (.int .i64 q_Region_0_Lo), (.int .i64 q_Region_0_Hi), (.int .i64 q_Region_1_Lo), (.int .i64 q_Region_1_Hi), (.int .i64 q_Region_2_Lo), (.int .i64 q_Region_2_Hi), (.int .i64 q_Region_3_Lo), (.int .i64 q_Region_3_Hi), (.int .i64 q_Region_4_Lo), (.int .i64 q_Region_4_Hi), (.int .i64 0), (.int .i64 0), (.int .i64 0), (.bool false), (.int .i64 q_Budget)]), []))))
                none))))))
    none)
  none) := by kernel_rfl

/-! ### copse/ask.small -/
def E_ask_small (N : Nat) : Env := mkE [] [] 9 N

theorem nf_ask_small (N : Nat) (n : Int) : evFun (E_ask_small N) c_ask_small [.tmp 2] [[.bool]] [(.int .i64 n)] =
  (cond (decide (n ≥ 0))
  (some ((.bool (decide (n ≤ 1073741824))), []))
  (some ((.bool false), []))) := by kernel_rfl

/-! ### copse/ask.count -/
def E_ask_count (N : Nat) : Env := mkE [(39, S_strconv_Atoi)] [] 11 N

theorem nf_ask_count (N : Nat) (s : ByteArray) : evFun (E_ask_count N) c_ask_count [.tmp 2] [[.int .i64]] [(.str s)] =
  (some ((.int .i64 (atoiV s)), [])) := by kernel_rfl

/-! ### copse/ask.scan -/
def E_ask_scan (N : Nat) : Env := mkE [(38, S_dec_Scan)] [] 11 N

theorem nf_ask_scan (N : Nat) (s : ByteArray) : evFun (E_ask_scan N) c_ask_scan [.tmp 2] [[.int .i64]] [(.str s)] =
  (cond (decide (ByteArray.size s < 4294967281))
  (some ((.int .i64 (decV s)), []))
  none) := by kernel_rfl

/-! ### slices.Index<<>string,string> -/
def E_slices_Index_stringstring (N : Nat) : Env := mkE [] [(2, ⟨[0, 1, 4, 7, 8], [], []⟩)] 19 N

theorem nf_slices_Index_stringstring (N : Nat) (s : List IV) (v : ByteArray) : evFun (E_slices_Index_stringstring N) c_slices_Index_stringstring [.tmp 4] [[.int .i64]] [(.list false [.str] s), (.str v)] =
  (lpE (E_slices_Index_stringstring N) (subC c_slices_Index_stringstring [1, 0, 1, 0, 0]) ⟨[0, 1, 4, 7, 8], [], []⟩ N ⟨[(0, (.list false [.str] s)), (1, (.str v)), (4, (.int .i64 0)), (7, (.int .i64 (ic (List.length s)))), (8, (.int .i64 0))], []⟩ (kBlock 0 (kSq (E_slices_Index_stringstring N) (subC c_slices_Index_stringstring [1, 1]) (outT (E_slices_Index_stringstring N) none [(ResultVar.tmp 4)] [[(.int .i64)]])))) := by kernel_rfl

theorem st_slices_Index_stringstring_1 (N : Nat) (l0 : List IV) (s1 : ByteArray) (x4 : Int) (x7 : Int) (x8 : Int) (again : St → Res) (k : Out → St → Res) : rnd (E_slices_Index_stringstring N) (subC c_slices_Index_stringstring [1, 0, 1, 0, 0])
    ⟨[(0, (.list false [.str] l0)), (1, (.str s1)), (4, (.int .i64 x4)), (7, (.int .i64 x7)), (8, (.int .i64 x8))], []⟩
    (kLoop again ⟨[0, 1, 4, 7, 8], [], []⟩ k) =
  (cond (decide (x8 < x7))
  (cond (decide (0 ≤ x8) && decide (x8 < ic (List.length l0)))
    (cond (ByteArray.toList s1 == ByteArray.toList (IV.toStr (List.getD l0 (Int.toNat x8) default)))
      (k .ret ⟨[(0, (.list false [.str] l0)), (1, (.str s1)), (4, (.int .i64 x8)), (7, (.int .i64 x7)), (8, (.int .i64 x8))], []⟩)
      (again ⟨[(0, (.list false [.str] l0)), (1, (.str s1)), (4, (.int .i64 x4)), (7, (.int .i64 x7)), (8, (.int .i64 (IntKind.wrap IntKind.i64 (x8 + 1))))], []⟩))
    none)
  (k (.exit 0) ⟨[(0, (.list false [.str] l0)), (1, (.str s1)), (4, (.int .i64 x4)), (7, (.int .i64 x7)), (8, (.int .i64 x8))], []⟩)) := by kernel_rfl

theorem ex_slices_Index_stringstring_1_1 (N : Nat) (l0 : List IV) (s1 : ByteArray) (x4 : Int) (x7 : Int) (x8 : Int) : (kBlock 0 (kSq (E_slices_Index_stringstring N) (subC c_slices_Index_stringstring [1, 1]) (outT (E_slices_Index_stringstring N) none [(ResultVar.tmp 4)] [[(.int .i64)]]))) (.exit 0)
    ⟨[(0, (.list false [.str] l0)), (1, (.str s1)), (4, (.int .i64 x4)), (7, (.int .i64 x7)), (8, (.int .i64 x8))], []⟩ =
  (some ((.int .i64 (-1)), [])) := by kernel_rfl

theorem ex_slices_Index_stringstring_1_2 (N : Nat) (l0 : List IV) (s1 : ByteArray) (x4 : Int) (x7 : Int) (x8 : Int) : (kBlock 0 (kSq (E_slices_Index_stringstring N) (subC c_slices_Index_stringstring [1, 1]) (outT (E_slices_Index_stringstring N) none [(ResultVar.tmp 4)] [[(.int .i64)]]))) .ret
    ⟨[(0, (.list false [.str] l0)), (1, (.str s1)), (4, (.int .i64 x4)), (7, (.int .i64 x7)), (8, (.int .i64 x8))], []⟩ =
  (some ((.int .i64 x4), [])) := by kernel_rfl

/-! ### copse/ask.head -/
def E_ask_head (N : Nat) : Env := mkE [(25, S_ask_count), (24, S_ask_scan), (36, S_slices_Clone_stringstring)] [] 46 N

theorem nf_ask_head (N : Nat) (l : List IV) : evFun (E_ask_head N) c_ask_head [.cell 2 38] [[.int .i64, .int .i64, .int .i64, .int .i64, .int .i64, .int .i64, .int .i64, .int .i64, .int .i64, .int .i64, .int .i64, .int .i64, .int .i64, .int .i64, .int .i64, .bool, .int .i64]] [(.list false [.str] l)] =
  (cond (decide (List.length l ≤ 4294967296))
  (cond (decide ((List.length l + List.length (List.replicate (Int.toNat 6) (IV.str { data := #[] }))) * TI.bytes (Env.tyd (E_ask_head N) 9) ≤ bytesMax))
    (cond (decide (0 ≤ 1) && decide (1 < ic (List.length l + List.length (List.replicate (Int.toNat 6) (IV.str { data := #[] })) - 0)))
      (cond (decide (0 ≤ 0) && decide (0 < ic (List.length l + List.length (List.replicate (Int.toNat 6) (IV.str { data := #[] })) - 0)))
        (cond (ByteArray.toList (IV.toStr (List.getD (List.take (List.length l) l ++ List.replicate (Int.toNat 6) (IV.str { data := #[] })) 0 default)) == ByteArray.toList { data := #[114, 97, 110, 103, 101] })
          (cond (decide (0 ≤ 3) && decide (3 < ic (List.length l + List.length (List.replicate (Int.toNat 6) (IV.str { data := #[] })) - 0)))
            (cond (decide (ByteArray.size (IV.toStr (List.getD (List.take (List.length l) l ++ List.replicate (Int.toNat 6) (IV.str { data := #[] })) 3 default)) < 4294967281))
              (cond (decide (0 ≤ 5) && decide (5 < ic (List.length l + List.length (List.replicate (Int.toNat 6) (IV.str { data := #[] })) - 0)))
                (cond (decide (ByteArray.size (IV.toStr (List.getD (List.take (List.length l) l ++ List.replicate (Int.toNat 6) (IV.str { data := #[] })) 5 default)) < 4294967281))
                  (some ((.agg [(.int .i64 1), (.int .i64 (atoiV (IV.toStr (List.getD (List.take (List.length l) l ++ List.replicate (Int.toNat 6) (IV.str { data := #[] })) 1 default)))), (.int .i64 0), (.int .i64 0), (.int .i64 0), (.int .i64 0), (.int .i64 0), (.int .i64 0), (.int .i64 0), (.int .i64 0), (.int .i64 0), (.int .i64 0), (.int .i64 (decV (IV.toStr (List.getD (List.take (List.length l) l ++ List.replicate (Int.toNat 6) (IV.str { data := #[] })) 3 default)))), (.int .i64 (decV (IV.toStr (List.getD (List.take (List.length l) l ++ List.replicate (Int.toNat 6) (IV.str { data := #[] })) 5 default)))), (.int .i64 0), (.bool false), (.int .i64 0)]), []))
                  none)
                none)
              none)
            none)
          (cond (ByteArray.toList (IV.toStr (List.getD (List.take (List.length l) l ++ List.replicate (Int.toNat 6) (IV.str { data := #[] })) 0 default)) == ByteArray.toList { data := #[98, 101, 115, 116] })
            (some ((.agg [(.int .i64 2), (.int .i64 (atoiV (IV.toStr (List.getD (List.take (List.length l) l ++ List.replicate (Int.toNat 6) (IV.str { data := #[] })) 1 default)))), (.int .i64 0), (.int .i64 0), (.int .i64 0), (.int .i64 0), (.int .i64 0), (.int .i64 0), (.int .i64 0), (.int .i64 0), (.int .i64 0), (.int .i64 0), (.int .i64 0), (.int .i64 0), (.int .i64 0), (.bool false), (.int .i64 0)]), []))
            (cond (ByteArray.toList (IV.toStr (List.getD (List.take (List.length l) l ++ List.replicate (Int.toNat 6) (IV.str { data := #[] })) 0 default)) == ByteArray.toList { data := #[114, 105, 115, 101, 115] })
              (cond (decide (0 ≤ 3) && decide (3 < ic (List.length l + List.length (List.replicate (Int.toNat 6) (IV.str { data := #[] })) - 0)))
                (cond (decide (0 ≤ 0) && decide (0 < ic (List.length l + List.length (List.replicate (Int.toNat 6) (IV.str { data := #[] })) - 0)))
                  (some ((.agg [(.int .i64 3), (.int .i64 (atoiV (IV.toStr (List.getD (List.take (List.length l) l ++ List.replicate (Int.toNat 6) (IV.str { data := #[] })) 1 default)))), (.int .i64 0), (.int .i64 0), (.int .i64 0), (.int .i64 0), (.int .i64 0), (.int .i64 0), (.int .i64 0), (.int .i64 0), (.int .i64 0), (.int .i64 0), (.int .i64 0), (.int .i64 0), (.int .i64 (atoiV (IV.toStr (List.getD (List.take (List.length l) l ++ List.replicate (Int.toNat 6) (IV.str { data := #[] })) 3 default)))), (.bool (ByteArray.toList (IV.toStr (List.getD (List.take (List.length l) l ++ List.replicate (Int.toNat 6) (IV.str { data := #[] })) 0 default)) == ByteArray.toList { data := #[102, 97, 108, 108, 115] })), (.int .i64 0)]), []))
                  none)
                none)
              (cond (ByteArray.toList (IV.toStr (List.getD (List.take (List.length l) l ++ List.replicate (Int.toNat 6) (IV.str { data := #[] })) 0 default)) == ByteArray.toList { data := #[102, 97, 108, 108, 115] })
                (cond (decide (0 ≤ 3) && decide (3 < ic (List.length l + List.length (List.replicate (Int.toNat 6) (IV.str { data := #[] })) - 0)))
                  (cond (decide (0 ≤ 0) && decide (0 < ic (List.length l + List.length (List.replicate (Int.toNat 6) (IV.str { data := #[] })) - 0)))
                    (some ((.agg [(.int .i64 3), (.int .i64 (atoiV (IV.toStr (List.getD (List.take (List.length l) l ++ List.replicate (Int.toNat 6) (IV.str { data := #[] })) 1 default)))), (.int .i64 0), (.int .i64 0), (.int .i64 0), (.int .i64 0), (.int .i64 0), (.int .i64 0), (.int .i64 0), (.int .i64 0), (.int .i64 0), (.int .i64 0), (.int .i64 0), (.int .i64 0), (.int .i64 (atoiV (IV.toStr (List.getD (List.take (List.length l) l ++ List.replicate (Int.toNat 6) (IV.str { data := #[] })) 3 default)))), (.bool (ByteArray.toList (IV.toStr (List.getD (List.take (List.length l) l ++ List.replicate (Int.toNat 6) (IV.str { data := #[] })) 0 default)) == ByteArray.toList { data := #[102, 97, 108, 108, 115] })), (.int .i64 0)]), []))
                    none)
                  none)
                (some ((.agg [(.int .i64 0), (.int .i64 (atoiV (IV.toStr (List.getD (List.take (List.length l) l ++ List.replicate (Int.toNat 6) (IV.str { data := #[] })) 1 default)))), (.int .i64 0), (.int .i64 0), (.int .i64 0), (.int .i64 0), (.int .i64 0), (.int .i64 0), (.int .i64 0), (.int .i64 0), (.int .i64 0), (.int .i64 0), (.int .i64 0), (.int .i64 0), (.int .i64 0), (.bool false), (.int .i64 0)]), []))))))
        none)
      none)
    none)
  none) := by kernel_rfl

end Go.FM

/-
  NORMAL FORMS: what the functions' runs come to (written by a program of this claim's own, checked by the kernel).
-/
namespace Go.FM
open Go Go.Proofs

/-! ### copse/ask.Parse -/
def E_ask_Parse (N : Nat) : Env := mkE [(8, S_ask_Print), (25, S_ask_count), (22, S_ask_head), (24, S_ask_scan), (21, S_slices_Index_stringstring), (23, S_strings_Cut), (20, S_strings_Split)] [(9, ⟨[0, 2, 3, 4, 5, 7, 8, 9, 45, 46, 47], [2, 9], []⟩)] 82 N

theorem nf_ask_Parse (N : Nat) (s : ByteArray) : evFun (E_ask_Parse N) c_ask_Parse [.cell 2 38, .tmp 3, .tmp 4] [[.int .i64, .int .i64, .int .i64, .int .i64, .int .i64, .int .i64, .int .i64, .int .i64, .int .i64, .int .i64, .int .i64, .int .i64, .int .i64, .int .i64, .int .i64, .bool, .int .i64], [.int .i64], [.bool]] [(.str s)] =
  (cond (decide (ByteArray.size s < 4294967281) && decide (1 ≤ ByteArray.size { data := #[32] }))
  (cond (decide (idxS (List.map IV.str (splitL s { data := #[32] })) { data := #[105, 110] } 0 < 0))
    (some ((.tup [(.agg [(.int .i64 0), (.int .i64 0), (.int .i64 0), (.int .i64 0), (.int .i64 0), (.int .i64 0), (.int .i64 0), (.int .i64 0), (.int .i64 0), (.int .i64 0), (.int .i64 0), (.int .i64 0), (.int .i64 0), (.int .i64 0), (.int .i64 0), (.bool false), (.int .i64 0)]), (.int .i64 0), (.bool false)]), []))
    (cond (decide (IntKind.wrap IntKind.i64 (IntKind.wrap IntKind.i64 (IntKind.wrap IntKind.i64 (ic (List.length (List.map IV.str (splitL s { data := #[32] }))) - 2) - idxS (List.map IV.str (splitL s { data := #[32] })) { data := #[105, 110] } 0) - 1) < 1))
      (some ((.tup [(.agg [(.int .i64 0), (.int .i64 0), (.int .i64 0), (.int .i64 0), (.int .i64 0), (.int .i64 0), (.int .i64 0), (.int .i64 0), (.int .i64 0), (.int .i64 0), (.int .i64 0), (.int .i64 0), (.int .i64 0), (.int .i64 0), (.int .i64 0), (.bool false), (.int .i64 0)]), (.int .i64 0), (.bool false)]), []))
      (cond (decide (IntKind.wrap IntKind.i64 (IntKind.wrap IntKind.i64 (IntKind.wrap IntKind.i64 (ic (List.length (List.map IV.str (splitL s { data := #[32] }))) - 2) - idxS (List.map IV.str (splitL s { data := #[32] })) { data := #[105, 110] } 0) - 1) > 4))
        (some ((.tup [(.agg [(.int .i64 0), (.int .i64 0), (.int .i64 0), (.int .i64 0), (.int .i64 0), (.int .i64 0), (.int .i64 0), (.int .i64 0), (.int .i64 0), (.int .i64 0), (.int .i64 0), (.int .i64 0), (.int .i64 0), (.int .i64 0), (.int .i64 0), (.bool false), (.int .i64 0)]), (.int .i64 0), (.bool false)]), []))
        (cond (decide (0 ≤ idxS (List.map IV.str (splitL s { data := #[32] })) { data := #[105, 110] } 0) && decide (idxS (List.map IV.str (splitL s { data := #[32] })) { data := #[105, 110] } 0 ≤ ic (List.length (List.map IV.str (splitL s { data := #[32] })))))
          (cond (decide (List.length (List.drop 0 (List.take (Int.toNat (idxS (List.map IV.str (splitL s { data := #[32] })) { data := #[105, 110] } 0)) (List.map IV.str (splitL s { data := #[32] })))) ≤ 4294967290) && List.all (List.drop 0 (List.take (Int.toNat (idxS (List.map IV.str (splitL s { data := #[32] })) { data := #[105, 110] } 0)) (List.map IV.str (splitL s { data := #[32] })))) fun x => decide (ByteArray.size (IV.toStr x) < 4294967281))
            (cond (decide (0 ≤ IntKind.wrap IntKind.i64 (idxS (List.map IV.str (splitL s { data := #[32] })) { data := #[105, 110] } 0 + 1)) && (decide (IntKind.wrap IntKind.i64 (idxS (List.map IV.str (splitL s { data := #[32] })) { data := #[105, 110] } 0 + 1) ≤ IntKind.wrap IntKind.i64 (ic (List.length (List.map IV.str (splitL s { data := #[32] }))) - 2)) && decide (IntKind.wrap IntKind.i64 (ic (List.length (List.map IV.str (splitL s { data := #[32] }))) - 2) ≤ ic (List.length (List.map IV.str (splitL s { data := #[32] }))))))
              (lpE (E_ask_Parse N) (subC c_ask_Parse [1, 1, 1, 1, 1, 1, 1, 0, 1, 0, 0]) ⟨[0, 2, 3, 4, 5, 7, 8, 9, 45, 46, 47], [2, 9], []⟩ N ⟨[(0, (.str s)), (2, (.ptr 2 0 0)), (3, (.int .i64 0)), (4, (.bool false)), (5, (.list false [.str] (List.map IV.str (splitL s { data := #[32] })))), (7, (.int .i64 (IntKind.wrap IntKind.i64 (ic (List.length (List.map IV.str (splitL s { data := #[32] }))) - 2)))), (8, (.int .i64 (IntKind.wrap IntKind.i64 (IntKind.wrap IntKind.i64 (IntKind.wrap IntKind.i64 (ic (List.length (List.map IV.str (splitL s { data := #[32] }))) - 2) - idxS (List.map IV.str (splitL s { data := #[32] })) { data := #[105, 110] } 0) - 1)))), (9, (.ptr 9 0 0)), (45, (.list false [.str] (List.drop (Int.toNat (IntKind.wrap IntKind.i64 (idxS (List.map IV.str (splitL s { data := #[32] })) { data := #[105, 110] } 0 + 1))) (List.take (Int.toNat (IntKind.wrap IntKind.i64 (ic (List.length (List.map IV.str (splitL s { data := #[32] }))) - 2))) (List.map IV.str (splitL s { data := #[32] })))))), (46, (.int .i64 (ic (List.length (List.drop (Int.toNat (IntKind.wrap IntKind.i64 (idxS (List.map IV.str (splitL s { data := #[32] })) { data := #[105, 110] } 0 + 1))) (List.take (Int.toNat (IntKind.wrap IntKind.i64 (ic (List.length (List.map IV.str (splitL s { data := #[32] }))) - 2))) (List.map IV.str (splitL s { data := #[32] })))))))), (47, (.int .i64 0))], [(2, (some (.box [(.int .i64 0), (.int .i64 0), (.int .i64 0), (.int .i64 0), (.int .i64 0), (.int .i64 0), (.int .i64 0), (.int .i64 0), (.int .i64 0), (.int .i64 0), (.int .i64 0), (.int .i64 0), (.int .i64 0), (.int .i64 0), (.int .i64 0), (.bool false), (.int .i64 0)]))), (9, (some (.box [(.int .i64 (Qy.k (headQ (List.drop 0 (List.take (Int.toNat (idxS (List.map IV.str (splitL s { data := #[32] })) { data := #[105, 110] } 0)) (List.map IV.str (splitL s { data := #[32] }))))))), (.int .i64 (Qy.c (headQ (List.drop 0 (List.take (Int.toNat (idxS (List.map IV.str (splitL s { data := #[32] })) { data := #[105, 110] } 0)) (List.map IV.str (splitL s { data := #[32] }))))))), (.int .i64 (Qy.a0 (headQ (List.drop 0 (List.take (Int.toNat (idxS (List.map IV.str (splitL s { data := #[32] })) { data := #[105, 110] } 0)) (List.map IV.str (splitL s { data := #[32] }))))))), (.int .i64 (Qy.b0 (headQ (List.drop 0 (List.take (Int.toNat (idxS (List.map IV.str (splitL s { data := #[32] })) { data := #[105, 110] } 0)) (List.map IV.str (splitL s { data := #[32] }))))))), (.int .i64 (Qy.a1 (headQ (List.drop 0 (List.take (Int.toNat (idxS (List.map IV.str (splitL s { data := #[32] })) { data := #[105, 110] } 0)) (List.map IV.str (splitL s { data := #[32] }))))))), (.int .i64 (Qy.b1 (headQ (List.drop 0 (List.take (Int.toNat (idxS (List.map IV.str (splitL s { data := #[32] })) { data := #[105, 110] } 0)) (List.map IV.str (splitL s { data := #[32] }))))))), (.int .i64 (Qy.a2 (headQ (List.drop 0 (List.take (Int.toNat (idxS (List.map IV.str (splitL s { data := #[32] })) { data := #[105, 110] } 0)) (List.map IV.str (splitL s { data := #[32] }))))))), (.int .i64 (Qy.b2 (headQ (List.drop 0 (List.take (Int.toNat (idxS (List.map IV.str (splitL s { data := #[32] })) { data := #[105, 110] } 0)) (List.map IV.str (splitL s { data := #[32] }))))))), (.int .i64 (Qy.a3 (headQ (List.drop 0 (List.take (Int.toNat (idxS (List.map IV.str (splitL s { data := #[32] })) { data := #[105, 110] } 0)) (List.map IV.str (splitL s { data := #[32] }))))))), (.int .i64 (Qy.b3 (headQ (List.drop 0 (List.take (Int.toNat (idxS (List.map IV.str (splitL s { data := #[32] })) { data := #[105, 110] } 0)) (List.map IV.str (splitL s { data := #[32] }))))))), (.int .i64 (Qy.a4 (headQ (List.drop 0 (List.take (Int.toNat (idxS (List.map IV.str (splitL s { data := #[32] })) { data := #[105, 110] } 0)) (List.map IV.str (splitL s { data := #[32] }))))))), (.int .i64 (Qy.b4 (headQ (List.drop 0 (List.take (Int.toNat (idxS (List.map IV.str (splitL s { data := #[32] })) { data := #[105, 110] } 0)) (List.map IV.str (splitL s { data := #[32] }))))))), (.int .i64 (Qy.lo (headQ (List.drop 0 (List.take (Int.toNat (idxS (List.map IV.str (splitL s { data := #[32] })) { data := #[105, 110] } 0)) (List.map IV.str (splitL s { data := #[32] }))))))), (.int .i64 (Qy.hi (headQ (List.drop 0 (List.take (Int.toNat (idxS (List.map IV.str (splitL s { data := #[32] })) { data := #[105, 110] } 0)) (List.map IV.str (splitL s { data := #[32] }))))))), (.int .i64 (Qy.ft (headQ (List.drop 0 (List.take (Int.toNat (idxS (List.map IV.str (splitL s { data := #[32] })) { data := #[105, 110] } 0)) (List.map IV.str (splitL s { data := #[32] }))))))), (.bool (Qy.fl (headQ (List.drop 0 (List.take (Int.toNat (idxS (List.map IV.str (splitL s { data := #[32] })) { data := #[105, 110] } 0)) (List.map IV.str (splitL s { data := #[32] }))))))), (.int .i64 (Qy.bu (headQ (List.drop 0 (List.take (Int.toNat (idxS (List.map IV.str (splitL s { data := #[32] })) { data := #[105, 110] } 0)) (List.map IV.str (splitL s { data := #[32] })))))))])))]⟩ (kBlock 0 (kSq (E_ask_Parse N) (subC c_ask_Parse [1, 1, 1, 1, 1, 1, 1, 1]) (outT (E_ask_Parse N) none [(ResultVar.cell 2 38), (ResultVar.tmp 3), (ResultVar.tmp 4)] [[(.int .i64), (.int .i64), (.int .i64), (.int .i64), (.int .i64), (.int .i64), (.int .i64), (.int .i64), (.int .i64), (.int .i64), (.int .i64), (.int .i64), (.int .i64), (.int .i64), (.int .i64), .bool, (.int .i64)], [(.int .i64)], [.bool]]))))
              none)
            none)
          none))))
  none) := by kernel_rfl

theorem st_ask_Parse_1 (N : Nat) (s0 : ByteArray) (x3 : Int) (b4 : Bool) (l5 : List IV) (x7 : Int) (x8 : Int) (l45 : List IV) (x46 : Int) (x47 : Int) (xo2_0 : Int) (xo2_1 : Int) (xo2_2 : Int) (xo2_3 : Int) (xo2_4 : Int) (xo2_5 : Int) (xo2_6 : Int) (xo2_7 : Int) (xo2_8 : Int) (xo2_9 : Int) (xo2_10 : Int) (xo2_11 : Int) (xo2_12 : Int) (xo2_13 : Int) (xo2_14 : Int) (bo2_15 : Bool) (xo2_16 : Int) (xo9_0 : Int) (xo9_1 : Int) (xo9_2 : Int) (xo9_3 : Int) (xo9_4 : Int) (xo9_5 : Int) (xo9_6 : Int) (xo9_7 : Int) (xo9_8 : Int) (xo9_9 : Int) (xo9_10 : Int) (xo9_11 : Int) (xo9_12 : Int) (xo9_13 : Int) (xo9_14 : Int) (bo9_15 : Bool) (xo9_16 : Int) (again : St → Res) (k : Out → St → Res) : rnd (E_ask_Parse N) (subC c_ask_Parse [1, 1, 1, 1, 1, 1, 1, 0, 1, 0, 0])
    ⟨[(0, (.str s0)), (2, (.ptr 2 0 0)), (3, (.int .i64 x3)), (4, (.bool b4)), (5, (.list false [.str] l5)), (7, (.int .i64 x7)), (8, (.int .i64 x8)), (9, (.ptr 9 0 0)), (45, (.list false [.str] l45)), (46, (.int .i64 x46)), (47, (.int .i64 x47))], [(2, (some (.box [(.int .i64 xo2_0), (.int .i64 xo2_1), (.int .i64 xo2_2), (.int .i64 xo2_3), (.int .i64 xo2_4), (.int .i64 xo2_5), (.int .i64 xo2_6), (.int .i64 xo2_7), (.int .i64 xo2_8), (.int .i64 xo2_9), (.int .i64 xo2_10), (.int .i64 xo2_11), (.int .i64 xo2_12), (.int .i64 xo2_13), (.int .i64 xo2_14), (.bool bo2_15), (.int .i64 xo2_16)]))), (9, (some (.box [(.int .i64 xo9_0), (.int .i64 xo9_1), (.int .i64 xo9_2), (.int .i64 xo9_3), (.int .i64 xo9_4), (.int .i64 xo9_5), (.int .i64 xo9_6), (.int .i64 xo9_7), (.int .i64 xo9_8), (.int .i64 xo9_9), (.int .i64 xo9_10), (.int .i64 xo9_11), (.int .i64 xo9_12), (.int .i64 xo9_13), (.int .i64 xo9_14), (.bool bo9_15), (.int .i64 xo9_16)])))]⟩
    (kLoop again ⟨[0, 2, 3, 4, 5, 7, 8, 9, 45, 46, 47], [2, 9], []⟩ k) =
  (cond (decide (x47 < x46))
  (cond (decide (0 ≤ x47) && decide (x47 < ic (List.length l45)))
    (cond (decide (ByteArray.size (IV.toStr (List.getD l45 (Int.toNat x47) default)) < 4294967281))
      (cond (decide (ByteArray.size (cutL (IV.toStr (List.getD l45 (Int.toNat x47) default)) { data := #[46, 46] }) < 4294967281))
        (cond (decide (ByteArray.size (cutR (IV.toStr (List.getD l45 (Int.toNat x47) default)) { data := #[46, 46] }) < 4294967281))
          (cond (decide (x47 = ic 0))
            (again ⟨[(0, (.str s0)), (2, (.ptr 2 0 0)), (3, (.int .i64 x3)), (4, (.bool b4)), (5, (.list false [.str] l5)), (7, (.int .i64 x7)), (8, (.int .i64 x8)), (9, (.ptr 9 0 0)), (45, (.list false [.str] l45)), (46, (.int .i64 x46)), (47, (.int .i64 (IntKind.wrap IntKind.i64 (x47 + 1))))], [(2, (some (.box [(.int .i64 xo2_0), (.int .i64 xo2_1), (.int .i64 xo2_2), (.int .i64 xo2_3), (.int .i64 xo2_4), (.int .i64 xo2_5), (.int .i64 xo2_6), (.int .i64 xo2_7), (.int .i64 xo2_8), (.int .i64 xo2_9), (.int .i64 xo2_10), (.int .i64 xo2_11), (.int .i64 xo2_12), (.int .i64 xo2_13), (.int .i64 xo2_14), (.bool bo2_15), (.int .i64 xo2_16)]))), (9, (some (.box [(.int .i64 xo9_0), (.int .i64 xo9_1), (.int .i64 (decV (cutL (IV.toStr (List.getD l45 (Int.toNat x47) default)) { data := #[46, 46] }))), (.int .i64 (decV (cutR (IV.toStr (List.getD l45 (Int.toNat x47) default)) { data := #[46, 46] }))), (.int .i64 xo9_4), (.int .i64 xo9_5), (.int .i64 xo9_6), (.int .i64 xo9_7), (.int .i64 xo9_8), (.int .i64 xo9_9), (.int .i64 xo9_10), (.int .i64 xo9_11), (.int .i64 xo9_12), (.int .i64 xo9_13), (.int .i64 xo9_14), (.bool bo9_15), (.int .i64 xo9_16)])))]⟩)
            (cond (decide (x47 = ic 1))
              (again ⟨[(0, (.str s0)), (2, (.ptr 2 0 0)), (3, (.int .i64 x3)), (4, (.bool b4)), (5, (.list false [.str] l5)), (7, (.int .i64 x7)), (8, (.int .i64 x8)), (9, (.ptr 9 0 0)), (45, (.list false [.str] l45)), (46, (.int .i64 x46)), (47, (.int .i64 (IntKind.wrap IntKind.i64 (x47 + 1))))], [(2, (some (.box [(.int .i64 xo2_0), (.int .i64 xo2_1), (.int .i64 xo2_2), (.int .i64 xo2_3), (.int .i64 xo2_4), (.int .i64 xo2_5), (.int .i64 xo2_6), (.int .i64 xo2_7), (.int .i64 xo2_8), (.int .i64 xo2_9), (.int .i64 xo2_10), (.int .i64 xo2_11), (.int .i64 xo2_12), (.int .i64 xo2_13), (.int .i64 xo2_14), (.bool bo2_15), (.int .i64 xo2_16)]))), (9, (some (.box [(.int .i64 xo9_0), (.int .i64 xo9_1), (.int .i64 xo9_2), (.int .i64 xo9_3), (.int .i64 (decV (cutL (IV.toStr (List.getD l45 (Int.toNat x47) default)) { data := #[46, 46] }))), (.int .i64 (decV (cutR (IV.toStr (List.getD l45 (Int.toNat x47) default)) { data := #[46, 46] }))), (.int .i64 xo9_6), (.int .i64 xo9_7), (.int .i64 xo9_8), (.int .i64 xo9_9), (.int .i64 xo9_10), (.int .i64 xo9_11), (.int .i64 xo9_12), (.int .i64 xo9_13), (.int .i64 xo9_14), (.bool bo9_15), (.int .i64 xo9_16)])))]⟩)
              (cond (decide (x47 = ic 2))
                (again ⟨[(0, (.str s0)), (2, (.ptr 2 0 0)), (3, (.int .i64 x3)), (4, (.bool b4)), (5, (.list false [.str] l5)), (7, (.int .i64 x7)), (8, (.int .i64 x8)), (9, (.ptr 9 0 0)), (45, (.list false [.str] l45)), (46, (.int .i64 x46)), (47, (.int .i64 (IntKind.wrap IntKind.i64 (x47 + 1))))], [(2, (some (.box [(.int .i64 xo2_0), (.int .i64 xo2_1), (.int .i64 xo2_2), (.int .i64 xo2_3), (.int .i64 xo2_4), (.int .i64 xo2_5), (.int .i64 xo2_6), (.int .i64 xo2_7), (.int .i64 xo2_8), (.int .i64 xo2_9), (.int .i64 xo2_10), (.int .i64 xo2_11), (.int .i64 xo2_12), (.int .i64 xo2_13), (.int .i64 xo2_14), (.bool bo2_15), (.int .i64 xo2_16)]))), (9, (some (.box [(.int .i64 xo9_0), (.int .i64 xo9_1), (.int .i64 xo9_2), (.int .i64 xo9_3), (.int .i64 xo9_4), (.int .i64 xo9_5), (.int .i64 (decV (cutL (IV.toStr (List.getD l45 (Int.toNat x47) default)) { data := #[46, 46] }))), (.int .i64 (decV (cutR (IV.toStr (List.getD l45 (Int.toNat x47) default)) { data := #[46, 46] }))), (.int .i64 xo9_8), (.int .i64 xo9_9), (.int .i64 xo9_10), (.int .i64 xo9_11), (.int .i64 xo9_12), (.int .i64 xo9_13), (.int .i64 xo9_14), (.bool bo9_15), (.int .i64 xo9_16)])))]⟩)
                (cond (decide (x47 = ic 3))
                  (again ⟨[(0, (.str s0)), (2, (.ptr 2 0 0)), (3, (.int .i64 x3)), (4, (.bool b4)), (5, (.list false [.str] l5)), (7, (.int .i64 x7)), (8, (.int .i64 x8)), (9, (.ptr 9 0 0)), (45, (.list false [.str] l45)), (46, (.int .i64 x46)), (47, (.int .i64 (IntKind.wrap IntKind.i64 (x47 + 1))))], [(2, (some (.box [(.int .i64 xo2_0), (.int .i64 xo2_1), (.int .i64 xo2_2), (.int .i64 xo2_3), (.int .i64 xo2_4), (.int .i64 xo2_5), (.int .i64 xo2_6), (.int .i64 xo2_7), (.int .i64 xo2_8), (.int .i64 xo2_9), (.int .i64 xo2_10), (.int .i64 xo2_11), (.int .i64 xo2_12), (.int .i64 xo2_13), (.int .i64 xo2_14), (.bool bo2_15), (.int .i64 xo2_16)]))), (9, (some (.box [(.int .i64 xo9_0), (.int .i64 xo9_1), (.int .i64 xo9_2), (.int .i64 xo9_3), (.int .i64 xo9_4), (.int .i64 xo9_5), (.int .i64 xo9_6), (.int .i64 xo9_7), (.int .i64 (decV (cutL (IV.toStr (List.getD l45 (Int.toNat x47) default)) { data := #[46, 46] }))), (.int .i64 (decV (cutR (IV.toStr (List.getD l45 (Int.toNat x47) default)) { data := #[46, 46] }))), (.int .i64 xo9_10), (.int .i64 xo9_11), (.int .i64 xo9_12), (.int .i64 xo9_13), (.int .i64 xo9_14), (.bool bo9_15), (.int .i64 xo9_16)])))]⟩)
                  (cond (decide (x47 = ic 4))
                    (again ⟨[(0, (.str s0)), (2, (.ptr 2 0 0)), (3, (.int .i64 x3)), (4, (.bool b4)), (5, (.list false [.str] l5)), (7, (.int .i64 x7)), (8, (.int .i64 x8)), (9, (.ptr 9 0 0)), (45, (.list false [.str] l45)), (46, (.int .i64 x46)), (47, (.int .i64 (IntKind.wrap IntKind.i64 (x47 + 1))))], [(2, (some (.box [(.int .i64 xo2_0), (.int .i64 xo2_1), (.int .i64 xo2_2), (.int .i64 xo2_3), (.int .i64 xo2_4), (.int .i64 xo2_5), (.int .i64 xo2_6), (.int .i64 xo2_7), (.int .i64 xo2_8), (.int .i64 xo2_9), (.int .i64 xo2_10), (.int .i64 xo2_11), (.int .i64 xo2_12), (.int .i64 xo2_13), (.int .i64 xo2_14), (.bool bo2_15), (.int .i64 xo2_16)]))), (9, (some (.box [(.int .i64 xo9_0), (.int .i64 xo9_1), (.int .i64 xo9_2), (.int .i64 xo9_3), (.int .i64 xo9_4), (.int .i64 xo9_5), (.int .i64 xo9_6), (.int .i64 xo9_7), (.int .i64 xo9_8), (.int .i64 xo9_9), (.int .i64 (decV (cutL (IV.toStr (List.getD l45 (Int.toNat x47) default)) { data := #[46, 46] }))), (.int .i64 (decV (cutR (IV.toStr (List.getD l45 (Int.toNat x47) default)) { data := #[46, 46] }))), (.int .i64 xo9_12), (.int .i64 xo9_13), (.int .i64 xo9_14), (.bool bo9_15), (.int .i64 xo9_16)])))]⟩)
                    none)))))
          none)
        none)
      none)
    none)
  (k (.exit 0) ⟨[(0, (.str s0)), (2, (.ptr 2 0 0)), (3, (.int .i64 x3)), (4, (.bool b4)), (5, (.list false [.str] l5)), (7, (.int .i64 x7)), (8, (.int .i64 x8)), (9, (.ptr 9 0 0)), (45, (.list false [.str] l45)), (46, (.int .i64 x46)), (47, (.int .i64 x47))], [(2, (some (.box [(.int .i64 xo2_0), (.int .i64 xo2_1), (.int .i64 xo2_2), (.int .i64 xo2_3), (.int .i64 xo2_4), (.int .i64 xo2_5), (.int .i64 xo2_6), (.int .i64 xo2_7), (.int .i64 xo2_8), (.int .i64 xo2_9), (.int .i64 xo2_10), (.int .i64 xo2_11), (.int .i64 xo2_12), (.int .i64 xo2_13), (.int .i64 xo2_14), (.bool bo2_15), (.int .i64 xo2_16)]))), (9, (some (.box [(.int .i64 xo9_0), (.int .i64 xo9_1), (.int .i64 xo9_2), (.int .i64 xo9_3), (.int .i64 xo9_4), (.int .i64 xo9_5), (.int .i64 xo9_6), (.int .i64 xo9_7), (.int .i64 xo9_8), (.int .i64 xo9_9), (.int .i64 xo9_10), (.int .i64 xo9_11), (.int .i64 xo9_12), (.int .i64 xo9_13), (.int .i64 xo9_14), (.bool bo9_15), (.int .i64 xo9_16)])))]⟩)) := by kernel_rfl

theorem ex_ask_Parse_1_1 (N : Nat) (s0 : ByteArray) (x3 : Int) (b4 : Bool) (l5 : List IV) (x7 : Int) (x8 : Int) (l45 : List IV) (x46 : Int) (x47 : Int) (xo2_0 : Int) (xo2_1 : Int) (xo2_2 : Int) (xo2_3 : Int) (xo2_4 : Int) (xo2_5 : Int) (xo2_6 : Int) (xo2_7 : Int) (xo2_8 : Int) (xo2_9 : Int) (xo2_10 : Int) (xo2_11 : Int) (xo2_12 : Int) (xo2_13 : Int) (xo2_14 : Int) (bo2_15 : Bool) (xo2_16 : Int) (xo9_0 : Int) (xo9_1 : Int) (xo9_2 : Int) (xo9_3 : Int) (xo9_4 : Int) (xo9_5 : Int) (xo9_6 : Int) (xo9_7 : Int) (xo9_8 : Int) (xo9_9 : Int) (xo9_10 : Int) (xo9_11 : Int) (xo9_12 : Int) (xo9_13 : Int) (xo9_14 : Int) (bo9_15 : Bool) (xo9_16 : Int) : (kBlock 0 (kSq (E_ask_Parse N) (subC c_ask_Parse [1, 1, 1, 1, 1, 1, 1, 1]) (outT (E_ask_Parse N) none [(ResultVar.cell 2 38), (ResultVar.tmp 3), (ResultVar.tmp 4)] [[(.int .i64), (.int .i64), (.int .i64), (.int .i64), (.int .i64), (.int .i64), (.int .i64), (.int .i64), (.int .i64), (.int .i64), (.int .i64), (.int .i64), (.int .i64), (.int .i64), (.int .i64), .bool, (.int .i64)], [(.int .i64)], [.bool]]))) (.exit 0)
    ⟨[(0, (.str s0)), (2, (.ptr 2 0 0)), (3, (.int .i64 x3)), (4, (.bool b4)), (5, (.list false [.str] l5)), (7, (.int .i64 x7)), (8, (.int .i64 x8)), (9, (.ptr 9 0 0)), (45, (.list false [.str] l45)), (46, (.int .i64 x46)), (47, (.int .i64 x47))], [(2, (some (.box [(.int .i64 xo2_0), (.int .i64 xo2_1), (.int .i64 xo2_2), (.int .i64 xo2_3), (.int .i64 xo2_4), (.int .i64 xo2_5), (.int .i64 xo2_6), (.int .i64 xo2_7), (.int .i64 xo2_8), (.int .i64 xo2_9), (.int .i64 xo2_10), (.int .i64 xo2_11), (.int .i64 xo2_12), (.int .i64 xo2_13), (.int .i64 xo2_14), (.bool bo2_15), (.int .i64 xo2_16)]))), (9, (some (.box [(.int .i64 xo9_0), (.int .i64 xo9_1), (.int .i64 xo9_2), (.int .i64 xo9_3), (.int .i64 xo9_4), (.int .i64 xo9_5), (.int .i64 xo9_6), (.int .i64 xo9_7), (.int .i64 xo9_8), (.int .i64 xo9_9), (.int .i64 xo9_10), (.int .i64 xo9_11), (.int .i64 xo9_12), (.int .i64 xo9_13), (.int .i64 xo9_14), (.bool bo9_15), (.int .i64 xo9_16)])))]⟩ =
  (cond (decide (0 ≤ IntKind.wrap IntKind.i64 (x7 + 1)) && decide (IntKind.wrap IntKind.i64 (x7 + 1) < ic (List.length l5)))
  (cond (!ByteArray.toList (printQ { k := xo9_0, c := xo9_1, a0 := xo9_2, b0 := xo9_3, a1 := xo9_4, b1 := xo9_5, a2 := xo9_6, b2 := xo9_7, a3 := xo9_8, b3 := xo9_9, a4 := xo9_10, b4 := xo9_11, lo := xo9_12, hi := xo9_13, ft := xo9_14, fl := bo9_15, bu := atoiV (IV.toStr (List.getD l5 (Int.toNat (IntKind.wrap IntKind.i64 (x7 + 1))) default)) } x8) == ByteArray.toList s0)
    (some ((.tup [(.agg [(.int .i64 0), (.int .i64 0), (.int .i64 0), (.int .i64 0), (.int .i64 0), (.int .i64 0), (.int .i64 0), (.int .i64 0), (.int .i64 0), (.int .i64 0), (.int .i64 0), (.int .i64 0), (.int .i64 0), (.int .i64 0), (.int .i64 0), (.bool false), (.int .i64 0)]), (.int .i64 0), (.bool false)]), []))
    (some ((.tup [(.agg [(.int .i64 xo9_0), (.int .i64 xo9_1), (.int .i64 xo9_2), (.int .i64 xo9_3), (.int .i64 xo9_4), (.int .i64 xo9_5), (.int .i64 xo9_6), (.int .i64 xo9_7), (.int .i64 xo9_8), (.int .i64 xo9_9), (.int .i64 xo9_10), (.int .i64 xo9_11), (.int .i64 xo9_12), (.int .i64 xo9_13), (.int .i64 xo9_14), (.bool bo9_15), (.int .i64 (atoiV (IV.toStr (List.getD l5 (Int.toNat (IntKind.wrap IntKind.i64 (x7 + 1))) default))))]), (.int .i64 x8), (.bool true)]), [])))
  none) := by kernel_rfl

end Go.FM

/-
  NORMAL FORMS: what the functions' runs come to (written by a program of this claim's own, checked by the kernel).
-/
namespace Go.FM
open Go Go.Proofs

/-! ### copse/ask.Print -/
def E_ask_Print (N : Nat) : Env := mkE [(16, S_ask_small), (15, S_ask_told), (18, S_dec_Print), (17, S_strconv_Itoa), (19, S_strings_Join)] [(18, ⟨[2, 4, 6, 75, 76, 77], [2, 500], [⟨.tmp 6, 500, 9, false, [.str]⟩]⟩)] 100 N

theorem nf_ask_Print (N : Nat) (q_Kind : Int) (q_Class : Int) (q_Region_0_Lo : Int) (q_Region_0_Hi : Int) (q_Region_1_Lo : Int) (q_Region_1_Hi : Int) (q_Region_2_Lo : Int) (q_Region_2_Hi : Int) (q_Region_3_Lo : Int) (q_Region_3_Hi : Int) (q_Region_4_Lo : Int) (q_Region_4_Hi : Int) (q_Lo : Int) (q_Hi : Int) (q_Feature : Int) (q_Falls : Bool) (q_Budget : Int) (a1 : Int) : evFun (E_ask_Print N) c_ask_Print [.tmp 4] [[.str]] [(.agg [(.int .i64 q_Kind), (.int .i64 q_Class), (.int .i64 q_Region_0_Lo), (.int .i64 q_Region_0_Hi), (.int .i64 q_Region_1_Lo), (.int .i64 q_Region_1_Hi), (.int .i64 q_Region_2_Lo), (.int .i64 q_Region_2_Hi), (.int .i64 q_Region_3_Lo), (.int .i64 q_Region_3_Hi), (.int .i64 q_Region_4_Lo), (.int .i64 q_Region_4_Hi), (.int .i64 q_Lo), (.int .i64 q_Hi), (.int .i64 q_Feature), (.bool q_Falls), (.int .i64 q_Budget)]), (.int .i64 a1)] =
  (cond (decide (a1 < 1))
  (some ((.str ({ data := #[] })), []))
  (cond (decide (a1 > 4))
    (some ((.str ({ data := #[] })), []))
    (cond (decide (0 ≤ a1) && decide (a1 ≤ 5))
      (cond (!(q_Kind == Qy.k (told { k := q_Kind, c := q_Class, a0 := q_Region_0_Lo, b0 := q_Region_0_Hi, a1 := q_Region_1_Lo, b1 := q_Region_1_Hi, a2 := q_Region_2_Lo, b2 := q_Region_2_Hi, a3 := q_Region_3_Lo, b3 := q_Region_3_Hi, a4 := q_Region_4_Lo, b4 := q_Region_4_Hi, lo := q_Lo, hi := q_Hi, ft := q_Feature, fl := q_Falls, bu := q_Budget } a1) && (q_Class == Qy.c (told { k := q_Kind, c := q_Class, a0 := q_Region_0_Lo, b0 := q_Region_0_Hi, a1 := q_Region_1_Lo, b1 := q_Region_1_Hi, a2 := q_Region_2_Lo, b2 := q_Region_2_Hi, a3 := q_Region_3_Lo, b3 := q_Region_3_Hi, a4 := q_Region_4_Lo, b4 := q_Region_4_Hi, lo := q_Lo, hi := q_Hi, ft := q_Feature, fl := q_Falls, bu := q_Budget } a1) && (q_Region_0_Lo == Qy.a0 (told { k := q_Kind, c := q_Class, a0 := q_Region_0_Lo, b0 := q_Region_0_Hi, a1 := q_Region_1_Lo, b1 := q_Region_1_Hi, a2 := q_Region_2_Lo, b2 := q_Region_2_Hi, a3 := q_Region_3_Lo, b3 := q_Region_3_Hi, a4 := q_Region_4_Lo, b4 := q_Region_4_Hi, lo := q_Lo, hi := q_Hi, ft := q_Feature, fl := q_Falls, bu := q_Budget } a1) && (q_Region_0_Hi == Qy.b0 (told { k := q_Kind, c := q_Class, a0 := q_Region_0_Lo, b0 := q_Region_0_Hi, a1 := q_Region_1_Lo, b1 := q_Region_1_Hi, a2 := q_Region_2_Lo, b2 := q_Region_2_Hi, a3 := q_Region_3_Lo, b3 := q_Region_3_Hi, a4 := q_Region_4_Lo, b4 := q_Region_4_Hi, lo := q_Lo, hi := q_Hi, ft := q_Feature, fl := q_Falls, bu := q_Budget } a1) && (q_Region_1_Lo == Qy.a1 (told { k := q_Kind, c := q_Class, a0 := q_Region_0_Lo, b0 := q_Region_0_Hi, a1 := q_Region_1_Lo, b1 := q_Region_1_Hi, a2 := q_Region_2_Lo, b2 := q_Region_2_Hi, a3 := q_Region_3_Lo, b3 := q_Region_3_Hi, a4 := q_Region_4_Lo, b4 := q_Region_4_Hi, lo := q_Lo, hi := q_Hi, ft := q_Feature, fl := q_Falls, bu := q_Budget } a1) && (q_Region_1_Hi == Qy.b1 (told { k := q_Kind, c := q_Class, a0 := q_Region_0_Lo, b0 := q_Region_0_Hi, a1 := q_Region_1_Lo, b1 := q_Region_1_Hi, a2 := q_Region_2_Lo, b2 := q_Region_2_Hi, a3 := q_Region_3_Lo, b3 := q_Region_3_Hi, a4 := q_Region_4_Lo, b4 := q_Region_4_Hi, lo := q_Lo, hi := q_Hi, ft := q_Feature, fl := q_Falls, bu := q_Budget } a1) && (q_Region_2_Lo == Qy.a2 (told { k := q_Kind, c := q_Class, a0 := q_Region_0_Lo, b0 := q_Region_0_Hi, a1 := q_Region_1_Lo, b1 := q_Region_1_Hi, a2 := q_Region_2_Lo, b2 := q_Region_2_Hi, a3 := q_Region_3_Lo, b3 := q_Region_3_Hi, a4 := q_Region_4_Lo, b4 := q_Region_4_Hi, lo := q_Lo, hi := q_Hi, ft := q_Feature, fl := q_Falls, bu := q_Budget } a1) && (q_Region_2_Hi == Qy.b2 (told { k := q_Kind, c := q_Class, a0 := q_Region_0_Lo, b0 := q_Region_0_Hi, a1 := q_Region_1_Lo, b1 := q_Region_1_Hi, a2 := q_Region_2_Lo, b2 := q_Region_2_Hi, a3 := q_Region_3_Lo, b3 := q_Region_3_Hi, a4 := q_Region_4_Lo, b4 := q_Region_4_Hi, lo := q_Lo, hi := q_Hi, ft := q_Feature, fl := q_Falls, bu := q_Budget } a1) && (q_Region_3_Lo == Qy.a3 (told { k := q_Kind, c := q_Class, a0 := q_Region_0_Lo, b0 := q_Region_0_Hi, a1 := q_Region_1_Lo, b1 := q_Region_1_Hi, a2 := q_Region_2_Lo, b2 := q_Region_2_Hi, a3 := q_Region_3_Lo, b3 := q_Region_3_Hi, a4 := q_Region_4_Lo, b4 := q_Region_4_Hi, lo := q_Lo, hi := q_Hi, ft := q_Feature, fl := q_Falls, bu := q_Budget } a1) && (q_Region_3_Hi == Qy.b3 (told { k := q_Kind, c := q_Class, a0 := q_Region_0_Lo, b0 := q_Region_0_Hi, a1 := q_Region_1_Lo, b1 := q_Region_1_Hi, a2 := q_Region_2_Lo, b2 := q_Region_2_Hi, a3 := q_Region_3_Lo, b3 := q_Region_3_Hi, a4 := q_Region_4_Lo, b4 := q_Region_4_Hi, lo := q_Lo, hi := q_Hi, ft := q_Feature, fl := q_Falls, bu := q_Budget } a1) && (q_Region_4_Lo == Qy.a4 (told { k := q_Kind, c := q_Class, a0 := q_Region_0_Lo, b0 := q_Region_0_Hi, a1 := q_Region_1_Lo, b1 := q_Region_1_Hi, a2 := q_Region_2_Lo, b2 := q_Region_2_Hi, a3 := q_Region_3_Lo, b3 := q_Region_3_Hi, a4 := q_Region_4_Lo, b4 := q_Region_4_Hi, lo := q_Lo, hi := q_Hi, ft := q_Feature, fl := q_Falls, bu := q_Budget } a1) && (q_Region_4_Hi == Qy.b4 (told { k := q_Kind, c := q_Class, a0 := q_Region_0_Lo, b0 := q_Region_0_Hi, a1 := q_Region_1_Lo, b1 := q_Region_1_Hi, a2 := q_Region_2_Lo, b2 := q_Region_2_Hi, a3 := q_Region_3_Lo, b3 := q_Region_3_Hi, a4 := q_Region_4_Lo, b4 := q_Region_4_Hi, lo := q_Lo, hi := q_Hi, ft := q_Feature, fl := q_Falls, bu := q_Budget } a1) && (q_Lo == Qy.lo (told { k := q_Kind, c := q_Class, a0 := q_Region_0_Lo, b0 := q_Region_0_Hi, a1 := q_Region_1_Lo, b1 := q_Region_1_Hi, a2 := q_Region_2_Lo, b2 := q_Region_2_Hi, a3 := q_Region_3_Lo, b3 := q_Region_3_Hi, a4 := q_Region_4_Lo, b4 := q_Region_4_Hi, lo := q_Lo, hi := q_Hi, ft := q_Feature, fl := q_Falls, bu := q_Budget } a1) && (q_Hi == Qy.hi (told { k := q_Kind, c := q_Class, a0 := q_Region_0_Lo, b0 := q_Region_0_Hi, a1 := q_Region_1_Lo, b1 := q_Region_1_Hi, a2 := q_Region_2_Lo, b2 := q_Region_2_Hi, a3 := q_Region_3_Lo, b3 := q_Region_3_Hi, a4 := q_Region_4_Lo, b4 := q_Region_4_Hi, lo := q_Lo, hi := q_Hi, ft := q_Feature, fl := q_Falls, bu := q_Budget } a1) && (q_Feature == Qy.ft (told { k := q_Kind, c := q_Class, a0 := q_Region_0_Lo, b0 := q_Region_0_Hi, a1 := q_Region_1_Lo, b1 := q_Region_1_Hi, a2 := q_Region_2_Lo, b2 := q_Region_2_Hi, a3 := q_Region_3_Lo, b3 := q_Region_3_Hi, a4 := q_Region_4_Lo, b4 := q_Region_4_Hi, lo := q_Lo, hi := q_Hi, ft := q_Feature, fl := q_Falls, bu := q_Budget } a1) && (q_Falls == Qy.fl (told { k := q_Kind, c := q_Class, a0 := q_Region_0_Lo, b0 := q_Region_0_Hi, a1 := q_Region_1_Lo, b1 := q_Region_1_Hi, a2 := q_Region_2_Lo, b2 := q_Region_2_Hi, a3 := q_Region_3_Lo, b3 := q_Region_3_Hi, a4 := q_Region_4_Lo, b4 := q_Region_4_Hi, lo := q_Lo, hi := q_Hi, ft := q_Feature, fl := q_Falls, bu := q_Budget } a1) && (q_Budget == Qy.bu (told { k := q_Kind, c := q_Class, a0 := q_Region_0_Lo, b0 := q_Region_0_Hi, a1 := q_Region_1_Lo, b1 := q_Region_1_Hi, a2 := q_Region_2_Lo, b2 := q_Region_2_Hi, a3 := q_Region_3_Lo, b3 := q_Region_3_Hi, a4 := q_Region_4_Lo, b4 := q_Region_4_Hi, lo := q_Lo, hi := q_Hi, ft := q_Feature, fl := q_Falls, bu := q_Budget } a1) && true))))))))))))))))))
        (some ((.str ({ data := #[] })), []))
        (cond (!smallB q_Class)
          (some ((.str ({ data := #[] })), []))
          (cond (!smallB q_Feature)
            (some ((.str ({ data := #[] })), []))
            (cond (!smallB q_Budget)
              (some ((.str ({ data := #[] })), []))
              (cond (q_Kind == 1)
                (cond (decide (0 ≤ a1) && decide (a1 ≤ ic 5))
                  (lpE (E_ask_Print N) (subC c_ask_Print [1, 1, 1, 1, 1, 1, 0, 1, 0, 0]) ⟨[2, 4, 6, 75, 76, 77], [2, 500], [⟨(.tmp 6), 500, 9, false, [.str]⟩]⟩ N ⟨[(2, (.ptr 2 0 0)), (4, (.str ({ data := #[] }))), (6, (.row 500 0 7)), (75, (.bview 2 2 5 2 (Int.toNat a1))), (76, (.int .i64 (ic (Int.toNat a1)))), (77, (.int .i64 0))], [(2, (some (.box [(.int .i64 q_Kind), (.int .i64 q_Class), (.int .i64 q_Region_0_Lo), (.int .i64 q_Region_0_Hi), (.int .i64 q_Region_1_Lo), (.int .i64 q_Region_1_Hi), (.int .i64 q_Region_2_Lo), (.int .i64 q_Region_2_Hi), (.int .i64 q_Region_3_Lo), (.int .i64 q_Region_3_Hi), (.int .i64 q_Region_4_Lo), (.int .i64 q_Region_4_Hi), (.int .i64 q_Lo), (.int .i64 q_Hi), (.int .i64 q_Feature), (.bool q_Falls), (.int .i64 q_Budget)]))), (500, (some (.row true 9 false [.str] [(IV.str { data := #[114, 97, 110, 103, 101] }), (IV.str (itoaB q_Class)), (IV.str { data := #[102, 114, 111, 109] }), (IV.str (printB q_Lo)), (IV.str { data := #[116, 111] }), (IV.str (printB q_Hi)), (IV.str { data := #[105, 110] })])))]⟩ (kBlock 1 (kSq (E_ask_Print N) (subC c_ask_Print [1, 1, 1, 1, 1, 1, 1]) (outT (E_ask_Print N) none [(ResultVar.tmp 4)] [[.str]]))))
                  none)
                (cond (q_Kind == 2)
                  (cond (decide (0 ≤ a1) && decide (a1 ≤ ic 5))
                    (lpE (E_ask_Print N) (subC c_ask_Print [1, 1, 1, 1, 1, 1, 0, 1, 0, 0]) ⟨[2, 4, 6, 75, 76, 77], [2, 500], [⟨(.tmp 6), 500, 9, false, [.str]⟩]⟩ N ⟨[(2, (.ptr 2 0 0)), (4, (.str ({ data := #[] }))), (6, (.row 500 0 3)), (75, (.bview 2 2 5 2 (Int.toNat a1))), (76, (.int .i64 (ic (Int.toNat a1)))), (77, (.int .i64 0))], [(2, (some (.box [(.int .i64 q_Kind), (.int .i64 q_Class), (.int .i64 q_Region_0_Lo), (.int .i64 q_Region_0_Hi), (.int .i64 q_Region_1_Lo), (.int .i64 q_Region_1_Hi), (.int .i64 q_Region_2_Lo), (.int .i64 q_Region_2_Hi), (.int .i64 q_Region_3_Lo), (.int .i64 q_Region_3_Hi), (.int .i64 q_Region_4_Lo), (.int .i64 q_Region_4_Hi), (.int .i64 q_Lo), (.int .i64 q_Hi), (.int .i64 q_Feature), (.bool q_Falls), (.int .i64 q_Budget)]))), (500, (some (.row true 9 false [.str] [(IV.str { data := #[98, 101, 115, 116] }), (IV.str (itoaB q_Class)), (IV.str { data := #[105, 110] })])))]⟩ (kBlock 1 (kSq (E_ask_Print N) (subC c_ask_Print [1, 1, 1, 1, 1, 1, 1]) (outT (E_ask_Print N) none [(ResultVar.tmp 4)] [[.str]]))))
                    none)
                  (cond (q_Kind == 3)
                    (cond q_Falls
                      (cond (decide (0 ≤ a1) && decide (a1 ≤ ic 5))
                        (lpE (E_ask_Print N) (subC c_ask_Print [1, 1, 1, 1, 1, 1, 0, 1, 0, 0]) ⟨[2, 4, 6, 75, 76, 77], [2, 500], [⟨(.tmp 6), 500, 9, false, [.str]⟩]⟩ N ⟨[(2, (.ptr 2 0 0)), (4, (.str ({ data := #[] }))), (6, (.row 500 0 5)), (75, (.bview 2 2 5 2 (Int.toNat a1))), (76, (.int .i64 (ic (Int.toNat a1)))), (77, (.int .i64 0))], [(2, (some (.box [(.int .i64 q_Kind), (.int .i64 q_Class), (.int .i64 q_Region_0_Lo), (.int .i64 q_Region_0_Hi), (.int .i64 q_Region_1_Lo), (.int .i64 q_Region_1_Hi), (.int .i64 q_Region_2_Lo), (.int .i64 q_Region_2_Hi), (.int .i64 q_Region_3_Lo), (.int .i64 q_Region_3_Hi), (.int .i64 q_Region_4_Lo), (.int .i64 q_Region_4_Hi), (.int .i64 q_Lo), (.int .i64 q_Hi), (.int .i64 q_Feature), (.bool q_Falls), (.int .i64 q_Budget)]))), (500, (some (.row true 9 false [.str] [(IV.str { data := #[102, 97, 108, 108, 115] }), (IV.str (itoaB q_Class)), (IV.str { data := #[98, 121] }), (IV.str (itoaB q_Feature)), (IV.str { data := #[105, 110] })])))]⟩ (kBlock 1 (kSq (E_ask_Print N) (subC c_ask_Print [1, 1, 1, 1, 1, 1, 1]) (outT (E_ask_Print N) none [(ResultVar.tmp 4)] [[.str]]))))
                        none)
                      (cond (decide (0 ≤ a1) && decide (a1 ≤ ic 5))
                        (lpE (E_ask_Print N) (subC c_ask_Print [1, 1, 1, 1, 1, 1, 0, 1, 0, 0]) ⟨[2, 4, 6, 75, 76, 77], [2, 500], [⟨(.tmp 6), 500, 9, false, [.str]⟩]⟩ N ⟨[(2, (.ptr 2 0 0)), (4, (.str ({ data := #[] }))), (6, (.row 500 0 5)), (75, (.bview 2 2 5 2 (Int.toNat a1))), (76, (.int .i64 (ic (Int.toNat a1)))), (77, (.int .i64 0))], [(2, (some (.box [(.int .i64 q_Kind), (.int .i64 q_Class), (.int .i64 q_Region_0_Lo), (.int .i64 q_Region_0_Hi), (.int .i64 q_Region_1_Lo), (.int .i64 q_Region_1_Hi), (.int .i64 q_Region_2_Lo), (.int .i64 q_Region_2_Hi), (.int .i64 q_Region_3_Lo), (.int .i64 q_Region_3_Hi), (.int .i64 q_Region_4_Lo), (.int .i64 q_Region_4_Hi), (.int .i64 q_Lo), (.int .i64 q_Hi), (.int .i64 q_Feature), (.bool q_Falls), (.int .i64 q_Budget)]))), (500, (some (.row true 9 false [.str] [(IV.str { data := #[114, 105, 115, 101, 115] }), (IV.str (itoaB q_Class)), (IV.str { data := #[98, 121] }), (IV.str (itoaB q_Feature)), (IV.str { data := #[105, 110] })])))]⟩ (kBlock 1 (kSq (E_ask_Print N) (subC c_ask_Print [1, 1, 1, 1, 1, 1, 1]) (outT (E_ask_Print N) none [(ResultVar.tmp 4)] [[.str]]))))
                        none))
                    (some ((.str ({ data := #[] })), [])))))))))
      none))) := by kernel_rfl

theorem st_ask_Print_1 (N : Nat) (s4 : ByteArray) (n6 : Nat) (n75 : Nat) (x76 : Int) (x77 : Int) (xo2_0 : Int) (xo2_1 : Int) (xo2_2 : Int) (xo2_3 : Int) (xo2_4 : Int) (xo2_5 : Int) (xo2_6 : Int) (xo2_7 : Int) (xo2_8 : Int) (xo2_9 : Int) (xo2_10 : Int) (xo2_11 : Int) (xo2_12 : Int) (xo2_13 : Int) (xo2_14 : Int) (bo2_15 : Bool) (xo2_16 : Int) (lo500 : List IV) (again : St → Res) (k : Out → St → Res) : rnd (E_ask_Print N) (subC c_ask_Print [1, 1, 1, 1, 1, 1, 0, 1, 0, 0])
    ⟨[(2, (.ptr 2 0 0)), (4, (.str s4)), (6, (.row 500 0 n6)), (75, (.bview 2 2 5 2 n75)), (76, (.int .i64 x76)), (77, (.int .i64 x77))], [(2, (some (.box [(.int .i64 xo2_0), (.int .i64 xo2_1), (.int .i64 xo2_2), (.int .i64 xo2_3), (.int .i64 xo2_4), (.int .i64 xo2_5), (.int .i64 xo2_6), (.int .i64 xo2_7), (.int .i64 xo2_8), (.int .i64 xo2_9), (.int .i64 xo2_10), (.int .i64 xo2_11), (.int .i64 xo2_12), (.int .i64 xo2_13), (.int .i64 xo2_14), (.bool bo2_15), (.int .i64 xo2_16)]))), (500, (some (.row true 9 false [.str] lo500)))]⟩
    (kLoop again ⟨[2, 4, 6, 75, 76, 77], [2, 500], [⟨(.tmp 6), 500, 9, false, [.str]⟩]⟩ k) =
  (cond (decide (x77 < x76))
  (cond (decide (x77 < ic n75))
    (cond (decide (x77 = ic 0))
      (cond (decide (ByteArray.size (printB xo2_2) + ByteArray.size { data := #[46, 46] } ≤ strMax))
        (cond (decide (ByteArray.size (printB xo2_2 ++ { data := #[46, 46] }) + ByteArray.size (printB xo2_3) ≤ strMax))
          (cond (decide ((n6 + List.length (List.drop 0 (List.take 1 [IV.str (printB xo2_2 ++ { data := #[46, 46] } ++ printB xo2_3)]))) * TI.bytes (Env.tyd (E_ask_Print N) 9) ≤ bytesMax))
            (again ⟨[(2, (.ptr 2 0 0)), (4, (.str s4)), (6, (.row 500 0 (n6 + List.length (List.drop 0 (List.take 1 [IV.str (printB xo2_2 ++ { data := #[46, 46] } ++ printB xo2_3)]))))), (75, (.bview 2 2 5 2 n75)), (76, (.int .i64 x76)), (77, (.int .i64 (IntKind.wrap IntKind.i64 (x77 + 1))))], [(2, (some (.box [(.int .i64 xo2_0), (.int .i64 xo2_1), (.int .i64 xo2_2), (.int .i64 xo2_3), (.int .i64 xo2_4), (.int .i64 xo2_5), (.int .i64 xo2_6), (.int .i64 xo2_7), (.int .i64 xo2_8), (.int .i64 xo2_9), (.int .i64 xo2_10), (.int .i64 xo2_11), (.int .i64 xo2_12), (.int .i64 xo2_13), (.int .i64 xo2_14), (.bool bo2_15), (.int .i64 xo2_16)]))), (500, (some (.row true 9 false [.str] (List.take n6 lo500 ++ List.drop 0 (List.take 1 [IV.str (printB xo2_2 ++ { data := #[46, 46] } ++ printB xo2_3)])))))]⟩)
            none)
          none)
        none)
      (cond (decide (x77 = ic 1))
        (cond (decide (ByteArray.size (printB xo2_4) + ByteArray.size { data := #[46, 46] } ≤ strMax))
          (cond (decide (ByteArray.size (printB xo2_4 ++ { data := #[46, 46] }) + ByteArray.size (printB xo2_5) ≤ strMax))
            (cond (decide ((n6 + List.length (List.drop 0 (List.take 1 [IV.str (printB xo2_4 ++ { data := #[46, 46] } ++ printB xo2_5)]))) * TI.bytes (Env.tyd (E_ask_Print N) 9) ≤ bytesMax))
              (again ⟨[(2, (.ptr 2 0 0)), (4, (.str s4)), (6, (.row 500 0 (n6 + List.length (List.drop 0 (List.take 1 [IV.str (printB xo2_4 ++ { data := #[46, 46] } ++ printB xo2_5)]))))), (75, (.bview 2 2 5 2 n75)), (76, (.int .i64 x76)), (77, (.int .i64 (IntKind.wrap IntKind.i64 (x77 + 1))))], [(2, (some (.box [(.int .i64 xo2_0), (.int .i64 xo2_1), (.int .i64 xo2_2), (.int .i64 xo2_3), (.int .i64 xo2_4), (.int .i64 xo2_5), (.int .i64 xo2_6), (.int .i64 xo2_7), (.int .i64 xo2_8), (.int .i64 xo2_9), (.int .i64 xo2_10), (.int .i64 xo2_11), (.int .i64 xo2_12), (.int .i64 xo2_13), (.int .i64 xo2_14), (.bool bo2_15), (.int .i64 xo2_16)]))), (500, (some (.row true 9 false [.str] (List.take n6 lo500 ++ List.drop 0 (List.take 1 [IV.str (printB xo2_4 ++ { data := #[46, 46] } ++ printB xo2_5)])))))]⟩)
              none)
            none)
          none)
        (cond (decide (x77 = ic 2))
          (cond (decide (ByteArray.size (printB xo2_6) + ByteArray.size { data := #[46, 46] } ≤ strMax))
            (cond (decide (ByteArray.size (printB xo2_6 ++ { data := #[46, 46] }) + ByteArray.size (printB xo2_7) ≤ strMax))
              (cond (decide ((n6 + List.length (List.drop 0 (List.take 1 [IV.str (printB xo2_6 ++ { data := #[46, 46] } ++ printB xo2_7)]))) * TI.bytes (Env.tyd (E_ask_Print N) 9) ≤ bytesMax))
                (again ⟨[(2, (.ptr 2 0 0)), (4, (.str s4)), (6, (.row 500 0 (n6 + List.length (List.drop 0 (List.take 1 [IV.str (printB xo2_6 ++ { data := #[46, 46] } ++ printB xo2_7)]))))), (75, (.bview 2 2 5 2 n75)), (76, (.int .i64 x76)), (77, (.int .i64 (IntKind.wrap IntKind.i64 (x77 + 1))))], [(2, (some (.box [(.int .i64 xo2_0), (.int .i64 xo2_1), (.int .i64 xo2_2), (.int .i64 xo2_3), (.int .i64 xo2_4), (.int .i64 xo2_5), (.int .i64 xo2_6), (.int .i64 xo2_7), (.int .i64 xo2_8), (.int .i64 xo2_9), (.int .i64 xo2_10), (.int .i64 xo2_11), (.int .i64 xo2_12), (.int .i64 xo2_13), (.int .i64 xo2_14), (.bool bo2_15), (.int .i64 xo2_16)]))), (500, (some (.row true 9 false [.str] (List.take n6 lo500 ++ List.drop 0 (List.take 1 [IV.str (printB xo2_6 ++ { data := #[46, 46] } ++ printB xo2_7)])))))]⟩)
                none)
              none)
            none)
          (cond (decide (x77 = ic 3))
            (cond (decide (ByteArray.size (printB xo2_8) + ByteArray.size { data := #[46, 46] } ≤ strMax))
              (cond (decide (ByteArray.size (printB xo2_8 ++ { data := #[46, 46] }) + ByteArray.size (printB xo2_9) ≤ strMax))
                (cond (decide ((n6 + List.length (List.drop 0 (List.take 1 [IV.str (printB xo2_8 ++ { data := #[46, 46] } ++ printB xo2_9)]))) * TI.bytes (Env.tyd (E_ask_Print N) 9) ≤ bytesMax))
                  (again ⟨[(2, (.ptr 2 0 0)), (4, (.str s4)), (6, (.row 500 0 (n6 + List.length (List.drop 0 (List.take 1 [IV.str (printB xo2_8 ++ { data := #[46, 46] } ++ printB xo2_9)]))))), (75, (.bview 2 2 5 2 n75)), (76, (.int .i64 x76)), (77, (.int .i64 (IntKind.wrap IntKind.i64 (x77 + 1))))], [(2, (some (.box [(.int .i64 xo2_0), (.int .i64 xo2_1), (.int .i64 xo2_2), (.int .i64 xo2_3), (.int .i64 xo2_4), (.int .i64 xo2_5), (.int .i64 xo2_6), (.int .i64 xo2_7), (.int .i64 xo2_8), (.int .i64 xo2_9), (.int .i64 xo2_10), (.int .i64 xo2_11), (.int .i64 xo2_12), (.int .i64 xo2_13), (.int .i64 xo2_14), (.bool bo2_15), (.int .i64 xo2_16)]))), (500, (some (.row true 9 false [.str] (List.take n6 lo500 ++ List.drop 0 (List.take 1 [IV.str (printB xo2_8 ++ { data := #[46, 46] } ++ printB xo2_9)])))))]⟩)
                  none)
                none)
              none)
            (cond (decide (x77 = ic 4))
              (cond (decide (ByteArray.size (printB xo2_10) + ByteArray.size { data := #[46, 46] } ≤ strMax))
                (cond (decide (ByteArray.size (printB xo2_10 ++ { data := #[46, 46] }) + ByteArray.size (printB xo2_11) ≤ strMax))
                  (cond (decide ((n6 + List.length (List.drop 0 (List.take 1 [IV.str (printB xo2_10 ++ { data := #[46, 46] } ++ printB xo2_11)]))) * TI.bytes (Env.tyd (E_ask_Print N) 9) ≤ bytesMax))
                    (again ⟨[(2, (.ptr 2 0 0)), (4, (.str s4)), (6, (.row 500 0 (n6 + List.length (List.drop 0 (List.take 1 [IV.str (printB xo2_10 ++ { data := #[46, 46] } ++ printB xo2_11)]))))), (75, (.bview 2 2 5 2 n75)), (76, (.int .i64 x76)), (77, (.int .i64 (IntKind.wrap IntKind.i64 (x77 + 1))))], [(2, (some (.box [(.int .i64 xo2_0), (.int .i64 xo2_1), (.int .i64 xo2_2), (.int .i64 xo2_3), (.int .i64 xo2_4), (.int .i64 xo2_5), (.int .i64 xo2_6), (.int .i64 xo2_7), (.int .i64 xo2_8), (.int .i64 xo2_9), (.int .i64 xo2_10), (.int .i64 xo2_11), (.int .i64 xo2_12), (.int .i64 xo2_13), (.int .i64 xo2_14), (.bool bo2_15), (.int .i64 xo2_16)]))), (500, (some (.row true 9 false [.str] (List.take n6 lo500 ++ List.drop 0 (List.take 1 [IV.str (printB xo2_10 ++ { data := #[46, 46] } ++ printB xo2_11)])))))]⟩)
                    none)
                  none)
                none)
              none)))))
    none)
  (k (.exit 1) ⟨[(2, (.ptr 2 0 0)), (4, (.str s4)), (6, (.row 500 0 n6)), (75, (.bview 2 2 5 2 n75)), (76, (.int .i64 x76)), (77, (.int .i64 x77))], [(2, (some (.box [(.int .i64 xo2_0), (.int .i64 xo2_1), (.int .i64 xo2_2), (.int .i64 xo2_3), (.int .i64 xo2_4), (.int .i64 xo2_5), (.int .i64 xo2_6), (.int .i64 xo2_7), (.int .i64 xo2_8), (.int .i64 xo2_9), (.int .i64 xo2_10), (.int .i64 xo2_11), (.int .i64 xo2_12), (.int .i64 xo2_13), (.int .i64 xo2_14), (.bool bo2_15), (.int .i64 xo2_16)]))), (500, (some (.row true 9 false [.str] lo500)))]⟩)) := by kernel_rfl

theorem ex_ask_Print_1_1 (N : Nat) (s4 : ByteArray) (n6 : Nat) (n75 : Nat) (x76 : Int) (x77 : Int) (xo2_0 : Int) (xo2_1 : Int) (xo2_2 : Int) (xo2_3 : Int) (xo2_4 : Int) (xo2_5 : Int) (xo2_6 : Int) (xo2_7 : Int) (xo2_8 : Int) (xo2_9 : Int) (xo2_10 : Int) (xo2_11 : Int) (xo2_12 : Int) (xo2_13 : Int) (xo2_14 : Int) (bo2_15 : Bool) (xo2_16 : Int) (lo500 : List IV) : (kBlock 1 (kSq (E_ask_Print N) (subC c_ask_Print [1, 1, 1, 1, 1, 1, 1]) (outT (E_ask_Print N) none [(ResultVar.tmp 4)] [[.str]]))) (.exit 1)
    ⟨[(2, (.ptr 2 0 0)), (4, (.str s4)), (6, (.row 500 0 n6)), (75, (.bview 2 2 5 2 n75)), (76, (.int .i64 x76)), (77, (.int .i64 x77))], [(2, (some (.box [(.int .i64 xo2_0), (.int .i64 xo2_1), (.int .i64 xo2_2), (.int .i64 xo2_3), (.int .i64 xo2_4), (.int .i64 xo2_5), (.int .i64 xo2_6), (.int .i64 xo2_7), (.int .i64 xo2_8), (.int .i64 xo2_9), (.int .i64 xo2_10), (.int .i64 xo2_11), (.int .i64 xo2_12), (.int .i64 xo2_13), (.int .i64 xo2_14), (.bool bo2_15), (.int .i64 xo2_16)]))), (500, (some (.row true 9 false [.str] lo500)))]⟩ =
  (cond (decide ((n6 + List.length (List.drop 0 (List.take 2 [IV.str { data := #[98, 117, 100, 103, 101, 116] }, IV.str (itoaB xo2_16)]))) * TI.bytes (Env.tyd (E_ask_Print N) 9) ≤ bytesMax))
  (cond (decide (List.length (List.drop 0 (List.take (n6 + List.length (List.drop 0 (List.take 2 [IV.str { data := #[98, 117, 100, 103, 101, 116] }, IV.str (itoaB xo2_16)]))) (List.take n6 lo500 ++ List.drop 0 (List.take 2 [IV.str { data := #[98, 117, 100, 103, 101, 116] }, IV.str (itoaB xo2_16)])))) ≤ strMax) && decide (ByteArray.size (joinB (List.map IV.toStr (List.drop 0 (List.take (n6 + List.length (List.drop 0 (List.take 2 [IV.str { data := #[98, 117, 100, 103, 101, 116] }, IV.str (itoaB xo2_16)]))) (List.take n6 lo500 ++ List.drop 0 (List.take 2 [IV.str { data := #[98, 117, 100, 103, 101, 116] }, IV.str (itoaB xo2_16)]))))) { data := #[32] }) ≤ strMax))
    (some ((.str (joinB (List.map IV.toStr (List.drop 0 (List.take (n6 + List.length (List.drop 0 (List.take 2 [IV.str { data := #[98, 117, 100, 103, 101, 116] }, IV.str (itoaB xo2_16)]))) (List.take n6 lo500 ++ List.drop 0 (List.take 2 [IV.str { data := #[98, 117, 100, 103, 101, 116] }, IV.str (itoaB xo2_16)]))))) { data := #[32] })), []))
    none)
  none) := by kernel_rfl

end Go.FM

/-
  ask's FUNCTIONS COME TO WHAT IS SAID (1).
-/
namespace Go.FM
open Go Go.Proofs

set_option maxRecDepth 100000 in
theorem snd_ask_small : SndR PR B0 16 S_ask_small := by
  refine snd_mk [] [] S_ask_small [[.bool]] Tryz.func16 h_ask_small trivial ?_
  intro vs r hwf h
  unfold S_ask_small at h
  split at h
  · rename_i n
    refine ⟨0, ?_⟩
    rw [← h]
    refine (nf_ask_small 0 n).trans ?_
    simp only [R.get_ok]
    unfold smallB
    have : decide (n ≥ 0) = decide (0 ≤ n) := rfl
    rw [this]
    cases decide (0 ≤ n) <;> rfl
  · simp [R.get] at h

set_option maxRecDepth 100000 in
theorem snd_ask_count : SndR PR B0 25 S_ask_count := by
  refine snd_mk [(39, S_strconv_Atoi)] [] S_ask_count [[.int .i64]] Tryz.func25 h_ask_count ⟨snd_strconv_Atoi, trivial⟩ ?_
  intro vs r hwf h
  unfold S_ask_count at h
  split at h
  · rename_i s
    refine ⟨0, ?_⟩
    rw [← h]
    exact nf_ask_count 0 s
  · simp [R.get] at h

set_option maxRecDepth 100000 in
theorem snd_ask_scan : SndR PR B0 24 S_ask_scan := by
  refine snd_mk [(38, S_dec_Scan)] [] S_ask_scan [[.int .i64]] Tryz.func24 h_ask_scan ⟨snd_dec_Scan, trivial⟩ ?_
  intro vs r hwf h
  unfold S_ask_scan at h
  split at h
  · rename_i s
    refine ⟨0, ?_⟩
    rw [← h]
    refine (nf_ask_scan 0 s).trans ?_
    simp only [R.get_br, R.get_ok, R.get_no]
  · simp [R.get] at h

set_option maxRecDepth 100000 in
theorem snd_ask_told : SndR PR B0 15 S_ask_told := by
  refine snd_mk [] [] S_ask_told [[.int .i64, .int .i64, .int .i64, .int .i64, .int .i64, .int .i64, .int .i64, .int .i64, .int .i64, .int .i64, .int .i64, .int .i64, .int .i64, .int .i64, .int .i64, .bool, .int .i64]] Tryz.func15 h_ask_told trivial ?_
  intro vs r hwf h
  unfold S_ask_told at h
  split at h
  · rename_i k c a0 b0 a1 b1 a2 b2 a3 b3 a4 b4 lo hi ft fl bu d
    refine ⟨0, ?_⟩
    cases hc : (decide (0 ≤ d) && decide (d ≤ 5)) with
    | false => rw [hc] at h; simp [R.get] at h
    | true =>
      rw [hc, R.get_br, condT, R.get_ok] at h
      rw [← h]
      refine (nf_ask_told 0 k c a0 b0 a1 b1 a2 b2 a3 b3 a4 b4 lo hi ft fl bu d).trans ?_
      have e5 : (decide (0 ≤ d) && decide (d ≤ ic 5)) = true := hc
      rw [e5, condT, condT]
      simp only [Bool.and_eq_true, decide_eq_true_eq] at hc
      obtain ⟨n, rfl⟩ : ∃ n : Nat, d = n := ⟨d.toNat, by omega⟩
      simp only [Int.toNat_natCast, Nat.min_self]
      unfold told
      have hn : n = 0 ∨ n = 1 ∨ n = 2 ∨ n = 3 ∨ n = 4 ∨ n = 5 := by omega
      have h13 : (k == 1) = true → (k == 3) = false := fun h1 => by
        rw [beq_dec] at h1 ⊢
        have := of_decide_eq_true h1
        exact decide_eq_false (by omega)
      generalize (k == 1) = e1 at h13 ⊢
      generalize (k == 3) = e3 at h13 ⊢
      rcases hn with rfl | rfl | rfl | rfl | rfl | rfl <;> cases e1 <;> cases e3 <;> first | rfl | exact absurd (h13 rfl) (by decide)
  · simp [R.get] at h

/-! ### words -/
theorem index_run (N : Nat) (l : List IV) (s : ByteArray) (hl : l.length ≤ strMax) (K : Out → St → Res)
    (hx : ∀ l0 s1 x4 x7 x8, K (.exit 0) ⟨[(0, (.list false [.str] l0)), (1, (.str s1)), (4, (.int .i64 x4)), (7, (.int .i64 x7)), (8, (.int .i64 x8))], []⟩ = some (.int .i64 (-1), []))
    (hr : ∀ l0 s1 x4 x7 x8, K .ret ⟨[(0, (.list false [.str] l0)), (1, (.str s1)), (4, (.int .i64 x4)), (7, (.int .i64 x7)), (8, (.int .i64 x8))], []⟩ = some (.int .i64 x4, [])) :
    ∀ (d i n : Nat) (x4 : Int), i + d = l.length → d < n →
      lpE (E_slices_Index_stringstring N) (subC c_slices_Index_stringstring [1, 0, 1, 0, 0]) ⟨[0, 1, 4, 7, 8], [], []⟩ n ⟨[(0, (.list false [.str] l)), (1, (.str s)), (4, (.int .i64 x4)), (7, (.int .i64 (ic l.length))), (8, (.int .i64 (i : Int)))], []⟩ K = some (.int .i64 (idxS (l.drop i) s (i : Int)), [])
  | 0, i, n + 1, x4, hd, hn => by
    rw [lpE_succ, st_slices_Index_stringstring_1, idx_ge (by omega), condF, hx, List.drop_of_length_le (by omega)]
    rfl
  | d + 1, i, n + 1, x4, hd, hn => by
    have hi : i < l.length := by omega
    unfold strMax at hl
    have ih := index_run N l s (by unfold strMax; omega) K hx hr d (i + 1) n x4 (by omega) (by omega)
    rw [lpE_succ, st_slices_Index_stringstring_1, idx_lt hi, idx_0, Bool.and_true, condT, condT, getD_i hi, succ_w (by omega), List.drop_eq_getElem_cons hi]
    unfold idxS
    cases (ByteArray.toList s == ByteArray.toList (IV.toStr l[i])) with
    | true => rw [condT, condT, hr]
    | false =>
      rw [condF, condF, ih]
      rfl
  | _, _, 0, _, _, h => by omega

set_option maxRecDepth 100000 in
theorem snd_slices_Index_stringstring : SndR PR B0 21 S_slices_Index_stringstring := by
  refine snd_mk [] [(2, ⟨[0, 1, 4, 7, 8], [], []⟩)] S_slices_Index_stringstring [[.int .i64]] Tryz.func21 h_slices_Index_stringstring trivial ?_
  intro vs r hwf h
  unfold S_slices_Index_stringstring at h
  split at h
  · rename_i l s
    refine ⟨l.length + 1, ?_⟩
    rw [← h]
    refine (nf_slices_Index_stringstring (l.length + 1) l s).trans ?_
    simp only [R.get_ok]
    have hl := (hwf (by simp [oneBor])).1
    simp only [wfV, wfL] at hl
    have := index_run (l.length + 1) l s hl.1 _ (fun l0 s1 x4 x7 x8 => ex_slices_Index_stringstring_1_1 (l.length + 1) l0 s1 x4 x7 x8) (fun l0 s1 x4 x7 x8 => ex_slices_Index_stringstring_1_2 (l.length + 1) l0 s1 x4 x7 x8) l.length 0 (l.length + 1) 0 (by omega) (by omega)
    rw [List.drop_zero] at this
    exact this
  · simp [R.get] at h

theorem pad_gen (l : List IV) (i m : Nat) (x : IV) (hx : x.toStr = ByteArray.empty) : IV.toStr (List.getD (l ++ List.replicate m x) i default) = wAt l i := by
  unfold wAt
  by_cases h : i < l.length
  · simp [List.getD, List.getElem?_append, h]
  · have e0 : (List.getD l i default).toStr = ByteArray.empty := by simp [List.getD, h]; rfl
    rw [e0]
    by_cases h6 : i - l.length < m
    · have e : List.getD (l ++ List.replicate m x) i default = x := by simp [List.getD, List.getElem?_append, h, List.getElem?_replicate, h6]
      rw [e, hx]
    · have e : List.getD (l ++ List.replicate m x) i default = default := by simp [List.getD, List.getElem?_append, h, List.getElem?_replicate, h6]
      rw [e]
      rfl
theorem pad_get (l : List IV) (i : Nat) : IV.toStr (List.getD (List.take (List.length l) l ++ List.replicate (Int.toNat 6) (IV.str { data := #[] })) i default) = wAt l i := by
  rw [List.take_length]
  exact pad_gen l i _ _ rfl

set_option maxRecDepth 100000 in
theorem snd_ask_head : SndR PR B0 22 S_ask_head := by
  refine snd_mk [(25, S_ask_count), (24, S_ask_scan), (36, S_slices_Clone_stringstring)] [] S_ask_head [[.int .i64, .int .i64, .int .i64, .int .i64, .int .i64, .int .i64, .int .i64, .int .i64, .int .i64, .int .i64, .int .i64, .int .i64, .int .i64, .int .i64, .int .i64, .bool, .int .i64]] Tryz.func22 h_ask_head
    ⟨snd_ask_count, snd_ask_scan, snd_slices_Clone_stringstring, trivial⟩ ?_
  intro vs r hwf h
  unfold S_ask_head at h
  split at h
  · rename_i l
    refine ⟨0, ?_⟩
    cases hc : (decide (l.length ≤ 4294967290) && l.all (fun x => decide (x.toStr.size < 4294967281))) with
    | false => rw [hc] at h; simp [R.get] at h
    | true =>
      rw [hc, R.get_br, condT, R.get_ok] at h
      rw [← h]
      refine (nf_ask_head 0 l).trans ?_
      simp only [Bool.and_eq_true, decide_eq_true_eq, List.all_eq_true] at hc
      obtain ⟨hl, hz⟩ := hc
      have hw : ∀ i, (wAt l i).size < 4294967281 := fun i => by
        unfold wAt
        by_cases hi : i < l.length
        · have : List.getD l i default = l[i] := by simp [hi]
          rw [this]
          exact hz _ (List.getElem_mem hi)
        · have : List.getD l i default = default := by simp [List.getD, hi]
          rw [this]
          decide
      have hb : TI.bytes (Env.tyd (E_ask_head 0) 9) = 16 := by rfl
      have hr6 : (List.replicate (Int.toNat 6) (IV.str { data := #[] })).length = 6 := rfl
      simp only [pad_get]
      rw [hb, hr6]
      have ge : ∀ k : Nat, k < 6 → decide ((k : Int) < ic (List.length l + 6 - 0)) = true := fun k hk => decide_eq_true (by simp only [ic]; omega)
      have g0 := ge 0 (by omega)
      have g1 := ge 1 (by omega)
      have g3 := ge 3 (by omega)
      have g5 := ge 5 (by omega)
      rw [decide_eq_true (show List.length l ≤ 4294967296 by omega), condT, decide_eq_true (show (List.length l + 6) * 16 ≤ bytesMax by unfold bytesMax; omega), condT]
      have n0 : decide ((0 : Nat) ≤ 0) = true := rfl
      have d1 : (decide (0 ≤ 1) && decide (1 < ic (List.length l + 6 - 0))) = true := by simpa using g1
      have d0 : (decide (0 ≤ 0) && decide (0 < ic (List.length l + 6 - 0))) = true := by simpa using g0
      have d3 : (decide (0 ≤ 3) && decide (3 < ic (List.length l + 6 - 0))) = true := by simpa using g3
      have d5 : (decide (0 ≤ 5) && decide (5 < ic (List.length l + 6 - 0))) = true := by simpa using g5
      rw [d1, d0, d3, d5, decide_eq_true (hw 3), decide_eq_true (hw 5)]
      simp only [condT]
      unfold headQ
      cases ((wAt l 0).toList == w_range.toList) with
      | true => rfl
      | false =>
        cases ((wAt l 0).toList == w_best.toList) with
        | true => rfl
        | false =>
          cases ((wAt l 0).toList == w_rises.toList) <;> cases ((wAt l 0).toList == w_falls.toList) <;> rfl
  · simp [R.get] at h

end Go.FM

/-
  ask's FUNCTIONS COME TO WHAT IS SAID (2): Print.
-/
namespace Go.FM
open Go Go.Proofs

/-! ### sizes -/
theorem join_size (l : List ByteArray) (h : ∀ w ∈ l, w.size ≤ 100) : (joinB l w_space).size ≤ 101 * l.length := by
  have hs : (joinB l w_space).size = (Lib.join (l.map (·.data.toList)) [32]).length := by
    show (Array.size (List.toArray _)) = _
    rw [List.size_toArray]
  rw [hs]
  cases l with
  | nil => simp [Lib.join_nil]
  | cons x r =>
    rw [List.map_cons, Lib.join_length]
    have : ∀ (r : List ByteArray), (∀ w ∈ r, w.size ≤ 100) → Lib.lens (r.map (·.data.toList)) ≤ 100 * r.length := fun r => by
      induction r with
      | nil => intro _; simp [Lib.lens]
      | cons y r ih =>
        intro h
        have h1 := h y (List.mem_cons_self ..)
        rw [size_len] at h1
        have h2 := ih (fun w hw => h w (List.mem_cons_of_mem _ hw))
        rw [List.map_cons, List.length_cons]
        simp only [Lib.lens, List.map_cons, List.sum_cons] at h2 ⊢
        omega
    have := this (x :: r) h
    rw [List.map_cons] at this
    simp only [List.length_cons, List.length_map, List.length_nil] at this ⊢
    omega

theorem spanW_size {a b : Int} (ha : InR a) (hb : InR b) : (spanW a b).size ≤ 82 := by
  unfold spanW
  have h1 := (print_len a ha).2
  have h2 := (print_len b hb).2
  have h3 : ByteArray.size w_dots = 2 := rfl
  rw [ByteArray.size_append, ByteArray.size_append, h3]
  omega
theorem itoaB_in {n : Int} (h : InR n) : (itoaB n).size ≤ 21 := itoaB_size h.1 h.2

/-- All of a query's numbers are ints. -/
structure Qy.In (q : Qy) : Prop where
  k : InR q.k
  c : InR q.c
  a0 : InR q.a0
  b0 : InR q.b0
  a1 : InR q.a1
  b1 : InR q.b1
  a2 : InR q.a2
  b2 : InR q.b2
  a3 : InR q.a3
  b3 : InR q.b3
  a4 : InR q.a4
  b4 : InR q.b4
  lo : InR q.lo
  hi : InR q.hi
  ft : InR q.ft
  bu : InR q.bu

abbrev boxQ (q : Qy) : Ob := .box [.int .i64 q.k, .int .i64 q.c, .int .i64 q.a0, .int .i64 q.b0, .int .i64 q.a1, .int .i64 q.b1, .int .i64 q.a2, .int .i64 q.b2, .int .i64 q.a3, .int .i64 q.b3, .int .i64 q.a4, .int .i64 q.b4, .int .i64 q.lo, .int .i64 q.hi, .int .i64 q.ft, .bool q.fl, .int .i64 q.bu]
abbrev stP (q : Qy) (s4 : ByteArray) (W : List IV) (D : Nat) (i : Int) : St := ⟨[(2, (.ptr 2 0 0)), (4, (.str s4)), (6, (.row 500 0 W.length)), (75, (.bview 2 2 5 2 D)), (76, (.int .i64 (ic D))), (77, (.int .i64 i))], [(2, (some (boxQ q))), (500, (some (.row true 9 false [.str] W)))]⟩

theorem str_bytes (N : Nat) : TI.bytes (Env.tyd (E_ask_Print N) 9) = 16 := by rfl

theorem print_exit (N : Nat) (q : Qy) (hq : q.In) (s4 : ByteArray) (W : List IV) (hW : W.length ≤ 20) (hs : ∀ w ∈ W, w.toStr.size ≤ 100) (D : Nat) (i : Int) :
    (kBlock 1 (kSq (E_ask_Print N) (subC c_ask_Print [1, 1, 1, 1, 1, 1, 1]) (outT (E_ask_Print N) none [(ResultVar.tmp 4)] [[.str]]))) (.exit 1) (stP q s4 W D i) = some (.str (joinB (W.map IV.toStr ++ [w_budget, itoaB q.bu]) w_space), []) := by
  refine (ex_ask_Print_1_1 N s4 W.length D (ic D) i q.k q.c q.a0 q.b0 q.a1 q.b1 q.a2 q.b2 q.a3 q.b3 q.a4 q.b4 q.lo q.hi q.ft q.fl q.bu W).trans ?_
  have e2 : (List.drop 0 (List.take 2 [IV.str { data := #[98, 117, 100, 103, 101, 116] }, IV.str (itoaB q.bu)])) = [IV.str { data := #[98, 117, 100, 103, 101, 116] }, IV.str (itoaB q.bu)] := rfl
  rw [str_bytes, e2, List.take_length]
  have e3 : List.drop 0 (List.take (W.length + List.length [IV.str { data := #[98, 117, 100, 103, 101, 116] }, IV.str (itoaB q.bu)]) (W ++ [IV.str { data := #[98, 117, 100, 103, 101, 116] }, IV.str (itoaB q.bu)])) = W ++ [IV.str { data := #[98, 117, 100, 103, 101, 116] }, IV.str (itoaB q.bu)] := by
    rw [List.drop_zero, List.take_of_length_le (by simp)]
  rw [e3]
  have e4 : List.map IV.toStr (W ++ [IV.str { data := #[98, 117, 100, 103, 101, 116] }, IV.str (itoaB q.bu)]) = W.map IV.toStr ++ [w_budget, itoaB q.bu] := by simp [IV.toStr]
  rw [e4]
  have hz := join_size (W.map IV.toStr ++ [w_budget, itoaB q.bu]) (fun w hw => by
    rcases List.mem_append.1 hw with h | h
    · obtain ⟨x, hx, rfl⟩ := List.mem_map.1 h
      exact hs x hx
    · simp only [List.mem_cons, List.not_mem_nil, or_false] at h
      rcases h with rfl | rfl
      · decide
      · have := itoaB_in hq.bu
        omega)
  simp only [List.length_append, List.length_map, List.length_cons, List.length_nil] at hz ⊢
  rw [decide_eq_true (show (W.length + (0 + 1 + 1)) * 16 ≤ bytesMax by unfold bytesMax; omega), condT, decide_eq_true (show W.length + (0 + 1 + 1) ≤ strMax by unfold strMax; omega),
    decide_eq_true (show ByteArray.size (joinB (W.map IV.toStr ++ [w_budget, itoaB q.bu]) { data := #[32] }) ≤ strMax from Nat.le_trans hz (by unfold strMax; omega)), Bool.and_true, condT]

def spIV (a b : Int) : IV := .str (spanW a b)
theorem print_round (N : Nat) (q : Qy) (s4 : ByteArray) (W : List IV) (hW : W.length ≤ 20) (D i : Nat) (hiD : i < D) (a b : Int) (again : St → Res) (k : Out → St → Res) (ha : InR a) (hb : InR b)
    (hab : (i = 0 ∧ a = q.a0 ∧ b = q.b0) ∨ (i = 1 ∧ a = q.a1 ∧ b = q.b1) ∨ (i = 2 ∧ a = q.a2 ∧ b = q.b2) ∨ (i = 3 ∧ a = q.a3 ∧ b = q.b3)) :
    rnd (E_ask_Print N) (subC c_ask_Print [1, 1, 1, 1, 1, 1, 0, 1, 0, 0]) (stP q s4 W D (i : Int)) (kLoop again ⟨[2, 4, 6, 75, 76, 77], [2, 500], [⟨.tmp 6, 500, 9, false, [.str]⟩]⟩ k) = again (stP q s4 (W ++ [spIV a b]) D ((i + 1 : Nat) : Int)) := by
  refine (st_ask_Print_1 N s4 W.length D (ic D) i q.k q.c q.a0 q.b0 q.a1 q.b1 q.a2 q.b2 q.a3 q.b3 q.a4 q.b4 q.lo q.hi q.ft q.fl q.bu W again k).trans ?_
  have d1 : decide ((i : Int) < ic D) = true := decide_eq_true (by simp only [ic]; omega)
  rw [d1, condT, condT]
  have h3 : ByteArray.size { data := #[46, 46] } = 2 := rfl
  have sz : ∀ x y : Int, InR x → InR y → decide (ByteArray.size (printB x) + ByteArray.size { data := #[46, 46] } ≤ strMax) = true ∧ decide (ByteArray.size (printB x ++ { data := #[46, 46] }) + ByteArray.size (printB y) ≤ strMax) = true := fun x y hx hy => by
    have h1 := (print_len x hx).2
    have h2 := (print_len y hy).2
    refine ⟨decide_eq_true (by rw [h3]; unfold strMax; omega), decide_eq_true (by rw [ByteArray.size_append, h3]; unfold strMax; omega)⟩
  have e1 : ∀ x : IV, (List.drop 0 (List.take 1 [x])) = [x] := fun _ => rfl
  have g16 : ∀ x : IV, decide ((W.length + List.length [x]) * TI.bytes (Env.tyd (E_ask_Print N) 9) ≤ bytesMax) = true := fun x => decide_eq_true (by rw [str_bytes]; simp only [List.length_cons, List.length_nil]; unfold bytesMax; omega)
  have hl : ∀ x : IV, W.length + List.length [x] = (W ++ [x]).length := fun x => by simp
  obtain ⟨s1, s2⟩ := sz a b ha hb
  simp only [e1, g16, condT, List.take_length]
  rcases hab with ⟨rfl, rfl, rfl⟩ | ⟨rfl, rfl, rfl⟩ | ⟨rfl, rfl, rfl⟩ | ⟨rfl, rfl, rfl⟩
  · rw [s1, s2, show decide (((0 : Nat) : Int) = ic 0) = true from rfl, condT, condT, condT, hl]
    rfl
  · rw [s1, s2, show decide (((1 : Nat) : Int) = ic 0) = false from rfl, show decide (((1 : Nat) : Int) = ic 1) = true from rfl, condF, condT, condT, condT, hl]
    rfl
  · rw [s1, s2, show decide (((2 : Nat) : Int) = ic 0) = false from rfl, show decide (((2 : Nat) : Int) = ic 1) = false from rfl, show decide (((2 : Nat) : Int) = ic 2) = true from rfl, condF, condF, condT, condT, condT, hl]
    rfl
  · rw [s1, s2, show decide (((3 : Nat) : Int) = ic 0) = false from rfl, show decide (((3 : Nat) : Int) = ic 1) = false from rfl, show decide (((3 : Nat) : Int) = ic 2) = false from rfl, show decide (((3 : Nat) : Int) = ic 3) = true from rfl, condF, condF, condF, condT, condT, condT, hl]
    rfl

theorem print_run (N : Nat) (q : Qy) (hq : q.In) (s4 : ByteArray) (D : Nat) (hD : D ≤ 4) :
    ∀ (d i n : Nat) (W : List IV), i + d = D → d < n → W.length + d ≤ 20 → (∀ w ∈ W, w.toStr.size ≤ 100) →
      lpE (E_ask_Print N) (subC c_ask_Print [1, 1, 1, 1, 1, 1, 0, 1, 0, 0]) ⟨[2, 4, 6, 75, 76, 77], [2, 500], [⟨.tmp 6, 500, 9, false, [.str]⟩]⟩ n (stP q s4 W D (i : Int)) (kBlock 1 (kSq (E_ask_Print N) (subC c_ask_Print [1, 1, 1, 1, 1, 1, 1]) (outT (E_ask_Print N) none [(ResultVar.tmp 4)] [[.str]]))) =
        some (.str (joinB (W.map IV.toStr ++ (((q.spans.take D).drop i).map fun s => spanW s.1 s.2) ++ [w_budget, itoaB q.bu]) w_space), [])
  | 0, i, n + 1, W, hd, hn, hW, hs => by
    have hi : i = D := by omega
    rw [lpE_succ]
    refine (st_ask_Print_1 N s4 W.length D (ic D) i q.k q.c q.a0 q.b0 q.a1 q.b1 q.a2 q.b2 q.a3 q.b3 q.a4 q.b4 q.lo q.hi q.ft q.fl q.bu W _ _).trans ?_
    rw [decide_eq_false (show ¬ (i : Int) < ic D by simp only [ic]; omega), condF]
    refine (print_exit N q hq s4 W (by omega) hs D i).trans ?_
    rw [List.drop_of_length_le (by rw [List.length_take]; omega)]
    simp
  | d + 1, i, n + 1, W, hd, hn, hW, hs => by
    obtain ⟨a, b, ha, hb, hab, hsp⟩ : ∃ a b, InR a ∧ InR b ∧ ((i = 0 ∧ a = q.a0 ∧ b = q.b0) ∨ (i = 1 ∧ a = q.a1 ∧ b = q.b1) ∨ (i = 2 ∧ a = q.a2 ∧ b = q.b2) ∨ (i = 3 ∧ a = q.a3 ∧ b = q.b3)) ∧ (q.spans.take D).drop i = (a, b) :: (q.spans.take D).drop (i + 1) := by
      have hi : i = 0 ∨ i = 1 ∨ i = 2 ∨ i = 3 := by omega
      have hDD : D = 0 ∨ D = 1 ∨ D = 2 ∨ D = 3 ∨ D = 4 := by omega
      rcases hi with rfl | rfl | rfl | rfl
      · exact ⟨q.a0, q.b0, hq.a0, hq.b0, .inl ⟨rfl, rfl, rfl⟩, by rcases hDD with rfl | rfl | rfl | rfl | rfl <;> first | rfl | omega⟩
      · exact ⟨q.a1, q.b1, hq.a1, hq.b1, .inr (.inl ⟨rfl, rfl, rfl⟩), by rcases hDD with rfl | rfl | rfl | rfl | rfl <;> first | rfl | omega⟩
      · exact ⟨q.a2, q.b2, hq.a2, hq.b2, .inr (.inr (.inl ⟨rfl, rfl, rfl⟩)), by rcases hDD with rfl | rfl | rfl | rfl | rfl <;> first | rfl | omega⟩
      · exact ⟨q.a3, q.b3, hq.a3, hq.b3, .inr (.inr (.inr ⟨rfl, rfl, rfl⟩)), by rcases hDD with rfl | rfl | rfl | rfl | rfl <;> first | rfl | omega⟩
    rw [lpE_succ, print_round N q s4 W (by omega) D i (by omega) a b _ _ ha hb hab, hsp]
    have ih := print_run N q hq s4 D hD d (i + 1) n (W ++ [spIV a b]) (by omega) (by omega) (by simp only [List.length_append, List.length_cons, List.length_nil]; omega) (fun w hw => by
      rcases List.mem_append.1 hw with h | h
      · exact hs w h
      · rw [List.mem_singleton] at h
        subst h
        have := spanW_size ha hb
        simp only [spIV, IV.toStr]
        omega)
    refine ih.trans ?_
    simp [spIV, IV.toStr]
  | _, _, 0, _, _, h, _, _ => by omega

set_option maxRecDepth 100000 in
theorem snd_ask_Print : SndR PR B0 8 S_ask_Print := by
  refine snd_mk [(16, S_ask_small), (15, S_ask_told), (18, S_dec_Print), (17, S_strconv_Itoa), (19, S_strings_Join)] [(18, ⟨[2, 4, 6, 75, 76, 77], [2, 500], [⟨.tmp 6, 500, 9, false, [.str]⟩]⟩)] S_ask_Print [[.str]] Tryz.func8 h_ask_Print
    ⟨snd_ask_small, snd_ask_told, snd_dec_Print, snd_strconv_Itoa, snd_strings_Join, trivial⟩ ?_
  intro vs r hwf h
  unfold S_ask_Print at h
  split at h
  · rename_i k c a0 b0 a1 b1 a2 b2 a3 b3 a4 b4 lo hi ft fl bu d
    refine ⟨20, ?_⟩
    rw [R.get_ok] at h
    rw [← h]
    refine (nf_ask_Print 20 k c a0 b0 a1 b1 a2 b2 a3 b3 a4 b4 lo hi ft fl bu d).trans ?_
    have hb := hwf (by simp [oneBor])
    have hq : Qy.In ⟨k, c, a0, b0, a1, b1, a2, b2, a3, b3, a4, b4, lo, hi, ft, fl, bu⟩ := by
      have := hb.1
      simp only [wfV, wfLs, wfL, and_true, true_and] at this
      obtain ⟨h1, h2, h3, h4, h5, h6, h7, h8, h9, h10, h11, h12, h13, h14, h15, h16⟩ := this
      exact ⟨h1, h2, h3, h4, h5, h6, h7, h8, h9, h10, h11, h12, h13, h14, h15, h16⟩
    show cond (decide (d < 1)) _ (cond (decide (d > 4)) _ (cond _ (cond (!(Qy.eq ⟨k, c, a0, b0, a1, b1, a2, b2, a3, b3, a4, b4, lo, hi, ft, fl, bu⟩ (told ⟨k, c, a0, b0, a1, b1, a2, b2, a3, b3, a4, b4, lo, hi, ft, fl, bu⟩ d))) _ _) _)) = _
    generalize hQ : (⟨k, c, a0, b0, a1, b1, a2, b2, a3, b3, a4, b4, lo, hi, ft, fl, bu⟩ : Qy) = q at hq ⊢
    unfold printQ okQ
    cases h1 : decide (d < 1) with
    | true => simp only [condT, condF, Bool.not_true, Bool.false_and]
    | false =>
      cases h4 : decide (d > 4) with
      | true => simp only [condT, condF, Bool.not_true, Bool.not_false, Bool.false_and, Bool.and_false]
      | false =>
        have h1 := of_decide_eq_false h1
        have h4 := of_decide_eq_false h4
        rw [decide_eq_true (show 0 ≤ d by omega), decide_eq_true (show d ≤ 5 by omega), decide_eq_true (show d ≤ ic 5 by simp only [ic]; omega)]
        simp only [Bool.and_true, condT, condF, Bool.not_false, Bool.true_and]
        cases he : q.eq (told q d) with
        | false => simp only [Bool.not_false, condT, condF, Bool.false_and]
        | true =>
          have ec : q.c = c := by rw [← hQ]
          have ef : q.ft = ft := by rw [← hQ]
          have eb : q.bu = bu := by rw [← hQ]
          have ek : q.k = k := by rw [← hQ]
          rw [ec, ef, eb, ek]
          cases hc : smallB c with
          | false => simp only [Bool.not_true, Bool.not_false, condT, condF, Bool.false_and, Bool.true_and]
          | true =>
            cases hf : smallB ft with
            | false => simp only [Bool.not_true, Bool.not_false, condT, condF, Bool.false_and, Bool.true_and]
            | true =>
              cases hbu : smallB bu with
              | false => simp only [Bool.not_true, Bool.not_false, condT, condF, Bool.false_and, Bool.true_and]
              | true =>
                simp only [Bool.not_true, condF, Bool.true_and]
                have hDn : d.toNat ≤ 4 := by omega
                have run := fun (W : List IV) (hW : W.length ≤ 16) (hs : ∀ w ∈ W, w.toStr.size ≤ 100) => print_run 20 q hq ⟨#[]⟩ d.toNat hDn d.toNat 0 20 W (by omega) (by omega) (by omega) hs
                have zi : ∀ {n : Int}, InR n → (itoaB n).size ≤ 100 := fun h => by have := itoaB_in h; omega
                have zp : ∀ {n : Int}, InR n → (printB n).size ≤ 100 := fun h => by have := (print_len _ h).2; omega
                have fin : ∀ (W : List IV) (l : List ByteArray), W.map IV.toStr = l ++ [w_in] → headW q = l → joinB (W.map IV.toStr ++ (((q.spans.take d.toNat).drop 0).map fun s => spanW s.1 s.2) ++ [w_budget, itoaB q.bu]) w_space = joinB (wordsQ q d.toNat) w_space := fun W l hWl hl => by
                  unfold wordsQ
                  rw [hWl, hl, List.drop_zero]
                  simp
                subst hQ
                cases k1 : (k == 1) with
                | true =>
                  simp only [condT, Bool.true_or]
                  refine (run [IV.str w_range, IV.str (itoaB c), IV.str w_from, IV.str (printB lo), IV.str w_to, IV.str (printB hi), IV.str w_in] (by simp) (fun w hw => ?_)).trans ?_
                  · simp only [List.mem_cons, List.not_mem_nil, or_false] at hw
                    rcases hw with rfl | rfl | rfl | rfl | rfl | rfl | rfl
                    · decide
                    · exact zi hq.c
                    · decide
                    · exact zp hq.lo
                    · decide
                    · exact zp hq.hi
                    · decide
                  · rw [fin _ [w_range, itoaB c, w_from, printB lo, w_to, printB hi] rfl (by unfold headW; simp only [k1, condT])]
                | false =>
                  simp only [condF, Bool.false_or]
                  cases k2 : (k == 2) with
                  | true =>
                    simp only [condT, Bool.true_or]
                    refine (run [IV.str w_best, IV.str (itoaB c), IV.str w_in] (by simp) (fun w hw => ?_)).trans ?_
                    · simp only [List.mem_cons, List.not_mem_nil, or_false] at hw
                      rcases hw with rfl | rfl | rfl
                      · decide
                      · exact zi hq.c
                      · decide
                    · rw [fin _ [w_best, itoaB c] rfl (by unfold headW; simp only [k1, k2, condT, condF])]
                  | false =>
                    simp only [condF, Bool.false_or]
                    cases k3 : (k == 3) with
                    | false => simp only [condF]
                    | true =>
                      simp only [condT]
                      cases fl with
                      | true =>
                        simp only [condT]
                        refine (run [IV.str w_falls, IV.str (itoaB c), IV.str w_by, IV.str (itoaB ft), IV.str w_in] (by simp) (fun w hw => ?_)).trans ?_
                        · simp only [List.mem_cons, List.not_mem_nil, or_false] at hw
                          rcases hw with rfl | rfl | rfl | rfl | rfl
                          · decide
                          · exact zi hq.c
                          · decide
                          · exact zi hq.ft
                          · decide
                        · rw [fin _ [w_falls, itoaB c, w_by, itoaB ft] rfl (by unfold headW; simp only [k1, k2, condT, condF])]
                      | false =>
                        simp only [condF]
                        refine (run [IV.str w_rises, IV.str (itoaB c), IV.str w_by, IV.str (itoaB ft), IV.str w_in] (by simp) (fun w hw => ?_)).trans ?_
                        · simp only [List.mem_cons, List.not_mem_nil, or_false] at hw
                          rcases hw with rfl | rfl | rfl | rfl | rfl
                          · decide
                          · exact zi hq.c
                          · decide
                          · exact zi hq.ft
                          · decide
                        · rw [fin _ [w_rises, itoaB c, w_by, itoaB ft] rfl (by unfold headW; simp only [k1, k2, condF])]
  · simp [R.get] at h

end Go.FM

/-
  ask's FUNCTIONS COME TO WHAT IS SAID (3): Parse.
-/
namespace Go.FM
open Go Go.Proofs

theorem headQ_a (l : List IV) : (headQ l).a0 = 0 ∧ (headQ l).b0 = 0 ∧ (headQ l).a1 = 0 ∧ (headQ l).b1 = 0 ∧ (headQ l).a2 = 0 ∧ (headQ l).b2 = 0 ∧ (headQ l).a3 = 0 ∧ (headQ l).b3 = 0 ∧ (headQ l).a4 = 0 ∧ (headQ l).b4 = 0 ∧ (headQ l).bu = 0 := by
  unfold headQ
  cases ((wAt l 0).toList == w_range.toList) <;> cases ((wAt l 0).toList == w_best.toList) <;> cases ((wAt l 0).toList == w_rises.toList || (wAt l 0).toList == w_falls.toList) <;> exact ⟨rfl, rfl, rfl, rfl, rfl, rfl, rfl, rfl, rfl, rfl, rfl⟩

/-- The query with so many spans read. -/
def rq (l : List IV) (i d : Nat) : Qy :=
  ⟨(headQ (l.take i)).k, (headQ (l.take i)).c,
    cond (Nat.blt 0 d) (spA l (i + 1)) 0, cond (Nat.blt 0 d) (spB l (i + 1)) 0, cond (Nat.blt 1 d) (spA l (i + 2)) 0, cond (Nat.blt 1 d) (spB l (i + 2)) 0, cond (Nat.blt 2 d) (spA l (i + 3)) 0, cond (Nat.blt 2 d) (spB l (i + 3)) 0, cond (Nat.blt 3 d) (spA l (i + 4)) 0, cond (Nat.blt 3 d) (spB l (i + 4)) 0, 0, 0,
    (headQ (l.take i)).lo, (headQ (l.take i)).hi, (headQ (l.take i)).ft, (headQ (l.take i)).fl, 0⟩
theorem rq_0 (l : List IV) (i : Nat) : headQ (l.take i) = rq l i 0 := by
  obtain ⟨h1, h2, h3, h4, h5, h6, h7, h8, h9, h10, h11⟩ := headQ_a (l.take i)
  unfold rq
  generalize headQ (l.take i) = q at *
  cases q
  simp only at *
  subst h1 h2 h3 h4 h5 h6 h7 h8 h9 h10 h11
  rfl

abbrev stQ (s : ByteArray) (W : List IV) (x7 x8 : Int) (L : List IV) (q : Qy) (i : Int) : St :=
  ⟨[(0, (.str s)), (2, (.ptr 2 0 0)), (3, (.int .i64 0)), (4, (.bool false)), (5, (.list false [.str] W)), (7, (.int .i64 x7)), (8, (.int .i64 x8)), (9, (.ptr 9 0 0)), (45, (.list false [.str] L)), (46, (.int .i64 (ic L.length))), (47, (.int .i64 i))], [(2, (some (boxQ Qy.none))), (9, (some (boxQ q)))]⟩

theorem cutR_w (w sep : ByteArray) (h : w.size < 4294967281) : decide (ByteArray.size w < 4294967281) = true ∧ decide (ByteArray.size (cutL w sep) < 4294967281) = true ∧ decide (ByteArray.size (cutR w sep) < 4294967281) = true := by
  obtain ⟨h1, h2⟩ := cut_sizes w sep
  exact ⟨decide_eq_true h, decide_eq_true (by omega), decide_eq_true (by omega)⟩

theorem parse_round (N : Nat) (s : ByteArray) (W : List IV) (x7 x8 : Int) (L : List IV) (I i : Nat) (hi : i < L.length) (h4 : i < 4) (hL : IV.toStr (L.getD i default) = wAt W (I + 1 + i)) (hw : (wAt W (I + 1 + i)).size < 4294967281) (again : St → Res) (k : Out → St → Res) :
    rnd (E_ask_Parse N) (subC c_ask_Parse [1, 1, 1, 1, 1, 1, 1, 0, 1, 0, 0]) (stQ s W x7 x8 L (rq W I i) (i : Int)) (kLoop again ⟨[0, 2, 3, 4, 5, 7, 8, 9, 45, 46, 47], [2, 9], []⟩ k) = again (stQ s W x7 x8 L (rq W I (i + 1)) ((i + 1 : Nat) : Int)) := by
  refine (st_ask_Parse_1 N s 0 false W x7 x8 L (ic L.length) i 0 0 0 0 0 0 0 0 0 0 0 0 0 0 0 false 0 (rq W I i).k (rq W I i).c (rq W I i).a0 (rq W I i).b0 (rq W I i).a1 (rq W I i).b1 (rq W I i).a2 (rq W I i).b2 (rq W I i).a3 (rq W I i).b3 (rq W I i).a4 (rq W I i).b4 (rq W I i).lo (rq W I i).hi (rq W I i).ft (rq W I i).fl (rq W I i).bu again k).trans ?_
  rw [idx_lt hi, idx_0, Bool.and_true, condT, condT, Int.toNat_natCast, hL]
  obtain ⟨c1, c2, c3⟩ := cutR_w (wAt W (I + 1 + i)) { data := #[46, 46] } hw
  rw [c1, c2, c3, condT, condT, condT]
  have hi4 : i = 0 ∨ i = 1 ∨ i = 2 ∨ i = 3 := by omega
  rcases hi4 with rfl | rfl | rfl | rfl
  · rw [show decide (((0 : Nat) : Int) = ic 0) = true from rfl, condT]
    rfl
  · rw [show decide (((1 : Nat) : Int) = ic 0) = false from rfl, show decide (((1 : Nat) : Int) = ic 1) = true from rfl, condF, condT]
    rfl
  · rw [show decide (((2 : Nat) : Int) = ic 0) = false from rfl, show decide (((2 : Nat) : Int) = ic 1) = false from rfl, show decide (((2 : Nat) : Int) = ic 2) = true from rfl, condF, condF, condT]
    rfl
  · rw [show decide (((3 : Nat) : Int) = ic 0) = false from rfl, show decide (((3 : Nat) : Int) = ic 1) = false from rfl, show decide (((3 : Nat) : Int) = ic 2) = false from rfl, show decide (((3 : Nat) : Int) = ic 3) = true from rfl, condF, condF, condF, condT]
    rfl

theorem parse_run (N : Nat) (s : ByteArray) (W : List IV) (x7 x8 : Int) (L : List IV) (I : Nat) (h4 : L.length ≤ 4) (hL : ∀ i, i < L.length → IV.toStr (L.getD i default) = wAt W (I + 1 + i)) (hw : ∀ i, (wAt W i).size < 4294967281) (K : Out → St → Res) :
    ∀ (d i n : Nat), i + d = L.length → d < n →
      lpE (E_ask_Parse N) (subC c_ask_Parse [1, 1, 1, 1, 1, 1, 1, 0, 1, 0, 0]) ⟨[0, 2, 3, 4, 5, 7, 8, 9, 45, 46, 47], [2, 9], []⟩ n (stQ s W x7 x8 L (rq W I i) (i : Int)) K = K (.exit 0) (stQ s W x7 x8 L (rq W I L.length) (ic L.length))
  | 0, i, n + 1, hd, hn => by
    have hi : i = L.length := by omega
    subst hi
    rw [lpE_succ]
    refine (st_ask_Parse_1 N s 0 false W x7 x8 L (ic L.length) _ 0 0 0 0 0 0 0 0 0 0 0 0 0 0 0 false 0 (rq W I L.length).k (rq W I L.length).c (rq W I L.length).a0 (rq W I L.length).b0 (rq W I L.length).a1 (rq W I L.length).b1 (rq W I L.length).a2 (rq W I L.length).b2 (rq W I L.length).a3 (rq W I L.length).b3 (rq W I L.length).a4 (rq W I L.length).b4 (rq W I L.length).lo (rq W I L.length).hi (rq W I L.length).ft (rq W I L.length).fl (rq W I L.length).bu _ _).trans ?_
    rw [idx_ge (Nat.le_refl _), condF]
    rfl
  | d + 1, i, n + 1, hd, hn => by
    rw [lpE_succ, parse_round N s W x7 x8 L I i (by omega) (by omega) (hL i (by omega)) (hw _)]
    exact parse_run N s W x7 x8 L I h4 hL hw K d (i + 1) n (by omega) (by omega)
  | _, _, 0, _, h => by omega

theorem idxS_rng (w : ByteArray) : ∀ (l : List IV) (k : Int), 0 ≤ k → idxS l w k = -1 ∨ (k ≤ idxS l w k ∧ idxS l w k < k + (l.length : Int))
  | [], _, _ => .inl rfl
  | x :: l, k, hk => by
    unfold idxS
    cases (w.toList == x.toStr.toList) with
    | true => rw [condT]; exact .inr ⟨Int.le_refl _, by simp only [List.length_cons]; omega⟩
    | false =>
      rw [condF]
      rcases idxS_rng w l (k + 1) (by omega) with h | ⟨h1, h2⟩
      · exact .inl h
      · exact .inr ⟨by omega, by simp only [List.length_cons]; omega⟩

theorem line_facts (s : ByteArray) (hs : s.size < 4294967281) : (lineW s).length ≤ 4294967282 ∧ ∀ i, (wAt (lineW s) i).size < 4294967281 := by
  have h1 := Lib.splitB_all w_space (by decide) 0 _ s rfl
  have h2 := Lib.countB_le w_space (by decide) s.size s (Nat.le_refl _)
  refine ⟨?_, fun i => ?_⟩
  · have e : (lineW s).length = Lib.countB s w_space + 1 := by
      unfold lineW splitL
      rw [List.length_map]
      exact h1
    omega
  · unfold wAt
    by_cases hi : i < (lineW s).length
    · have : List.getD (lineW s) i default = (lineW s)[i] := by simp [hi]
      rw [this]
      have hm := List.getElem_mem hi
      unfold lineW at hm
      obtain ⟨p, hp, hpe⟩ := List.mem_map.1 hm
      have hz := (splitB_sizes w_space _ s).2 p hp
      have : ((lineW s)[i]).toStr = p := by
        show (List.map IV.str (splitL s w_space))[i].toStr = p
        rw [← hpe]
        rfl
      rw [this]
      omega
    · have : List.getD (lineW s) i default = default := by simp [List.getD, hi]
      rw [this]
      decide

set_option maxRecDepth 100000 in
theorem snd_ask_Parse : SndR PR B0 9 S_ask_Parse := by
  refine snd_mk [(8, S_ask_Print), (25, S_ask_count), (22, S_ask_head), (24, S_ask_scan), (21, S_slices_Index_stringstring), (23, S_strings_Cut), (20, S_strings_Split)] [(9, ⟨[0, 2, 3, 4, 5, 7, 8, 9, 45, 46, 47], [2, 9], []⟩)] S_ask_Parse
    [[.int .i64, .int .i64, .int .i64, .int .i64, .int .i64, .int .i64, .int .i64, .int .i64, .int .i64, .int .i64, .int .i64, .int .i64, .int .i64, .int .i64, .int .i64, .bool, .int .i64], [.int .i64], [.bool]] Tryz.func9 h_ask_Parse
    ⟨snd_ask_Print, snd_ask_count, snd_ask_head, snd_ask_scan, snd_slices_Index_stringstring, snd_strings_Cut, snd_strings_Split, trivial⟩ ?_
  intro vs r hwf h
  unfold S_ask_Parse at h
  split at h
  · rename_i s
    refine ⟨20, ?_⟩
    cases hs : decide (s.size < 4294967281) with
    | false => rw [hs] at h; simp [R.get] at h
    | true =>
      rw [hs, R.get_br, condT, R.get_ok] at h
      rw [← h]
      refine (nf_ask_Parse 20 s).trans ?_
      have hs' := of_decide_eq_true hs
      rw [hs]
      obtain ⟨hl, hw⟩ := line_facts s hs'
      have eW : List.map IV.str (splitL s { data := #[32] }) = lineW s := rfl
      have eI : idxS (lineW s) { data := #[105, 110] } 0 = lineI s := rfl
      rw [eW, eI, show decide (1 ≤ ByteArray.size { data := #[32] }) = true from rfl, Bool.and_true, condT]
      have hr := idxS_rng w_in (lineW s) 0 (Int.le_refl _)
      change lineI s = -1 ∨ (0 ≤ lineI s ∧ lineI s < 0 + ((lineW s).length : Int)) at hr
      have w2 : IntKind.wrap IntKind.i64 (ic (List.length (lineW s)) - 2) = ic (List.length (lineW s)) - 2 := wrap_id (by simp only [ic]; omega) (by simp only [ic]; omega)
      rw [w2]
      have wd : IntKind.wrap IntKind.i64 (IntKind.wrap IntKind.i64 (ic (List.length (lineW s)) - 2 - lineI s) - 1) = lineD s := by
        unfold lineD
        rw [wrap_id (n := ic (List.length (lineW s)) - 2 - lineI s) (by simp only [ic]; omega) (by simp only [ic]; omega), wrap_id (by simp only [ic]; omega) (by simp only [ic]; omega)]
      rw [wd]
      unfold askQ askD askOK
      cases h1 : decide (lineI s < 0) with
      | true => simp only [condT, condF, Bool.not_true, Bool.false_and]; rfl
      | false =>
        cases h2 : decide (lineD s < 1) with
        | true => simp only [condT, condF, Bool.not_true, Bool.not_false, Bool.false_and, Bool.and_false]; rfl
        | false =>
          cases h3 : decide (lineD s > 4) with
          | true => simp only [condT, condF, Bool.not_true, Bool.not_false, Bool.false_and, Bool.and_false]; rfl
          | false =>
            simp only [condF, Bool.not_false, Bool.true_and]
            have h1 := of_decide_eq_false h1
            have h2 := of_decide_eq_false h2
            have h3 := of_decide_eq_false h3
            obtain ⟨I, hI⟩ : ∃ I : Nat, lineI s = I := ⟨(lineI s).toNat, by omega⟩
            obtain ⟨D, hD⟩ : ∃ D : Nat, lineD s = D := ⟨(lineD s).toNat, by omega⟩
            have hD1 : 1 ≤ D := by omega
            have hD4 : D ≤ 4 := by omega
            unfold lineQ
            have hDd : (D : Int) = ((lineW s).length : Int) - 2 - I - 1 := by
              rw [← hD, ← hI]
              rfl
            rw [hI, hD] at *
            generalize lineW s = W at *
            have wi : IntKind.wrap IntKind.i64 ((I : Int) + 1) = ((I + 1 : Nat) : Int) := by rw [wrap_id (by omega) (by omega)]; rfl
            have eb : ic (List.length W) - 2 = ((W.length - 2 : Nat) : Int) := by simp only [ic]; omega
            rw [wi, eb]
            simp only [Int.toNat_natCast, List.drop_zero]
            have hall : List.all (List.take I W) (fun x => decide (ByteArray.size (IV.toStr x) < 4294967281)) = true := by
              rw [List.all_eq_true]
              intro x hx
              obtain ⟨j, hj, rfl⟩ := List.mem_iff_getElem.1 (List.mem_of_mem_take hx)
              have := hw j
              unfold wAt at this
              have e : List.getD W j default = W[j] := by simp [hj]
              rw [e] at this
              exact decide_eq_true this
            rw [hall, decide_eq_true (show (0 : Int) ≤ (I : Int) by omega), decide_eq_true (show (I : Int) ≤ ic (List.length W) by simp only [ic]; omega), decide_eq_true (show List.length (List.take I W) ≤ 4294967290 by rw [List.length_take]; omega),
              decide_eq_true (show (0 : Int) ≤ ((I + 1 : Nat) : Int) by omega), decide_eq_true (show ((I + 1 : Nat) : Int) ≤ ((W.length - 2 : Nat) : Int) by omega), decide_eq_true (show ((W.length - 2 : Nat) : Int) ≤ ic (List.length W) by simp only [ic]; omega)]
            simp only [Bool.and_true, condT]
            have hLl : (List.drop (I + 1) (List.take (W.length - 2) W)).length = D := by rw [List.length_drop, List.length_take]; omega
            have hLg : ∀ i, i < (List.drop (I + 1) (List.take (W.length - 2) W)).length → IV.toStr ((List.drop (I + 1) (List.take (W.length - 2) W)).getD i default) = wAt W (I + 1 + i) := fun i hi => by
              rw [hLl] at hi
              unfold wAt
              congr 1
              simp only [List.getD, List.getElem?_drop, List.getElem?_take]
              rw [if_pos (by omega)]
            rw [rq_0 W I]
            have run := parse_run 20 s W ((W.length - 2 : Nat) : Int) (D : Int) (List.drop (I + 1) (List.take (W.length - 2) W)) I (by rw [hLl]; exact hD4) hLg hw (kBlock 0 (kSq (E_ask_Parse 20) (subC c_ask_Parse [1, 1, 1, 1, 1, 1, 1, 1]) (outT (E_ask_Parse 20) none [(ResultVar.cell 2 38), (ResultVar.tmp 3), (ResultVar.tmp 4)] [[(.int .i64), (.int .i64), (.int .i64), (.int .i64), (.int .i64), (.int .i64), (.int .i64), (.int .i64), (.int .i64), (.int .i64), (.int .i64), (.int .i64), (.int .i64), (.int .i64), (.int .i64), .bool, (.int .i64)], [(.int .i64)], [.bool]]))) D 0 20 (by rw [hLl]; omega) (by omega)
            refine run.trans ?_
            rw [hLl]
            refine (ex_ask_Parse_1_1 20 s 0 false W ((W.length - 2 : Nat) : Int) (D : Int) (List.drop (I + 1) (List.take (W.length - 2) W)) (ic (List.drop (I + 1) (List.take (W.length - 2) W)).length) _ 0 0 0 0 0 0 0 0 0 0 0 0 0 0 0 false 0 (rq W I D).k (rq W I D).c (rq W I D).a0 (rq W I D).b0 (rq W I D).a1 (rq W I D).b1 (rq W I D).a2 (rq W I D).b2 (rq W I D).a3 (rq W I D).b3 (rq W I D).a4 (rq W I D).b4 (rq W I D).lo (rq W I D).hi (rq W I D).ft (rq W I D).fl (rq W I D).bu).trans ?_
            have e7 : IntKind.wrap IntKind.i64 (((W.length - 2 : Nat) : Int) + 1) = ((W.length - 1 : Nat) : Int) := by rw [wrap_id (by omega) (by omega)]; omega
            rw [e7, Int.toNat_natCast, decide_eq_true (show (0 : Int) ≤ ((W.length - 1 : Nat) : Int) by omega), decide_eq_true (show ((W.length - 1 : Nat) : Int) < ic (List.length W) by simp only [ic]; omega), Bool.and_true, condT]
            have eq : (⟨(rq W I D).k, (rq W I D).c, (rq W I D).a0, (rq W I D).b0, (rq W I D).a1, (rq W I D).b1, (rq W I D).a2, (rq W I D).b2, (rq W I D).a3, (rq W I D).b3, (rq W I D).a4, (rq W I D).b4, (rq W I D).lo, (rq W I D).hi, (rq W I D).ft, (rq W I D).fl, atoiV (IV.toStr (List.getD W (W.length - 1) default))⟩ : Qy) = rawQ W I D := rfl
            rw [eq]
            cases ((printQ (rawQ W I D) (D : Int)).toList == s.toList) with
            | false => rfl
            | true => rfl
  · simp [R.get] at h

end Go.FM
