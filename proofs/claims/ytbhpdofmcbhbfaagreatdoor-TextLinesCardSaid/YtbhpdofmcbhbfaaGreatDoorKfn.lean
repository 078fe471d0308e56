/-
  What the functions of package copsekeep (models and queries of numbers), and of packing beside it, come to: each proved of the program by the small machine; under each specification's own bounds.
-/
import Derived.Test.YtbhpdofmcbhbfaaGreatDoorLib
import Derived.Test.YtbhpdofmcbhbfaaGreatDoorDfn
import Derived.Test.YtbhpdofmcbhbfaaGreatDoorDlw

/-
  NORMAL FORMS: what the functions' runs come to (written by a program of this claim's own, checked by the kernel).
-/
namespace Go.FM
open Go Go.Proofs

/-! ### copse/copsekeep.pick -/
def E_copsekeep_pick (N : Nat) : Env := mkE [] [] 15 N

theorem nf_copsekeep_pick (N : Nat) (l : List IV) (i : Int) : evFun (E_copsekeep_pick N) c_copsekeep_pick [.tmp 4] [[.int .i64]] [(.list false [.int .i64] l), (.int .i64 i)] =
  (cond (ic (List.length l) == 0)
  (some ((.int .i64 0), []))
  (cond (decide (ic (List.length l) = 0))
    none
    (cond (decide (0 ≤ Int.tmod i (ic (List.length l))) && decide (Int.tmod i (ic (List.length l)) < ic (List.length l)))
      (some ((.int .i64 (IV.toInt (List.getD l (Int.toNat (Int.tmod i (ic (List.length l)))) default))), []))
      none))) := by kernel_rfl

/-! ### copse/copseref1.Fits -/
def E_copseref1_Fits (N : Nat) : Env := mkE [] [] 27 N

theorem nf_copseref1_Fits (N : Nat) (n : Int) (w : Int) : evFun (E_copseref1_Fits N) c_copseref1_Fits [.tmp 4] [[.bool]] [(.int .i64 n), (.int .i64 w)] =
  (cond (decide (w < 1))
  (some ((.bool false), []))
  (cond (decide (w > 64))
    (some ((.bool false), []))
    (cond (w == 64)
      (some ((.bool true), []))
      (cond (decide (IntKind.wrap IntKind.i64 (w - 1) < 0))
        none
        (cond (decide (n ≥ IntKind.wrap IntKind.i64 (0 - IntKind.wrap IntKind.i64 (1 * 2 ^ min (Int.toNat (IntKind.wrap IntKind.i64 (w - 1))) (IntKind.bits IntKind.i64)))))
          (some ((.bool (decide (n ≤ IntKind.wrap IntKind.i64 (IntKind.wrap IntKind.i64 (1 * 2 ^ min (Int.toNat (IntKind.wrap IntKind.i64 (w - 1))) (IntKind.bits IntKind.i64)) - 1)))), []))
          (some ((.bool false), []))))))) := by kernel_rfl

/-! ### copse/copseref6.RightNode -/
def E_copseref6_RightNode (N : Nat) : Env := mkE [(40, S_copseref1_Fits)] [] 66 N

theorem nf_copseref6_RightNode (N : Nat) (n_Leaf : Bool) (n_Value : Int) (n_Feature : Int) (n_At : Int) (n_Left : Int) (n_Right : Int) : evFun (E_copseref6_RightNode N) c_copseref6_RightNode [.tmp 2] [[.bool]] [(.agg [(.bool n_Leaf), (.int .i64 n_Value), (.int .i64 n_Feature), (.int .i64 n_At), (.int .i64 n_Left), (.int .i64 n_Right)])] =
  (cond n_Leaf
  (cond (fits32 n_Value)
    (cond (n_Feature == 0)
      (cond (n_At == 0)
        (cond (n_Left == 0)
          (some ((.bool (n_Right == 0)), []))
          (some ((.bool false), [])))
        (some ((.bool false), [])))
      (some ((.bool false), [])))
    (some ((.bool false), [])))
  (cond (n_Value == 0)
    (cond (decide (n_Feature ≥ 0))
      (cond (decide (n_Feature < 4))
        (cond (fits32 n_At)
          (cond (decide (n_Left ≥ 1))
            (cond (decide (n_Left < 31))
              (cond (decide (n_Right ≥ 1))
                (some ((.bool (decide (n_Right < 31))), []))
                (some ((.bool false), [])))
              (some ((.bool false), [])))
            (some ((.bool false), [])))
          (some ((.bool false), [])))
        (some ((.bool false), [])))
      (some ((.bool false), [])))
    (some ((.bool false), [])))) := by kernel_rfl

/-! ### copse/copseref6.Pack -/
def E_copseref6_Pack (N : Nat) : Env := mkE [(17, S_copseref6_RightNode)] [] 32 N

theorem nf_copseref6_Pack (N : Nat) (n_Leaf : Bool) (n_Value : Int) (n_Feature : Int) (n_At : Int) (n_Left : Int) (n_Right : Int) : evFun (E_copseref6_Pack N) c_copseref6_Pack [.tmp 2] [[.int .u64]] [(.agg [(.bool n_Leaf), (.int .i64 n_Value), (.int .i64 n_Feature), (.int .i64 n_At), (.int .i64 n_Left), (.int .i64 n_Right)])] =
  (cond (!rightN n_Leaf n_Value n_Feature n_At n_Left n_Right)
  (some ((.int .u64 0), []))
  (cond n_Leaf
    (some ((.int .u64 (IntKind.wrap IntKind.u64 (ic (BitVec.toNat (BitVec.ofInt (IntKind.bits IntKind.u64) 9223372036854775808 ||| BitVec.ofInt (IntKind.bits IntKind.u64) (IntKind.wrap IntKind.u64 (ic (BitVec.toNat (BitVec.ofInt (IntKind.bits IntKind.u64) (IntKind.wrap IntKind.u64 n_Value) &&& BitVec.ofInt (IntKind.bits IntKind.u64) 4294967295))))))))), []))
    (some ((.int .u64 (IntKind.wrap IntKind.u64 (ic (BitVec.toNat (BitVec.ofInt (IntKind.bits IntKind.u64) (IntKind.wrap IntKind.u64 (ic (BitVec.toNat (BitVec.ofInt (IntKind.bits IntKind.u64) (IntKind.wrap IntKind.u64 (ic (BitVec.toNat (BitVec.ofInt (IntKind.bits IntKind.u64) (IntKind.wrap IntKind.u64 (ic (BitVec.toNat (BitVec.ofInt (IntKind.bits IntKind.u64) (IntKind.wrap IntKind.u64 n_At) &&& BitVec.ofInt (IntKind.bits IntKind.u64) 4294967295)))) ||| BitVec.ofInt (IntKind.bits IntKind.u64) (IntKind.wrap IntKind.u64 (IntKind.wrap IntKind.u64 n_Feature * 2 ^ min (Int.toNat 32) (IntKind.bits IntKind.u64))))))) ||| BitVec.ofInt (IntKind.bits IntKind.u64) (IntKind.wrap IntKind.u64 (IntKind.wrap IntKind.u64 n_Left * 2 ^ min (Int.toNat 40) (IntKind.bits IntKind.u64))))))) ||| BitVec.ofInt (IntKind.bits IntKind.u64) (IntKind.wrap IntKind.u64 (IntKind.wrap IntKind.u64 n_Right * 2 ^ min (Int.toNat 48) (IntKind.bits IntKind.u64)))))))), [])))) := by kernel_rfl

end Go.FM

/-
  NORMAL FORMS: what the functions' runs come to (written by a program of this claim's own, checked by the kernel).
-/
namespace Go.FM
open Go Go.Proofs

/-! ### (copse/copsekeep.Tree).Nodes -/
def E_copsekeep_Tree_Nodes (N : Nat) : Env := mkE [(15, S_copsebook_Within), (32, S_copsekeep_pick), (8, S_copseref6_Pack)] [(4, ⟨[1, 2, 4, 5, 6, 7], [2, 500, 501], [⟨.tmp 5, 500, 25, true, [.bool, .int .i64, .int .i64, .int .i64, .int .i64, .int .i64]⟩, ⟨.tmp 6, 501, 3, false, [.int .i64]⟩]⟩), (14, ⟨[4, 11, 100, 101, 102], [500, 502], [⟨.tmp 11, 502, 22, false, [.int .u64]⟩]⟩)] 113 N

theorem nf_copsekeep_Tree_Nodes (N : Nat) (t_Class : Int) (t_Part : List IV) (t_By : List IV) (t_At : List IV) (t_Val : List IV) (a1 : Int) : evFun (E_copsekeep_Tree_Nodes N) c_copsekeep_Tree_Nodes [.tmp 4] [[.list false [.int .u64]]] [(.agg [(.int .i64 t_Class), (.list false [.int .i64] t_Part), (.list false [.int .i64] t_By), (.list false [.int .i64] t_At), (.list false [.int .i64] t_Val)]), (.int .i64 a1)] =
  (lpE (E_copsekeep_Tree_Nodes N) (subC c_copsekeep_Tree_Nodes [1, 1, 1, 0, 1, 0, 0]) ⟨[1, 2, 4, 5, 6, 7], [2, 500, 501], [⟨(.tmp 5), 500, 25, true, [.bool, (.int .i64), (.int .i64), (.int .i64), (.int .i64), (.int .i64)]⟩, ⟨(.tmp 6), 501, 3, false, [(.int .i64)]⟩]⟩ N ⟨[(1, (.int .i64 a1)), (2, (.ptr 2 0 0)), (4, .zs), (5, (.row 500 0 1)), (6, (.row 501 0 1)), (7, (.int .i64 0))], [(2, (some (.box [(.int .i64 t_Class), (.list false [(.int .i64)] t_Part), (.list false [(.int .i64)] t_By), (.list false [(.int .i64)] t_At), (.list false [(.int .i64)] t_Val)]))), (500, (some (.row true 25 true [.bool, (.int .i64), (.int .i64), (.int .i64), (.int .i64), (.int .i64)] [(IV.agg [IV.bool true, IV.int (withinZ (pickZ t_Val 0) (-3000) 3000), IV.int 0, IV.int 0, IV.int 0, IV.int 0])]))), (501, (some (.row true 3 false [(.int .i64)] [(IV.int 0)])))]⟩ (kBlock 0 (kSq (E_copsekeep_Tree_Nodes N) (subC c_copsekeep_Tree_Nodes [1, 1, 1, 1]) (outT (E_copsekeep_Tree_Nodes N) none [(ResultVar.tmp 4)] [[(.list false [(.int .u64)])]])))) := by kernel_rfl

theorem st_copsekeep_Tree_Nodes_1 (N : Nat) (x1 : Int) (n5 : Nat) (n6 : Nat) (x7 : Int) (xo2_0 : Int) (lo2_1 : List IV) (lo2_2 : List IV) (lo2_3 : List IV) (lo2_4 : List IV) (lo500 : List IV) (lo501 : List IV) (again : St → Res) (k : Out → St → Res) : rnd (E_copsekeep_Tree_Nodes N) (subC c_copsekeep_Tree_Nodes [1, 1, 1, 0, 1, 0, 0])
    ⟨[(1, (.int .i64 x1)), (2, (.ptr 2 0 0)), (4, .zs), (5, (.row 500 0 n5)), (6, (.row 501 0 n6)), (7, (.int .i64 x7))], [(2, (some (.box [(.int .i64 xo2_0), (.list false [(.int .i64)] lo2_1), (.list false [(.int .i64)] lo2_2), (.list false [(.int .i64)] lo2_3), (.list false [(.int .i64)] lo2_4)]))), (500, (some (.row true 25 true [.bool, (.int .i64), (.int .i64), (.int .i64), (.int .i64), (.int .i64)] lo500))), (501, (some (.row true 3 false [(.int .i64)] lo501)))]⟩
    (kLoop again ⟨[1, 2, 4, 5, 6, 7], [2, 500, 501], [⟨(.tmp 5), 500, 25, true, [.bool, (.int .i64), (.int .i64), (.int .i64), (.int .i64), (.int .i64)]⟩, ⟨(.tmp 6), 501, 3, false, [(.int .i64)]⟩]⟩ k) =
  (cond (decide (x7 < ic (List.length lo2_1)))
  (cond (decide (x7 < 7))
    (cond (decide (0 ≤ x7) && decide (x7 < ic (List.length lo2_1)))
      (cond (decide (withinM 0 (IntKind.wrap IntKind.i64 (ic (n6 - 0) - 1)) = 0))
        none
        (cond (decide (0 ≤ withinZ (IV.toInt (List.getD lo2_1 (Int.toNat x7) default)) 0 (IntKind.wrap IntKind.i64 (ic (n6 - 0) - 1))) && decide (withinZ (IV.toInt (List.getD lo2_1 (Int.toNat x7) default)) 0 (IntKind.wrap IntKind.i64 (ic (n6 - 0) - 1)) < ic (n6 - 0)))
          (cond (decide (0 ≤ x7))
            (cond (decide (withinM 0 (IntKind.wrap IntKind.i64 (x1 - 1)) = 0))
              none
              (cond (decide (0 ≤ x7))
                (cond (decide (0 ≤ IV.toInt (List.getD lo501 (0 + Int.toNat (withinZ (IV.toInt (List.getD lo2_1 (Int.toNat x7) default)) 0 (IntKind.wrap IntKind.i64 (ic (n6 - 0) - 1)))) default)) && decide (IV.toInt (List.getD lo501 (0 + Int.toNat (withinZ (IV.toInt (List.getD lo2_1 (Int.toNat x7) default)) 0 (IntKind.wrap IntKind.i64 (ic (n6 - 0) - 1)))) default) < ic (n5 - 0)))
                  (cond (decide (0 ≤ IntKind.wrap IntKind.i64 (IntKind.wrap IntKind.i64 (2 * x7) + 1)))
                    (cond (decide (0 ≤ IntKind.wrap IntKind.i64 (IntKind.wrap IntKind.i64 (2 * x7) + 2)))
                      (cond (decide ((n5 + List.length (List.drop 0 (List.take 2 [IV.agg [IV.bool true, IV.int (withinZ (pickZ lo2_4 (IntKind.wrap IntKind.i64 (IntKind.wrap IntKind.i64 (2 * x7) + 1))) (-3000) 3000), IV.int 0, IV.int 0, IV.int 0, IV.int 0], IV.agg [IV.bool true, IV.int (withinZ (pickZ lo2_4 (IntKind.wrap IntKind.i64 (IntKind.wrap IntKind.i64 (2 * x7) + 2))) (-3000) 3000), IV.int 0, IV.int 0, IV.int 0, IV.int 0]]))) * TI.bytes (Env.tyd (E_copsekeep_Tree_Nodes N) 25) ≤ bytesMax))
                        (cond (decide (0 ≤ withinZ (IV.toInt (List.getD lo2_1 (Int.toNat x7) default)) 0 (IntKind.wrap IntKind.i64 (ic (n6 - 0) - 1))) && decide (withinZ (IV.toInt (List.getD lo2_1 (Int.toNat x7) default)) 0 (IntKind.wrap IntKind.i64 (ic (n6 - 0) - 1)) ≤ ic (n6 - 0)))
                          (cond (decide ((0 + List.length (List.drop 0 (List.take (0 + Int.toNat (withinZ (IV.toInt (List.getD lo2_1 (Int.toNat x7) default)) 0 (IntKind.wrap IntKind.i64 (ic (n6 - 0) - 1)))) lo501))) * TI.bytes (Env.tyd (E_copsekeep_Tree_Nodes N) 3) ≤ bytesMax))
                            (cond (decide (0 ≤ IntKind.wrap IntKind.i64 (withinZ (IV.toInt (List.getD lo2_1 (Int.toNat x7) default)) 0 (IntKind.wrap IntKind.i64 (ic (n6 - 0) - 1)) + 1)) && decide (IntKind.wrap IntKind.i64 (withinZ (IV.toInt (List.getD lo2_1 (Int.toNat x7) default)) 0 (IntKind.wrap IntKind.i64 (ic (n6 - 0) - 1)) + 1) ≤ ic (n6 - 0)))
                              (cond (decide ((0 + List.length (List.drop 0 (List.take (0 + Int.toNat (withinZ (IV.toInt (List.getD lo2_1 (Int.toNat x7) default)) 0 (IntKind.wrap IntKind.i64 (ic (n6 - 0) - 1)))) lo501)) + List.length (List.drop (0 + Int.toNat (IntKind.wrap IntKind.i64 (withinZ (IV.toInt (List.getD lo2_1 (Int.toNat x7) default)) 0 (IntKind.wrap IntKind.i64 (ic (n6 - 0) - 1)) + 1))) (List.take (0 + (n6 - 0)) lo501))) * TI.bytes (Env.tyd (E_copsekeep_Tree_Nodes N) 3) ≤ bytesMax))
                                (cond (decide ((0 + List.length (List.drop 0 (List.take (0 + Int.toNat (withinZ (IV.toInt (List.getD lo2_1 (Int.toNat x7) default)) 0 (IntKind.wrap IntKind.i64 (ic (n6 - 0) - 1)))) lo501)) + List.length (List.drop (0 + Int.toNat (IntKind.wrap IntKind.i64 (withinZ (IV.toInt (List.getD lo2_1 (Int.toNat x7) default)) 0 (IntKind.wrap IntKind.i64 (ic (n6 - 0) - 1)) + 1))) (List.take (0 + (n6 - 0)) lo501)) + List.length (List.drop 0 (List.take 2 [IV.int (ic (n5 - 0)), IV.int (IntKind.wrap IntKind.i64 (ic (n5 - 0) + 1))]))) * TI.bytes (Env.tyd (E_copsekeep_Tree_Nodes N) 3) ≤ bytesMax))
                                  (again ⟨[(1, (.int .i64 x1)), (2, (.ptr 2 0 0)), (4, .zs), (5, (.row 500 0 (n5 + List.length (List.drop 0 (List.take 2 [IV.agg [IV.bool true, IV.int (withinZ (pickZ lo2_4 (IntKind.wrap IntKind.i64 (IntKind.wrap IntKind.i64 (2 * x7) + 1))) (-3000) 3000), IV.int 0, IV.int 0, IV.int 0, IV.int 0], IV.agg [IV.bool true, IV.int (withinZ (pickZ lo2_4 (IntKind.wrap IntKind.i64 (IntKind.wrap IntKind.i64 (2 * x7) + 2))) (-3000) 3000), IV.int 0, IV.int 0, IV.int 0, IV.int 0]]))))), (6, (.row 501 0 (0 + List.length (List.drop 0 (List.take (0 + Int.toNat (withinZ (IV.toInt (List.getD lo2_1 (Int.toNat x7) default)) 0 (IntKind.wrap IntKind.i64 (ic (n6 - 0) - 1)))) lo501)) + List.length (List.drop (0 + Int.toNat (IntKind.wrap IntKind.i64 (withinZ (IV.toInt (List.getD lo2_1 (Int.toNat x7) default)) 0 (IntKind.wrap IntKind.i64 (ic (n6 - 0) - 1)) + 1))) (List.take (0 + (n6 - 0)) lo501)) + List.length (List.drop 0 (List.take 2 [IV.int (ic (n5 - 0)), IV.int (IntKind.wrap IntKind.i64 (ic (n5 - 0) + 1))]))))), (7, (.int .i64 (IntKind.wrap IntKind.i64 (x7 + 1))))], [(2, (some (.box [(.int .i64 xo2_0), (.list false [(.int .i64)] lo2_1), (.list false [(.int .i64)] lo2_2), (.list false [(.int .i64)] lo2_3), (.list false [(.int .i64)] lo2_4)]))), (500, (some (.row true 25 true [.bool, (.int .i64), (.int .i64), (.int .i64), (.int .i64), (.int .i64)] (List.take n5 (List.set lo500 (0 + Int.toNat (IV.toInt (List.getD lo501 (0 + Int.toNat (withinZ (IV.toInt (List.getD lo2_1 (Int.toNat x7) default)) 0 (IntKind.wrap IntKind.i64 (ic (n6 - 0) - 1)))) default))) (putIV true [Kd.bool, Kd.int IntKind.i64, Kd.int IntKind.i64, Kd.int IntKind.i64, Kd.int IntKind.i64, Kd.int IntKind.i64] (List.getD lo500 (0 + Int.toNat (IV.toInt (List.getD lo501 (0 + Int.toNat (withinZ (IV.toInt (List.getD lo2_1 (Int.toNat x7) default)) 0 (IntKind.wrap IntKind.i64 (ic (n6 - 0) - 1)))) default))) default) 0 [IV.bool false, IV.int 0, IV.int (withinZ (pickZ lo2_2 x7) 0 (IntKind.wrap IntKind.i64 (x1 - 1))), IV.int (withinZ (pickZ lo2_3 x7) 0 9), IV.int (ic (n5 - 0)), IV.int (IntKind.wrap IntKind.i64 (ic (n5 - 0) + 1))])) ++ List.drop 0 (List.take 2 [IV.agg [IV.bool true, IV.int (withinZ (pickZ lo2_4 (IntKind.wrap IntKind.i64 (IntKind.wrap IntKind.i64 (2 * x7) + 1))) (-3000) 3000), IV.int 0, IV.int 0, IV.int 0, IV.int 0], IV.agg [IV.bool true, IV.int (withinZ (pickZ lo2_4 (IntKind.wrap IntKind.i64 (IntKind.wrap IntKind.i64 (2 * x7) + 2))) (-3000) 3000), IV.int 0, IV.int 0, IV.int 0, IV.int 0]]))))), (501, (some (.row true 3 false [(.int .i64)] (List.take (0 + List.length (List.drop 0 (List.take (0 + Int.toNat (withinZ (IV.toInt (List.getD lo2_1 (Int.toNat x7) default)) 0 (IntKind.wrap IntKind.i64 (ic (n6 - 0) - 1)))) lo501)) + List.length (List.drop (0 + Int.toNat (IntKind.wrap IntKind.i64 (withinZ (IV.toInt (List.getD lo2_1 (Int.toNat x7) default)) 0 (IntKind.wrap IntKind.i64 (ic (n6 - 0) - 1)) + 1))) (List.take (0 + (n6 - 0)) lo501))) (List.take (0 + List.length (List.drop 0 (List.take (0 + Int.toNat (withinZ (IV.toInt (List.getD lo2_1 (Int.toNat x7) default)) 0 (IntKind.wrap IntKind.i64 (ic (n6 - 0) - 1)))) lo501))) (List.take 0 [] ++ List.drop 0 (List.take (0 + Int.toNat (withinZ (IV.toInt (List.getD lo2_1 (Int.toNat x7) default)) 0 (IntKind.wrap IntKind.i64 (ic (n6 - 0) - 1)))) lo501)) ++ List.drop (0 + Int.toNat (IntKind.wrap IntKind.i64 (withinZ (IV.toInt (List.getD lo2_1 (Int.toNat x7) default)) 0 (IntKind.wrap IntKind.i64 (ic (n6 - 0) - 1)) + 1))) (List.take (0 + (n6 - 0)) lo501)) ++ List.drop 0 (List.take 2 [IV.int (ic (n5 - 0)), IV.int (IntKind.wrap IntKind.i64 (ic (n5 - 0) + 1))])))))]⟩)
                                  none)
                                none)
                              none)
                            none)
                          none)
                        none)
                      none)
                    none)
                  none)
                none))
            none)
          none))
      none)
    (k (.exit 0) ⟨[(1, (.int .i64 x1)), (2, (.ptr 2 0 0)), (4, .zs), (5, (.row 500 0 n5)), (6, (.row 501 0 n6)), (7, (.int .i64 x7))], [(2, (some (.box [(.int .i64 xo2_0), (.list false [(.int .i64)] lo2_1), (.list false [(.int .i64)] lo2_2), (.list false [(.int .i64)] lo2_3), (.list false [(.int .i64)] lo2_4)]))), (500, (some (.row true 25 true [.bool, (.int .i64), (.int .i64), (.int .i64), (.int .i64), (.int .i64)] lo500))), (501, (some (.row true 3 false [(.int .i64)] lo501)))]⟩))
  (k (.exit 0) ⟨[(1, (.int .i64 x1)), (2, (.ptr 2 0 0)), (4, .zs), (5, (.row 500 0 n5)), (6, (.row 501 0 n6)), (7, (.int .i64 x7))], [(2, (some (.box [(.int .i64 xo2_0), (.list false [(.int .i64)] lo2_1), (.list false [(.int .i64)] lo2_2), (.list false [(.int .i64)] lo2_3), (.list false [(.int .i64)] lo2_4)]))), (500, (some (.row true 25 true [.bool, (.int .i64), (.int .i64), (.int .i64), (.int .i64), (.int .i64)] lo500))), (501, (some (.row true 3 false [(.int .i64)] lo501)))]⟩)) := by kernel_rfl

theorem ex_copsekeep_Tree_Nodes_1_1 (N : Nat) (x1 : Int) (n5 : Nat) (n6 : Nat) (x7 : Int) (xo2_0 : Int) (lo2_1 : List IV) (lo2_2 : List IV) (lo2_3 : List IV) (lo2_4 : List IV) (lo500 : List IV) (lo501 : List IV) : (kBlock 0 (kSq (E_copsekeep_Tree_Nodes N) (subC c_copsekeep_Tree_Nodes [1, 1, 1, 1]) (outT (E_copsekeep_Tree_Nodes N) none [(ResultVar.tmp 4)] [[(.list false [(.int .u64)])]]))) (.exit 0)
    ⟨[(1, (.int .i64 x1)), (2, (.ptr 2 0 0)), (4, .zs), (5, (.row 500 0 n5)), (6, (.row 501 0 n6)), (7, (.int .i64 x7))], [(2, (some (.box [(.int .i64 xo2_0), (.list false [(.int .i64)] lo2_1), (.list false [(.int .i64)] lo2_2), (.list false [(.int .i64)] lo2_3), (.list false [(.int .i64)] lo2_4)]))), (500, (some (.row true 25 true [.bool, (.int .i64), (.int .i64), (.int .i64), (.int .i64), (.int .i64)] lo500))), (501, (some (.row true 3 false [(.int .i64)] lo501)))]⟩ =
  (lpE (E_copsekeep_Tree_Nodes N) (subC c_copsekeep_Tree_Nodes [1, 1, 1, 1, 1, 0, 1, 0, 0]) ⟨[4, 11, 100, 101, 102], [500, 502], [⟨(.tmp 11), 502, 22, false, [(.int .u64)]⟩]⟩ N ⟨[(4, .zs), (11, (.row 502 0 0)), (100, (.row 500 0 n5)), (101, (.int .i64 (ic (n5 - 0)))), (102, (.int .i64 0))], [(500, (some (.row true 25 true [.bool, (.int .i64), (.int .i64), (.int .i64), (.int .i64), (.int .i64)] lo500))), (502, (some (.row true 22 false [(.int .u64)] [])))]⟩ (kBlock 2 (kSq (E_copsekeep_Tree_Nodes N) (subC c_copsekeep_Tree_Nodes [1, 1, 1, 1, 1, 1]) (outT (E_copsekeep_Tree_Nodes N) none [(ResultVar.tmp 4)] [[(.list false [(.int .u64)])]])))) := by kernel_rfl

theorem st_copsekeep_Tree_Nodes_2 (N : Nat) (n11 : Nat) (n100 : Nat) (x101 : Int) (x102 : Int) (lo500 : List IV) (lo502 : List IV) (again : St → Res) (k : Out → St → Res) : rnd (E_copsekeep_Tree_Nodes N) (subC c_copsekeep_Tree_Nodes [1, 1, 1, 1, 1, 0, 1, 0, 0])
    ⟨[(4, .zs), (11, (.row 502 0 n11)), (100, (.row 500 0 n100)), (101, (.int .i64 x101)), (102, (.int .i64 x102))], [(500, (some (.row true 25 true [.bool, (.int .i64), (.int .i64), (.int .i64), (.int .i64), (.int .i64)] lo500))), (502, (some (.row true 22 false [(.int .u64)] lo502)))]⟩
    (kLoop again ⟨[4, 11, 100, 101, 102], [500, 502], [⟨(.tmp 11), 502, 22, false, [(.int .u64)]⟩]⟩ k) =
  (cond (decide (x102 < x101))
  (cond (decide (0 ≤ x102) && decide (x102 < ic (n100 - 0)))
    (cond (decide ((n11 + List.length (List.drop 0 (List.take 1 [IV.int (packW (IV.toBool (IV.cell (List.getD lo500 (0 + Int.toNat x102) default) 0)) (IV.toInt (IV.cell (List.getD lo500 (0 + Int.toNat x102) default) 1)) (IV.toInt (IV.cell (List.getD lo500 (0 + Int.toNat x102) default) 2)) (IV.toInt (IV.cell (List.getD lo500 (0 + Int.toNat x102) default) 3)) (IV.toInt (IV.cell (List.getD lo500 (0 + Int.toNat x102) default) 4)) (IV.toInt (IV.cell (List.getD lo500 (0 + Int.toNat x102) default) 5)))]))) * TI.bytes (Env.tyd (E_copsekeep_Tree_Nodes N) 22) ≤ bytesMax))
      (again ⟨[(4, .zs), (11, (.row 502 0 (n11 + List.length (List.drop 0 (List.take 1 [IV.int (packW (IV.toBool (IV.cell (List.getD lo500 (0 + Int.toNat x102) default) 0)) (IV.toInt (IV.cell (List.getD lo500 (0 + Int.toNat x102) default) 1)) (IV.toInt (IV.cell (List.getD lo500 (0 + Int.toNat x102) default) 2)) (IV.toInt (IV.cell (List.getD lo500 (0 + Int.toNat x102) default) 3)) (IV.toInt (IV.cell (List.getD lo500 (0 + Int.toNat x102) default) 4)) (IV.toInt (IV.cell (List.getD lo500 (0 + Int.toNat x102) default) 5)))]))))), (100, (.row 500 0 n100)), (101, (.int .i64 x101)), (102, (.int .i64 (IntKind.wrap IntKind.i64 (x102 + 1))))], [(500, (some (.row true 25 true [.bool, (.int .i64), (.int .i64), (.int .i64), (.int .i64), (.int .i64)] lo500))), (502, (some (.row true 22 false [(.int .u64)] (List.take n11 lo502 ++ List.drop 0 (List.take 1 [IV.int (packW (IV.toBool (IV.cell (List.getD lo500 (0 + Int.toNat x102) default) 0)) (IV.toInt (IV.cell (List.getD lo500 (0 + Int.toNat x102) default) 1)) (IV.toInt (IV.cell (List.getD lo500 (0 + Int.toNat x102) default) 2)) (IV.toInt (IV.cell (List.getD lo500 (0 + Int.toNat x102) default) 3)) (IV.toInt (IV.cell (List.getD lo500 (0 + Int.toNat x102) default) 4)) (IV.toInt (IV.cell (List.getD lo500 (0 + Int.toNat x102) default) 5)))])))))]⟩)
      none)
    none)
  (k (.exit 2) ⟨[(4, .zs), (11, (.row 502 0 n11)), (100, (.row 500 0 n100)), (101, (.int .i64 x101)), (102, (.int .i64 x102))], [(500, (some (.row true 25 true [.bool, (.int .i64), (.int .i64), (.int .i64), (.int .i64), (.int .i64)] lo500))), (502, (some (.row true 22 false [(.int .u64)] lo502)))]⟩)) := by kernel_rfl

theorem ex_copsekeep_Tree_Nodes_2_1 (N : Nat) (n11 : Nat) (n100 : Nat) (x101 : Int) (x102 : Int) (lo500 : List IV) (lo502 : List IV) : (kBlock 2 (kSq (E_copsekeep_Tree_Nodes N) (subC c_copsekeep_Tree_Nodes [1, 1, 1, 1, 1, 1]) (outT (E_copsekeep_Tree_Nodes N) none [(ResultVar.tmp 4)] [[(.list false [(.int .u64)])]]))) (.exit 2)
    ⟨[(4, .zs), (11, (.row 502 0 n11)), (100, (.row 500 0 n100)), (101, (.int .i64 x101)), (102, (.int .i64 x102))], [(500, (some (.row true 25 true [.bool, (.int .i64), (.int .i64), (.int .i64), (.int .i64), (.int .i64)] lo500))), (502, (some (.row true 22 false [(.int .u64)] lo502)))]⟩ =
  (some ((.list false [(.int .u64)] (List.drop 0 (List.take n11 lo502))), [])) := by kernel_rfl

end Go.FM

/-
  NORMAL FORMS: what the functions' runs come to (written by a program of this claim's own, checked by the kernel).
-/
namespace Go.FM
open Go Go.Proofs

/-! ### (copse/copsekeep.Forest).Model -/
def E_copsekeep_Forest_Model (N : Nat) : Env := mkE [(15, S_copsebook_Within), (16, S_copsekeep_Tree_Nodes), (32, S_copsekeep_pick)] [(3, ⟨[1, 2, 3, 14, 15], [1, 2, 3], []⟩), (8, ⟨[1, 2, 3, 5], [1, 2, 3, 500], [⟨.cell 3 5, 500, 29, true, [.int .i64, .list false [.int .u64]]⟩]⟩)] 63 N

theorem nf_copsekeep_Forest_Model (N : Nat) (f_Dim : Int) (f_Classes : Int) (f_Bias : List IV) (f_Trees : List IV) : evFun (E_copsekeep_Forest_Model N) c_copsekeep_Forest_Model [.cell 2 32] [[.int .i64, .int .i64, .int .i64, .int .i64, .int .i64, .list true [.int .i64, .list false [.int .u64]]]] [(.agg [(.int .i64 f_Dim), (.int .i64 f_Classes), (.list false [.int .i64] f_Bias), (.list true [.int .i64, .list false [.int .i64], .list false [.int .i64], .list false [.int .i64], .list false [.int .i64]] f_Trees)])] =
  (lpE (E_copsekeep_Forest_Model N) (subC c_copsekeep_Forest_Model [1, 1, 0, 1, 0, 0]) ⟨[1, 2, 3, 14, 15], [1, 2, 3], []⟩ N ⟨[(1, (.ptr 1 0 0)), (2, (.ptr 2 0 0)), (3, (.ptr 3 0 0)), (14, (.int .i64 (withinZ f_Classes 1 3))), (15, (.int .i64 0))], [(1, (some (.box [(.int .i64 f_Dim), (.int .i64 f_Classes), (.list false [(.int .i64)] f_Bias), (.list true [(.int .i64), (.list false [(.int .i64)]), (.list false [(.int .i64)]), (.list false [(.int .i64)]), (.list false [(.int .i64)])] f_Trees)]))), (2, (some (.box [(.int .i64 0), (.int .i64 0), (.int .i64 0), (.int .i64 0), (.int .i64 0), .zs]))), (3, (some (.box [(.int .i64 (withinZ f_Dim 1 3)), (.int .i64 (withinZ f_Classes 1 3)), (.int .i64 0), (.int .i64 0), (.int .i64 0), .zs])))]⟩ (kBlock 0 (kSq (E_copsekeep_Forest_Model N) (subC c_copsekeep_Forest_Model [1, 1, 1]) (outT (E_copsekeep_Forest_Model N) none [(ResultVar.cell 2 32)] [[(.int .i64), (.int .i64), (.int .i64), (.int .i64), (.int .i64), (.list true [(.int .i64), (.list false [(.int .u64)])])]])))) := by kernel_rfl

theorem st_copsekeep_Forest_Model_1 (N : Nat) (x14 : Int) (x15 : Int) (xo1_0 : Int) (xo1_1 : Int) (lo1_2 : List IV) (lo1_3 : List IV) (xo2_0 : Int) (xo2_1 : Int) (xo2_2 : Int) (xo2_3 : Int) (xo2_4 : Int) (xo3_0 : Int) (xo3_1 : Int) (xo3_2 : Int) (xo3_3 : Int) (xo3_4 : Int) (again : St → Res) (k : Out → St → Res) : rnd (E_copsekeep_Forest_Model N) (subC c_copsekeep_Forest_Model [1, 1, 0, 1, 0, 0])
    ⟨[(1, (.ptr 1 0 0)), (2, (.ptr 2 0 0)), (3, (.ptr 3 0 0)), (14, (.int .i64 x14)), (15, (.int .i64 x15))], [(1, (some (.box [(.int .i64 xo1_0), (.int .i64 xo1_1), (.list false [(.int .i64)] lo1_2), (.list true [(.int .i64), (.list false [(.int .i64)]), (.list false [(.int .i64)]), (.list false [(.int .i64)]), (.list false [(.int .i64)])] lo1_3)]))), (2, (some (.box [(.int .i64 xo2_0), (.int .i64 xo2_1), (.int .i64 xo2_2), (.int .i64 xo2_3), (.int .i64 xo2_4), .zs]))), (3, (some (.box [(.int .i64 xo3_0), (.int .i64 xo3_1), (.int .i64 xo3_2), (.int .i64 xo3_3), (.int .i64 xo3_4), .zs])))]⟩
    (kLoop again ⟨[1, 2, 3, 14, 15], [1, 2, 3], []⟩ k) =
  (cond (decide (x15 < x14))
  (cond (decide (0 ≤ x15))
    (cond (decide (x15 = ic 0))
      (again ⟨[(1, (.ptr 1 0 0)), (2, (.ptr 2 0 0)), (3, (.ptr 3 0 0)), (14, (.int .i64 x14)), (15, (.int .i64 (IntKind.wrap IntKind.i64 (x15 + 1))))], [(1, (some (.box [(.int .i64 xo1_0), (.int .i64 xo1_1), (.list false [(.int .i64)] lo1_2), (.list true [(.int .i64), (.list false [(.int .i64)]), (.list false [(.int .i64)]), (.list false [(.int .i64)]), (.list false [(.int .i64)])] lo1_3)]))), (2, (some (.box [(.int .i64 xo2_0), (.int .i64 xo2_1), (.int .i64 xo2_2), (.int .i64 xo2_3), (.int .i64 xo2_4), .zs]))), (3, (some (.box [(.int .i64 xo3_0), (.int .i64 xo3_1), (.int .i64 (withinZ (pickZ lo1_2 x15) (-500) 500)), (.int .i64 xo3_3), (.int .i64 xo3_4), .zs])))]⟩)
      (cond (decide (x15 = ic 1))
        (again ⟨[(1, (.ptr 1 0 0)), (2, (.ptr 2 0 0)), (3, (.ptr 3 0 0)), (14, (.int .i64 x14)), (15, (.int .i64 (IntKind.wrap IntKind.i64 (x15 + 1))))], [(1, (some (.box [(.int .i64 xo1_0), (.int .i64 xo1_1), (.list false [(.int .i64)] lo1_2), (.list true [(.int .i64), (.list false [(.int .i64)]), (.list false [(.int .i64)]), (.list false [(.int .i64)]), (.list false [(.int .i64)])] lo1_3)]))), (2, (some (.box [(.int .i64 xo2_0), (.int .i64 xo2_1), (.int .i64 xo2_2), (.int .i64 xo2_3), (.int .i64 xo2_4), .zs]))), (3, (some (.box [(.int .i64 xo3_0), (.int .i64 xo3_1), (.int .i64 xo3_2), (.int .i64 (withinZ (pickZ lo1_2 x15) (-500) 500)), (.int .i64 xo3_4), .zs])))]⟩)
        (cond (decide (x15 = ic 2))
          (again ⟨[(1, (.ptr 1 0 0)), (2, (.ptr 2 0 0)), (3, (.ptr 3 0 0)), (14, (.int .i64 x14)), (15, (.int .i64 (IntKind.wrap IntKind.i64 (x15 + 1))))], [(1, (some (.box [(.int .i64 xo1_0), (.int .i64 xo1_1), (.list false [(.int .i64)] lo1_2), (.list true [(.int .i64), (.list false [(.int .i64)]), (.list false [(.int .i64)]), (.list false [(.int .i64)]), (.list false [(.int .i64)])] lo1_3)]))), (2, (some (.box [(.int .i64 xo2_0), (.int .i64 xo2_1), (.int .i64 xo2_2), (.int .i64 xo2_3), (.int .i64 xo2_4), .zs]))), (3, (some (.box [(.int .i64 xo3_0), (.int .i64 xo3_1), (.int .i64 xo3_2), (.int .i64 xo3_3), (.int .i64 (withinZ (pickZ lo1_2 x15) (-500) 500)), .zs])))]⟩)
          none)))
    none)
  (k (.exit 0) ⟨[(1, (.ptr 1 0 0)), (2, (.ptr 2 0 0)), (3, (.ptr 3 0 0)), (14, (.int .i64 x14)), (15, (.int .i64 x15))], [(1, (some (.box [(.int .i64 xo1_0), (.int .i64 xo1_1), (.list false [(.int .i64)] lo1_2), (.list true [(.int .i64), (.list false [(.int .i64)]), (.list false [(.int .i64)]), (.list false [(.int .i64)]), (.list false [(.int .i64)])] lo1_3)]))), (2, (some (.box [(.int .i64 xo2_0), (.int .i64 xo2_1), (.int .i64 xo2_2), (.int .i64 xo2_3), (.int .i64 xo2_4), .zs]))), (3, (some (.box [(.int .i64 xo3_0), (.int .i64 xo3_1), (.int .i64 xo3_2), (.int .i64 xo3_3), (.int .i64 xo3_4), .zs])))]⟩)) := by kernel_rfl

theorem ex_copsekeep_Forest_Model_1_1 (N : Nat) (x14 : Int) (x15 : Int) (xo1_0 : Int) (xo1_1 : Int) (lo1_2 : List IV) (lo1_3 : List IV) (xo2_0 : Int) (xo2_1 : Int) (xo2_2 : Int) (xo2_3 : Int) (xo2_4 : Int) (xo3_0 : Int) (xo3_1 : Int) (xo3_2 : Int) (xo3_3 : Int) (xo3_4 : Int) : (kBlock 0 (kSq (E_copsekeep_Forest_Model N) (subC c_copsekeep_Forest_Model [1, 1, 1]) (outT (E_copsekeep_Forest_Model N) none [(ResultVar.cell 2 32)] [[(.int .i64), (.int .i64), (.int .i64), (.int .i64), (.int .i64), (.list true [(.int .i64), (.list false [(.int .u64)])])]]))) (.exit 0)
    ⟨[(1, (.ptr 1 0 0)), (2, (.ptr 2 0 0)), (3, (.ptr 3 0 0)), (14, (.int .i64 x14)), (15, (.int .i64 x15))], [(1, (some (.box [(.int .i64 xo1_0), (.int .i64 xo1_1), (.list false [(.int .i64)] lo1_2), (.list true [(.int .i64), (.list false [(.int .i64)]), (.list false [(.int .i64)]), (.list false [(.int .i64)]), (.list false [(.int .i64)])] lo1_3)]))), (2, (some (.box [(.int .i64 xo2_0), (.int .i64 xo2_1), (.int .i64 xo2_2), (.int .i64 xo2_3), (.int .i64 xo2_4), .zs]))), (3, (some (.box [(.int .i64 xo3_0), (.int .i64 xo3_1), (.int .i64 xo3_2), (.int .i64 xo3_3), (.int .i64 xo3_4), .zs])))]⟩ =
  (lpE (E_copsekeep_Forest_Model N) (subC c_copsekeep_Forest_Model [1, 1, 1, 0, 1, 0, 0]) ⟨[1, 2, 3, 5], [1, 2, 3, 500], [⟨(.cell 3 5), 500, 29, true, [(.int .i64), (.list false [(.int .u64)])]⟩]⟩ N ⟨[(1, (.ptr 1 0 0)), (2, (.ptr 2 0 0)), (3, (.ptr 3 0 0)), (5, (.int .i64 0))], [(1, (some (.box [(.int .i64 xo1_0), (.int .i64 xo1_1), (.list false [(.int .i64)] lo1_2), (.list true [(.int .i64), (.list false [(.int .i64)]), (.list false [(.int .i64)]), (.list false [(.int .i64)]), (.list false [(.int .i64)])] lo1_3)]))), (2, (some (.box [(.int .i64 xo2_0), (.int .i64 xo2_1), (.int .i64 xo2_2), (.int .i64 xo2_3), (.int .i64 xo2_4), .zs]))), (3, (some (.box [(.int .i64 xo3_0), (.int .i64 xo3_1), (.int .i64 xo3_2), (.int .i64 xo3_3), (.int .i64 xo3_4), (.row 500 0 0)]))), (500, (some (.row true 29 true [(.int .i64), (.list false [(.int .u64)])] [])))]⟩ (kBlock 2 (kSq (E_copsekeep_Forest_Model N) (subC c_copsekeep_Forest_Model [1, 1, 1, 1]) (outT (E_copsekeep_Forest_Model N) none [(ResultVar.cell 2 32)] [[(.int .i64), (.int .i64), (.int .i64), (.int .i64), (.int .i64), (.list true [(.int .i64), (.list false [(.int .u64)])])]])))) := by kernel_rfl

theorem st_copsekeep_Forest_Model_2 (N : Nat) (x5 : Int) (xo1_0 : Int) (xo1_1 : Int) (lo1_2 : List IV) (lo1_3 : List IV) (xo2_0 : Int) (xo2_1 : Int) (xo2_2 : Int) (xo2_3 : Int) (xo2_4 : Int) (xo3_0 : Int) (xo3_1 : Int) (xo3_2 : Int) (xo3_3 : Int) (xo3_4 : Int) (no3_5 : Nat) (lo500 : List IV) (again : St → Res) (k : Out → St → Res) : rnd (E_copsekeep_Forest_Model N) (subC c_copsekeep_Forest_Model [1, 1, 1, 0, 1, 0, 0])
    ⟨[(1, (.ptr 1 0 0)), (2, (.ptr 2 0 0)), (3, (.ptr 3 0 0)), (5, (.int .i64 x5))], [(1, (some (.box [(.int .i64 xo1_0), (.int .i64 xo1_1), (.list false [(.int .i64)] lo1_2), (.list true [(.int .i64), (.list false [(.int .i64)]), (.list false [(.int .i64)]), (.list false [(.int .i64)]), (.list false [(.int .i64)])] lo1_3)]))), (2, (some (.box [(.int .i64 xo2_0), (.int .i64 xo2_1), (.int .i64 xo2_2), (.int .i64 xo2_3), (.int .i64 xo2_4), .zs]))), (3, (some (.box [(.int .i64 xo3_0), (.int .i64 xo3_1), (.int .i64 xo3_2), (.int .i64 xo3_3), (.int .i64 xo3_4), (.row 500 0 no3_5)]))), (500, (some (.row true 29 true [(.int .i64), (.list false [(.int .u64)])] lo500)))]⟩
    (kLoop again ⟨[1, 2, 3, 5], [1, 2, 3, 500], [⟨(.cell 3 5), 500, 29, true, [(.int .i64), (.list false [(.int .u64)])]⟩]⟩ k) =
  (cond (decide (x5 < ic (List.length lo1_3)))
  (cond (decide (x5 < 4))
    (cond (decide (0 ≤ x5) && decide (x5 < ic (List.length lo1_3)))
      (cond (decide (withinM 0 (IntKind.wrap IntKind.i64 (xo3_1 - 1)) = 0))
        none
        (cond (decide (0 ≤ x5) && decide (x5 < ic (List.length lo1_3)))
          (cond (decide (1 ≤ xo3_0) && decide (xo3_0 ≤ 4))
            (cond (decide ((no3_5 + List.length (List.drop 0 (List.take 1 [IV.agg [IV.int (withinZ (IV.toInt (IV.cell (List.getD lo1_3 (Int.toNat x5) default) 0)) 0 (IntKind.wrap IntKind.i64 (xo3_1 - 1))), IV.list (nodesL (IV.toList (IV.cell (List.getD lo1_3 (Int.toNat x5) default) 1)) (IV.toList (IV.cell (List.getD lo1_3 (Int.toNat x5) default) 2)) (IV.toList (IV.cell (List.getD lo1_3 (Int.toNat x5) default) 3)) (IV.toList (IV.cell (List.getD lo1_3 (Int.toNat x5) default) 4)) xo3_0)]]))) * TI.bytes (Env.tyd (E_copsekeep_Forest_Model N) 29) ≤ bytesMax))
              (again ⟨[(1, (.ptr 1 0 0)), (2, (.ptr 2 0 0)), (3, (.ptr 3 0 0)), (5, (.int .i64 (IntKind.wrap IntKind.i64 (x5 + 1))))], [(1, (some (.box [(.int .i64 xo1_0), (.int .i64 xo1_1), (.list false [(.int .i64)] lo1_2), (.list true [(.int .i64), (.list false [(.int .i64)]), (.list false [(.int .i64)]), (.list false [(.int .i64)]), (.list false [(.int .i64)])] lo1_3)]))), (2, (some (.box [(.int .i64 xo2_0), (.int .i64 xo2_1), (.int .i64 xo2_2), (.int .i64 xo2_3), (.int .i64 xo2_4), .zs]))), (3, (some (.box [(.int .i64 xo3_0), (.int .i64 xo3_1), (.int .i64 xo3_2), (.int .i64 xo3_3), (.int .i64 xo3_4), (.row 500 0 (no3_5 + List.length (List.drop 0 (List.take 1 [IV.agg [IV.int (withinZ (IV.toInt (IV.cell (List.getD lo1_3 (Int.toNat x5) default) 0)) 0 (IntKind.wrap IntKind.i64 (xo3_1 - 1))), IV.list (nodesL (IV.toList (IV.cell (List.getD lo1_3 (Int.toNat x5) default) 1)) (IV.toList (IV.cell (List.getD lo1_3 (Int.toNat x5) default) 2)) (IV.toList (IV.cell (List.getD lo1_3 (Int.toNat x5) default) 3)) (IV.toList (IV.cell (List.getD lo1_3 (Int.toNat x5) default) 4)) xo3_0)]]))))]))), (500, (some (.row true 29 true [(.int .i64), (.list false [(.int .u64)])] (List.take no3_5 lo500 ++ List.drop 0 (List.take 1 [IV.agg [IV.int (withinZ (IV.toInt (IV.cell (List.getD lo1_3 (Int.toNat x5) default) 0)) 0 (IntKind.wrap IntKind.i64 (xo3_1 - 1))), IV.list (nodesL (IV.toList (IV.cell (List.getD lo1_3 (Int.toNat x5) default) 1)) (IV.toList (IV.cell (List.getD lo1_3 (Int.toNat x5) default) 2)) (IV.toList (IV.cell (List.getD lo1_3 (Int.toNat x5) default) 3)) (IV.toList (IV.cell (List.getD lo1_3 (Int.toNat x5) default) 4)) xo3_0)]])))))]⟩)
              none)
            none)
          none))
      none)
    (k (.exit 2) ⟨[(1, (.ptr 1 0 0)), (2, (.ptr 2 0 0)), (3, (.ptr 3 0 0)), (5, (.int .i64 x5))], [(1, (some (.box [(.int .i64 xo1_0), (.int .i64 xo1_1), (.list false [(.int .i64)] lo1_2), (.list true [(.int .i64), (.list false [(.int .i64)]), (.list false [(.int .i64)]), (.list false [(.int .i64)]), (.list false [(.int .i64)])] lo1_3)]))), (2, (some (.box [(.int .i64 xo2_0), (.int .i64 xo2_1), (.int .i64 xo2_2), (.int .i64 xo2_3), (.int .i64 xo2_4), .zs]))), (3, (some (.box [(.int .i64 xo3_0), (.int .i64 xo3_1), (.int .i64 xo3_2), (.int .i64 xo3_3), (.int .i64 xo3_4), (.row 500 0 no3_5)]))), (500, (some (.row true 29 true [(.int .i64), (.list false [(.int .u64)])] lo500)))]⟩))
  (k (.exit 2) ⟨[(1, (.ptr 1 0 0)), (2, (.ptr 2 0 0)), (3, (.ptr 3 0 0)), (5, (.int .i64 x5))], [(1, (some (.box [(.int .i64 xo1_0), (.int .i64 xo1_1), (.list false [(.int .i64)] lo1_2), (.list true [(.int .i64), (.list false [(.int .i64)]), (.list false [(.int .i64)]), (.list false [(.int .i64)]), (.list false [(.int .i64)])] lo1_3)]))), (2, (some (.box [(.int .i64 xo2_0), (.int .i64 xo2_1), (.int .i64 xo2_2), (.int .i64 xo2_3), (.int .i64 xo2_4), .zs]))), (3, (some (.box [(.int .i64 xo3_0), (.int .i64 xo3_1), (.int .i64 xo3_2), (.int .i64 xo3_3), (.int .i64 xo3_4), (.row 500 0 no3_5)]))), (500, (some (.row true 29 true [(.int .i64), (.list false [(.int .u64)])] lo500)))]⟩)) := by kernel_rfl

theorem ex_copsekeep_Forest_Model_2_1 (N : Nat) (x5 : Int) (xo1_0 : Int) (xo1_1 : Int) (lo1_2 : List IV) (lo1_3 : List IV) (xo2_0 : Int) (xo2_1 : Int) (xo2_2 : Int) (xo2_3 : Int) (xo2_4 : Int) (xo3_0 : Int) (xo3_1 : Int) (xo3_2 : Int) (xo3_3 : Int) (xo3_4 : Int) (no3_5 : Nat) (lo500 : List IV) : (kBlock 2 (kSq (E_copsekeep_Forest_Model N) (subC c_copsekeep_Forest_Model [1, 1, 1, 1]) (outT (E_copsekeep_Forest_Model N) none [(ResultVar.cell 2 32)] [[(.int .i64), (.int .i64), (.int .i64), (.int .i64), (.int .i64), (.list true [(.int .i64), (.list false [(.int .u64)])])]]))) (.exit 2)
    ⟨[(1, (.ptr 1 0 0)), (2, (.ptr 2 0 0)), (3, (.ptr 3 0 0)), (5, (.int .i64 x5))], [(1, (some (.box [(.int .i64 xo1_0), (.int .i64 xo1_1), (.list false [(.int .i64)] lo1_2), (.list true [(.int .i64), (.list false [(.int .i64)]), (.list false [(.int .i64)]), (.list false [(.int .i64)]), (.list false [(.int .i64)])] lo1_3)]))), (2, (some (.box [(.int .i64 xo2_0), (.int .i64 xo2_1), (.int .i64 xo2_2), (.int .i64 xo2_3), (.int .i64 xo2_4), .zs]))), (3, (some (.box [(.int .i64 xo3_0), (.int .i64 xo3_1), (.int .i64 xo3_2), (.int .i64 xo3_3), (.int .i64 xo3_4), (.row 500 0 no3_5)]))), (500, (some (.row true 29 true [(.int .i64), (.list false [(.int .u64)])] lo500)))]⟩ =
  (some ((.agg [(.int .i64 xo3_0), (.int .i64 xo3_1), (.int .i64 xo3_2), (.int .i64 xo3_3), (.int .i64 xo3_4), (.list true [(.int .i64), (.list false [(.int .u64)])] (List.drop 0 (List.take no3_5 lo500)))]), [])) := by kernel_rfl

end Go.FM

/-
  copsekeep's FUNCTIONS COME TO WHAT IS SAID (1): picks, nodes packed, regions, queries.
-/
namespace Go.FM
open Go Go.Proofs

set_option maxRecDepth 100000 in
theorem snd_copsekeep_pick : SndR PR B0 32 S_copsekeep_pick := by
  refine snd_mk [] [] S_copsekeep_pick [[.int .i64]] Tryz.func32 h_copsekeep_pick trivial ?_
  intro vs r hwf h
  unfold S_copsekeep_pick at h
  split at h
  · rename_i l i
    cases hc : decide (0 ≤ i) with
    | false => rw [hc] at h; simp [R.get] at h
    | true =>
      rw [hc, R.get_br, condT, R.get_ok] at h
      have hc := of_decide_eq_true hc
      refine ⟨0, ?_⟩
      rw [← h]
      refine (nf_copsekeep_pick 0 l i).trans ?_
      unfold pickZ
      cases h0 : (ic (List.length l) == 0) with
      | true => rfl
      | false =>
        rw [beq_dec] at h0
        have h0' := of_decide_eq_false h0
        have hl : 0 < (l.length : Int) := by simp only [ic] at h0'; omega
        have t0 := Int.tmod_nonneg (l.length : Int) hc
        have t1 := Int.tmod_lt_of_pos i hl
        rw [condF, h0, condF, decide_eq_true (show 0 ≤ Int.tmod i (ic (List.length l)) from t0), decide_eq_true (show Int.tmod i (ic (List.length l)) < ic (List.length l) from t1), Bool.and_true, condT, condF]
  · simp [R.get] at h

set_option maxRecDepth 100000 in
theorem snd_copseref1_Fits : SndR PR B0 40 S_copseref1_Fits := by
  refine snd_mk [] [] S_copseref1_Fits [[.bool]] Tryz.func40 h_copseref1_Fits trivial ?_
  intro vs r hwf h
  unfold S_copseref1_Fits at h
  split at h
  · rename_i n w
    cases hc : decide (w = 32) with
    | false => rw [hc] at h; simp [R.get] at h
    | true =>
      rw [hc, R.get_br, condT, R.get_ok] at h
      have hc := of_decide_eq_true hc
      subst hc
      refine ⟨0, ?_⟩
      rw [← h]
      refine (nf_copseref1_Fits 0 n 32).trans ?_
      have e1 : IntKind.wrap IntKind.i64 (0 - IntKind.wrap IntKind.i64 (1 * 2 ^ min (Int.toNat (IntKind.wrap IntKind.i64 ((32 : Int) - 1))) (IntKind.bits IntKind.i64))) = -2147483648 := by kernel_rfl
      have e2 : IntKind.wrap IntKind.i64 (IntKind.wrap IntKind.i64 (1 * 2 ^ min (Int.toNat (IntKind.wrap IntKind.i64 ((32 : Int) - 1))) (IntKind.bits IntKind.i64)) - 1) = 2147483647 := by kernel_rfl
      have e3 : decide (IntKind.wrap IntKind.i64 ((32 : Int) - 1) < 0) = false := by kernel_rfl
      rw [e1, e2, e3]
      unfold fits32
      have e4 : decide (n ≥ -2147483648) = decide (-2147483648 ≤ n) := rfl
      rw [e4]
      cases decide (-2147483648 ≤ n) <;> rfl
  · simp [R.get] at h

theorem cond_andb (a b : Bool) : cond a (some (V.bool b, [])) (some (V.bool false, [])) = (some (V.bool (a && b), []) : Res) := by cases a <;> rfl

set_option maxRecDepth 100000 in
theorem snd_copseref6_RightNode : SndR PR B0 17 S_copseref6_RightNode := by
  refine snd_mk [(40, S_copseref1_Fits)] [] S_copseref6_RightNode [[.bool]] Tryz.func17 h_copseref6_RightNode ⟨snd_copseref1_Fits, trivial⟩ ?_
  intro vs r hwf h
  unfold S_copseref6_RightNode at h
  split at h
  · rename_i lf v f a l r'
    refine ⟨0, ?_⟩
    rw [← h]
    refine (nf_copseref6_RightNode 0 lf v f a l r').trans ?_
    simp only [R.get_ok, cond_andb]
    unfold rightN
    cases lf with
    | true => rfl
    | false => rfl
  · simp [R.get] at h

set_option maxRecDepth 100000 in
theorem snd_copseref6_Pack : SndR PR B0 8 S_copseref6_Pack := by
  refine snd_mk [(17, S_copseref6_RightNode)] [] S_copseref6_Pack [[.int .u64]] Tryz.func8 h_copseref6_Pack ⟨snd_copseref6_RightNode, trivial⟩ ?_
  intro vs r hwf h
  unfold S_copseref6_Pack at h
  split at h
  · rename_i lf v f a l r'
    refine ⟨0, ?_⟩
    rw [← h]
    refine (nf_copseref6_Pack 0 lf v f a l r').trans ?_
    unfold packW
    cases rightN lf v f a l r' with
    | false => rfl
    | true => cases lf <;> rfl
  · simp [R.get] at h

end Go.FM

/-
  copsekeep's FUNCTIONS COME TO WHAT IS SAID (2): a tree's nodes.
-/
namespace Go.FM
open Go Go.Proofs

/-- What is so after i partings. -/
structure Ns.At (i : Nat) (s : Ns) : Prop where
  nl : s.nodes.length = 2 * i + 1
  ll : s.leaves.length = i + 1
  lt : ∀ x ∈ s.leaves, 0 ≤ x.toInt ∧ x.toInt < (2 * i + 1 : Nat)

theorem nsK_in {part : List IV} {i : Nat} {s : Ns} (h : s.At i) (hi : i ≤ 100) : 0 ≤ nsK part i s ∧ nsK part i s < ((i + 1 : Nat) : Int) ∧ withinM 0 (ic s.leaves.length - 1) = ((i + 1 : Nat) : Int) := by
  have e : ic s.leaves.length = ((i + 1 : Nat) : Int) := by rw [h.ll]
  obtain ⟨m, a, b⟩ := within_in (n := (part.getD i default).toInt) (lo := 0) (hi := ic s.leaves.length - 1) (by rw [e]; omega) (by omega) (by rw [e]; omega)
  unfold nsK
  rw [e] at a b m ⊢
  exact ⟨a, by omega, by rw [m]; omega⟩
theorem nsAt_in {part : List IV} {i : Nat} {s : Ns} (h : s.At i) (hi : i ≤ 100) : 0 ≤ nsAt part i s ∧ nsAt part i s < (2 * i + 1 : Nat) := by
  obtain ⟨k0, k1, _⟩ := nsK_in (part := part) h hi
  have hk : (nsK part i s).toNat < s.leaves.length := by rw [h.ll]; omega
  have e : s.leaves.getD (nsK part i s).toNat default = s.leaves[(nsK part i s).toNat] := by simp [hk]
  unfold nsAt
  rw [e]
  exact h.lt _ (List.getElem_mem hk)
theorem Ns.At.step {part byl atl val : List IV} {dim : Int} {i : Nat} {s : Ns} (h : s.At i) (hi : i ≤ 100) : (nsStep part byl atl val dim i s).At (i + 1) := by
  obtain ⟨k0, k1, _⟩ := nsK_in (part := part) h hi
  refine ⟨?_, ?_, ?_⟩
  · simp only [nsStep, List.length_append, List.length_set, List.length_cons, List.length_nil, h.nl]
    omega
  · simp only [nsStep, List.length_append, List.length_take, List.length_drop, List.length_cons, List.length_nil, h.ll]
    omega
  · intro x hx
    simp only [nsStep, List.mem_append] at hx
    rcases hx with (hx | hx) | hx
    · have := h.lt x (List.mem_of_mem_take hx)
      omega
    · have := h.lt x (List.mem_of_mem_drop hx)
      omega
    · simp only [List.mem_cons, List.not_mem_nil, or_false] at hx
      rcases hx with rfl | rfl
      · simp only [IV.toInt, ic, h.nl]; omega
      · simp only [IV.toInt, ic, h.nl]; omega

abbrev kN : List Kd := [.bool, (.int .i64), (.int .i64), (.int .i64), (.int .i64), (.int .i64)]
abbrev kpN : KP := ⟨[1, 2, 4, 5, 6, 7], [2, 500, 501], [⟨(.tmp 5), 500, 25, true, [.bool, (.int .i64), (.int .i64), (.int .i64), (.int .i64), (.int .i64)]⟩, ⟨(.tmp 6), 501, 3, false, [(.int .i64)]⟩]⟩
abbrev stN (cl : Int) (part byl atl val : List IV) (dim : Int) (s : Ns) (i : Int) : St :=
  ⟨[(1, (.int .i64 dim)), (2, (.ptr 2 0 0)), (4, .zs), (5, (.row 500 0 s.nodes.length)), (6, (.row 501 0 s.leaves.length)), (7, (.int .i64 i))], [(2, (some (.box [(.int .i64 cl), (.list false [(.int .i64)] part), (.list false [(.int .i64)] byl), (.list false [(.int .i64)] atl), (.list false [(.int .i64)] val)]))), (500, (some (.row true 25 true kN s.nodes))), (501, (some (.row true 3 false [(.int .i64)] s.leaves)))]⟩

theorem node_bytes (N : Nat) : TI.bytes (Env.tyd (E_copsekeep_Tree_Nodes N) 25) = 48 := by rfl
theorem int_bytes (N : Nat) : TI.bytes (Env.tyd (E_copsekeep_Tree_Nodes N) 3) = 8 := by rfl
theorem put6 (x : IV) (a b c d e f : IV) : putIV true kN x 0 [a, b, c, d, e, f] = .agg [a, b, c, d, e, f] := rfl

set_option maxHeartbeats 4000000 in
theorem nodes_round (N : Nat) (cl : Int) (part byl atl val : List IV) (dim : Int) (h1 : 1 ≤ dim) (h4 : dim ≤ 4) (s : Ns) (i : Nat) (hs : s.At i) (hi : i < part.length) (h7 : i < 7) (again : St → Res) (k : Out → St → Res) :
    rnd (E_copsekeep_Tree_Nodes N) (subC c_copsekeep_Tree_Nodes [1, 1, 1, 0, 1, 0, 0]) (stN cl part byl atl val dim s (i : Int)) (kLoop again kpN k) = again (stN cl part byl atl val dim (nsStep part byl atl val dim i s) ((i + 1 : Nat) : Int)) := by
  refine (st_copsekeep_Tree_Nodes_1 N dim s.nodes.length s.leaves.length i cl part byl atl val s.nodes s.leaves again k).trans ?_
  obtain ⟨k0, k1, km⟩ := nsK_in (part := part) hs (by omega)
  obtain ⟨a0, a1⟩ := nsAt_in (part := part) hs (by omega)
  obtain ⟨dm, _, _⟩ := within_in (n := 0) (lo := 0) (hi := dim - 1) (by omega) (by omega) (by omega)
  have eL : ic (s.leaves.length - 0) = ic s.leaves.length := rfl
  have eN : ic (s.nodes.length - 0) = ic s.nodes.length := rfl
  have hL : ic s.leaves.length = ((i + 1 : Nat) : Int) := by rw [hs.ll]
  have hN : ic s.nodes.length = ((2 * i + 1 : Nat) : Int) := by rw [hs.nl]
  have w1 : IntKind.wrap IntKind.i64 (ic s.leaves.length - 1) = ic s.leaves.length - 1 := wrap_id (by rw [hL]; omega) (by rw [hL]; omega)
  have w2 : IntKind.wrap IntKind.i64 (dim - 1) = dim - 1 := wrap_id (by omega) (by omega)
  have w3 : IntKind.wrap IntKind.i64 (2 * (i : Int)) = 2 * (i : Int) := wrap_id (by omega) (by omega)
  have w4 : IntKind.wrap IntKind.i64 (2 * (i : Int) + 1) = 2 * (i : Int) + 1 := wrap_id (by omega) (by omega)
  have w5 : IntKind.wrap IntKind.i64 (2 * (i : Int) + 2) = 2 * (i : Int) + 2 := wrap_id (by omega) (by omega)
  have w6 : IntKind.wrap IntKind.i64 (ic s.nodes.length + 1) = ic s.nodes.length + 1 := wrap_id (by rw [hN]; omega) (by rw [hN]; omega)
  rw [eL, eN, w1, w2, w3, w4, w5, w6, Int.toNat_natCast]
  have eK : withinZ (IV.toInt (List.getD part i default)) 0 (ic s.leaves.length - 1) = nsK part i s := rfl
  rw [eK]
  have w7 : IntKind.wrap IntKind.i64 (nsK part i s + 1) = nsK part i s + 1 := wrap_id (by omega) (by omega)
  rw [w7]
  have e0 : ∀ n : Nat, 0 + n = n := Nat.zero_add
  simp only [e0]
  have eA : IV.toInt (List.getD s.leaves (nsK part i s).toNat default) = nsAt part i s := rfl
  rw [eA, node_bytes, int_bytes]
  obtain ⟨q, hq⟩ : ∃ q : Nat, nsK part i s = q := ⟨(nsK part i s).toNat, by omega⟩
  have eq1 : (nsK part i s + 1).toNat = q + 1 := by omega
  have eq0 : (nsK part i s).toNat = q := by omega
  have hq1 : q < i + 1 := by omega
  have lt2 : ∀ x y : IV, (List.drop 0 (List.take 2 [x, y])) = [x, y] := fun _ _ => rfl
  have lk : List.drop 0 (List.take q s.leaves) = List.take q s.leaves := List.drop_zero
  have lk2 : List.drop (q + 1) (List.take (s.leaves.length - 0) s.leaves) = List.drop (q + 1) s.leaves := by rw [Nat.sub_zero, List.take_length]
  rw [eq1, eq0, lt2, lt2, lk, lk2]
  have zA : (List.take q s.leaves).length = q := by rw [List.length_take, hs.ll]; omega
  have zB : (List.drop (q + 1) s.leaves).length = i - q := by rw [List.length_drop, hs.ll]; omega
  rw [zA, zB]
  simp only [List.length_cons, List.length_nil]
  rw [decide_eq_true (show (i : Int) < ic part.length by simp only [ic]; omega), decide_eq_true (show (i : Int) < 7 by omega), decide_eq_true (show 0 ≤ (i : Int) by omega), km, decide_eq_false (show ¬ ((i + 1 : Nat) : Int) = 0 by omega),
    decide_eq_true k0, decide_eq_true (show nsK part i s < ic s.leaves.length by rw [hL]; exact k1), dm, decide_eq_false (show ¬ (dim - 1 - 0 + 1 = 0) by omega), decide_eq_true a0, decide_eq_true (show nsAt part i s < ic s.nodes.length by rw [hN]; exact a1),
    decide_eq_true (show 0 ≤ 2 * (i : Int) + 1 by omega), decide_eq_true (show 0 ≤ 2 * (i : Int) + 2 by omega), decide_eq_true (show (s.nodes.length + (0 + 1 + 1)) * 48 ≤ bytesMax by rw [hs.nl]; unfold bytesMax; omega),
    decide_eq_true (show nsK part i s ≤ ic s.leaves.length by rw [hL]; omega), decide_eq_true (show q * 8 ≤ bytesMax by unfold bytesMax; omega), decide_eq_true (show 0 ≤ nsK part i s + 1 by omega), decide_eq_true (show nsK part i s + 1 ≤ ic s.leaves.length by rw [hL]; omega),
    decide_eq_true (show (q + (i - q)) * 8 ≤ bytesMax by unfold bytesMax; omega), decide_eq_true (show (q + (i - q) + (0 + 1 + 1)) * 8 ≤ bytesMax by unfold bytesMax; omega)]
  simp only [Bool.and_true, condT, condF]
  have g1 : (nsStep part byl atl val dim i s).nodes.length = s.nodes.length + (0 + 1 + 1) := by rw [(hs.step (by omega)).nl, hs.nl]; omega
  have g2 : (nsStep part byl atl val dim i s).leaves.length = q + (i - q) + (0 + 1 + 1) := by rw [(hs.step (by omega)).ll]; omega
  have g3 : (nsStep part byl atl val dim i s).nodes = List.take s.nodes.length (List.set s.nodes (nsAt part i s).toNat (putIV true kN (List.getD s.nodes (nsAt part i s).toNat default) 0 [IV.bool false, IV.int 0, IV.int (withinZ (pickZ byl (i : Int)) 0 (dim - 1)), IV.int (withinZ (pickZ atl (i : Int)) 0 9), IV.int (ic s.nodes.length), IV.int (ic s.nodes.length + 1)])) ++
      [IV.agg [IV.bool true, IV.int (withinZ (pickZ val (2 * (i : Int) + 1)) (-3000) 3000), IV.int 0, IV.int 0, IV.int 0, IV.int 0], IV.agg [IV.bool true, IV.int (withinZ (pickZ val (2 * (i : Int) + 2)) (-3000) 3000), IV.int 0, IV.int 0, IV.int 0, IV.int 0]] := by
    rw [put6, List.take_of_length_le (by rw [List.length_set]; exact Nat.le_refl _)]
    rfl
  have g4 : (nsStep part byl atl val dim i s).leaves = List.take (q + (i - q)) (List.take q (List.take 0 [] ++ List.take q s.leaves) ++ List.drop (q + 1) s.leaves) ++ [IV.int (ic s.nodes.length), IV.int (ic s.nodes.length + 1)] := by
    rw [List.take_zero, List.nil_append, List.take_take, Nat.min_self, List.take_of_length_le (by rw [List.length_append, zA, zB]; exact Nat.le_refl _)]
    show List.take (nsK part i s).toNat s.leaves ++ List.drop ((nsK part i s).toNat + 1) s.leaves ++ _ = _
    rw [eq0]
  rw [show stN cl part byl atl val dim (nsStep part byl atl val dim i s) ((i + 1 : Nat) : Int) = ⟨[(1, (.int .i64 dim)), (2, (.ptr 2 0 0)), (4, .zs), (5, (.row 500 0 (nsStep part byl atl val dim i s).nodes.length)), (6, (.row 501 0 (nsStep part byl atl val dim i s).leaves.length)), (7, (.int .i64 ((i + 1 : Nat) : Int)))], [(2, (some (.box [(.int .i64 cl), (.list false [(.int .i64)] part), (.list false [(.int .i64)] byl), (.list false [(.int .i64)] atl), (.list false [(.int .i64)] val)]))), (500, (some (.row true 25 true kN (nsStep part byl atl val dim i s).nodes))), (501, (some (.row true 3 false [(.int .i64)] (nsStep part byl atl val dim i s).leaves)))]⟩ from rfl, g1, g2, g3, g4, succ_w (by omega)]

theorem nodes_run (N : Nat) (cl : Int) (part byl atl val : List IV) (dim : Int) (h1 : 1 ≤ dim) (h4 : dim ≤ 4) (K : Out → St → Res) : ∀ (d i n : Nat) (s : Ns), i + d = min part.length 7 → d < n → s.At i →
    (∃ j, lpE (E_copsekeep_Tree_Nodes N) (subC c_copsekeep_Tree_Nodes [1, 1, 1, 0, 1, 0, 0]) kpN n (stN cl part byl atl val dim s (i : Int)) K = K (.exit 0) (stN cl part byl atl val dim (nsRun part byl atl val dim d i s) j)) ∧ (nsRun part byl atl val dim d i s).At (i + d)
  | 0, i, n + 1, s, hd, hn, hs => by
    refine ⟨⟨(i : Int), ?_⟩, hs⟩
    rw [lpE_succ]
    refine (st_copsekeep_Tree_Nodes_1 N dim s.nodes.length s.leaves.length i cl part byl atl val s.nodes s.leaves _ _).trans ?_
    by_cases hp : i < part.length
    · rw [decide_eq_true (show (i : Int) < ic part.length by simp only [ic]; omega), condT, decide_eq_false (show ¬ (i : Int) < 7 by omega), condF]
      rfl
    · rw [decide_eq_false (show ¬ (i : Int) < ic part.length by simp only [ic]; omega), condF]
      rfl
  | d + 1, i, n + 1, s, hd, hn, hs => by
    obtain ⟨⟨j, ih⟩, ih2⟩ := nodes_run N cl part byl atl val dim h1 h4 K d (i + 1) n (nsStep part byl atl val dim i s) (by omega) (by omega) (hs.step (by omega))
    refine ⟨⟨j, ?_⟩, by rw [show i + (d + 1) = i + 1 + d by omega]; exact ih2⟩
    rw [lpE_succ, nodes_round N cl part byl atl val dim h1 h4 s i hs (by omega) (by omega)]
    exact ih
  | _, _, 0, _, _, h, _ => by omega

theorem u64_bytes (N : Nat) : TI.bytes (Env.tyd (E_copsekeep_Tree_Nodes N) 22) = 8 := by rfl
abbrev kpO : KP := ⟨[4, 11, 100, 101, 102], [500, 502], [⟨(.tmp 11), 502, 22, false, [(.int .u64)]⟩]⟩
theorem out_run (N : Nat) (L : List IV) (hL : L.length ≤ 1000) : ∀ (d i n : Nat) (O : List IV), i + d = L.length → d < n → O.length = i →
    lpE (E_copsekeep_Tree_Nodes N) (subC c_copsekeep_Tree_Nodes [1, 1, 1, 1, 1, 0, 1, 0, 0]) kpO n ⟨[(4, .zs), (11, (.row 502 0 O.length)), (100, (.row 500 0 L.length)), (101, (.int .i64 (ic (L.length - 0)))), (102, (.int .i64 (i : Int)))], [(500, (some (.row true 25 true kN L))), (502, (some (.row true 22 false [(.int .u64)] O)))]⟩
      (kBlock 2 (kSq (E_copsekeep_Tree_Nodes N) (subC c_copsekeep_Tree_Nodes [1, 1, 1, 1, 1, 1]) (outT (E_copsekeep_Tree_Nodes N) none [(ResultVar.tmp 4)] [[(.list false [(.int .u64)])]]))) = some (.list false [.int .u64] (O ++ (L.drop i).map packN), [])
  | 0, i, n + 1, O, hd, hn, hO => by
    rw [lpE_succ]
    refine (st_copsekeep_Tree_Nodes_2 N O.length L.length (ic (L.length - 0)) i L O _ _).trans ?_
    rw [decide_eq_false (show ¬ (i : Int) < ic (L.length - 0) by simp only [ic]; omega), condF]
    refine (ex_copsekeep_Tree_Nodes_2_1 N O.length L.length (ic (L.length - 0)) i L O).trans ?_
    rw [List.drop_zero, List.take_length, List.drop_of_length_le (by omega), List.map_nil, List.append_nil]
  | d + 1, i, n + 1, O, hd, hn, hO => by
    have hi : i < L.length := by omega
    rw [lpE_succ]
    refine (st_copsekeep_Tree_Nodes_2 N O.length L.length (ic (L.length - 0)) i L O _ _).trans ?_
    have ih := out_run N L hL d (i + 1) n (O ++ [packN L[i]]) (by omega) (by omega) (by simp [hO])
    have l1 : ∀ x : IV, List.drop 0 (List.take 1 [x]) = [x] := fun _ => rfl
    have eg : List.getD L (0 + Int.toNat (i : Int)) default = L[i] := by rw [Nat.zero_add, Int.toNat_natCast]; simp [hi]
    rw [decide_eq_true (show (i : Int) < ic (L.length - 0) by simp only [ic]; omega), decide_eq_true (show 0 ≤ (i : Int) by omega), Bool.and_true, condT, condT, eg, l1, u64_bytes, List.length_singleton, decide_eq_true (show (O.length + 1) * 8 ≤ bytesMax by rw [hO]; unfold bytesMax; omega), condT, List.take_length, succ_w (by omega)]
    rw [List.drop_eq_getElem_cons hi, List.map_cons]
    rw [List.length_append, List.length_singleton, List.append_assoc] at ih
    exact ih
  | _, _, 0, _, _, h, _ => by omega

set_option maxRecDepth 100000 in
theorem snd_copsekeep_Tree_Nodes : SndR PR B0 16 S_copsekeep_Tree_Nodes := by
  refine snd_mk [(15, S_copsebook_Within), (32, S_copsekeep_pick), (8, S_copseref6_Pack)] [(4, kpN), (14, kpO)] S_copsekeep_Tree_Nodes [[.list false [.int .u64]]] Tryz.func16 h_copsekeep_Tree_Nodes
    ⟨snd_copsebook_Within, snd_copsekeep_pick, snd_copseref6_Pack, trivial⟩ ?_
  intro vs r hwf h
  unfold S_copsekeep_Tree_Nodes at h
  split at h
  · rename_i cl part byl atl val dim
    cases hc : (decide (1 ≤ dim) && decide (dim ≤ 4)) with
    | false => rw [hc] at h; simp [R.get] at h
    | true =>
      rw [hc, R.get_br, condT, R.get_ok] at h
      simp only [Bool.and_eq_true, decide_eq_true_eq] at hc
      refine ⟨30, ?_⟩
      rw [← h]
      refine (nf_copsekeep_Tree_Nodes 30 cl part byl atl val dim).trans ?_
      have h0 : (⟨[leafN (withinZ (pickZ val 0) (-3000) 3000)], [.int 0]⟩ : Ns).At 0 := ⟨rfl, rfl, fun x hx => by
        rw [List.mem_singleton] at hx
        subst hx
        exact ⟨by decide, by decide⟩⟩
      obtain ⟨⟨j, run⟩, hat⟩ := nodes_run 30 cl part byl atl val dim hc.1 hc.2 (kBlock 0 (kSq (E_copsekeep_Tree_Nodes 30) (subC c_copsekeep_Tree_Nodes [1, 1, 1, 1]) (outT (E_copsekeep_Tree_Nodes 30) none [(ResultVar.tmp 4)] [[(.list false [(.int .u64)])]]))) (min part.length 7) 0 30 _ (by omega) (by omega) h0
      refine run.trans ?_
      have e : nsRun part byl atl val dim (min part.length 7) 0 ⟨[leafN (withinZ (pickZ val 0) (-3000) 3000)], [.int 0]⟩ = nsTree part byl atl val dim := rfl
      rw [e] at hat ⊢
      have hn := hat.nl
      refine (ex_copsekeep_Tree_Nodes_1_1 30 dim (nsTree part byl atl val dim).nodes.length (nsTree part byl atl val dim).leaves.length j cl part byl atl val (nsTree part byl atl val dim).nodes (nsTree part byl atl val dim).leaves).trans ?_
      have := out_run 30 (nsTree part byl atl val dim).nodes (by omega) (nsTree part byl atl val dim).nodes.length 0 30 [] (by omega) (by omega) rfl
      rw [List.drop_zero, List.nil_append] at this
      exact this
  · simp [R.get] at h

end Go.FM

/-
  copsekeep's FUNCTIONS COME TO WHAT IS SAID (3): a model.
-/
namespace Go.FM
open Go Go.Proofs

abbrev kT5 : List Kd := [(.int .i64), (.list false [(.int .i64)]), (.list false [(.int .i64)]), (.list false [(.int .i64)]), (.list false [(.int .i64)])]
def bF (bias : List IV) (j : Int) : Int := withinZ (pickZ bias j) (-500) 500
abbrev boxF (d c : Int) (bias ts : List IV) : Ob := .box [(.int .i64 d), (.int .i64 c), (.list false [(.int .i64)] bias), (.list true kT5 ts)]
abbrev boxZ : Ob := .box [(.int .i64 0), (.int .i64 0), (.int .i64 0), (.int .i64 0), (.int .i64 0), .zs]
abbrev stB (d c : Int) (bias ts : List IV) (D C : Int) (i : Nat) (x : Int) : St :=
  ⟨[(1, (.ptr 1 0 0)), (2, (.ptr 2 0 0)), (3, (.ptr 3 0 0)), (14, (.int .i64 C)), (15, (.int .i64 x))], [(1, (some (boxF d c bias ts))), (2, (some boxZ)), (3, (some (.box [(.int .i64 D), (.int .i64 C), (.int .i64 (cond (Nat.blt 0 i) (bF bias 0) 0)), (.int .i64 (cond (Nat.blt 1 i) (bF bias 1) 0)), (.int .i64 (cond (Nat.blt 2 i) (bF bias 2) 0)), .zs])))]⟩
theorem bias_run (N : Nat) (d c : Int) (bias ts : List IV) (D : Int) (C : Nat) (hC : C ≤ 3) (K : Out → St → Res) : ∀ (m i n : Nat), i + m = C → m < n →
    lpE (E_copsekeep_Forest_Model N) (subC c_copsekeep_Forest_Model [1, 1, 0, 1, 0, 0]) ⟨[1, 2, 3, 14, 15], [1, 2, 3], []⟩ n (stB d c bias ts D C i (i : Int)) K = K (.exit 0) (stB d c bias ts D C C (C : Int))
  | 0, i, n + 1, hd, hn => by
    have hi : i = C := by omega
    subst hi
    rw [lpE_succ]
    refine (st_copsekeep_Forest_Model_1 N i i d c bias ts 0 0 0 0 0 D i (cond (Nat.blt 0 i) (bF bias 0) 0) (cond (Nat.blt 1 i) (bF bias 1) 0) (cond (Nat.blt 2 i) (bF bias 2) 0) _ _).trans ?_
    rw [decide_eq_false (show ¬ (i : Int) < (i : Int) by omega), condF]
  | m + 1, i, n + 1, hd, hn => by
    rw [lpE_succ]
    refine (st_copsekeep_Forest_Model_1 N C i d c bias ts 0 0 0 0 0 D C (cond (Nat.blt 0 i) (bF bias 0) 0) (cond (Nat.blt 1 i) (bF bias 1) 0) (cond (Nat.blt 2 i) (bF bias 2) 0) _ _).trans ?_
    have ih := bias_run N d c bias ts D C hC K m (i + 1) n (by omega) (by omega)
    rw [decide_eq_true (show (i : Int) < (C : Int) by omega), condT, decide_eq_true (show 0 ≤ (i : Int) by omega), condT, succ_w (by omega)]
    have hi4 : i = 0 ∨ i = 1 ∨ i = 2 := by omega
    rcases hi4 with rfl | rfl | rfl
    · rw [show decide (((0 : Nat) : Int) = ic 0) = true from rfl, condT]
      exact ih
    · rw [show decide (((1 : Nat) : Int) = ic 0) = false from rfl, show decide (((1 : Nat) : Int) = ic 1) = true from rfl, condF, condT]
      exact ih
    · rw [show decide (((2 : Nat) : Int) = ic 0) = false from rfl, show decide (((2 : Nat) : Int) = ic 1) = false from rfl, show decide (((2 : Nat) : Int) = ic 2) = true from rfl, condF, condF, condT]
      exact ih
  | _, _, 0, _, h => by omega

abbrev kMT : List Kd := [(.int .i64), (.list false [(.int .u64)])]
abbrev kpM : KP := ⟨[1, 2, 3, 5], [1, 2, 3, 500], [⟨(.cell 3 5), 500, 29, true, [(.int .i64), (.list false [(.int .u64)])]⟩]⟩
abbrev stM (d c : Int) (bias ts : List IV) (D C b0 b1 b2 : Int) (O : List IV) (x : Int) : St :=
  ⟨[(1, (.ptr 1 0 0)), (2, (.ptr 2 0 0)), (3, (.ptr 3 0 0)), (5, (.int .i64 x))], [(1, (some (boxF d c bias ts))), (2, (some boxZ)), (3, (some (.box [(.int .i64 D), (.int .i64 C), (.int .i64 b0), (.int .i64 b1), (.int .i64 b2), (.row 500 0 O.length)]))), (500, (some (.row true 29 true kMT O)))]⟩
def treeG (D C : Int) (t : IV) : IV := .agg [.int (withinZ (t.cell 0).toInt 0 (C - 1)), .list (nodesL (t.cell 1).toList (t.cell 2).toList (t.cell 3).toList (t.cell 4).toList D)]
theorem tree_bytes (N : Nat) : TI.bytes (Env.tyd (E_copsekeep_Forest_Model N) 29) = 32 := by rfl
theorem trees_run (N : Nat) (d c : Int) (bias ts : List IV) (D C b0 b1 b2 : Int) (hD : 1 ≤ D ∧ D ≤ 4) (hC : 1 ≤ C ∧ C ≤ 3) : ∀ (m i n : Nat) (O : List IV), i + m = min ts.length 4 → m < n → O.length = i →
    lpE (E_copsekeep_Forest_Model N) (subC c_copsekeep_Forest_Model [1, 1, 1, 0, 1, 0, 0]) kpM n (stM d c bias ts D C b0 b1 b2 O (i : Int)) (kBlock 2 (kSq (E_copsekeep_Forest_Model N) (subC c_copsekeep_Forest_Model [1, 1, 1, 1]) (outT (E_copsekeep_Forest_Model N) none [(ResultVar.cell 2 32)] [[(.int .i64), (.int .i64), (.int .i64), (.int .i64), (.int .i64), (.list true [(.int .i64), (.list false [(.int .u64)])])]]))) =
      some (.agg [.int .i64 D, .int .i64 C, .int .i64 b0, .int .i64 b1, .int .i64 b2, .list true kMT (O ++ ((ts.take 4).drop i).map (treeG D C))], [])
  | 0, i, n + 1, O, hd, hn, hO => by
    have fin : (kBlock 2 (kSq (E_copsekeep_Forest_Model N) (subC c_copsekeep_Forest_Model [1, 1, 1, 1]) (outT (E_copsekeep_Forest_Model N) none [(ResultVar.cell 2 32)] [[(.int .i64), (.int .i64), (.int .i64), (.int .i64), (.int .i64), (.list true [(.int .i64), (.list false [(.int .u64)])])]]))) (.exit 2) (stM d c bias ts D C b0 b1 b2 O (i : Int)) = some (.agg [.int .i64 D, .int .i64 C, .int .i64 b0, .int .i64 b1, .int .i64 b2, .list true kMT (O ++ ((ts.take 4).drop i).map (treeG D C))], []) := by
      refine (ex_copsekeep_Forest_Model_2_1 N i d c bias ts 0 0 0 0 0 D C b0 b1 b2 O.length O).trans ?_
      rw [List.drop_zero, List.take_length, List.drop_of_length_le (by rw [List.length_take]; omega), List.map_nil, List.append_nil]
    rw [lpE_succ]
    refine (st_copsekeep_Forest_Model_2 N i d c bias ts 0 0 0 0 0 D C b0 b1 b2 O.length O _ _).trans ?_
    by_cases hp : i < ts.length
    · rw [decide_eq_true (show (i : Int) < ic ts.length by simp only [ic]; omega), condT, decide_eq_false (show ¬ (i : Int) < 4 by omega), condF]
      exact fin
    · rw [decide_eq_false (show ¬ (i : Int) < ic ts.length by simp only [ic]; omega), condF]
      exact fin
  | m + 1, i, n + 1, O, hd, hn, hO => by
    have hi : i < ts.length := by omega
    rw [lpE_succ]
    refine (st_copsekeep_Forest_Model_2 N i d c bias ts 0 0 0 0 0 D C b0 b1 b2 O.length O _ _).trans ?_
    have l1 : ∀ x : IV, List.drop 0 (List.take 1 [x]) = [x] := fun _ => rfl
    have eg : List.getD ts (Int.toNat (i : Int)) default = ts[i] := by rw [Int.toNat_natCast]; simp [hi]
    have w1 : IntKind.wrap IntKind.i64 (C - 1) = C - 1 := wrap_id (by omega) (by omega)
    obtain ⟨m1, _, _⟩ := within_in (n := 0) (lo := 0) (hi := C - 1) (by omega) (by omega) (by omega)
    have ih := trees_run N d c bias ts D C b0 b1 b2 hD hC m (i + 1) n (O ++ [treeG D C ts[i]]) (by omega) (by omega) (by simp [hO])
    rw [decide_eq_true (show (i : Int) < ic ts.length by simp only [ic]; omega), decide_eq_true (show (i : Int) < 4 by omega), decide_eq_true (show 0 ≤ (i : Int) by omega), w1, m1, decide_eq_false (show ¬ (C - 1 - 0 + 1 = 0) by omega), decide_eq_true hD.1, decide_eq_true hD.2, eg, l1, tree_bytes, List.length_singleton,
      decide_eq_true (show (O.length + 1) * 32 ≤ bytesMax by rw [hO]; unfold bytesMax; omega), List.take_length, succ_w (by omega)]
    simp only [Bool.and_true, condT, condF]
    have ed : (ts.take 4).drop i = ts[i] :: (ts.take 4).drop (i + 1) := by
      have h4 : i < (ts.take 4).length := by rw [List.length_take]; omega
      rw [List.drop_eq_getElem_cons h4]
      congr 1
      rw [List.getElem_take]
    rw [ed, List.map_cons]
    rw [List.append_assoc] at ih
    have eL : (O ++ [treeG D C ts[i]]).length = O.length + 1 := by simp
    rw [show stM d c bias ts D C b0 b1 b2 (O ++ [treeG D C ts[i]]) ((i + 1 : Nat) : Int) = ⟨[(1, (.ptr 1 0 0)), (2, (.ptr 2 0 0)), (3, (.ptr 3 0 0)), (5, (.int .i64 ((i + 1 : Nat) : Int)))], [(1, (some (boxF d c bias ts))), (2, (some boxZ)), (3, (some (.box [(.int .i64 D), (.int .i64 C), (.int .i64 b0), (.int .i64 b1), (.int .i64 b2), (.row 500 0 (O ++ [treeG D C ts[i]]).length)]))), (500, (some (.row true 29 true kMT (O ++ [treeG D C ts[i]]))))]⟩ from rfl, eL] at ih
    exact ih
  | _, _, 0, _, _, h, _ => by omega

set_option maxRecDepth 100000 in
theorem snd_copsekeep_Forest_Model : SndR PR B0 12 S_copsekeep_Forest_Model := by
  refine snd_mk [(15, S_copsebook_Within), (16, S_copsekeep_Tree_Nodes), (32, S_copsekeep_pick)] [(3, ⟨[1, 2, 3, 14, 15], [1, 2, 3], []⟩), (8, kpM)] S_copsekeep_Forest_Model [[.int .i64, .int .i64, .int .i64, .int .i64, .int .i64, .list true [.int .i64, .list false [.int .u64]]]] Tryz.func12 h_copsekeep_Forest_Model
    ⟨snd_copsebook_Within, snd_copsekeep_Tree_Nodes, snd_copsekeep_pick, trivial⟩ ?_
  intro vs r hwf h
  unfold S_copsekeep_Forest_Model at h
  split at h
  · rename_i d c bias ts
    refine ⟨20, ?_⟩
    rw [R.get_ok] at h
    rw [← h]
    refine (nf_copsekeep_Forest_Model 20 d c bias ts).trans ?_
    obtain ⟨_, d1, d2⟩ := within_in (n := d) (lo := 1) (hi := 3) (by omega) (by omega) (by omega)
    obtain ⟨_, c1, c2⟩ := within_in (n := c) (lo := 1) (hi := 3) (by omega) (by omega) (by omega)
    unfold treesF treeF biasF clsF dimF
    generalize withinZ d 1 3 = D at d1 d2
    generalize withinZ c 1 3 = C' at c1 c2
    obtain ⟨C, rfl⟩ : ∃ C : Nat, C' = C := ⟨C'.toNat, by omega⟩
    refine (bias_run 20 d c bias ts D C (by omega) _ C 0 20 (by omega) (by omega)).trans ?_
    refine (ex_copsekeep_Forest_Model_1_1 20 C C d c bias ts 0 0 0 0 0 D C (cond (Nat.blt 0 C) (bF bias 0) 0) (cond (Nat.blt 1 C) (bF bias 1) 0) (cond (Nat.blt 2 C) (bF bias 2) 0)).trans ?_
    refine (trees_run 20 d c bias ts D C _ _ _ ⟨d1, by omega⟩ ⟨c1, by omega⟩ (min ts.length 4) 0 20 [] (by omega) (by omega) rfl).trans ?_
    rw [List.drop_zero, List.nil_append]
    have hC : C = 1 ∨ C = 2 ∨ C = 3 := by omega
    rcases hC with rfl | rfl | rfl <;> rfl
  · simp [R.get] at h

end Go.FM
