/-
  What the functions of package text, and of bits, node, tree and model beneath it, come to: each proved of the program by the small machine; under each specification's own bounds.
-/
import Derived.Test.YtbhpdofmcbhbfaaGreatDoorLib
import Derived.Test.YtbhpdofmcbhbfaaGreatDoorDfn
import Derived.Test.YtbhpdofmcbhbfaaGreatDoorKfn

/-
  NORMAL FORMS: what the functions' runs come to (written by a program of this claim's own, checked by the kernel).
-/
namespace Go.FM
open Go Go.Proofs

/-! ### copse/bits.Fits -/
def E_bits_Fits (N : Nat) : Env := mkE [] [] 25 N

theorem nf_bits_Fits (N : Nat) (n : Int) (w : Int) : evFun (E_bits_Fits N) c_bits_Fits [.tmp 4] [[.bool]] [(.int .i64 n), (.int .i64 w)] =
  (cond (decide (w < 1))
  (some ((.bool false), []))
  (cond (decide (w > 64))
    (some ((.bool false), []))
    (cond (decide (IntKind.wrap IntKind.u64 (IntKind.wrap IntKind.i64 (w - 1)) < 0))
      none
      (cond (Int.fdiv n (2 ^ min (Int.toNat (IntKind.wrap IntKind.u64 (IntKind.wrap IntKind.i64 (w - 1)))) (IntKind.bits IntKind.i64)) == 0)
        (some ((.bool true), []))
        (cond (decide (IntKind.wrap IntKind.u64 (IntKind.wrap IntKind.i64 (w - 1)) < 0))
          none
          (some ((.bool (Int.fdiv n (2 ^ min (Int.toNat (IntKind.wrap IntKind.u64 (IntKind.wrap IntKind.i64 (w - 1)))) (IntKind.bits IntKind.i64)) == -1)), []))))))) := by kernel_rfl

/-! ### copse/bits.Wrap -/
def E_bits_Wrap (N : Nat) : Env := mkE [] [] 21 N

theorem nf_bits_Wrap (N : Nat) (n : Int) (w : Int) : evFun (E_bits_Wrap N) c_bits_Wrap [.tmp 4] [[.int .i64]] [(.int .i64 n), (.int .i64 w)] =
  (cond (decide (w < 1))
  (some ((.int .i64 n), []))
  (cond (decide (w ≥ 64))
    (some ((.int .i64 n), []))
    (cond (decide (IntKind.wrap IntKind.u64 (IntKind.wrap IntKind.i64 (64 - w)) < 0))
      none
      (cond (decide (IntKind.wrap IntKind.u64 (IntKind.wrap IntKind.i64 (64 - w)) < 0))
        none
        (some ((.int .i64 (Int.fdiv (IntKind.wrap IntKind.i64 (n * 2 ^ min (Int.toNat (IntKind.wrap IntKind.u64 (IntKind.wrap IntKind.i64 (64 - w)))) (IntKind.bits IntKind.i64))) (2 ^ min (Int.toNat (IntKind.wrap IntKind.u64 (IntKind.wrap IntKind.i64 (64 - w)))) (IntKind.bits IntKind.i64)))), [])))))) := by kernel_rfl

/-! ### copse/bits.field -/
def E_bits_field (N : Nat) : Env := mkE [] [] 21 N

theorem nf_bits_field (N : Nat) (atv : Int) (w : Int) : evFun (E_bits_field N) c_bits_field [.tmp 4] [[.bool]] [(.int .i64 atv), (.int .i64 w)] =
  (cond (decide (atv ≥ 0))
  (cond (decide (atv < 64))
    (cond (decide (w ≥ 1))
      (some ((.bool (decide (w ≤ IntKind.wrap IntKind.i64 (64 - atv)))), []))
      (some ((.bool false), [])))
    (some ((.bool false), [])))
  (some ((.bool false), []))) := by kernel_rfl

/-! ### copse/bits.mask -/
def E_bits_mask (N : Nat) : Env := mkE [] [] 7 N

theorem nf_bits_mask (N : Nat) (w : Int) : evFun (E_bits_mask N) c_bits_mask [.tmp 2] [[.int .u64]] [(.int .i64 w)] =
  (cond (decide (IntKind.wrap IntKind.u64 (IntKind.wrap IntKind.i64 (64 - w)) < 0))
  none
  (some ((.int .u64 (Int.fdiv 18446744073709551615 (2 ^ min (Int.toNat (IntKind.wrap IntKind.u64 (IntKind.wrap IntKind.i64 (64 - w)))) (IntKind.bits IntKind.u64)))), []))) := by kernel_rfl

/-! ### copse/bits.Put -/
def E_bits_Put (N : Nat) : Env := mkE [(89, S_bits_field), (90, S_bits_mask)] [] 30 N

theorem nf_bits_Put (N : Nat) (x : Int) (atv : Int) (w : Int) (y : Int) : evFun (E_bits_Put N) c_bits_Put [.tmp 8] [[.int .u64]] [(.int .u64 x), (.int .i64 atv), (.int .i64 w), (.int .u64 y)] =
  (cond (decide (0 ≤ atv) && decide (atv < 64))
  (cond (!(decide (1 ≤ w) && decide (w ≤ 64 - atv)))
    (some ((.int .u64 x), []))
    (cond (decide (1 ≤ w) && decide (w ≤ 64))
      (cond (decide (IntKind.wrap IntKind.u64 atv < 0))
        none
        (cond (decide (IntKind.wrap IntKind.u64 atv < 0))
          none
          (some ((.int .u64 (IntKind.wrap IntKind.u64 (ic (BitVec.toNat (BitVec.ofInt (IntKind.bits IntKind.u64) (IntKind.wrap IntKind.u64 (ic (BitVec.toNat (BitVec.ofInt (IntKind.bits IntKind.u64) x &&& ~~~BitVec.ofInt (IntKind.bits IntKind.u64) (IntKind.wrap IntKind.u64 (maskZ w * 2 ^ min (Int.toNat (IntKind.wrap IntKind.u64 atv)) (IntKind.bits IntKind.u64))))))) ||| BitVec.ofInt (IntKind.bits IntKind.u64) (IntKind.wrap IntKind.u64 (ic (BitVec.toNat (BitVec.ofInt (IntKind.bits IntKind.u64) (IntKind.wrap IntKind.u64 (y * 2 ^ min (Int.toNat (IntKind.wrap IntKind.u64 atv)) (IntKind.bits IntKind.u64))) &&& BitVec.ofInt (IntKind.bits IntKind.u64) (IntKind.wrap IntKind.u64 (maskZ w * 2 ^ min (Int.toNat (IntKind.wrap IntKind.u64 atv)) (IntKind.bits IntKind.u64)))))))))))), []))))
      none))
  none) := by kernel_rfl

/-! ### copse/bits.Get -/
def E_bits_Get (N : Nat) : Env := mkE [(89, S_bits_field), (90, S_bits_mask)] [] 18 N

theorem nf_bits_Get (N : Nat) (x : Int) (atv : Int) (w : Int) : evFun (E_bits_Get N) c_bits_Get [.tmp 6] [[.int .u64]] [(.int .u64 x), (.int .i64 atv), (.int .i64 w)] =
  (cond (decide (0 ≤ atv) && decide (atv < 64))
  (cond (!(decide (1 ≤ w) && decide (w ≤ 64 - atv)))
    (some ((.int .u64 0), []))
    (cond (decide (IntKind.wrap IntKind.u64 atv < 0))
      none
      (cond (decide (1 ≤ w) && decide (w ≤ 64))
        (some ((.int .u64 (IntKind.wrap IntKind.u64 (ic (BitVec.toNat (BitVec.ofInt (IntKind.bits IntKind.u64) (Int.fdiv x (2 ^ min (Int.toNat (IntKind.wrap IntKind.u64 atv)) (IntKind.bits IntKind.u64))) &&& BitVec.ofInt (IntKind.bits IntKind.u64) (maskZ w)))))), []))
        none)))
  none) := by kernel_rfl

/-! ### copse/bits.Signed -/
def E_bits_Signed (N : Nat) : Env := mkE [(59, S_bits_Get), (88, S_bits_Wrap)] [] 14 N

theorem nf_bits_Signed (N : Nat) (x : Int) (atv : Int) (w : Int) : evFun (E_bits_Signed N) c_bits_Signed [.tmp 6] [[.int .i64]] [(.int .u64 x), (.int .i64 atv), (.int .i64 w)] =
  (cond (decide (0 ≤ atv) && (decide (atv < 64) && (decide (1 ≤ w) && decide (w ≤ 64 - atv))))
  (cond (decide (w = 32))
    (some ((.int .i64 (wrap32 (IntKind.wrap IntKind.i64 (getZ x atv w)))), []))
    none)
  none) := by kernel_rfl

/-! ### copse/node.child -/
def E_node_child (N : Nat) : Env := mkE [] [] 9 N

theorem nf_node_child (N : Nat) (n : Int) : evFun (E_node_child N) c_node_child [.tmp 2] [[.bool]] [(.int .i64 n)] =
  (cond (decide (n ≥ 1))
  (some ((.bool (decide (n < 31))), []))
  (some ((.bool false), []))) := by kernel_rfl

/-! ### copse/node.Right -/
def E_node_Right (N : Nat) : Env := mkE [(46, S_bits_Fits), (103, S_node_child)] [] 43 N

theorem nf_node_Right (N : Nat) (n_Leaf : Bool) (n_Value : Int) (n_Feature : Int) (n_At : Int) (n_Left : Int) (n_Right : Int) : evFun (E_node_Right N) c_node_Right [.tmp 2] [[.bool]] [(.agg [(.bool n_Leaf), (.int .i64 n_Value), (.int .i64 n_Feature), (.int .i64 n_At), (.int .i64 n_Left), (.int .i64 n_Right)])] =
  (cond n_Leaf
  (cond (n_Leaf == true && (n_Value == n_Value && (n_Feature == 0 && (n_At == 0 && (n_Left == 0 && (n_Right == 0 && true))))))
    (some ((.bool (fits32 n_Value)), []))
    (some ((.bool false), [])))
  (cond (n_Value == 0)
    (cond (decide (n_Feature ≥ 0))
      (cond (decide (n_Feature < 4))
        (cond (fits32 n_At)
          (cond (childB n_Left)
            (some ((.bool (childB n_Right)), []))
            (some ((.bool false), [])))
          (some ((.bool false), [])))
        (some ((.bool false), [])))
      (some ((.bool false), [])))
    (some ((.bool false), [])))) := by kernel_rfl

/-! ### copse/node.Pack -/
def E_node_Pack (N : Nat) : Env := mkE [(75, S_bits_Put), (74, S_node_Right)] [] 32 N

theorem nf_node_Pack (N : Nat) (n_Leaf : Bool) (n_Value : Int) (n_Feature : Int) (n_At : Int) (n_Left : Int) (n_Right : Int) : evFun (E_node_Pack N) c_node_Pack [.tmp 2] [[.int .u64]] [(.agg [(.bool n_Leaf), (.int .i64 n_Value), (.int .i64 n_Feature), (.int .i64 n_At), (.int .i64 n_Left), (.int .i64 n_Right)])] =
  (cond (!rightNd { lf := n_Leaf, v := n_Value, f := n_Feature, a := n_At, l := n_Left, r := n_Right })
  (some ((.int .u64 0), []))
  (cond n_Leaf
    (some ((.int .u64 (putZ 9223372036854775808 0 32 (IntKind.wrap IntKind.u64 n_Value))), []))
    (some ((.int .u64 (putZ (putZ (putZ (putZ 0 0 32 (IntKind.wrap IntKind.u64 n_At)) 32 4 (IntKind.wrap IntKind.u64 n_Feature)) 40 8 (IntKind.wrap IntKind.u64 n_Left)) 48 8 (IntKind.wrap IntKind.u64 n_Right))), [])))) := by kernel_rfl

/-! ### copse/node.Unpack$1 -/
def E_node_Unpack_1 (N : Nat) : Env := mkE [(59, S_bits_Get)] [] 11 N

theorem nf_node_Unpack_1 (N : Nat) (a : Int) (w : Int) (x : Int) : evFun (E_node_Unpack_1 N) c_node_Unpack_1 [.tmp 5] [[.int .i64]] [(.int .i64 a), (.int .i64 w), (.bor [.int .u64 x])] =
  (cond (decide (0 ≤ a) && (decide (a < 64) && (decide (1 ≤ w) && decide (w ≤ 64 - a))))
  (some ((.int .i64 (IntKind.wrap IntKind.i64 (getZ x a w))), [[(.int .u64 x)]]))
  none) := by kernel_rfl

/-! ### copse/node.Unpack -/
def E_node_Unpack (N : Nat) : Env := mkE [(59, S_bits_Get), (58, S_bits_Signed), (45, S_node_Pack), (60, S_node_Unpack_1)] [] 33 N

theorem nf_node_Unpack (N : Nat) (w : Int) : evFun (E_node_Unpack N) c_node_Unpack [.cell 2 25, .tmp 3] [[.bool, .int .i64, .int .i64, .int .i64, .int .i64, .int .i64], [.bool]] [(.int .u64 w)] =
  (cond (getZ w 63 1 == 0)
  (cond (w == 0)
    (some ((.tup [(.agg [(.bool false), (.int .i64 0), (.int .i64 0), (.int .i64 0), (.int .i64 0), (.int .i64 0)]), (.bool false)]), []))
    (cond (packNd { lf := false, v := 0, f := i64w (getZ w 32 4), a := signZ w, l := i64w (getZ w 40 8), r := i64w (getZ w 48 8) } != w)
      (some ((.tup [(.agg [(.bool false), (.int .i64 0), (.int .i64 0), (.int .i64 0), (.int .i64 0), (.int .i64 0)]), (.bool false)]), []))
      (some ((.tup [(.agg [(.bool false), (.int .i64 0), (.int .i64 (i64w (getZ w 32 4))), (.int .i64 (signZ w)), (.int .i64 (i64w (getZ w 40 8))), (.int .i64 (i64w (getZ w 48 8)))]), (.bool true)]), []))))
  (cond (w == 0)
    (some ((.tup [(.agg [(.bool false), (.int .i64 0), (.int .i64 0), (.int .i64 0), (.int .i64 0), (.int .i64 0)]), (.bool false)]), []))
    (cond (packNd { lf := true, v := signZ w, f := 0, a := 0, l := 0, r := 0 } != w)
      (some ((.tup [(.agg [(.bool false), (.int .i64 0), (.int .i64 0), (.int .i64 0), (.int .i64 0), (.int .i64 0)]), (.bool false)]), []))
      (some ((.tup [(.agg [(.bool true), (.int .i64 (signZ w)), (.int .i64 0), (.int .i64 0), (.int .i64 0), (.int .i64 0)]), (.bool true)]), []))))) := by kernel_rfl

end Go.FM

/-
  NORMAL FORMS: what the functions' runs come to (written by a program of this claim's own, checked by the kernel).
-/
namespace Go.FM
open Go Go.Proofs

/-! ### copse/tree.Right -/
def E_tree_Right (N : Nat) : Env := mkE [(29, S_node_Unpack)] [(5, ⟨[0, 1, 4, 5, 23, 24, 25], [22], []⟩), (17, ⟨[4, 85, 86, 87], [22], []⟩)] 94 N

theorem nf_tree_Right (N : Nat) (l : List IV) (a1 : Int) : evFun (E_tree_Right N) c_tree_Right [.tmp 4] [[.bool]] [(.list false [.int .u64] l), (.int .i64 a1)] =
  (cond (decide (ic (List.length l) < 1))
  (some ((.bool false), []))
  (cond (decide (ic (List.length l) > 31))
    (some ((.bool false), []))
    (cond (Nat.blt 0 (TI.size (Env.tyd (E_tree_Right N) 3)) && (Nat.blt 3 1000000 && decide (0 ≤ ic (List.length l))) && (decide (ic (List.length l) = ic (List.length l)) && decide (ic (List.length l) * ic (TI.bytes (Env.tyd (E_tree_Right N) 3)) ≤ ic bytesMax)))
      (lpE (E_tree_Right N) (subC c_tree_Right [1, 1, 1, 0, 1, 0, 0]) ⟨[0, 1, 4, 5, 23, 24, 25], [22], []⟩ N ⟨[(0, (.list false [(.int .u64)] l)), (1, (.int .i64 a1)), (4, (.bool false)), (5, (.row 22 0 (Int.toNat (ic (List.length l))))), (23, (.list false [(.int .u64)] l)), (24, (.int .i64 (ic (List.length l)))), (25, (.int .i64 0))], [(22, (some (.row true 3 false [(.int .i64)] (List.replicate (Int.toNat (ic (List.length l))) (IV.int 0)))))]⟩ (kBlock 0 (kSq (E_tree_Right N) (subC c_tree_Right [1, 1, 1, 1]) (outT (E_tree_Right N) none [(ResultVar.tmp 4)] [[.bool]]))))
      none))) := by kernel_rfl

theorem st_tree_Right_1 (N : Nat) (l0 : List IV) (x1 : Int) (b4 : Bool) (n5 : Nat) (l23 : List IV) (x24 : Int) (x25 : Int) (lo22 : List IV) (again : St → Res) (k : Out → St → Res) : rnd (E_tree_Right N) (subC c_tree_Right [1, 1, 1, 0, 1, 0, 0])
    ⟨[(0, (.list false [(.int .u64)] l0)), (1, (.int .i64 x1)), (4, (.bool b4)), (5, (.row 22 0 n5)), (23, (.list false [(.int .u64)] l23)), (24, (.int .i64 x24)), (25, (.int .i64 x25))], [(22, (some (.row true 3 false [(.int .i64)] lo22)))]⟩
    (kLoop again ⟨[0, 1, 4, 5, 23, 24, 25], [22], []⟩ k) =
  (cond (decide (x25 < x24))
  (cond (decide (0 ≤ x25) && decide (x25 < ic (List.length l23)))
    (cond (!nodeB (IV.toInt (List.getD l23 (Int.toNat x25) default)))
      (k .ret ⟨[(0, (.list false [(.int .u64)] l0)), (1, (.int .i64 x1)), (4, (.bool false)), (5, (.row 22 0 n5)), (23, (.list false [(.int .u64)] l23)), (24, (.int .i64 x24)), (25, (.int .i64 x25))], [(22, (some (.row true 3 false [(.int .i64)] lo22)))]⟩)
      (cond (Nd.lf (nodeN (IV.toInt (List.getD l23 (Int.toNat x25) default))))
        (again ⟨[(0, (.list false [(.int .u64)] l0)), (1, (.int .i64 x1)), (4, (.bool b4)), (5, (.row 22 0 n5)), (23, (.list false [(.int .u64)] l23)), (24, (.int .i64 x24)), (25, (.int .i64 (IntKind.wrap IntKind.i64 (x25 + 1))))], [(22, (some (.row true 3 false [(.int .i64)] lo22)))]⟩)
        (cond (decide (Nd.f (nodeN (IV.toInt (List.getD l23 (Int.toNat x25) default))) ≥ x1))
          (k .ret ⟨[(0, (.list false [(.int .u64)] l0)), (1, (.int .i64 x1)), (4, (.bool false)), (5, (.row 22 0 n5)), (23, (.list false [(.int .u64)] l23)), (24, (.int .i64 x24)), (25, (.int .i64 x25))], [(22, (some (.row true 3 false [(.int .i64)] lo22)))]⟩)
          (cond (Nd.l (nodeN (IV.toInt (List.getD l23 (Int.toNat x25) default))) == Nd.r (nodeN (IV.toInt (List.getD l23 (Int.toNat x25) default))))
            (k .ret ⟨[(0, (.list false [(.int .u64)] l0)), (1, (.int .i64 x1)), (4, (.bool false)), (5, (.row 22 0 n5)), (23, (.list false [(.int .u64)] l23)), (24, (.int .i64 x24)), (25, (.int .i64 x25))], [(22, (some (.row true 3 false [(.int .i64)] lo22)))]⟩)
            (cond (decide (min (Nd.l (nodeN (IV.toInt (List.getD l23 (Int.toNat x25) default)))) (Nd.r (nodeN (IV.toInt (List.getD l23 (Int.toNat x25) default)))) ≤ x25))
              (k .ret ⟨[(0, (.list false [(.int .u64)] l0)), (1, (.int .i64 x1)), (4, (.bool false)), (5, (.row 22 0 n5)), (23, (.list false [(.int .u64)] l23)), (24, (.int .i64 x24)), (25, (.int .i64 x25))], [(22, (some (.row true 3 false [(.int .i64)] lo22)))]⟩)
              (cond (decide (max (Nd.l (nodeN (IV.toInt (List.getD l23 (Int.toNat x25) default)))) (Nd.r (nodeN (IV.toInt (List.getD l23 (Int.toNat x25) default)))) ≥ ic (List.length l0)))
                (k .ret ⟨[(0, (.list false [(.int .u64)] l0)), (1, (.int .i64 x1)), (4, (.bool false)), (5, (.row 22 0 n5)), (23, (.list false [(.int .u64)] l23)), (24, (.int .i64 x24)), (25, (.int .i64 x25))], [(22, (some (.row true 3 false [(.int .i64)] lo22)))]⟩)
                (cond (decide (0 ≤ Nd.l (nodeN (IV.toInt (List.getD l23 (Int.toNat x25) default)))) && decide (Nd.l (nodeN (IV.toInt (List.getD l23 (Int.toNat x25) default))) < ic (n5 - 0)))
                  (cond (decide (0 ≤ Nd.l (nodeN (IV.toInt (List.getD l23 (Int.toNat x25) default)))) && decide (Nd.l (nodeN (IV.toInt (List.getD l23 (Int.toNat x25) default))) < ic (n5 - 0)))
                    (cond (decide (0 ≤ Nd.r (nodeN (IV.toInt (List.getD l23 (Int.toNat x25) default)))) && decide (Nd.r (nodeN (IV.toInt (List.getD l23 (Int.toNat x25) default))) < ic (n5 - 0)))
                      (cond (decide (0 ≤ Nd.r (nodeN (IV.toInt (List.getD l23 (Int.toNat x25) default)))) && decide (Nd.r (nodeN (IV.toInt (List.getD l23 (Int.toNat x25) default))) < ic (n5 - 0)))
                        (again ⟨[(0, (.list false [(.int .u64)] l0)), (1, (.int .i64 x1)), (4, (.bool b4)), (5, (.row 22 0 n5)), (23, (.list false [(.int .u64)] l23)), (24, (.int .i64 x24)), (25, (.int .i64 (IntKind.wrap IntKind.i64 (x25 + 1))))], [(22, (some (.row true 3 false [(.int .i64)] (List.set (List.set lo22 (0 + Int.toNat (Nd.l (nodeN (IV.toInt (List.getD l23 (Int.toNat x25) default))))) (putIV false [Kd.int IntKind.i64] (List.getD lo22 (0 + Int.toNat (Nd.l (nodeN (IV.toInt (List.getD l23 (Int.toNat x25) default))))) default) 0 [IV.int (IntKind.wrap IntKind.i64 (IV.toInt (List.getD lo22 (0 + Int.toNat (Nd.l (nodeN (IV.toInt (List.getD l23 (Int.toNat x25) default))))) default) + 1))])) (0 + Int.toNat (Nd.r (nodeN (IV.toInt (List.getD l23 (Int.toNat x25) default))))) (putIV false [Kd.int IntKind.i64] (List.getD (List.set lo22 (0 + Int.toNat (Nd.l (nodeN (IV.toInt (List.getD l23 (Int.toNat x25) default))))) (putIV false [Kd.int IntKind.i64] (List.getD lo22 (0 + Int.toNat (Nd.l (nodeN (IV.toInt (List.getD l23 (Int.toNat x25) default))))) default) 0 [IV.int (IntKind.wrap IntKind.i64 (IV.toInt (List.getD lo22 (0 + Int.toNat (Nd.l (nodeN (IV.toInt (List.getD l23 (Int.toNat x25) default))))) default) + 1))])) (0 + Int.toNat (Nd.r (nodeN (IV.toInt (List.getD l23 (Int.toNat x25) default))))) default) 0 [IV.int (IntKind.wrap IntKind.i64 (IV.toInt (List.getD (List.set lo22 (0 + Int.toNat (Nd.l (nodeN (IV.toInt (List.getD l23 (Int.toNat x25) default))))) (putIV false [Kd.int IntKind.i64] (List.getD lo22 (0 + Int.toNat (Nd.l (nodeN (IV.toInt (List.getD l23 (Int.toNat x25) default))))) default) 0 [IV.int (IntKind.wrap IntKind.i64 (IV.toInt (List.getD lo22 (0 + Int.toNat (Nd.l (nodeN (IV.toInt (List.getD l23 (Int.toNat x25) default))))) default) + 1))])) (0 + Int.toNat (Nd.r (nodeN (IV.toInt (List.getD l23 (Int.toNat x25) default))))) default) + 1))])))))]⟩)
                        none)
                      none)
                    none)
                  none)))))))
    none)
  (k (.exit 0) ⟨[(0, (.list false [(.int .u64)] l0)), (1, (.int .i64 x1)), (4, (.bool b4)), (5, (.row 22 0 n5)), (23, (.list false [(.int .u64)] l23)), (24, (.int .i64 x24)), (25, (.int .i64 x25))], [(22, (some (.row true 3 false [(.int .i64)] lo22)))]⟩)) := by kernel_rfl

theorem ex_tree_Right_1_1 (N : Nat) (l0 : List IV) (x1 : Int) (b4 : Bool) (n5 : Nat) (l23 : List IV) (x24 : Int) (x25 : Int) (lo22 : List IV) : (kBlock 0 (kSq (E_tree_Right N) (subC c_tree_Right [1, 1, 1, 1]) (outT (E_tree_Right N) none [(ResultVar.tmp 4)] [[.bool]]))) (.exit 0)
    ⟨[(0, (.list false [(.int .u64)] l0)), (1, (.int .i64 x1)), (4, (.bool b4)), (5, (.row 22 0 n5)), (23, (.list false [(.int .u64)] l23)), (24, (.int .i64 x24)), (25, (.int .i64 x25))], [(22, (some (.row true 3 false [(.int .i64)] lo22)))]⟩ =
  (cond (decide (0 ≤ 1) && decide (1 ≤ ic (n5 - 0)))
  (lpE (E_tree_Right N) (subC c_tree_Right [1, 1, 1, 1, 0, 1, 0, 0]) ⟨[4, 85, 86, 87], [22], []⟩ N ⟨[(4, (.bool b4)), (85, (.row 22 1 (0 + (n5 - 0)))), (86, (.int .i64 (ic (0 + (n5 - 0) - 1)))), (87, (.int .i64 0))], [(22, (some (.row true 3 false [(.int .i64)] lo22)))]⟩ (kBlock 2 (kSq (E_tree_Right N) (subC c_tree_Right [1, 1, 1, 1, 1]) (outT (E_tree_Right N) none [(ResultVar.tmp 4)] [[.bool]]))))
  none) := by kernel_rfl

theorem ex_tree_Right_1_2 (N : Nat) (l0 : List IV) (x1 : Int) (b4 : Bool) (n5 : Nat) (l23 : List IV) (x24 : Int) (x25 : Int) (lo22 : List IV) : (kBlock 0 (kSq (E_tree_Right N) (subC c_tree_Right [1, 1, 1, 1]) (outT (E_tree_Right N) none [(ResultVar.tmp 4)] [[.bool]]))) .ret
    ⟨[(0, (.list false [(.int .u64)] l0)), (1, (.int .i64 x1)), (4, (.bool b4)), (5, (.row 22 0 n5)), (23, (.list false [(.int .u64)] l23)), (24, (.int .i64 x24)), (25, (.int .i64 x25))], [(22, (some (.row true 3 false [(.int .i64)] lo22)))]⟩ =
  (some ((.bool b4), [])) := by kernel_rfl

theorem st_tree_Right_2 (N : Nat) (b4 : Bool) (n85 : Nat) (x86 : Int) (x87 : Int) (lo22 : List IV) (again : St → Res) (k : Out → St → Res) : rnd (E_tree_Right N) (subC c_tree_Right [1, 1, 1, 1, 0, 1, 0, 0])
    ⟨[(4, (.bool b4)), (85, (.row 22 1 n85)), (86, (.int .i64 x86)), (87, (.int .i64 x87))], [(22, (some (.row true 3 false [(.int .i64)] lo22)))]⟩
    (kLoop again ⟨[4, 85, 86, 87], [22], []⟩ k) =
  (cond (decide (x87 < x86))
  (cond (decide (0 ≤ x87) && decide (x87 < ic (n85 - 1)))
    (cond (IV.toInt (List.getD lo22 (1 + Int.toNat x87) default) != 1)
      (k .ret ⟨[(4, (.bool false)), (85, (.row 22 1 n85)), (86, (.int .i64 x86)), (87, (.int .i64 x87))], [(22, (some (.row true 3 false [(.int .i64)] lo22)))]⟩)
      (again ⟨[(4, (.bool b4)), (85, (.row 22 1 n85)), (86, (.int .i64 x86)), (87, (.int .i64 (IntKind.wrap IntKind.i64 (x87 + 1))))], [(22, (some (.row true 3 false [(.int .i64)] lo22)))]⟩))
    none)
  (k (.exit 2) ⟨[(4, (.bool b4)), (85, (.row 22 1 n85)), (86, (.int .i64 x86)), (87, (.int .i64 x87))], [(22, (some (.row true 3 false [(.int .i64)] lo22)))]⟩)) := by kernel_rfl

theorem ex_tree_Right_2_1 (N : Nat) (b4 : Bool) (n85 : Nat) (x86 : Int) (x87 : Int) (lo22 : List IV) : (kBlock 2 (kSq (E_tree_Right N) (subC c_tree_Right [1, 1, 1, 1, 1]) (outT (E_tree_Right N) none [(ResultVar.tmp 4)] [[.bool]]))) (.exit 2)
    ⟨[(4, (.bool b4)), (85, (.row 22 1 n85)), (86, (.int .i64 x86)), (87, (.int .i64 x87))], [(22, (some (.row true 3 false [(.int .i64)] lo22)))]⟩ =
  (some ((.bool true), [])) := by kernel_rfl

theorem ex_tree_Right_2_2 (N : Nat) (b4 : Bool) (n85 : Nat) (x86 : Int) (x87 : Int) (lo22 : List IV) : (kBlock 2 (kSq (E_tree_Right N) (subC c_tree_Right [1, 1, 1, 1, 1]) (outT (E_tree_Right N) none [(ResultVar.tmp 4)] [[.bool]]))) .ret
    ⟨[(4, (.bool b4)), (85, (.row 22 1 n85)), (86, (.int .i64 x86)), (87, (.int .i64 x87))], [(22, (some (.row true 3 false [(.int .i64)] lo22)))]⟩ =
  (some ((.bool b4), [])) := by kernel_rfl

/-! ### copse/model.Right$1 -/
def E_model_Right_1 (N : Nat) : Env := mkE [(49, S_tree_Right)] [] 22 N

theorem nf_model_Right_1 (N : Nat) (k : Int) (l : List IV) (d : Int) (c : Int) (b0 : Int) (b1 : Int) (b2 : Int) (ts : List IV) : evFun (E_model_Right_1 N) c_model_Right_1 [.tmp 3] [[.bool]] [(.agg [.int .i64 k, .list false [.int .u64] l]), (.bor [.int .i64 d, .int .i64 c, .int .i64 b0, .int .i64 b1, .int .i64 b2, .list true [.int .i64, .list false [.int .u64]] ts])] =
  (cond (decide (k < 0))
  (some ((.bool true), [[(.int .i64 d), (.int .i64 c), (.int .i64 b0), (.int .i64 b1), (.int .i64 b2), (.list true [(.int .i64), (.list false [(.int .u64)])] ts)]]))
  (cond (decide (k ≥ c))
    (some ((.bool true), [[(.int .i64 d), (.int .i64 c), (.int .i64 b0), (.int .i64 b1), (.int .i64 b2), (.list true [(.int .i64), (.list false [(.int .u64)])] ts)]]))
    (some ((.bool (!treeB l d)), [[(.int .i64 d), (.int .i64 c), (.int .i64 b0), (.int .i64 b1), (.int .i64 b2), (.list true [(.int .i64), (.list false [(.int .u64)])] ts)]])))) := by kernel_rfl

/-! ### slices.IndexFunc<<>copse/api.Tree,copse/api.Tree> -/
def E_slices_IndexFunc_apiTreeapiTree (N : Nat) : Env := mkE [(48, S_model_Right_1)] [(2, ⟨[0, 1, 4, 7, 8], [900000], []⟩)] 19 N

theorem nf_slices_IndexFunc_apiTreeapiTree (N : Nat) (l : List IV) (d : Int) (c : Int) (b0 : Int) (b1 : Int) (b2 : Int) (ts : List IV) : evFun (E_slices_IndexFunc_apiTreeapiTree N) c_slices_IndexFunc_apiTreeapiTree [.tmp 4] [[.int .i64]] [(.list true [.int .i64, .list false [.int .u64]] l), (.clo 48 [.bor [.int .i64 d, .int .i64 c, .int .i64 b0, .int .i64 b1, .int .i64 b2, .list true [.int .i64, .list false [.int .u64]] ts]])] =
  (lpE (E_slices_IndexFunc_apiTreeapiTree N) (subC c_slices_IndexFunc_apiTreeapiTree [1, 0, 1, 0, 0]) ⟨[0, 1, 4, 7, 8], [900000], []⟩ N ⟨[(0, (.list true [(.int .i64), (.list false [(.int .u64)])] l)), (1, (.clo 48 [(.ptr 900000 0 0)])), (4, (.int .i64 0)), (7, (.int .i64 (ic (List.length l)))), (8, (.int .i64 0))], [(900000, (some (.box [(.int .i64 d), (.int .i64 c), (.int .i64 b0), (.int .i64 b1), (.int .i64 b2), (.list true [(.int .i64), (.list false [(.int .u64)])] ts)])))]⟩ (kBlock 0 (kSq (E_slices_IndexFunc_apiTreeapiTree N) (subC c_slices_IndexFunc_apiTreeapiTree [1, 1]) (outT (E_slices_IndexFunc_apiTreeapiTree N) (some [(.int .i64 d), (.int .i64 c), (.int .i64 b0), (.int .i64 b1), (.int .i64 b2), (.list true [(.int .i64), (.list false [(.int .u64)])] ts)]) [(ResultVar.tmp 4)] [[(.int .i64)]])))) := by kernel_rfl

theorem st_slices_IndexFunc_apiTreeapiTree_1 (N : Nat) (l0 : List IV) (x4 : Int) (x7 : Int) (x8 : Int) (xo900000_0 : Int) (xo900000_1 : Int) (xo900000_2 : Int) (xo900000_3 : Int) (xo900000_4 : Int) (lo900000_5 : List IV) (again : St → Res) (k : Out → St → Res) : rnd (E_slices_IndexFunc_apiTreeapiTree N) (subC c_slices_IndexFunc_apiTreeapiTree [1, 0, 1, 0, 0])
    ⟨[(0, (.list true [(.int .i64), (.list false [(.int .u64)])] l0)), (1, (.clo 48 [(.ptr 900000 0 0)])), (4, (.int .i64 x4)), (7, (.int .i64 x7)), (8, (.int .i64 x8))], [(900000, (some (.box [(.int .i64 xo900000_0), (.int .i64 xo900000_1), (.int .i64 xo900000_2), (.int .i64 xo900000_3), (.int .i64 xo900000_4), (.list true [(.int .i64), (.list false [(.int .u64)])] lo900000_5)])))]⟩
    (kLoop again ⟨[0, 1, 4, 7, 8], [900000], []⟩ k) =
  (cond (decide (x8 < x7))
  (cond (decide (0 ≤ x8) && decide (x8 < ic (List.length l0)))
    (cond (!treeOK xo900000_0 xo900000_1 (IV.agg [IV.int (IV.toInt (IV.cell (List.getD l0 (Int.toNat x8) default) 0)), IV.list (IV.toList (IV.cell (List.getD l0 (Int.toNat x8) default) 1))]))
      (k .ret ⟨[(0, (.list true [(.int .i64), (.list false [(.int .u64)])] l0)), (1, (.clo 48 [(.ptr 900000 0 0)])), (4, (.int .i64 x8)), (7, (.int .i64 x7)), (8, (.int .i64 x8))], [(900000, (some (.box [(.int .i64 xo900000_0), (.int .i64 xo900000_1), (.int .i64 xo900000_2), (.int .i64 xo900000_3), (.int .i64 xo900000_4), (.list true [(.int .i64), (.list false [(.int .u64)])] lo900000_5)])))]⟩)
      (again ⟨[(0, (.list true [(.int .i64), (.list false [(.int .u64)])] l0)), (1, (.clo 48 [(.ptr 900000 0 0)])), (4, (.int .i64 x4)), (7, (.int .i64 x7)), (8, (.int .i64 (IntKind.wrap IntKind.i64 (x8 + 1))))], [(900000, (some (.box [(.int .i64 xo900000_0), (.int .i64 xo900000_1), (.int .i64 xo900000_2), (.int .i64 xo900000_3), (.int .i64 xo900000_4), (.list true [(.int .i64), (.list false [(.int .u64)])] lo900000_5)])))]⟩))
    none)
  (k (.exit 0) ⟨[(0, (.list true [(.int .i64), (.list false [(.int .u64)])] l0)), (1, (.clo 48 [(.ptr 900000 0 0)])), (4, (.int .i64 x4)), (7, (.int .i64 x7)), (8, (.int .i64 x8))], [(900000, (some (.box [(.int .i64 xo900000_0), (.int .i64 xo900000_1), (.int .i64 xo900000_2), (.int .i64 xo900000_3), (.int .i64 xo900000_4), (.list true [(.int .i64), (.list false [(.int .u64)])] lo900000_5)])))]⟩)) := by kernel_rfl

theorem ex_slices_IndexFunc_apiTreeapiTree_1_1 (N : Nat) (d : Int) (c : Int) (b0 : Int) (b1 : Int) (b2 : Int) (ts : List IV) (l0 : List IV) (x4 : Int) (x7 : Int) (x8 : Int) (xo900000_0 : Int) (xo900000_1 : Int) (xo900000_2 : Int) (xo900000_3 : Int) (xo900000_4 : Int) (lo900000_5 : List IV) : (kBlock 0 (kSq (E_slices_IndexFunc_apiTreeapiTree N) (subC c_slices_IndexFunc_apiTreeapiTree [1, 1]) (outT (E_slices_IndexFunc_apiTreeapiTree N) (some [(.int .i64 d), (.int .i64 c), (.int .i64 b0), (.int .i64 b1), (.int .i64 b2), (.list true [(.int .i64), (.list false [(.int .u64)])] ts)]) [(ResultVar.tmp 4)] [[(.int .i64)]]))) (.exit 0)
    ⟨[(0, (.list true [(.int .i64), (.list false [(.int .u64)])] l0)), (1, (.clo 48 [(.ptr 900000 0 0)])), (4, (.int .i64 x4)), (7, (.int .i64 x7)), (8, (.int .i64 x8))], [(900000, (some (.box [(.int .i64 xo900000_0), (.int .i64 xo900000_1), (.int .i64 xo900000_2), (.int .i64 xo900000_3), (.int .i64 xo900000_4), (.list true [(.int .i64), (.list false [(.int .u64)])] lo900000_5)])))]⟩ =
  (some ((.int .i64 (-1)), [[(.int .i64 xo900000_0), (.int .i64 xo900000_1), (.int .i64 xo900000_2), (.int .i64 xo900000_3), (.int .i64 xo900000_4), (.list true [(.int .i64), (.list false [(.int .u64)])] lo900000_5)]])) := by kernel_rfl

theorem ex_slices_IndexFunc_apiTreeapiTree_1_2 (N : Nat) (d : Int) (c : Int) (b0 : Int) (b1 : Int) (b2 : Int) (ts : List IV) (l0 : List IV) (x4 : Int) (x7 : Int) (x8 : Int) (xo900000_0 : Int) (xo900000_1 : Int) (xo900000_2 : Int) (xo900000_3 : Int) (xo900000_4 : Int) (lo900000_5 : List IV) : (kBlock 0 (kSq (E_slices_IndexFunc_apiTreeapiTree N) (subC c_slices_IndexFunc_apiTreeapiTree [1, 1]) (outT (E_slices_IndexFunc_apiTreeapiTree N) (some [(.int .i64 d), (.int .i64 c), (.int .i64 b0), (.int .i64 b1), (.int .i64 b2), (.list true [(.int .i64), (.list false [(.int .u64)])] ts)]) [(ResultVar.tmp 4)] [[(.int .i64)]]))) .ret
    ⟨[(0, (.list true [(.int .i64), (.list false [(.int .u64)])] l0)), (1, (.clo 48 [(.ptr 900000 0 0)])), (4, (.int .i64 x4)), (7, (.int .i64 x7)), (8, (.int .i64 x8))], [(900000, (some (.box [(.int .i64 xo900000_0), (.int .i64 xo900000_1), (.int .i64 xo900000_2), (.int .i64 xo900000_3), (.int .i64 xo900000_4), (.list true [(.int .i64), (.list false [(.int .u64)])] lo900000_5)])))]⟩ =
  (some ((.int .i64 x4), [[(.int .i64 xo900000_0), (.int .i64 xo900000_1), (.int .i64 xo900000_2), (.int .i64 xo900000_3), (.int .i64 xo900000_4), (.list true [(.int .i64), (.list false [(.int .u64)])] lo900000_5)]])) := by kernel_rfl

/-! ### slices.ContainsFunc<<>copse/api.Tree,copse/api.Tree> -/
def E_slices_ContainsFunc_apiTreeapiTree (N : Nat) : Env := mkE [(76, S_slices_IndexFunc_apiTreeapiTree)] [] 9 N

theorem nf_slices_ContainsFunc_apiTreeapiTree (N : Nat) (l : List IV) (d : Int) (c : Int) (b0 : Int) (b1 : Int) (b2 : Int) (ts : List IV) : evFun (E_slices_ContainsFunc_apiTreeapiTree N) c_slices_ContainsFunc_apiTreeapiTree [.tmp 4] [[.bool]] [(.list true [.int .i64, .list false [.int .u64]] l), (.clo 48 [.bor [.int .i64 d, .int .i64 c, .int .i64 b0, .int .i64 b1, .int .i64 b2, .list true [.int .i64, .list false [.int .u64]] ts]])] =
  (some ((.bool (decide (idxBad d c l 0 ≥ 0))), [[(.int .i64 d), (.int .i64 c), (.int .i64 b0), (.int .i64 b1), (.int .i64 b2), (.list true [(.int .i64), (.list false [(.int .u64)])] ts)]])) := by kernel_rfl

/-! ### copse/model.Right -/
def E_model_Right (N : Nat) : Env := mkE [(46, S_bits_Fits), (48, S_model_Right_1), (47, S_slices_ContainsFunc_apiTreeapiTree)] [(4, ⟨[1, 2, 30, 31], [1, 53005], []⟩)] 54 N

theorem nf_model_Right (N : Nat) (m_Dim : Int) (m_Classes : Int) (m_Bias_0 : Int) (m_Bias_1 : Int) (m_Bias_2 : Int) (m_Trees : List IV) : evFun (E_model_Right N) c_model_Right [.tmp 2] [[.bool]] [(.agg [(.int .i64 m_Dim), (.int .i64 m_Classes), (.int .i64 m_Bias_0), (.int .i64 m_Bias_1), (.int .i64 m_Bias_2), (.list true [.int .i64, .list false [.int .u64]] m_Trees)])] =
  (cond (decide (m_Dim < 1))
  (some ((.bool false), []))
  (cond (decide (m_Dim > 4))
    (some ((.bool false), []))
    (cond (decide (m_Classes < 1))
      (some ((.bool false), []))
      (cond (decide (m_Classes > 3))
        (some ((.bool false), []))
        (cond (decide (ic (List.length m_Trees) > 8))
          (some ((.bool false), []))
          (lpE (E_model_Right N) (subC c_model_Right [1, 1, 0, 1, 0, 0]) ⟨[1, 2, 30, 31], [1, 53005], []⟩ N ⟨[(1, (.ptr 1 0 0)), (2, (.bool false)), (30, (.agg [(.int .i64 m_Bias_0), (.int .i64 m_Bias_1), (.int .i64 m_Bias_2)])), (31, (.int .i64 0))], [(1, (some (.box [(.int .i64 m_Dim), (.int .i64 m_Classes), (.int .i64 m_Bias_0), (.int .i64 m_Bias_1), (.int .i64 m_Bias_2), (.list true [(.int .i64), (.list false [(.int .u64)])] m_Trees)]))), (53005, none)]⟩ (kBlock 0 (kSq (E_model_Right N) (subC c_model_Right [1, 1, 1]) (outT (E_model_Right N) none [(ResultVar.tmp 2)] [[.bool]]))))))))) := by kernel_rfl

theorem st_model_Right_1 (N : Nat) (b2 : Bool) (x30_0 : Int) (x30_1 : Int) (x30_2 : Int) (x31 : Int) (xo1_0 : Int) (xo1_1 : Int) (xo1_2 : Int) (xo1_3 : Int) (xo1_4 : Int) (lo1_5 : List IV) (again : St → Res) (k : Out → St → Res) : rnd (E_model_Right N) (subC c_model_Right [1, 1, 0, 1, 0, 0])
    ⟨[(1, (.ptr 1 0 0)), (2, (.bool b2)), (30, (.agg [(.int .i64 x30_0), (.int .i64 x30_1), (.int .i64 x30_2)])), (31, (.int .i64 x31))], [(1, (some (.box [(.int .i64 xo1_0), (.int .i64 xo1_1), (.int .i64 xo1_2), (.int .i64 xo1_3), (.int .i64 xo1_4), (.list true [(.int .i64), (.list false [(.int .u64)])] lo1_5)]))), (53005, none)]⟩
    (kLoop again ⟨[1, 2, 30, 31], [1, 53005], []⟩ k) =
  (cond (decide (x31 < 3))
  (cond (decide (x31 = ic 0))
    (cond (!fits32 x30_0)
      (k .ret ⟨[(1, (.ptr 1 0 0)), (2, (.bool false)), (30, (.agg [(.int .i64 x30_0), (.int .i64 x30_1), (.int .i64 x30_2)])), (31, (.int .i64 x31))], [(1, (some (.box [(.int .i64 xo1_0), (.int .i64 xo1_1), (.int .i64 xo1_2), (.int .i64 xo1_3), (.int .i64 xo1_4), (.list true [(.int .i64), (.list false [(.int .u64)])] lo1_5)]))), (53005, none)]⟩)
      (cond (decide (x31 ≥ xo1_1))
        (cond (x30_0 != 0)
          (k .ret ⟨[(1, (.ptr 1 0 0)), (2, (.bool false)), (30, (.agg [(.int .i64 x30_0), (.int .i64 x30_1), (.int .i64 x30_2)])), (31, (.int .i64 x31))], [(1, (some (.box [(.int .i64 xo1_0), (.int .i64 xo1_1), (.int .i64 xo1_2), (.int .i64 xo1_3), (.int .i64 xo1_4), (.list true [(.int .i64), (.list false [(.int .u64)])] lo1_5)]))), (53005, none)]⟩)
          (again ⟨[(1, (.ptr 1 0 0)), (2, (.bool b2)), (30, (.agg [(.int .i64 x30_0), (.int .i64 x30_1), (.int .i64 x30_2)])), (31, (.int .i64 (IntKind.wrap IntKind.i64 (x31 + 1))))], [(1, (some (.box [(.int .i64 xo1_0), (.int .i64 xo1_1), (.int .i64 xo1_2), (.int .i64 xo1_3), (.int .i64 xo1_4), (.list true [(.int .i64), (.list false [(.int .u64)])] lo1_5)]))), (53005, none)]⟩))
        (again ⟨[(1, (.ptr 1 0 0)), (2, (.bool b2)), (30, (.agg [(.int .i64 x30_0), (.int .i64 x30_1), (.int .i64 x30_2)])), (31, (.int .i64 (IntKind.wrap IntKind.i64 (x31 + 1))))], [(1, (some (.box [(.int .i64 xo1_0), (.int .i64 xo1_1), (.int .i64 xo1_2), (.int .i64 xo1_3), (.int .i64 xo1_4), (.list true [(.int .i64), (.list false [(.int .u64)])] lo1_5)]))), (53005, none)]⟩)))
    (cond (decide (x31 = ic 1))
      (cond (!fits32 x30_1)
        (k .ret ⟨[(1, (.ptr 1 0 0)), (2, (.bool false)), (30, (.agg [(.int .i64 x30_0), (.int .i64 x30_1), (.int .i64 x30_2)])), (31, (.int .i64 x31))], [(1, (some (.box [(.int .i64 xo1_0), (.int .i64 xo1_1), (.int .i64 xo1_2), (.int .i64 xo1_3), (.int .i64 xo1_4), (.list true [(.int .i64), (.list false [(.int .u64)])] lo1_5)]))), (53005, none)]⟩)
        (cond (decide (x31 ≥ xo1_1))
          (cond (x30_1 != 0)
            (k .ret ⟨[(1, (.ptr 1 0 0)), (2, (.bool false)), (30, (.agg [(.int .i64 x30_0), (.int .i64 x30_1), (.int .i64 x30_2)])), (31, (.int .i64 x31))], [(1, (some (.box [(.int .i64 xo1_0), (.int .i64 xo1_1), (.int .i64 xo1_2), (.int .i64 xo1_3), (.int .i64 xo1_4), (.list true [(.int .i64), (.list false [(.int .u64)])] lo1_5)]))), (53005, none)]⟩)
            (again ⟨[(1, (.ptr 1 0 0)), (2, (.bool b2)), (30, (.agg [(.int .i64 x30_0), (.int .i64 x30_1), (.int .i64 x30_2)])), (31, (.int .i64 (IntKind.wrap IntKind.i64 (x31 + 1))))], [(1, (some (.box [(.int .i64 xo1_0), (.int .i64 xo1_1), (.int .i64 xo1_2), (.int .i64 xo1_3), (.int .i64 xo1_4), (.list true [(.int .i64), (.list false [(.int .u64)])] lo1_5)]))), (53005, none)]⟩))
          (again ⟨[(1, (.ptr 1 0 0)), (2, (.bool b2)), (30, (.agg [(.int .i64 x30_0), (.int .i64 x30_1), (.int .i64 x30_2)])), (31, (.int .i64 (IntKind.wrap IntKind.i64 (x31 + 1))))], [(1, (some (.box [(.int .i64 xo1_0), (.int .i64 xo1_1), (.int .i64 xo1_2), (.int .i64 xo1_3), (.int .i64 xo1_4), (.list true [(.int .i64), (.list false [(.int .u64)])] lo1_5)]))), (53005, none)]⟩)))
      (cond (decide (x31 = ic 2))
        (cond (!fits32 x30_2)
          (k .ret ⟨[(1, (.ptr 1 0 0)), (2, (.bool false)), (30, (.agg [(.int .i64 x30_0), (.int .i64 x30_1), (.int .i64 x30_2)])), (31, (.int .i64 x31))], [(1, (some (.box [(.int .i64 xo1_0), (.int .i64 xo1_1), (.int .i64 xo1_2), (.int .i64 xo1_3), (.int .i64 xo1_4), (.list true [(.int .i64), (.list false [(.int .u64)])] lo1_5)]))), (53005, none)]⟩)
          (cond (decide (x31 ≥ xo1_1))
            (cond (x30_2 != 0)
              (k .ret ⟨[(1, (.ptr 1 0 0)), (2, (.bool false)), (30, (.agg [(.int .i64 x30_0), (.int .i64 x30_1), (.int .i64 x30_2)])), (31, (.int .i64 x31))], [(1, (some (.box [(.int .i64 xo1_0), (.int .i64 xo1_1), (.int .i64 xo1_2), (.int .i64 xo1_3), (.int .i64 xo1_4), (.list true [(.int .i64), (.list false [(.int .u64)])] lo1_5)]))), (53005, none)]⟩)
              (again ⟨[(1, (.ptr 1 0 0)), (2, (.bool b2)), (30, (.agg [(.int .i64 x30_0), (.int .i64 x30_1), (.int .i64 x30_2)])), (31, (.int .i64 (IntKind.wrap IntKind.i64 (x31 + 1))))], [(1, (some (.box [(.int .i64 xo1_0), (.int .i64 xo1_1), (.int .i64 xo1_2), (.int .i64 xo1_3), (.int .i64 xo1_4), (.list true [(.int .i64), (.list false [(.int .u64)])] lo1_5)]))), (53005, none)]⟩))
            (again ⟨[(1, (.ptr 1 0 0)), (2, (.bool b2)), (30, (.agg [(.int .i64 x30_0), (.int .i64 x30_1), (.int .i64 x30_2)])), (31, (.int .i64 (IntKind.wrap IntKind.i64 (x31 + 1))))], [(1, (some (.box [(.int .i64 xo1_0), (.int .i64 xo1_1), (.int .i64 xo1_2), (.int .i64 xo1_3), (.int .i64 xo1_4), (.list true [(.int .i64), (.list false [(.int .u64)])] lo1_5)]))), (53005, none)]⟩)))
        none)))
  (k (.exit 0) ⟨[(1, (.ptr 1 0 0)), (2, (.bool b2)), (30, (.agg [(.int .i64 x30_0), (.int .i64 x30_1), (.int .i64 x30_2)])), (31, (.int .i64 x31))], [(1, (some (.box [(.int .i64 xo1_0), (.int .i64 xo1_1), (.int .i64 xo1_2), (.int .i64 xo1_3), (.int .i64 xo1_4), (.list true [(.int .i64), (.list false [(.int .u64)])] lo1_5)]))), (53005, none)]⟩)) := by kernel_rfl

theorem ex_model_Right_1_1 (N : Nat) (b2 : Bool) (x30_0 : Int) (x30_1 : Int) (x30_2 : Int) (x31 : Int) (xo1_0 : Int) (xo1_1 : Int) (xo1_2 : Int) (xo1_3 : Int) (xo1_4 : Int) (lo1_5 : List IV) : (kBlock 0 (kSq (E_model_Right N) (subC c_model_Right [1, 1, 1]) (outT (E_model_Right N) none [(ResultVar.tmp 2)] [[.bool]]))) (.exit 0)
    ⟨[(1, (.ptr 1 0 0)), (2, (.bool b2)), (30, (.agg [(.int .i64 x30_0), (.int .i64 x30_1), (.int .i64 x30_2)])), (31, (.int .i64 x31))], [(1, (some (.box [(.int .i64 xo1_0), (.int .i64 xo1_1), (.int .i64 xo1_2), (.int .i64 xo1_3), (.int .i64 xo1_4), (.list true [(.int .i64), (.list false [(.int .u64)])] lo1_5)]))), (53005, none)]⟩ =
  (some ((.bool (!!List.all lo1_5 (treeOK xo1_0 xo1_1))), [])) := by kernel_rfl

theorem ex_model_Right_1_2 (N : Nat) (b2 : Bool) (x30_0 : Int) (x30_1 : Int) (x30_2 : Int) (x31 : Int) (xo1_0 : Int) (xo1_1 : Int) (xo1_2 : Int) (xo1_3 : Int) (xo1_4 : Int) (lo1_5 : List IV) : (kBlock 0 (kSq (E_model_Right N) (subC c_model_Right [1, 1, 1]) (outT (E_model_Right N) none [(ResultVar.tmp 2)] [[.bool]]))) .ret
    ⟨[(1, (.ptr 1 0 0)), (2, (.bool b2)), (30, (.agg [(.int .i64 x30_0), (.int .i64 x30_1), (.int .i64 x30_2)])), (31, (.int .i64 x31))], [(1, (some (.box [(.int .i64 xo1_0), (.int .i64 xo1_1), (.int .i64 xo1_2), (.int .i64 xo1_3), (.int .i64 xo1_4), (.list true [(.int .i64), (.list false [(.int .u64)])] lo1_5)]))), (53005, none)]⟩ =
  (some ((.bool b2), [])) := by kernel_rfl

end Go.FM

/-
  bits' AND node's FUNCTIONS COME TO WHAT IS SAID.
-/
namespace Go.FM
open Go Go.Proofs

theorem u64_id {n : Int} (h0 : 0 ≤ n) (h1 : n < 18446744073709551616) : IntKind.wrap IntKind.u64 n = n := by
  rw [u64_wrap]
  omega

set_option maxRecDepth 100000 in
theorem snd_bits_Fits : SndR PR B0 46 S_bits_Fits := by
  refine snd_mk [] [] S_bits_Fits [[.bool]] Tryz.func46 h_bits_Fits trivial ?_
  intro vs r hwf h
  unfold S_bits_Fits at h
  split at h
  · rename_i n w
    cases hc : decide (w = 32) with
    | false => rw [hc] at h; simp [R.get] at h
    | true =>
      rw [hc, R.get_br, condT, R.get_ok] at h
      have hc := of_decide_eq_true hc
      subst hc
      refine ⟨0, ?_⟩
      rw [← h]
      refine (nf_bits_Fits 0 n 32).trans ?_
      have e3 : decide (IntKind.wrap IntKind.u64 (IntKind.wrap IntKind.i64 ((32 : Int) - 1)) < 0) = false := by kernel_rfl
      have e4 : (2 : Int) ^ min (Int.toNat (IntKind.wrap IntKind.u64 (IntKind.wrap IntKind.i64 ((32 : Int) - 1)))) (IntKind.bits IntKind.i64) = 2147483648 := by kernel_rfl
      rw [e3, e4, decide_eq_false (show ¬ (32 : Int) < 1 by omega), decide_eq_false (show ¬ (32 : Int) > 64 by omega), condF, condF, condF, condF]
      have h0 := Int.fdiv_mul_add_fmod n 2147483648
      have h1 := Int.fmod_nonneg_of_pos n (show (0 : Int) < 2147483648 by omega)
      have h2 := Int.fmod_lt_of_pos n (show (0 : Int) < 2147483648 by omega)
      generalize Int.fdiv n 2147483648 = q at h0 ⊢
      generalize Int.fmod n 2147483648 = m at h0 h1 h2
      unfold fits32
      rw [beq_dec, beq_dec]
      cases hq : decide (q = 0) with
      | true =>
        have hq := of_decide_eq_true hq
        rw [decide_eq_true (show -2147483648 ≤ n by omega), decide_eq_true (show n ≤ 2147483647 by omega)]
        rfl
      | false =>
        have hq := of_decide_eq_false hq
        cases hp : decide (q = -1) with
        | true =>
          have hp := of_decide_eq_true hp
          rw [decide_eq_true (show -2147483648 ≤ n by omega), decide_eq_true (show n ≤ 2147483647 by omega)]
          rfl
        | false =>
          have hp := of_decide_eq_false hp
          rw [condF]
          congr 3
          symm
          rw [Bool.and_eq_false_iff, decide_eq_false_iff_not, decide_eq_false_iff_not]
          omega
  · simp [R.get] at h

set_option maxRecDepth 100000 in
theorem snd_bits_Wrap : SndR PR B0 88 S_bits_Wrap := by
  refine snd_mk [] [] S_bits_Wrap [[.int .i64]] Tryz.func88 h_bits_Wrap trivial ?_
  intro vs r hwf h
  unfold S_bits_Wrap at h
  split at h
  · rename_i n w
    cases hc : decide (w = 32) with
    | false => rw [hc] at h; simp [R.get] at h
    | true =>
      rw [hc, R.get_br, condT, R.get_ok] at h
      have hc := of_decide_eq_true hc
      subst hc
      refine ⟨0, ?_⟩
      rw [← h]
      refine (nf_bits_Wrap 0 n 32).trans ?_
      have e3 : decide (IntKind.wrap IntKind.u64 (IntKind.wrap IntKind.i64 ((64 : Int) - 32)) < 0) = false := by kernel_rfl
      have e4 : min (Int.toNat (IntKind.wrap IntKind.u64 (IntKind.wrap IntKind.i64 ((64 : Int) - 32)))) (IntKind.bits IntKind.i64) = 32 := by kernel_rfl
      rw [e3, e4, decide_eq_false (show ¬ (32 : Int) < 1 by omega), decide_eq_false (show ¬ (32 : Int) ≥ 64 by omega), condF, condF, condF, condF]
      rfl
  · simp [R.get] at h

set_option maxRecDepth 100000 in
theorem snd_bits_field : SndR PR B0 89 S_bits_field := by
  refine snd_mk [] [] S_bits_field [[.bool]] Tryz.func89 h_bits_field trivial ?_
  intro vs r hwf h
  unfold S_bits_field at h
  split at h
  · rename_i a w
    cases hc : (decide (0 ≤ a) && decide (a < 64)) with
    | false => rw [hc] at h; simp [R.get] at h
    | true =>
      rw [hc, R.get_br, condT, R.get_ok] at h
      rw [Bool.and_eq_true, decide_eq_true_eq, decide_eq_true_eq] at hc
      refine ⟨0, ?_⟩
      rw [← h]
      refine (nf_bits_field 0 a w).trans ?_
      have e : IntKind.wrap IntKind.i64 (64 - a) = 64 - a := wrap_id (by omega) (by omega)
      have e1 : decide (w ≥ 1) = decide (1 ≤ w) := rfl
      rw [decide_eq_true (show a ≥ 0 by omega), decide_eq_true hc.2, condT, condT, e, e1]
      cases decide (1 ≤ w) <;> rfl
  · simp [R.get] at h

set_option maxRecDepth 100000 in
theorem snd_bits_mask : SndR PR B0 90 S_bits_mask := by
  refine snd_mk [] [] S_bits_mask [[.int .u64]] Tryz.func90 h_bits_mask trivial ?_
  intro vs r hwf h
  unfold S_bits_mask at h
  split at h
  · rename_i w
    cases hc : (decide (1 ≤ w) && decide (w ≤ 64)) with
    | false => rw [hc] at h; simp [R.get] at h
    | true =>
      rw [hc, R.get_br, condT, R.get_ok] at h
      rw [Bool.and_eq_true, decide_eq_true_eq, decide_eq_true_eq] at hc
      refine ⟨0, ?_⟩
      rw [← h]
      refine (nf_bits_mask 0 w).trans ?_
      have e : IntKind.wrap IntKind.i64 (64 - w) = 64 - w := wrap_id (by omega) (by omega)
      have e2 : IntKind.wrap IntKind.u64 (64 - w) = 64 - w := u64_id (by omega) (by omega)
      have e3 : min (64 - w).toNat (IntKind.bits IntKind.u64) = (64 - w).toNat := by
        have : IntKind.bits IntKind.u64 = 64 := rfl
        omega
      rw [e, e2, e3, decide_eq_false (show ¬ (64 - w < 0) by omega), condF]
      rfl
  · simp [R.get] at h

theorem field_get {a w : Int} (hc : (decide (0 ≤ a) && (decide (a < 64) && (decide (1 ≤ w) && decide (w ≤ 64 - a)))) = true) : 0 ≤ a ∧ a < 64 ∧ 1 ≤ w ∧ w ≤ 64 - a := by
  simpa only [Bool.and_eq_true, decide_eq_true_eq] using hc

set_option maxRecDepth 100000 in
theorem snd_bits_Put : SndR PR B0 75 S_bits_Put := by
  refine snd_mk [(89, S_bits_field), (90, S_bits_mask)] [] S_bits_Put [[.int .u64]] Tryz.func75 h_bits_Put ⟨snd_bits_field, snd_bits_mask, trivial⟩ ?_
  intro vs r hwf h
  unfold S_bits_Put at h
  split at h
  · rename_i x a w y
    cases hc : (decide (0 ≤ a) && (decide (a < 64) && (decide (1 ≤ w) && decide (w ≤ 64 - a)))) with
    | false => rw [hc] at h; simp [R.get] at h
    | true =>
      rw [hc, R.get_br, condT, R.get_ok] at h
      obtain ⟨h1, h2, h3, h4⟩ := field_get hc
      refine ⟨0, ?_⟩
      rw [← h]
      refine (nf_bits_Put 0 x a w y).trans ?_
      have e2 : IntKind.wrap IntKind.u64 a = a := u64_id (by omega) (by omega)
      have e3 : min a.toNat (IntKind.bits IntKind.u64) = a.toNat := by
        have : IntKind.bits IntKind.u64 = 64 := rfl
        omega
      rw [e2, e3, decide_eq_true h1, decide_eq_true h2, decide_eq_true h3, decide_eq_true h4, decide_eq_true (show w ≤ 64 by omega), decide_eq_false (show ¬ a < 0 by omega)]
      simp only [Bool.and_self, Bool.not_true, condT, condF]
      rfl
  · simp [R.get] at h

set_option maxRecDepth 100000 in
theorem snd_bits_Get : SndR PR B0 59 S_bits_Get := by
  refine snd_mk [(89, S_bits_field), (90, S_bits_mask)] [] S_bits_Get [[.int .u64]] Tryz.func59 h_bits_Get ⟨snd_bits_field, snd_bits_mask, trivial⟩ ?_
  intro vs r hwf h
  unfold S_bits_Get at h
  split at h
  · rename_i x a w
    cases hc : (decide (0 ≤ a) && (decide (a < 64) && (decide (1 ≤ w) && decide (w ≤ 64 - a)))) with
    | false => rw [hc] at h; simp [R.get] at h
    | true =>
      rw [hc, R.get_br, condT, R.get_ok] at h
      obtain ⟨h1, h2, h3, h4⟩ := field_get hc
      refine ⟨0, ?_⟩
      rw [← h]
      refine (nf_bits_Get 0 x a w).trans ?_
      have e2 : IntKind.wrap IntKind.u64 a = a := u64_id (by omega) (by omega)
      have e3 : min a.toNat (IntKind.bits IntKind.u64) = a.toNat := by
        have : IntKind.bits IntKind.u64 = 64 := rfl
        omega
      rw [e2, e3, decide_eq_true h1, decide_eq_true h2, decide_eq_true h3, decide_eq_true h4, decide_eq_true (show w ≤ 64 by omega), decide_eq_false (show ¬ a < 0 by omega)]
      simp only [Bool.and_self, Bool.not_true, condT, condF]
      rfl
  · simp [R.get] at h

set_option maxRecDepth 100000 in
theorem snd_bits_Signed : SndR PR B0 58 S_bits_Signed := by
  refine snd_mk [(59, S_bits_Get), (88, S_bits_Wrap)] [] S_bits_Signed [[.int .i64]] Tryz.func58 h_bits_Signed ⟨snd_bits_Get, snd_bits_Wrap, trivial⟩ ?_
  intro vs r hwf h
  unfold S_bits_Signed at h
  split at h
  · rename_i x a w
    cases hc : (decide (a = 0) && decide (w = 32)) with
    | false => rw [hc] at h; simp [R.get] at h
    | true =>
      rw [hc, R.get_br, condT, R.get_ok] at h
      rw [Bool.and_eq_true, decide_eq_true_eq, decide_eq_true_eq] at hc
      obtain ⟨rfl, rfl⟩ := hc
      refine ⟨0, ?_⟩
      rw [← h]
      refine (nf_bits_Signed 0 x 0 32).trans ?_
      rfl
  · simp [R.get] at h

set_option maxRecDepth 100000 in
theorem snd_node_child : SndR PR B0 103 S_node_child := by
  refine snd_mk [] [] S_node_child [[.bool]] Tryz.func103 h_node_child trivial ?_
  intro vs r hwf h
  unfold S_node_child at h
  split at h
  · rename_i n
    refine ⟨0, ?_⟩
    rw [R.get_ok] at h
    rw [← h]
    refine (nf_node_child 0 n).trans ?_
    unfold childB
    have e1 : decide (n ≥ 1) = decide (1 ≤ n) := rfl
    rw [e1]
    cases decide (1 ≤ n) <;> rfl
  · simp [R.get] at h

set_option maxRecDepth 100000 in
theorem snd_node_Right : SndR PR B0 74 S_node_Right := by
  refine snd_mk [(46, S_bits_Fits), (103, S_node_child)] [] S_node_Right [[.bool]] Tryz.func74 h_node_Right ⟨snd_bits_Fits, snd_node_child, trivial⟩ ?_
  intro vs r hwf h
  unfold S_node_Right at h
  split at h
  · rename_i lf v f a l r'
    refine ⟨0, ?_⟩
    rw [← h]
    refine (nf_node_Right 0 lf v f a l r').trans ?_
    simp only [R.get_ok, cond_andb]
    unfold rightNd
    cases lf with
    | true => rfl
    | false => rfl
  · simp [R.get] at h

set_option maxRecDepth 100000 in
theorem snd_node_Pack : SndR PR B0 45 S_node_Pack := by
  refine snd_mk [(75, S_bits_Put), (74, S_node_Right)] [] S_node_Pack [[.int .u64]] Tryz.func45 h_node_Pack ⟨snd_bits_Put, snd_node_Right, trivial⟩ ?_
  intro vs r hwf h
  unfold S_node_Pack at h
  split at h
  · rename_i lf v f a l r'
    refine ⟨0, ?_⟩
    rw [← h]
    refine (nf_node_Pack 0 lf v f a l r').trans ?_
    unfold packNd
    cases rightNd ⟨lf, v, f, a, l, r'⟩ with
    | false => rfl
    | true => cases lf <;> rfl
  · simp [R.get] at h

set_option maxRecDepth 100000 in
theorem snd_node_Unpack_1 : SndR PR B0 60 S_node_Unpack_1 := by
  refine snd_mk [(59, S_bits_Get)] [] S_node_Unpack_1 [[.int .i64]] Tryz.func60 h_node_Unpack_1 ⟨snd_bits_Get, trivial⟩ ?_
  intro vs r hwf h
  unfold S_node_Unpack_1 at h
  split at h
  · rename_i a w x
    cases hc : (decide (0 ≤ a) && (decide (a < 64) && (decide (1 ≤ w) && decide (w ≤ 64 - a)))) with
    | false => rw [hc] at h; simp [R.get] at h
    | true =>
      rw [hc, R.get_br, condT, R.get_ok] at h
      refine ⟨0, ?_⟩
      rw [← h]
      refine (nf_node_Unpack_1 0 a w x).trans ?_
      rw [hc]
      rfl
  · simp [R.get] at h

set_option maxRecDepth 100000 in
theorem snd_node_Unpack : SndR PR B0 29 S_node_Unpack := by
  refine snd_mk [(59, S_bits_Get), (58, S_bits_Signed), (45, S_node_Pack), (60, S_node_Unpack_1)] [] S_node_Unpack [[.bool, .int .i64, .int .i64, .int .i64, .int .i64, .int .i64], [.bool]] Tryz.func29 h_node_Unpack ⟨snd_bits_Get, snd_bits_Signed, snd_node_Pack, snd_node_Unpack_1, trivial⟩ ?_
  intro vs r hwf h
  unfold S_node_Unpack at h
  split at h
  · rename_i w
    refine ⟨0, ?_⟩
    rw [← h]
    refine (nf_node_Unpack 0 w).trans ?_
    rw [R.get_ok]
    unfold nodeN nodeB readNd
    cases (getZ w 63 1 == 0) with
    | true =>
      simp only [cond_true]
      cases hw : (w == 0) with
      | true => rfl
      | false =>
        simp only [cond_false, Bool.not_false, Bool.true_and]
        have e : (packNd ⟨false, 0, i64w (getZ w 32 4), signZ w, i64w (getZ w 40 8), i64w (getZ w 48 8)⟩ != w) = !(packNd ⟨false, 0, i64w (getZ w 32 4), signZ w, i64w (getZ w 40 8), i64w (getZ w 48 8)⟩ == w) := rfl
        rw [e]
        cases (packNd ⟨false, 0, i64w (getZ w 32 4), signZ w, i64w (getZ w 40 8), i64w (getZ w 48 8)⟩ == w) <;> rfl
    | false =>
      simp only [cond_false]
      cases hw : (w == 0) with
      | true => rfl
      | false =>
        simp only [cond_false, Bool.not_false, Bool.true_and]
        have e : (packNd ⟨true, signZ w, 0, 0, 0, 0⟩ != w) = !(packNd ⟨true, signZ w, 0, 0, 0, 0⟩ == w) := rfl
        rw [e]
        cases (packNd ⟨true, signZ w, 0, 0, 0, 0⟩ == w) <;> rfl
  · simp [R.get] at h

end Go.FM

/-
  tree's AND model's 'Right' COME TO WHAT IS SAID.
-/
namespace Go.FM
open Go Go.Proofs

/-! ### tree.Right -/
theorem named_take {l : List IV} {i : Nat} {w : IV} (h : l[i]? = some w) (j : Nat) : namedBy (l.take (i + 1)) j = namedBy (l.take i) j + named1 (nodeN w.toInt) j := by
  unfold namedBy
  rw [List.take_add_one, h]
  simp
theorem named1_le (x : Nd) (j : Nat) : named1 x j ≤ 2 := by
  unfold named1
  cases x.lf
  · simp only [cond_false]
    split <;> split <;> omega
  · simp only [cond_true]
    omega
theorem named_le : ∀ (l : List IV) (j : Nat), namedBy l j ≤ 2 * l.length
  | [], _ => Nat.le_refl _
  | w :: l, j => by
    have := named_le l j
    have := named1_le (nodeN w.toInt) j
    unfold namedBy at *
    simp only [List.map_cons, List.sum_cons, List.length_cons]
    omega
def NM (l : List IV) (i : Nat) : List IV := (List.range l.length).map fun j => IV.int (namedBy (l.take i) j : Nat)
theorem NM_len (l : List IV) (i : Nat) : (NM l i).length = l.length := by simp [NM]
theorem NM_get (l : List IV) (i : Nat) {j : Nat} (h : j < l.length) : (NM l i)[j]? = some (IV.int (namedBy (l.take i) j : Nat)) := by
  unfold NM
  rw [List.getElem?_map, List.getElem?_range h]
  rfl
theorem NM_zero (l : List IV) : NM l 0 = List.replicate l.length (IV.int 0) := by
  apply List.ext_getElem?
  intro j
  by_cases h : j < l.length
  · rw [NM_get l 0 h, List.getElem?_replicate, if_pos h]
    simp [namedBy]
  · rw [List.getElem?_eq_none (by rw [NM_len]; omega), List.getElem?_eq_none (by simp; omega)]
theorem NM_leaf {l : List IV} {i : Nat} {w : IV} (h : l[i]? = some w) (hl : (nodeN w.toInt).lf = true) : NM l (i + 1) = NM l i := by
  unfold NM
  congr 1
  funext j
  rw [named_take h]
  unfold named1
  rw [hl]
  rfl
theorem NM_fork {l : List IV} {i : Nat} {w : IV} (h : l[i]? = some w) (hl : (nodeN w.toInt).lf = false) (hn : l.length ≤ 31) {a b : Nat} (ha : (nodeN w.toInt).l = (a : Int)) (hb : (nodeN w.toInt).r = (b : Int)) (hab : a ≠ b) (al : a < l.length) (bl : b < l.length) :
    ((NM l i).set a (IV.int (IntKind.wrap IntKind.i64 (((NM l i).getD a default).toInt + 1)))).set b (IV.int (IntKind.wrap IntKind.i64 ((((NM l i).set a (IV.int (IntKind.wrap IntKind.i64 (((NM l i).getD a default).toInt + 1)))).getD b default).toInt + 1))) = NM l (i + 1) := by
  have hil : i < l.length := (List.getElem?_eq_some_iff.1 h).1
  have hsm : ∀ j, namedBy (l.take i) j ≤ 62 := fun j => by
    have := named_le (l.take i) j
    rw [List.length_take] at this
    omega
  have ga : ((NM l i).getD a default).toInt = (namedBy (l.take i) a : Nat) := by
    rw [List.getD_eq_getElem?_getD, NM_get l i al]
    rfl
  have gb : (((NM l i).set a (IV.int (IntKind.wrap IntKind.i64 (((NM l i).getD a default).toInt + 1)))).getD b default).toInt = (namedBy (l.take i) b : Nat) := by
    rw [List.getD_eq_getElem?_getD, List.getElem?_set_ne hab, NM_get l i bl]
    rfl
  rw [gb, ga, wrap_id (by omega) (by have := hsm a; omega), wrap_id (by omega) (by have := hsm b; omega)]
  apply List.ext_getElem?
  intro j
  by_cases hj : j < l.length
  · rw [NM_get l (i + 1) hj, named_take h]
    have e : named1 (nodeN w.toInt) j = (if a = j then 1 else 0) + (if b = j then 1 else 0) := by
      unfold named1
      rw [hl, ha, hb, cond_false]
      have e1 : ((a : Int) = (j : Int)) ↔ a = j := by omega
      have e2 : ((b : Int) = (j : Int)) ↔ b = j := by omega
      simp only [e1, e2]
    rw [e]
    by_cases h1 : b = j
    · subst h1
      rw [List.getElem?_set_self (by rw [List.length_set, NM_len]; exact bl), if_neg hab, if_pos rfl]
      congr 2
    · rw [List.getElem?_set_ne h1]
      by_cases h2 : a = j
      · subst h2
        rw [List.getElem?_set_self (by rw [NM_len]; exact al), if_pos rfl, if_neg h1]
        congr 2
      · rw [List.getElem?_set_ne h2, NM_get l i hj, if_neg h1, if_neg h2]
        congr 2
  · rw [List.getElem?_eq_none (by rw [List.length_set, List.length_set, NM_len]; omega), List.getElem?_eq_none (by rw [NM_len]; omega)]

abbrev xstT (l : List IV) (dim : Int) (b : Bool) (i : Int) (nm : List IV) : St :=
  ⟨[(0, (.list false [(.int .u64)] l)), (1, (.int .i64 dim)), (4, (.bool b)), (5, (.row 22 0 l.length)), (23, (.list false [(.int .u64)] l)), (24, (.int .i64 (ic l.length))), (25, (.int .i64 i))], [(22, (some (.row true 3 false [(.int .i64)] nm)))]⟩

theorem cond_ff {α : Type _} (b : Bool) (x : α) : cond b x x = x := by cases b <;> rfl

theorem tree_run (N : Nat) (l : List IV) (dim : Int) (hl : l.length ≤ 31) (K : Out → St → Res) (hK : ∀ i nm, K .ret (xstT l dim false i nm) = some (.bool false, [])) : ∀ (d i n : Nat), i + d = l.length → d < n →
    lpE (E_tree_Right N) (subC c_tree_Right [1, 1, 1, 0, 1, 0, 0]) ⟨[0, 1, 4, 5, 23, 24, 25], [22], []⟩ n (xstT l dim false (i : Int) (NM l i)) K =
      cond (nodesB dim (ic l.length) i (l.drop i)) (K (.exit 0) (xstT l dim false (ic l.length) (NM l l.length))) (some (.bool false, []))
  | d, i, 0, _, h => absurd h (by omega)
  | 0, i, n + 1, hd, _ => by
    have hi : i = l.length := by omega
    subst hi
    rw [lpE_succ, st_tree_Right_1]
    rw [decide_eq_false (show ¬ ((l.length : Nat) : Int) < ic l.length by simp only [ic]; omega), condF, List.drop_length]
    rfl
  | d + 1, i, n + 1, hd, hn => by
    have hil : i < l.length := by omega
    have hw : l[i]? = some l[i] := List.getElem?_eq_getElem hil
    rw [lpE_succ, st_tree_Right_1, List.drop_eq_getElem_cons hil]
    have hg : l.getD (Int.toNat (i : Int)) default = l[i] := by
      rw [Int.toNat_natCast, List.getD_eq_getElem?_getD, hw]
      rfl
    rw [hg]
    generalize l[i] = w at hw ⊢
    have ei : IntKind.wrap IntKind.i64 ((i : Int) + 1) = ((i + 1 : Nat) : Int) := by
      rw [wrap_id (by omega) (by omega)]
      omega
    rw [ei, decide_eq_true (show (i : Int) < ic l.length by simp only [ic]; omega), condT, decide_eq_true (show (0 : Int) ≤ (i : Int) by omega), Bool.and_self, condT]
    unfold nodesB
    cases hb : nodeB w.toInt with
    | false =>
      simp only [Bool.not_false, condT, Bool.false_and, condF]
      exact hK (i : Int) (NM l i)
    | true =>
      simp only [Bool.not_true, condF, Bool.true_and]
      unfold forkB
      cases hlf : (nodeN w.toInt).lf with
      | true =>
        simp only [condT, Bool.true_and]
        rw [← NM_leaf hw hlf]
        exact tree_run N l dim hl K hK d (i + 1) n (by omega) (by omega)
      | false =>
        simp only [condF]
        cases h1 : decide ((nodeN w.toInt).f ≥ dim) with
        | true =>
          simp only [condT, Bool.not_true, Bool.false_and, condF]
          exact hK (i : Int) (NM l i)
        | false =>
        cases h2 : ((nodeN w.toInt).l == (nodeN w.toInt).r) with
        | true =>
          simp only [condT, condF, Bool.not_true, Bool.not_false, Bool.false_and, Bool.and_false]
          exact hK (i : Int) (NM l i)
        | false =>
        cases h3 : decide (min (nodeN w.toInt).l (nodeN w.toInt).r ≤ (i : Int)) with
        | true =>
          simp only [condT, condF, Bool.not_true, Bool.not_false, Bool.false_and, Bool.and_false]
          exact hK (i : Int) (NM l i)
        | false =>
        cases h4 : decide (max (nodeN w.toInt).l (nodeN w.toInt).r ≥ ic l.length) with
        | true =>
          simp only [condT, condF, Bool.not_true, Bool.not_false, Bool.false_and, Bool.and_false]
          exact hK (i : Int) (NM l i)
        | false =>
          have g2 : (nodeN w.toInt).l ≠ (nodeN w.toInt).r := beq_eq_false_iff_ne.1 h2
          have g3 := of_decide_eq_false h3
          have g4 := of_decide_eq_false h4
          simp only [ic] at g4
          obtain ⟨a, ha⟩ : ∃ a : Nat, (nodeN w.toInt).l = (a : Int) := ⟨(nodeN w.toInt).l.toNat, by omega⟩
          obtain ⟨b, hb'⟩ : ∃ b : Nat, (nodeN w.toInt).r = (b : Int) := ⟨(nodeN w.toInt).r.toNat, by omega⟩
          have hab : a ≠ b := fun e => g2 (by rw [ha, hb', e])
          have al : a < l.length := by omega
          have bl : b < l.length := by omega
          have hN := NM_fork hw hlf hl ha hb' hab al bl
          rw [ha, hb']
          rw [decide_eq_true (show (0 : Int) ≤ (a : Int) by omega), decide_eq_true (show (0 : Int) ≤ (b : Int) by omega), decide_eq_true (show (a : Int) < ic (l.length - 0) by simp only [ic]; omega), decide_eq_true (show (b : Int) < ic (l.length - 0) by simp only [ic]; omega)]
          simp only [condT, condF, Bool.not_false, Bool.and_self, Bool.true_and, Int.toNat_natCast, Nat.zero_add]
          refine Eq.trans ?_ (tree_run N l dim hl K hK d (i + 1) n (by omega) (by omega))
          rw [← hN]
          rfl

abbrev xstU (l : List IV) (b : Bool) (j : Int) : St :=
  ⟨[(4, (.bool b)), (85, (.row 22 1 (0 + (l.length - 0)))), (86, (.int .i64 (ic (0 + (l.length - 0) - 1)))), (87, (.int .i64 j))], [(22, (some (.row true 3 false [(.int .i64)] (NM l l.length))))]⟩
theorem once_run (N : Nat) (l : List IV) (hl : l.length ≤ 31) : ∀ (d j n : Nat), j + d = l.length - 1 → d < n →
    lpE (E_tree_Right N) (subC c_tree_Right [1, 1, 1, 1, 0, 1, 0, 0]) ⟨[4, 85, 86, 87], [22], []⟩ n (xstU l false (j : Int)) (kBlock 2 (kSq (E_tree_Right N) (subC c_tree_Right [1, 1, 1, 1, 1]) (outT (E_tree_Right N) none [(ResultVar.tmp 4)] [[.bool]]))) =
      some (.bool ((List.range' j d).all fun j => namedBy l (j + 1) == 1), [])
  | d, j, 0, _, h => absurd h (by omega)
  | 0, j, n + 1, hd, _ => by
    rw [lpE_succ, st_tree_Right_2, decide_eq_false (show ¬ (j : Int) < ic (0 + (l.length - 0) - 1) by simp only [ic]; omega), condF]
    exact ex_tree_Right_2_1 N false _ _ _ _
  | d + 1, j, n + 1, hd, hn => by
    have ej : IntKind.wrap IntKind.i64 ((j : Int) + 1) = ((j + 1 : Nat) : Int) := by
      rw [wrap_id (by omega) (by omega)]
      omega
    rw [lpE_succ, st_tree_Right_2, ej, decide_eq_true (show (j : Int) < ic (0 + (l.length - 0) - 1) by simp only [ic]; omega), condT, decide_eq_true (show (0 : Int) ≤ (j : Int) by omega), Bool.and_self, condT]
    have hg : ((NM l l.length).getD (1 + Int.toNat (j : Int)) default).toInt = (namedBy l (j + 1) : Nat) := by
      rw [Int.toNat_natCast, Nat.add_comm 1 j, List.getD_eq_getElem?_getD, NM_get l l.length (by omega), List.take_length]
      rfl
    rw [hg, List.range'_succ, List.all_cons]
    have e : (((namedBy l (j + 1) : Nat) : Int) != 1) = !(namedBy l (j + 1) == 1) := by
      show (!(((namedBy l (j + 1) : Nat) : Int) == 1)) = _
      congr 1
      rw [Bool.eq_iff_iff, beq_iff_eq, beq_iff_eq]
      omega
    rw [e]
    cases (namedBy l (j + 1) == 1) with
    | false =>
      rw [Bool.not_false, condT]
      exact ex_tree_Right_2_2 N false _ _ _ _
    | true =>
      rw [Bool.not_true, condF, Bool.true_and]
      exact once_run N l hl d (j + 1) n (by omega) (by omega)

theorem tree_exit (N : Nat) (l : List IV) (dim : Int) (hl : l.length ≤ 31) (h1 : 1 ≤ l.length) (hN : 40 ≤ N) (i : Int) :
    (kBlock 0 (kSq (E_tree_Right N) (subC c_tree_Right [1, 1, 1, 1]) (outT (E_tree_Right N) none [(ResultVar.tmp 4)] [[.bool]]))) (.exit 0) (xstT l dim false i (NM l l.length)) = some (.bool (onceB l), []) := by
  refine (ex_tree_Right_1_1 N l dim false l.length l (ic l.length) i (NM l l.length)).trans ?_
  rw [decide_eq_true (show (0 : Nat) ≤ 1 by omega), decide_eq_true (show (1 : Int) ≤ ic (l.length - 0) by simp only [ic]; omega), Bool.and_self, condT]
  have := once_run N l hl (l.length - 1) 0 N (by omega) (by omega)
  refine this.trans ?_
  unfold onceB
  rw [List.range_eq_range']

set_option maxRecDepth 100000 in
theorem snd_tree_Right : SndR PR B0 49 S_tree_Right := by
  refine snd_mk [(29, S_node_Unpack)] [(5, ⟨[0, 1, 4, 5, 23, 24, 25], [22], []⟩), (17, ⟨[4, 85, 86, 87], [22], []⟩)] S_tree_Right [[.bool]] Tryz.func49 h_tree_Right ⟨snd_node_Unpack, trivial⟩ ?_
  intro vs r hwf h
  unfold S_tree_Right at h
  split at h
  · rename_i l dim
    refine ⟨40, ?_⟩
    rw [R.get_ok] at h
    rw [← h]
    refine (nf_tree_Right 40 l dim).trans ?_
    unfold treeB
    by_cases h1 : 1 ≤ l.length
    · by_cases h2 : l.length ≤ 31
      · have eb : ic (TI.bytes (Env.tyd (E_tree_Right 40) 3)) = 8 := rfl
        rw [decide_eq_false (show ¬ ic l.length < 1 by simp only [ic]; omega), decide_eq_false (show ¬ ic l.length > 31 by simp only [ic]; omega), condF, condF, eb,
          decide_eq_true (show (0 : Int) ≤ ic l.length by simp only [ic]; omega), decide_eq_true (show ic l.length = ic l.length from rfl), decide_eq_true (show ic l.length * 8 ≤ ic bytesMax by unfold bytesMax; simp only [ic]; omega)]
        have e0 : (Nat.blt 0 (TI.size (Env.tyd (E_tree_Right 40) 3)) && (Nat.blt 3 1000000 && true) && (true && true)) = true := rfl
        have e1 : Int.toNat (ic l.length) = l.length := by simp only [ic]; omega
        rw [e0, condT, e1, ← NM_zero, Nat.ble_eq_true_of_le h1, Nat.ble_eq_true_of_le h2]
        refine (tree_run 40 l dim h2 _ (fun i nm => ?_) l.length 0 40 (by omega) (by omega)).trans ?_
        · exact ex_tree_Right_1_2 40 l dim false l.length l (ic l.length) i nm
        · rw [List.drop_zero, tree_exit 40 l dim h2 h1 (by omega)]
          cases nodesB dim (ic l.length) 0 l <;> rfl
      · have e : Nat.ble l.length 31 = false := by
          cases hb : Nat.ble l.length 31 with
          | false => rfl
          | true => exact absurd (Nat.le_of_ble_eq_true hb) h2
        rw [decide_eq_false (show ¬ ic l.length < 1 by simp only [ic]; omega), decide_eq_true (show ic l.length > 31 by simp only [ic]; omega), condF, condT, e, Bool.and_false, Bool.false_and]
    · have e : Nat.ble 1 l.length = false := by
        cases hb : Nat.ble 1 l.length with
        | false => rfl
        | true => exact absurd (Nat.le_of_ble_eq_true hb) h1
      rw [decide_eq_true (show ic l.length < 1 by simp only [ic]; omega), condT, e, Bool.false_and, Bool.false_and]
  · simp [R.get] at h

/-! ### model.Right -/
set_option maxRecDepth 100000 in
theorem snd_model_Right_1 : SndR PR B0 48 S_model_Right_1 := by
  refine snd_mk [(49, S_tree_Right)] [] S_model_Right_1 [[.bool]] Tryz.func48 h_model_Right_1 ⟨snd_tree_Right, trivial⟩ ?_
  intro vs r hwf h
  unfold S_model_Right_1 at h
  split at h
  · rename_i k l d c b0 b1 b2 ts
    refine ⟨0, ?_⟩
    rw [R.get_ok] at h
    rw [← h]
    refine (nf_model_Right_1 0 k l d c b0 b1 b2 ts).trans ?_
    have e : treeOK d c (.agg [.int k, .list l]) = (!(decide (k < 0)) && (!(decide (k ≥ c)) && treeB l d)) := rfl
    rw [e]
    cases decide (k < 0) with
    | true => rfl
    | false =>
      cases decide (k ≥ c) with
      | true => rfl
      | false => rfl
  · simp [R.get] at h

abbrev xstI (l : List IV) (d c b0 b1 b2 : Int) (ts : List IV) (r i : Int) : St :=
  ⟨[(0, (.list true [(.int .i64), (.list false [(.int .u64)])] l)), (1, (.clo 48 [(.ptr 900000 0 0)])), (4, (.int .i64 r)), (7, (.int .i64 (ic l.length))), (8, (.int .i64 i))], [(900000, (some (.box [(.int .i64 d), (.int .i64 c), (.int .i64 b0), (.int .i64 b1), (.int .i64 b2), (.list true [(.int .i64), (.list false [(.int .u64)])] ts)])))]⟩
theorem treeOK_eta (d c : Int) (t : IV) : treeOK d c (.agg [.int (IV.toInt (IV.cell t 0)), .list (IV.toList (IV.cell t 1))]) = treeOK d c t := rfl
theorem index_run (N : Nat) (l : List IV) (hl : l.length ≤ strMax) (d c b0 b1 b2 : Int) (ts : List IV) : ∀ (m i n : Nat), i + m = l.length → m < n →
    lpE (E_slices_IndexFunc_apiTreeapiTree N) (subC c_slices_IndexFunc_apiTreeapiTree [1, 0, 1, 0, 0]) ⟨[0, 1, 4, 7, 8], [900000], []⟩ n (xstI l d c b0 b1 b2 ts 0 (i : Int)) (kBlock 0 (kSq (E_slices_IndexFunc_apiTreeapiTree N) (subC c_slices_IndexFunc_apiTreeapiTree [1, 1]) (outT (E_slices_IndexFunc_apiTreeapiTree N) (some [(.int .i64 d), (.int .i64 c), (.int .i64 b0), (.int .i64 b1), (.int .i64 b2), (.list true [(.int .i64), (.list false [(.int .u64)])] ts)]) [(ResultVar.tmp 4)] [[(.int .i64)]]))) =
      some (.int .i64 (idxBad d c (l.drop i) (i : Int)), [[(.int .i64 d), (.int .i64 c), (.int .i64 b0), (.int .i64 b1), (.int .i64 b2), (.list true kTree ts)]])
  | m, i, 0, _, h => absurd h (by omega)
  | 0, i, n + 1, hd, _ => by
    have hi : i = l.length := by omega
    subst hi
    rw [lpE_succ, st_slices_IndexFunc_apiTreeapiTree_1, decide_eq_false (show ¬ ((l.length : Nat) : Int) < ic l.length by simp only [ic]; omega), condF, List.drop_length]
    exact ex_slices_IndexFunc_apiTreeapiTree_1_1 N d c b0 b1 b2 ts l 0 (ic l.length) (l.length : Int) d c b0 b1 b2 ts
  | m + 1, i, n + 1, hd, hn => by
    have hil : i < l.length := by omega
    have m' : strMax = 140737488355327 := rfl
    have ei : IntKind.wrap IntKind.i64 ((i : Int) + 1) = ((i + 1 : Nat) : Int) := by
      rw [wrap_id (by omega) (by omega)]
      omega
    have hg : l.getD (Int.toNat (i : Int)) default = l[i] := by
      rw [Int.toNat_natCast, List.getD_eq_getElem?_getD, List.getElem?_eq_getElem hil]
      rfl
    rw [lpE_succ, st_slices_IndexFunc_apiTreeapiTree_1, ei, hg, treeOK_eta, decide_eq_true (show (i : Int) < ic l.length by simp only [ic]; omega), condT, decide_eq_true (show (0 : Int) ≤ (i : Int) by omega), Bool.and_self, condT, List.drop_eq_getElem_cons hil, idxBad]
    cases treeOK d c l[i] with
    | true =>
      rw [Bool.not_true, condF, condT]
      exact index_run N l hl d c b0 b1 b2 ts m (i + 1) n (by omega) (by omega)
    | false =>
      rw [Bool.not_false, condT, condF]
      exact ex_slices_IndexFunc_apiTreeapiTree_1_2 N d c b0 b1 b2 ts l (i : Int) (ic l.length) (i : Int) d c b0 b1 b2 ts

set_option maxRecDepth 100000 in
theorem snd_slices_IndexFunc_apiTreeapiTree : SndR PR B0 76 S_slices_IndexFunc_apiTreeapiTree := by
  refine snd_mk [(48, S_model_Right_1)] [(2, ⟨[0, 1, 4, 7, 8], [900000], []⟩)] S_slices_IndexFunc_apiTreeapiTree [[.int .i64]] Tryz.func76 h_slices_IndexFunc_apiTreeapiTree ⟨snd_model_Right_1, trivial⟩ ?_
  intro vs r hwf h
  unfold S_slices_IndexFunc_apiTreeapiTree at h
  split at h
  · rename_i l d c b0 b1 b2 ts
    refine ⟨l.length + 1, ?_⟩
    rw [R.get_ok] at h
    rw [← h]
    refine (nf_slices_IndexFunc_apiTreeapiTree (l.length + 1) l d c b0 b1 b2 ts).trans ?_
    have hl : l.length ≤ strMax := by
      have hb := hwf (by simp [oneBor])
      have := hb.1
      simp only [wfV, wfL] at this
      exact this.1
    exact index_run (l.length + 1) l hl d c b0 b1 b2 ts l.length 0 (l.length + 1) (by omega) (by omega)
  · simp [R.get] at h

theorem idx_all (d c : Int) : ∀ (l : List IV) (i : Nat), decide (idxBad d c l (i : Int) ≥ 0) = !(l.all (treeOK d c))
  | [], i => rfl
  | t :: l, i => by
    unfold idxBad
    rw [List.all_cons]
    cases treeOK d c t with
    | true =>
      rw [condT, Bool.true_and]
      exact idx_all d c l (i + 1)
    | false =>
      rw [condF, Bool.false_and, decide_eq_true (show (i : Int) ≥ 0 by omega)]
      rfl
set_option maxRecDepth 100000 in
theorem snd_slices_ContainsFunc_apiTreeapiTree : SndR PR B0 47 S_slices_ContainsFunc_apiTreeapiTree := by
  refine snd_mk [(76, S_slices_IndexFunc_apiTreeapiTree)] [] S_slices_ContainsFunc_apiTreeapiTree [[.bool]] Tryz.func47 h_slices_ContainsFunc_apiTreeapiTree ⟨snd_slices_IndexFunc_apiTreeapiTree, trivial⟩ ?_
  intro vs r hwf h
  unfold S_slices_ContainsFunc_apiTreeapiTree at h
  split at h
  · rename_i l d c b0 b1 b2 ts
    refine ⟨0, ?_⟩
    rw [R.get_ok] at h
    rw [← h]
    refine (nf_slices_ContainsFunc_apiTreeapiTree 0 l d c b0 b1 b2 ts).trans ?_
    have := idx_all d c l 0
    rw [show ((0 : Nat) : Int) = 0 from rfl] at this
    rw [this]
  · simp [R.get] at h

abbrev xstB (d c b0 b1 b2 : Int) (ts : List IV) (b : Bool) (i : Int) : St :=
  ⟨[(1, (.ptr 1 0 0)), (2, (.bool b)), (30, (.agg [(.int .i64 b0), (.int .i64 b1), (.int .i64 b2)])), (31, (.int .i64 i))], [(1, (some (.box [(.int .i64 d), (.int .i64 c), (.int .i64 b0), (.int .i64 b1), (.int .i64 b2), (.list true [(.int .i64), (.list false [(.int .u64)])] ts)]))), (53005, none)]⟩
theorem bias_cond (c j b : Int) {α : Type _} (x y : α) : cond (!fits32 b) y (cond (decide (j ≥ c)) (cond (b != 0) y x) x) = cond (biasB c j b) x y := by
  unfold biasB
  have e : (b != 0) = !(b == 0) := rfl
  rw [e]
  cases fits32 b <;> cases decide (j ≥ c) <;> cases (b == 0) <;> rfl
theorem bias_round (N : Nat) (d c b0 b1 b2 : Int) (ts : List IV) (j : Nat) (b : Int) (h : (j = 0 ∧ b = b0) ∨ (j = 1 ∧ b = b1) ∨ (j = 2 ∧ b = b2)) (again : St → Res) (k : Out → St → Res) :
    rnd (E_model_Right N) (subC c_model_Right [1, 1, 0, 1, 0, 0]) (xstB d c b0 b1 b2 ts false (j : Int)) (kLoop again ⟨[1, 2, 30, 31], [1, 53005], []⟩ k) =
      cond (biasB c (j : Int) b) (again (xstB d c b0 b1 b2 ts false ((j + 1 : Nat) : Int))) (k .ret (xstB d c b0 b1 b2 ts false (j : Int))) := by
  rw [st_model_Right_1]
  have ej : IntKind.wrap IntKind.i64 ((j : Int) + 1) = ((j + 1 : Nat) : Int) := by
    rw [wrap_id (by omega) (by omega)]
    omega
  rw [ej, ← bias_cond, decide_eq_true (show (j : Int) < 3 by omega), condT]
  rcases h with ⟨rfl, rfl⟩ | ⟨rfl, rfl⟩ | ⟨rfl, rfl⟩ <;> rfl

set_option maxRecDepth 100000 in
theorem snd_model_Right : SndR PR B0 25 S_model_Right := by
  refine snd_mk [(46, S_bits_Fits), (48, S_model_Right_1), (47, S_slices_ContainsFunc_apiTreeapiTree)] [(4, ⟨[1, 2, 30, 31], [1, 53005], []⟩)] S_model_Right [[.bool]] Tryz.func25 h_model_Right ⟨snd_bits_Fits, snd_model_Right_1, snd_slices_ContainsFunc_apiTreeapiTree, trivial⟩ ?_
  intro vs r hwf h
  unfold S_model_Right at h
  split at h
  · rename_i d c b0 b1 b2 ts
    refine ⟨6, ?_⟩
    rw [R.get_ok] at h
    rw [← h]
    refine (nf_model_Right 6 d c b0 b1 b2 ts).trans ?_
    have run : lpE (E_model_Right 6) (subC c_model_Right [1, 1, 0, 1, 0, 0]) ⟨[1, 2, 30, 31], [1, 53005], []⟩ 6 (xstB d c b0 b1 b2 ts false 0) (kBlock 0 (kSq (E_model_Right 6) (subC c_model_Right [1, 1, 1]) (outT (E_model_Right 6) none [(ResultVar.tmp 2)] [[.bool]]))) =
        some (.bool ((biasB c 0 b0 && (biasB c 1 b1 && biasB c 2 b2)) && ts.all (treeOK d c)), []) := by
      have e0 : xstB d c b0 b1 b2 ts false 0 = xstB d c b0 b1 b2 ts false ((0 : Nat) : Int) := rfl
      have R2 := fun j => ex_model_Right_1_2 6 false b0 b1 b2 j d c b0 b1 b2 ts
      have R1 := fun j => ex_model_Right_1_1 6 false b0 b1 b2 j d c b0 b1 b2 ts
      rw [e0, lpE_succ, bias_round 6 d c b0 b1 b2 ts 0 b0 (by simp), R2]
      cases h0 : biasB c ((0 : Nat) : Int) b0 with
      | false => rfl
      | true =>
        rw [condT, lpE_succ, bias_round 6 d c b0 b1 b2 ts 1 b1 (by simp), R2]
        cases h1 : biasB c ((1 : Nat) : Int) b1 with
        | false => rfl
        | true =>
          rw [condT, lpE_succ, bias_round 6 d c b0 b1 b2 ts 2 b2 (by simp), R2]
          cases h2 : biasB c ((2 : Nat) : Int) b2 with
          | false => rfl
          | true =>
            rw [condT, lpE_succ, st_model_Right_1, decide_eq_false (show ¬ ((2 + 1 : Nat) : Int) < 3 by omega), condF, R1, Bool.not_not]
            rfl
    unfold modelB
    cases decide (d < 1) with
    | true => rfl
    | false =>
    cases decide (d > 4) with
    | true => rfl
    | false =>
    cases decide (c < 1) with
    | true => rfl
    | false =>
    cases decide (c > 3) with
    | true => rfl
    | false =>
      simp only [condF, Bool.not_false, Bool.true_and]
      by_cases h8 : ts.length ≤ 8
      · rw [decide_eq_false (show ¬ ic ts.length > 8 by simp only [ic]; omega), condF, Nat.ble_eq_true_of_le h8, Bool.true_and]
        exact run
      · have e : Nat.ble ts.length 8 = false := by
          cases hb : Nat.ble ts.length 8 with
          | false => rfl
          | true => exact absurd (Nat.le_of_ble_eq_true hb) h8
        rw [decide_eq_true (show ic ts.length > 8 by simp only [ic]; omega), condT, e, Bool.false_and]
  · simp [R.get] at h

end Go.FM

/-
  NORMAL FORMS: what the functions' runs come to (written by a program of this claim's own, checked by the kernel).
-/
namespace Go.FM
open Go Go.Proofs

/-! ### copse/text.Print -/
def E_text_Print (N : Nat) : Env := mkE [(28, S_dec_Print), (25, S_model_Right), (29, S_node_Unpack), (27, S_strconv_Itoa), (30, S_strings_Builder_String), (26, S_text_line)] [(7, ⟨[1, 2, 3, 4, 28, 29, 30], [1, 3, 500], [⟨.tmp 4, 500, 9, false, [.str]⟩]⟩), (13, ⟨[2, 3, 43, 44, 45], [3], []⟩), (17, ⟨[2, 3, 43, 44, 45, 59, 60, 61], [3], []⟩)] 94 N

theorem nf_text_Print (N : Nat) (m_Dim : Int) (m_Classes : Int) (m_Bias_0 : Int) (m_Bias_1 : Int) (m_Bias_2 : Int) (m_Trees : List IV) : evFun (E_text_Print N) c_text_Print [.tmp 2] [[.str]] [(.agg [(.int .i64 m_Dim), (.int .i64 m_Classes), (.int .i64 m_Bias_0), (.int .i64 m_Bias_1), (.int .i64 m_Bias_2), (.list true [.int .i64, .list false [.int .u64]] m_Trees)])] =
  (cond (!modelB { d := m_Dim, c := m_Classes, b0 := m_Bias_0, b1 := m_Bias_1, b2 := m_Bias_2, ts := m_Trees })
  (some ((.str ({ data := #[] })), []))
  (cond (Nat.ble (List.length (List.drop 0 (List.take 3 [IV.str { data := #[102, 111, 114, 101, 115, 116] }, IV.str (itoaB m_Dim), IV.str (itoaB m_Classes)]))) 1000 && decide (ByteArray.size ByteArray.empty + ByteArray.size (lineB (List.map IV.toStr (List.drop 0 (List.take 3 [IV.str { data := #[102, 111, 114, 101, 115, 116] }, IV.str (itoaB m_Dim), IV.str (itoaB m_Classes)])))) ≤ 1000000000))
    (cond (decide (0 ≤ m_Classes) && decide (m_Classes ≤ ic 3))
      (lpE (E_text_Print N) (subC c_text_Print [1, 1, 1, 1, 1, 0, 1, 0, 0]) ⟨[1, 2, 3, 4, 28, 29, 30], [1, 3, 500], [⟨(.tmp 4), 500, 9, false, [.str]⟩]⟩ N ⟨[(1, (.ptr 1 0 0)), (2, (.str ({ data := #[] }))), (3, (.ptr 3 0 0)), (4, (.row 500 0 1)), (28, (.bview 1 2 3 1 (Int.toNat m_Classes))), (29, (.int .i64 (ic (Int.toNat m_Classes)))), (30, (.int .i64 0))], [(1, (some (.box [(.int .i64 m_Dim), (.int .i64 m_Classes), (.int .i64 m_Bias_0), (.int .i64 m_Bias_1), (.int .i64 m_Bias_2), (.list true [(.int .i64), (.list false [(.int .u64)])] m_Trees)]))), (3, (some (.bld (ByteArray.empty ++ lineB (List.map IV.toStr (List.drop 0 (List.take 3 [IV.str { data := #[102, 111, 114, 101, 115, 116] }, IV.str (itoaB m_Dim), IV.str (itoaB m_Classes)]))))))), (500, (some (.row true 9 false [.str] [(IV.str { data := #[98, 105, 97, 115] })])))]⟩ (kBlock 0 (kSq (E_text_Print N) (subC c_text_Print [1, 1, 1, 1, 1, 1]) (outT (E_text_Print N) none [(ResultVar.tmp 2)] [[.str]]))))
      none)
    none)) := by kernel_rfl

theorem st_text_Print_1 (N : Nat) (s2 : ByteArray) (n4 : Nat) (n28 : Nat) (x29 : Int) (x30 : Int) (xo1_0 : Int) (xo1_1 : Int) (xo1_2 : Int) (xo1_3 : Int) (xo1_4 : Int) (lo1_5 : List IV) (so3 : ByteArray) (lo500 : List IV) (again : St → Res) (k : Out → St → Res) : rnd (E_text_Print N) (subC c_text_Print [1, 1, 1, 1, 1, 0, 1, 0, 0])
    ⟨[(1, (.ptr 1 0 0)), (2, (.str s2)), (3, (.ptr 3 0 0)), (4, (.row 500 0 n4)), (28, (.bview 1 2 3 1 n28)), (29, (.int .i64 x29)), (30, (.int .i64 x30))], [(1, (some (.box [(.int .i64 xo1_0), (.int .i64 xo1_1), (.int .i64 xo1_2), (.int .i64 xo1_3), (.int .i64 xo1_4), (.list true [(.int .i64), (.list false [(.int .u64)])] lo1_5)]))), (3, (some (.bld so3))), (500, (some (.row true 9 false [.str] lo500)))]⟩
    (kLoop again ⟨[1, 2, 3, 4, 28, 29, 30], [1, 3, 500], [⟨(.tmp 4), 500, 9, false, [.str]⟩]⟩ k) =
  (cond (decide (x30 < x29))
  (cond (decide (x30 < ic n28))
    (cond (decide (x30 = ic 0))
      (cond (decide ((n4 + List.length (List.drop 0 (List.take 1 [IV.str (printB xo1_2)]))) * TI.bytes (Env.tyd (E_text_Print N) 9) ≤ bytesMax))
        (again ⟨[(1, (.ptr 1 0 0)), (2, (.str s2)), (3, (.ptr 3 0 0)), (4, (.row 500 0 (n4 + List.length (List.drop 0 (List.take 1 [IV.str (printB xo1_2)]))))), (28, (.bview 1 2 3 1 n28)), (29, (.int .i64 x29)), (30, (.int .i64 (IntKind.wrap IntKind.i64 (x30 + 1))))], [(1, (some (.box [(.int .i64 xo1_0), (.int .i64 xo1_1), (.int .i64 xo1_2), (.int .i64 xo1_3), (.int .i64 xo1_4), (.list true [(.int .i64), (.list false [(.int .u64)])] lo1_5)]))), (3, (some (.bld so3))), (500, (some (.row true 9 false [.str] (List.take n4 lo500 ++ List.drop 0 (List.take 1 [IV.str (printB xo1_2)])))))]⟩)
        none)
      (cond (decide (x30 = ic 1))
        (cond (decide ((n4 + List.length (List.drop 0 (List.take 1 [IV.str (printB xo1_3)]))) * TI.bytes (Env.tyd (E_text_Print N) 9) ≤ bytesMax))
          (again ⟨[(1, (.ptr 1 0 0)), (2, (.str s2)), (3, (.ptr 3 0 0)), (4, (.row 500 0 (n4 + List.length (List.drop 0 (List.take 1 [IV.str (printB xo1_3)]))))), (28, (.bview 1 2 3 1 n28)), (29, (.int .i64 x29)), (30, (.int .i64 (IntKind.wrap IntKind.i64 (x30 + 1))))], [(1, (some (.box [(.int .i64 xo1_0), (.int .i64 xo1_1), (.int .i64 xo1_2), (.int .i64 xo1_3), (.int .i64 xo1_4), (.list true [(.int .i64), (.list false [(.int .u64)])] lo1_5)]))), (3, (some (.bld so3))), (500, (some (.row true 9 false [.str] (List.take n4 lo500 ++ List.drop 0 (List.take 1 [IV.str (printB xo1_3)])))))]⟩)
          none)
        (cond (decide (x30 = ic 2))
          (cond (decide ((n4 + List.length (List.drop 0 (List.take 1 [IV.str (printB xo1_4)]))) * TI.bytes (Env.tyd (E_text_Print N) 9) ≤ bytesMax))
            (again ⟨[(1, (.ptr 1 0 0)), (2, (.str s2)), (3, (.ptr 3 0 0)), (4, (.row 500 0 (n4 + List.length (List.drop 0 (List.take 1 [IV.str (printB xo1_4)]))))), (28, (.bview 1 2 3 1 n28)), (29, (.int .i64 x29)), (30, (.int .i64 (IntKind.wrap IntKind.i64 (x30 + 1))))], [(1, (some (.box [(.int .i64 xo1_0), (.int .i64 xo1_1), (.int .i64 xo1_2), (.int .i64 xo1_3), (.int .i64 xo1_4), (.list true [(.int .i64), (.list false [(.int .u64)])] lo1_5)]))), (3, (some (.bld so3))), (500, (some (.row true 9 false [.str] (List.take n4 lo500 ++ List.drop 0 (List.take 1 [IV.str (printB xo1_4)])))))]⟩)
            none)
          none)))
    none)
  (k (.exit 0) ⟨[(1, (.ptr 1 0 0)), (2, (.str s2)), (3, (.ptr 3 0 0)), (4, (.row 500 0 n4)), (28, (.bview 1 2 3 1 n28)), (29, (.int .i64 x29)), (30, (.int .i64 x30))], [(1, (some (.box [(.int .i64 xo1_0), (.int .i64 xo1_1), (.int .i64 xo1_2), (.int .i64 xo1_3), (.int .i64 xo1_4), (.list true [(.int .i64), (.list false [(.int .u64)])] lo1_5)]))), (3, (some (.bld so3))), (500, (some (.row true 9 false [.str] lo500)))]⟩)) := by kernel_rfl

theorem ex_text_Print_1_1 (N : Nat) (s2 : ByteArray) (n4 : Nat) (n28 : Nat) (x29 : Int) (x30 : Int) (xo1_0 : Int) (xo1_1 : Int) (xo1_2 : Int) (xo1_3 : Int) (xo1_4 : Int) (lo1_5 : List IV) (so3 : ByteArray) (lo500 : List IV) : (kBlock 0 (kSq (E_text_Print N) (subC c_text_Print [1, 1, 1, 1, 1, 1]) (outT (E_text_Print N) none [(ResultVar.tmp 2)] [[.str]]))) (.exit 0)
    ⟨[(1, (.ptr 1 0 0)), (2, (.str s2)), (3, (.ptr 3 0 0)), (4, (.row 500 0 n4)), (28, (.bview 1 2 3 1 n28)), (29, (.int .i64 x29)), (30, (.int .i64 x30))], [(1, (some (.box [(.int .i64 xo1_0), (.int .i64 xo1_1), (.int .i64 xo1_2), (.int .i64 xo1_3), (.int .i64 xo1_4), (.list true [(.int .i64), (.list false [(.int .u64)])] lo1_5)]))), (3, (some (.bld so3))), (500, (some (.row true 9 false [.str] lo500)))]⟩ =
  (cond (Nat.ble (List.length (List.drop 0 (List.take n4 lo500))) 1000 && decide (ByteArray.size so3 + ByteArray.size (lineB (List.map IV.toStr (List.drop 0 (List.take n4 lo500)))) ≤ 1000000000))
  (lpE (E_text_Print N) (subC c_text_Print [1, 1, 1, 1, 1, 1, 1, 0, 1, 0, 0]) ⟨[2, 3, 43, 44, 45], [3], []⟩ N ⟨[(2, (.str s2)), (3, (.ptr 3 0 0)), (43, (.list true [(.int .i64), (.list false [(.int .u64)])] lo1_5)), (44, (.int .i64 (ic (List.length lo1_5)))), (45, (.int .i64 0))], [(3, (some (.bld (so3 ++ lineB (List.map IV.toStr (List.drop 0 (List.take n4 lo500)))))))]⟩ (kBlock 2 (kSq (E_text_Print N) (subC c_text_Print [1, 1, 1, 1, 1, 1, 1, 1]) (outT (E_text_Print N) none [(ResultVar.tmp 2)] [[.str]]))))
  none) := by kernel_rfl

theorem st_text_Print_2 (N : Nat) (s2 : ByteArray) (l43 : List IV) (x44 : Int) (x45 : Int) (so3 : ByteArray) (again : St → Res) (k : Out → St → Res) : rnd (E_text_Print N) (subC c_text_Print [1, 1, 1, 1, 1, 1, 1, 0, 1, 0, 0])
    ⟨[(2, (.str s2)), (3, (.ptr 3 0 0)), (43, (.list true [(.int .i64), (.list false [(.int .u64)])] l43)), (44, (.int .i64 x44)), (45, (.int .i64 x45))], [(3, (some (.bld so3)))]⟩
    (kLoop again ⟨[2, 3, 43, 44, 45], [3], []⟩ k) =
  (cond (decide (x45 < x44))
  (cond (decide (0 ≤ x45) && decide (x45 < ic (List.length l43)))
    (cond (Nat.ble (List.length (List.drop 0 (List.take 3 [IV.str { data := #[116, 114, 101, 101] }, IV.str (itoaB (IV.toInt (IV.cell (List.getD l43 (Int.toNat x45) default) 0))), IV.str (itoaB (ic (List.length (IV.toList (IV.cell (List.getD l43 (Int.toNat x45) default) 1)))))]))) 1000 && decide (ByteArray.size so3 + ByteArray.size (lineB (List.map IV.toStr (List.drop 0 (List.take 3 [IV.str { data := #[116, 114, 101, 101] }, IV.str (itoaB (IV.toInt (IV.cell (List.getD l43 (Int.toNat x45) default) 0))), IV.str (itoaB (ic (List.length (IV.toList (IV.cell (List.getD l43 (Int.toNat x45) default) 1)))))])))) ≤ 1000000000))
      (lpE (E_text_Print N) (subC c_text_Print [1, 1, 1, 1, 1, 1, 1, 0, 1, 0, 0, 1, 1, 0, 0, 1, 1, 1, 0, 0]) ⟨[2, 3, 43, 44, 45, 59, 60, 61], [3], []⟩ N ⟨[(2, (.str s2)), (3, (.ptr 3 0 0)), (43, (.list true [(.int .i64), (.list false [(.int .u64)])] l43)), (44, (.int .i64 x44)), (45, (.int .i64 x45)), (59, (.list false [(.int .u64)] (IV.toList (IV.cell (List.getD l43 (Int.toNat x45) default) 1)))), (60, (.int .i64 (ic (List.length (IV.toList (IV.cell (List.getD l43 (Int.toNat x45) default) 1)))))), (61, (.int .i64 0))], [(3, (some (.bld (so3 ++ lineB (List.map IV.toStr (List.drop 0 (List.take 3 [IV.str { data := #[116, 114, 101, 101] }, IV.str (itoaB (IV.toInt (IV.cell (List.getD l43 (Int.toNat x45) default) 0))), IV.str (itoaB (ic (List.length (IV.toList (IV.cell (List.getD l43 (Int.toNat x45) default) 1)))))])))))))]⟩ (kBlock 4 (kBlock 3 (kSq (E_text_Print N) (subC c_text_Print [1, 1, 1, 1, 1, 1, 1, 0, 1, 0, 0, 1, 1, 1]) (kLoop again ⟨[2, 3, 43, 44, 45], [3], []⟩ k)))))
      none)
    none)
  (k (.exit 2) ⟨[(2, (.str s2)), (3, (.ptr 3 0 0)), (43, (.list true [(.int .i64), (.list false [(.int .u64)])] l43)), (44, (.int .i64 x44)), (45, (.int .i64 x45))], [(3, (some (.bld so3)))]⟩)) := by kernel_rfl

theorem st_text_Print_3 (N : Nat) (s2 : ByteArray) (l43 : List IV) (x44 : Int) (x45 : Int) (l59 : List IV) (x60 : Int) (x61 : Int) (so3 : ByteArray) (again : St → Res) (k : Out → St → Res) : rnd (E_text_Print N) (subC c_text_Print [1, 1, 1, 1, 1, 1, 1, 0, 1, 0, 0, 1, 1, 0, 0, 1, 1, 1, 0, 0])
    ⟨[(2, (.str s2)), (3, (.ptr 3 0 0)), (43, (.list true [(.int .i64), (.list false [(.int .u64)])] l43)), (44, (.int .i64 x44)), (45, (.int .i64 x45)), (59, (.list false [(.int .u64)] l59)), (60, (.int .i64 x60)), (61, (.int .i64 x61))], [(3, (some (.bld so3)))]⟩
    (kLoop again ⟨[2, 3, 43, 44, 45, 59, 60, 61], [3], []⟩ k) =
  (cond (decide (x61 < x60))
  (cond (decide (0 ≤ x61) && decide (x61 < ic (List.length l59)))
    (cond (Nd.lf (nodeN (IV.toInt (List.getD l59 (Int.toNat x61) default))))
      (cond (Nat.ble (List.length (List.drop 0 (List.take 2 [IV.str { data := #[108, 101, 97, 102] }, IV.str (printB (Nd.v (nodeN (IV.toInt (List.getD l59 (Int.toNat x61) default)))))]))) 1000 && decide (ByteArray.size so3 + ByteArray.size (lineB (List.map IV.toStr (List.drop 0 (List.take 2 [IV.str { data := #[108, 101, 97, 102] }, IV.str (printB (Nd.v (nodeN (IV.toInt (List.getD l59 (Int.toNat x61) default)))))])))) ≤ 1000000000))
        (again ⟨[(2, (.str s2)), (3, (.ptr 3 0 0)), (43, (.list true [(.int .i64), (.list false [(.int .u64)])] l43)), (44, (.int .i64 x44)), (45, (.int .i64 x45)), (59, (.list false [(.int .u64)] l59)), (60, (.int .i64 x60)), (61, (.int .i64 (IntKind.wrap IntKind.i64 (x61 + 1))))], [(3, (some (.bld (so3 ++ lineB (List.map IV.toStr (List.drop 0 (List.take 2 [IV.str { data := #[108, 101, 97, 102] }, IV.str (printB (Nd.v (nodeN (IV.toInt (List.getD l59 (Int.toNat x61) default)))))])))))))]⟩)
        none)
      (cond (Nat.ble (List.length (List.drop 0 (List.take 8 [IV.str { data := #[105, 102] }, IV.str (itoaB (Nd.f (nodeN (IV.toInt (List.getD l59 (Int.toNat x61) default))))), IV.str { data := #[60, 61] }, IV.str (printB (Nd.a (nodeN (IV.toInt (List.getD l59 (Int.toNat x61) default))))), IV.str { data := #[116, 104, 101, 110] }, IV.str (itoaB (Nd.l (nodeN (IV.toInt (List.getD l59 (Int.toNat x61) default))))), IV.str { data := #[101, 108, 115, 101] }, IV.str (itoaB (Nd.r (nodeN (IV.toInt (List.getD l59 (Int.toNat x61) default)))))]))) 1000 && decide (ByteArray.size so3 + ByteArray.size (lineB (List.map IV.toStr (List.drop 0 (List.take 8 [IV.str { data := #[105, 102] }, IV.str (itoaB (Nd.f (nodeN (IV.toInt (List.getD l59 (Int.toNat x61) default))))), IV.str { data := #[60, 61] }, IV.str (printB (Nd.a (nodeN (IV.toInt (List.getD l59 (Int.toNat x61) default))))), IV.str { data := #[116, 104, 101, 110] }, IV.str (itoaB (Nd.l (nodeN (IV.toInt (List.getD l59 (Int.toNat x61) default))))), IV.str { data := #[101, 108, 115, 101] }, IV.str (itoaB (Nd.r (nodeN (IV.toInt (List.getD l59 (Int.toNat x61) default)))))])))) ≤ 1000000000))
        (again ⟨[(2, (.str s2)), (3, (.ptr 3 0 0)), (43, (.list true [(.int .i64), (.list false [(.int .u64)])] l43)), (44, (.int .i64 x44)), (45, (.int .i64 x45)), (59, (.list false [(.int .u64)] l59)), (60, (.int .i64 x60)), (61, (.int .i64 (IntKind.wrap IntKind.i64 (x61 + 1))))], [(3, (some (.bld (so3 ++ lineB (List.map IV.toStr (List.drop 0 (List.take 8 [IV.str { data := #[105, 102] }, IV.str (itoaB (Nd.f (nodeN (IV.toInt (List.getD l59 (Int.toNat x61) default))))), IV.str { data := #[60, 61] }, IV.str (printB (Nd.a (nodeN (IV.toInt (List.getD l59 (Int.toNat x61) default))))), IV.str { data := #[116, 104, 101, 110] }, IV.str (itoaB (Nd.l (nodeN (IV.toInt (List.getD l59 (Int.toNat x61) default))))), IV.str { data := #[101, 108, 115, 101] }, IV.str (itoaB (Nd.r (nodeN (IV.toInt (List.getD l59 (Int.toNat x61) default)))))])))))))]⟩)
        none))
    none)
  (k (.exit 4) ⟨[(2, (.str s2)), (3, (.ptr 3 0 0)), (43, (.list true [(.int .i64), (.list false [(.int .u64)])] l43)), (44, (.int .i64 x44)), (45, (.int .i64 x45)), (59, (.list false [(.int .u64)] l59)), (60, (.int .i64 x60)), (61, (.int .i64 x61))], [(3, (some (.bld so3)))]⟩)) := by kernel_rfl

theorem ex_text_Print_2_1 (N : Nat) (s2 : ByteArray) (l43 : List IV) (x44 : Int) (x45 : Int) (so3 : ByteArray) : (kBlock 2 (kSq (E_text_Print N) (subC c_text_Print [1, 1, 1, 1, 1, 1, 1, 1]) (outT (E_text_Print N) none [(ResultVar.tmp 2)] [[.str]]))) (.exit 2)
    ⟨[(2, (.str s2)), (3, (.ptr 3 0 0)), (43, (.list true [(.int .i64), (.list false [(.int .u64)])] l43)), (44, (.int .i64 x44)), (45, (.int .i64 x45))], [(3, (some (.bld so3)))]⟩ =
  (some ((.str so3), [])) := by kernel_rfl

theorem ex_text_Print_3_1 (N : Nat) (again : St → Res) (k : Out → St → Res) (s2 : ByteArray) (l43 : List IV) (x44 : Int) (x45 : Int) (l59 : List IV) (x60 : Int) (x61 : Int) (so3 : ByteArray) : (kBlock 4 (kBlock 3 (kSq (E_text_Print N) (subC c_text_Print [1, 1, 1, 1, 1, 1, 1, 0, 1, 0, 0, 1, 1, 1]) (kLoop again ⟨[2, 3, 43, 44, 45], [3], []⟩ k)))) (.exit 4)
    ⟨[(2, (.str s2)), (3, (.ptr 3 0 0)), (43, (.list true [(.int .i64), (.list false [(.int .u64)])] l43)), (44, (.int .i64 x44)), (45, (.int .i64 x45)), (59, (.list false [(.int .u64)] l59)), (60, (.int .i64 x60)), (61, (.int .i64 x61))], [(3, (some (.bld so3)))]⟩ =
  (again ⟨[(2, (.str s2)), (3, (.ptr 3 0 0)), (43, (.list true [(.int .i64), (.list false [(.int .u64)])] l43)), (44, (.int .i64 x44)), (45, (.int .i64 (IntKind.wrap IntKind.i64 (x45 + 1))))], [(3, (some (.bld so3)))]⟩) := by kernel_rfl

/-! ### copse/text.line -/
def E_text_line (N : Nat) : Env := mkE [(52, S_strings_Builder_WriteByte), (50, S_strings_Builder_WriteString), (51, S_strings_Join)] [] 10 N

theorem nf_text_line (N : Nat) (b : ByteArray) (words : List IV) : evFun (E_text_line N) c_text_line [] [] [(.bor [.bld b]), (.list false [.str] words)] =
  (cond (decide (List.length words ≤ strMax) && decide (ByteArray.size (joinB (List.map IV.toStr words) { data := #[32] }) ≤ strMax))
  (cond (decide (ByteArray.size b + ByteArray.size (joinB (List.map IV.toStr words) { data := #[32] }) ≤ strMax))
    (cond (decide (ByteArray.size (b ++ joinB (List.map IV.toStr words) { data := #[32] }) + 1 ≤ strMax))
      (some ((.tup []), [[(.bld (ByteArray.push (b ++ joinB (List.map IV.toStr words) { data := #[32] }) (byteOf 10)))]]))
      none)
    none)
  none) := by kernel_rfl

/-! ### (*copse/text.reader).next -/
def E_text_reader_next (N : Nat) : Env := mkE [(18, S_strings_Split)] [] 26 N

theorem nf_text_reader_next (N : Nat) (r_lines : List IV) : evFun (E_text_reader_next N) c_text_reader_next [.tmp 2] [[.list false [.str]]] [(.bor [(.list false [.str] r_lines)])] =
  (cond (ic (List.length r_lines) == 0)
  (some ((.list false [.str] []), [[(.list false [.str] r_lines)]]))
  (cond (decide (0 ≤ 0) && decide (0 < ic (List.length r_lines)))
    (cond (decide (0 ≤ 1) && decide (1 ≤ ic (List.length r_lines)))
      (cond (decide (ByteArray.size (IV.toStr (List.getD r_lines (Int.toNat 0) default)) < 4294967281) && decide (1 ≤ ByteArray.size { data := #[32] }))
        (some ((.list false [.str] (List.map IV.str (splitL (IV.toStr (List.getD r_lines (Int.toNat 0) default)) { data := #[32] }))), [[(.list false [.str] (List.drop (Int.toNat 1) (List.take (List.length r_lines) r_lines)))]]))
        none)
      none)
    none)) := by kernel_rfl

/-! ### copse/text.word -/
def E_text_word (N : Nat) : Env := mkE [] [] 13 N

theorem nf_text_word (N : Nat) (l : List IV) (i : Int) : evFun (E_text_word N) c_text_word [.tmp 4] [[.str]] [(.list false [.str] l), (.int .i64 i)] =
  (cond (decide (i ≥ ic (List.length l)))
  (some ((.str ({ data := #[] })), []))
  (cond (decide (0 ≤ i) && decide (i < ic (List.length l)))
    (some ((.str (IV.toStr (List.getD l (Int.toNat i) default))), []))
    none)) := by kernel_rfl

/-! ### copse/text.count -/
def E_text_count (N : Nat) : Env := mkE [(43, S_strconv_Atoi)] [] 24 N

theorem nf_text_count (N : Nat) (s : ByteArray) (most : Int) : evFun (E_text_count N) c_text_count [.tmp 4] [[.int .i64]] [(.str s), (.int .i64 most)] =
  (cond (!atoiN s)
  (some ((.int .i64 0), []))
  (cond (decide (atoiV s < 0))
    (some ((.int .i64 0), []))
    (cond (decide (atoiV s > most))
      (some ((.int .i64 0), []))
      (some ((.int .i64 (atoiV s)), []))))) := by kernel_rfl

/-! ### copse/text.scan -/
def E_text_scan (N : Nat) : Env := mkE [(44, S_dec_Scan)] [] 11 N

theorem nf_text_scan (N : Nat) (s : ByteArray) : evFun (E_text_scan N) c_text_scan [.tmp 2] [[.int .i64]] [(.str s)] =
  (cond (decide (ByteArray.size s < 4294967281))
  (some ((.int .i64 (decV s)), []))
  none) := by kernel_rfl

/-! ### (*copse/text.reader).node -/
def E_text_reader_node (N : Nat) : Env := mkE [(45, S_node_Pack), (21, S_text_count), (20, S_text_reader_next), (23, S_text_scan), (22, S_text_word)] [] 28 N

theorem nf_text_reader_node (N : Nat) (r_lines : List IV) : evFun (E_text_reader_node N) c_text_reader_node [.tmp 2] [[.int .u64]] [(.bor [(.list false [.str] r_lines)])] =
  (cond (okTexts r_lines)
  (cond (ByteArray.toList (wAt (nextW r_lines) (Int.toNat 0)) == ByteArray.toList { data := #[108, 101, 97, 102] })
    (cond (decide (ByteArray.size (wAt (nextW r_lines) (Int.toNat 1)) < 4294967281))
      (some ((.int .u64 (packNd { lf := true, v := decV (wAt (nextW r_lines) (Int.toNat 1)), f := 0, a := 0, l := 0, r := 0 })), [[(.list false [.str] (List.drop 1 r_lines))]]))
      none)
    (cond (decide (ByteArray.size (wAt (nextW r_lines) (Int.toNat 3)) < 4294967281))
      (some ((.int .u64 (packNd { lf := false, v := 0, f := cntT (wAt (nextW r_lines) (Int.toNat 1)) 4, a := decV (wAt (nextW r_lines) (Int.toNat 3)), l := cntT (wAt (nextW r_lines) (Int.toNat 5)) 31, r := cntT (wAt (nextW r_lines) (Int.toNat 7)) 31 })), [[(.list false [.str] (List.drop 1 r_lines))]]))
      none))
  none) := by kernel_rfl

/-! ### internal/stringslite.HasSuffix -/
def E_internal_stringslite_HasSuffix (N : Nat) : Env := mkE [] [] 21 N

theorem nf_internal_stringslite_HasSuffix (N : Nat) (s : ByteArray) (suffix : ByteArray) : evFun (E_internal_stringslite_HasSuffix N) c_internal_stringslite_HasSuffix [.tmp 4] [[.bool]] [(.str s), (.str suffix)] =
  (cond (decide (ic (ByteArray.size s) ≥ ic (ByteArray.size suffix)))
  (cond (decide (0 ≤ IntKind.wrap IntKind.i64 (ic (ByteArray.size s) - ic (ByteArray.size suffix))) && decide (IntKind.wrap IntKind.i64 (ic (ByteArray.size s) - ic (ByteArray.size suffix)) ≤ ic (ByteArray.size s)))
    (some ((.bool (ByteArray.toList (ByteArray.extract s (Int.toNat (IntKind.wrap IntKind.i64 (ic (ByteArray.size s) - ic (ByteArray.size suffix)))) (ByteArray.size s)) == ByteArray.toList suffix)), []))
    none)
  (some ((.bool false), []))) := by kernel_rfl

/-! ### internal/stringslite.TrimSuffix -/
def E_internal_stringslite_TrimSuffix (N : Nat) : Env := mkE [(68, S_internal_stringslite_HasSuffix)] [] 16 N

theorem nf_internal_stringslite_TrimSuffix (N : Nat) (s : ByteArray) (suffix : ByteArray) : evFun (E_internal_stringslite_TrimSuffix N) c_internal_stringslite_TrimSuffix [.tmp 4] [[.str]] [(.str s), (.str suffix)] =
  (cond (hasSuf s suffix)
  (cond (decide (0 ≤ IntKind.wrap IntKind.i64 (ic (ByteArray.size s) - ic (ByteArray.size suffix))) && decide (IntKind.wrap IntKind.i64 (ic (ByteArray.size s) - ic (ByteArray.size suffix)) ≤ ic (ByteArray.size s)))
    (some ((.str (ByteArray.extract s 0 (Int.toNat (IntKind.wrap IntKind.i64 (ic (ByteArray.size s) - ic (ByteArray.size suffix)))))), []))
    none)
  (some ((.str s), []))) := by kernel_rfl

/-! ### strings.TrimSuffix -/
def E_strings_TrimSuffix (N : Nat) : Env := mkE [(42, S_internal_stringslite_TrimSuffix)] [] 8 N

theorem nf_strings_TrimSuffix (N : Nat) (s : ByteArray) (suffix : ByteArray) : evFun (E_strings_TrimSuffix N) c_strings_TrimSuffix [.tmp 4] [[.str]] [(.str s), (.str suffix)] =
  (some ((.str (trimSuf s suffix)), [])) := by kernel_rfl

end Go.FM

/-
  text's FUNCTIONS COME TO WHAT IS SAID (1): lines, words, counts, a node's line; Print.
-/
namespace Go.FM
open Go Go.Proofs

/-! ### sizes -/
theorem join_sizeT (l : List ByteArray) (h : ∀ w ∈ l, w.size ≤ 100) : (joinB l w_space).size ≤ 101 * l.length := by
  have hs : (joinB l w_space).size = (Lib.join (l.map (·.data.toList)) [32]).length := by
    show (Array.size (List.toArray _)) = _
    rw [List.size_toArray]
  rw [hs]
  cases l with
  | nil => simp [Lib.join_nil]
  | cons x r =>
    rw [List.map_cons, Lib.join_length]
    have : ∀ (r : List ByteArray), (∀ w ∈ r, w.size ≤ 100) → Lib.lens (r.map (·.data.toList)) ≤ 100 * r.length := fun r => by
      induction r with
      | nil => intro _; simp [Lib.lens]
      | cons y r ih =>
        intro h
        have h1 := h y (List.mem_cons_self ..)
        rw [size_len] at h1
        have h2 := ih (fun w hw => h w (List.mem_cons_of_mem _ hw))
        rw [List.map_cons, List.length_cons]
        simp only [Lib.lens, List.map_cons, List.sum_cons] at h2 ⊢
        omega
    have := this (x :: r) h
    rw [List.map_cons] at this
    simp only [List.length_cons, List.length_map, List.length_nil] at this ⊢
    omega
theorem line_size (ws : List ByteArray) (hl : ws.length ≤ 8) (h : ∀ w ∈ ws, w.size ≤ 100) : (lineB ws).size ≤ 809 := by
  unfold lineB
  have := join_sizeT ws h
  rw [ByteArray.size_append]
  have e : ByteArray.size w_lf = 1 := rfl
  rw [e]
  omega
theorem textB_app : ∀ (a b : List (List ByteArray)), textB (a ++ b) = textB a ++ textB b
  | [], b => by
    show textB b = ByteArray.empty ++ textB b
    rw [ByteArray.empty_append]
  | l :: a, b => by
    rw [List.cons_append, textB, textB, textB_app a b, ByteArray.append_assoc]
theorem text_size : ∀ (L : List (List ByteArray)), (∀ l ∈ L, l.length ≤ 8 ∧ ∀ w ∈ l, w.size ≤ 100) → (textB L).size ≤ 809 * L.length
  | [], _ => by
    have : ByteArray.size (textB []) = 0 := rfl
    omega
  | l :: L, h => by
    have h1 := line_size l (h l (List.mem_cons_self ..)).1 (h l (List.mem_cons_self ..)).2
    have h2 := text_size L fun x hx => h x (List.mem_cons_of_mem _ hx)
    rw [textB, ByteArray.size_append, List.length_cons]
    omega

theorem itoaB_in' {n : Int} (h : InR n) : (itoaB n).size ≤ 100 := by
  have := itoaB_size h.1 h.2
  omega
theorem printB_in {n : Int} (h : InR n) : (printB n).size ≤ 100 := by
  have := (print_len n h).2
  omega
theorem fits_in {n : Int} (h : fits32 n = true) : -2147483648 ≤ n ∧ n ≤ 2147483647 := by
  unfold fits32 at h
  rwa [Bool.and_eq_true, decide_eq_true_eq, decide_eq_true_eq] at h
/-- A node's numbers. -/
structure Nd.In (x : Nd) : Prop where
  v : -2147483648 ≤ x.v ∧ x.v ≤ 2147483647
  f : 0 ≤ x.f ∧ x.f < 4
  a : -2147483648 ≤ x.a ∧ x.a ≤ 2147483647
  l : 0 ≤ x.l ∧ x.l < 31
  r : 0 ≤ x.r ∧ x.r < 31
  lf : x.lf = true → x.f = 0 ∧ x.a = 0 ∧ x.l = 0 ∧ x.r = 0
  fk : x.lf = false → x.v = 0
theorem right_in {x : Nd} (h : rightNd x = true) : x.In := by
  obtain ⟨lf, v, f, a, l, r⟩ := x
  unfold rightNd at h
  cases lf with
  | true =>
    simp only [cond_true, Bool.and_eq_true, Nd.eq, beq_iff_eq] at h
    obtain ⟨⟨_, _, h1, h2, h3, h4, _⟩, hv⟩ := h
    subst h1 h2 h3 h4
    have z4 : (0 : Int) ≤ 0 ∧ (0 : Int) < 4 := by decide
    have z31 : (0 : Int) ≤ 0 ∧ (0 : Int) < 31 := by decide
    have zf : (-2147483648 : Int) ≤ 0 ∧ (0 : Int) ≤ 2147483647 := by decide
    exact ⟨fits_in hv, z4, zf, z31, z31, fun _ => ⟨rfl, rfl, rfl, rfl⟩, fun h => Bool.noConfusion h⟩
  | false =>
    simp only [cond_false, Bool.and_eq_true, beq_iff_eq, decide_eq_true_eq, childB] at h
    obtain ⟨hv, hf0, hf1, ha, ⟨hl0, hl1⟩, hr0, hr1⟩ := h
    subst hv
    have zf : (-2147483648 : Int) ≤ 0 ∧ (0 : Int) ≤ 2147483647 := by decide
    have l0 : (0 : Int) ≤ l := by omega
    have r0 : (0 : Int) ≤ r := by omega
    exact ⟨zf, ⟨hf0, hf1⟩, fits_in ha, ⟨l0, hl1⟩, ⟨r0, hr1⟩, fun h => Bool.noConfusion h, fun _ => rfl⟩
theorem nodeW_ok {x : Nd} (h : x.In) : (nodeW x).length ≤ 8 ∧ ∀ w ∈ nodeW x, w.size ≤ 100 := by
  have hv : InR x.v := by have := h.v; unfold InR; omega
  have hf : InR x.f := by have := h.f; unfold InR; omega
  have ha : InR x.a := by have := h.a; unfold InR; omega
  have hl : InR x.l := by have := h.l; unfold InR; omega
  have hr : InR x.r := by have := h.r; unfold InR; omega
  unfold nodeW
  cases x.lf with
  | true =>
    refine ⟨by simp, fun w hw => ?_⟩
    simp only [cond_true, List.mem_cons, List.not_mem_nil, or_false] at hw
    rcases hw with rfl | rfl
    · decide
    · exact printB_in hv
  | false =>
    refine ⟨by simp, fun w hw => ?_⟩
    simp only [cond_false, List.mem_cons, List.not_mem_nil, or_false] at hw
    rcases hw with rfl | rfl | rfl | rfl | rfl | rfl | rfl | rfl
    · decide
    · exact itoaB_in' hf
    · decide
    · exact printB_in ha
    · decide
    · exact itoaB_in' hl
    · decide
    · exact itoaB_in' hr
theorem nodes_in {dim n : Int} : ∀ {l : List IV} {i : Nat}, nodesB dim n i l = true → ∀ w ∈ l, nodeB w.toInt = true
  | [], _, _, w, hw => by cases hw
  | x :: l, i, h, w, hw => by
    unfold nodesB at h
    rw [Bool.and_eq_true, Bool.and_eq_true] at h
    rcases List.mem_cons.1 hw with rfl | hw
    · exact h.1.1
    · exact nodes_in h.2 w hw
theorem nodeB_in {w : Int} (h : nodeB w = true) : (nodeN w).In := by
  have hn : nodeN w = readNd w := by unfold nodeN; rw [h]; rfl
  unfold nodeB at h
  simp only [Bool.and_eq_true, Bool.not_eq_true', beq_iff_eq, beq_eq_false_iff_ne] at h
  rw [hn]
  apply right_in
  cases hr : rightNd (readNd w) with
  | true => rfl
  | false =>
    have := h.2
    unfold packNd at this
    rw [hr] at this
    exact absurd this.symm h.1

/-! ### lines and words -/
set_option maxRecDepth 100000 in
theorem snd_text_line : SndR PR B0 26 S_text_line := by
  refine snd_mk [(52, S_strings_Builder_WriteByte), (50, S_strings_Builder_WriteString), (51, S_strings_Join)] [] S_text_line [] Tryz.func26 h_text_line ⟨snd_strings_Builder_WriteByte, snd_strings_Builder_WriteString, snd_strings_Join, trivial⟩ ?_
  intro vs r hwf h
  unfold S_text_line at h
  split at h
  · rename_i s ws
    cases hc : (Nat.ble ws.length 1000 && decide (s.size + (lineB (ws.map IV.toStr)).size ≤ 1000000000)) with
    | false => rw [hc] at h; simp [R.get] at h
    | true =>
      rw [hc, R.get_br, condT, R.get_ok] at h
      rw [Bool.and_eq_true, decide_eq_true_eq] at hc
      have h1 := Nat.le_of_ble_eq_true hc.1
      have h2 := hc.2
      have m : strMax = 140737488355327 := rfl
      refine ⟨0, ?_⟩
      rw [← h]
      refine (nf_text_line 0 s ws).trans ?_
      have e : ByteArray.push (s ++ joinB (ws.map IV.toStr) w_space) (byteOf 10) = s ++ lineB (ws.map IV.toStr) := by
        apply bytes_ext
        unfold lineB
        simp
        rfl
      have e2 : (lineB (ws.map IV.toStr)).size = (joinB (ws.map IV.toStr) w_space).size + 1 := by
        unfold lineB
        rw [ByteArray.size_append]
        rfl
      rw [e2] at h2
      rw [decide_eq_true (show ws.length ≤ strMax by omega), decide_eq_true (show (joinB (ws.map IV.toStr) w_space).size ≤ strMax by omega), decide_eq_true (show s.size + (joinB (ws.map IV.toStr) w_space).size ≤ strMax by omega),
        decide_eq_true (show ByteArray.size (s ++ joinB (ws.map IV.toStr) w_space) + 1 ≤ strMax by rw [ByteArray.size_append]; omega), Bool.and_self, condT, condT, condT, e]
  · simp [R.get] at h

theorem line_factsT (s : ByteArray) (hs : s.size < 4294967281) : ∀ i, (wAt (lineW s) i).size < 4294967281 := by
  intro i
  unfold wAt
  rw [List.getD_eq_getElem?_getD]
  cases h : (lineW s)[i]? with
  | none => decide
  | some x =>
    have hx : x ∈ lineW s := List.mem_of_getElem? h
    unfold lineW at hx
    obtain ⟨w, hw, rfl⟩ := List.mem_map.1 hx
    have := (splitB_sizes w_space _ s).2 w hw
    exact Nat.lt_of_le_of_lt this hs
theorem next_facts {ls : List IV} (h : okTexts ls = true) (i : Nat) : (wAt (nextW ls) i).size < 4294967281 := by
  unfold okTexts at h
  cases ls with
  | nil =>
    show ByteArray.size (IV.toStr (List.getD [] i default)) < _
    rw [List.getD_nil]
    decide
  | cons l r =>
    rw [List.all_cons, Bool.and_eq_true, decide_eq_true_eq] at h
    exact line_factsT _ h.1 i
theorem okTexts_drop {ls : List IV} (h : okTexts ls = true) (k : Nat) : okTexts (ls.drop k) = true := by
  unfold okTexts at h ⊢
  rw [List.all_eq_true] at h ⊢
  exact fun x hx => h x (List.mem_of_mem_drop hx)

set_option maxRecDepth 100000 in
theorem snd_text_reader_next : SndR PR B0 20 S_text_reader_next := by
  refine snd_mk [(18, S_strings_Split)] [] S_text_reader_next [[.list false [.str]]] Tryz.func20 h_text_reader_next ⟨snd_strings_Split, trivial⟩ ?_
  intro vs r hwf h
  unfold S_text_reader_next at h
  split at h
  · rename_i ls
    cases hc : okTexts ls with
    | false => rw [hc] at h; simp [R.get] at h
    | true =>
      rw [hc, R.get_br, condT, R.get_ok] at h
      refine ⟨0, ?_⟩
      rw [← h]
      refine (nf_text_reader_next 0 ls).trans ?_
      cases ls with
      | nil => rfl
      | cons l r =>
        unfold okTexts at hc
        rw [List.all_cons, Bool.and_eq_true] at hc
        have e0 : (ic (List.length (l :: r)) == 0) = false := by
          rw [beq_dec]
          exact decide_eq_false (by simp only [ic, List.length_cons]; omega)
        have e1 : IV.toStr (List.getD (l :: r) (Int.toNat 0) default) = l.toStr := rfl
        have e2 : List.drop (Int.toNat 1) (List.take (List.length (l :: r)) (l :: r)) = List.drop 1 (l :: r) := by rw [List.take_length]; rfl
        have e3 : decide (1 ≤ ByteArray.size w_space) = true := rfl
        rw [e0, e1, e2, e3, hc.1, condF]
        simp only [decide_eq_true (show (0 : Int) < ic (List.length (l :: r)) by simp only [ic, List.length_cons]; omega), decide_eq_true (show (1 : Int) ≤ ic (List.length (l :: r)) by simp only [ic, List.length_cons]; omega)]
        rfl
  · simp [R.get] at h

set_option maxRecDepth 100000 in
theorem snd_text_word : SndR PR B0 22 S_text_word := by
  refine snd_mk [] [] S_text_word [[.str]] Tryz.func22 h_text_word trivial ?_
  intro vs r hwf h
  unfold S_text_word at h
  split at h
  · rename_i l i
    cases hc : decide (0 ≤ i) with
    | false => rw [hc] at h; simp [R.get] at h
    | true =>
      rw [hc, R.get_br, condT, R.get_ok] at h
      have h0 := of_decide_eq_true hc
      refine ⟨0, ?_⟩
      rw [← h]
      refine (nf_text_word 0 l i).trans ?_
      cases hi : decide (i ≥ ic l.length) with
      | true =>
        have hi := of_decide_eq_true hi
        simp only [ic] at hi
        have e : wAt l i.toNat = ByteArray.empty := by
          unfold wAt
          rw [List.getD_eq_getElem?_getD, List.getElem?_eq_none (by omega)]
          rfl
        rw [e, condT]
        rfl
      | false =>
        have hi := of_decide_eq_false hi
        rw [condF, decide_eq_true h0, decide_eq_true (show i < ic l.length by omega), Bool.and_self, condT]
        rfl
  · simp [R.get] at h

set_option maxRecDepth 100000 in
theorem snd_text_count : SndR PR B0 21 S_text_count := by
  refine snd_mk [(43, S_strconv_Atoi)] [] S_text_count [[.int .i64]] Tryz.func21 h_text_count ⟨snd_strconv_Atoi, trivial⟩ ?_
  intro vs r hwf h
  unfold S_text_count at h
  split at h
  · rename_i s most
    refine ⟨0, ?_⟩
    rw [R.get_ok] at h
    rw [← h]
    refine (nf_text_count 0 s most).trans ?_
    unfold cntT
    cases atoiN s <;> cases decide (atoiV s < 0) <;> cases decide (atoiV s > most) <;> rfl
  · simp [R.get] at h

set_option maxRecDepth 100000 in
theorem snd_text_scan : SndR PR B0 23 S_text_scan := by
  refine snd_mk [(44, S_dec_Scan)] [] S_text_scan [[.int .i64]] Tryz.func23 h_text_scan ⟨snd_dec_Scan, trivial⟩ ?_
  intro vs r hwf h
  unfold S_text_scan at h
  split at h
  · rename_i s
    cases hc : decide (s.size < 4294967281) with
    | false => rw [hc] at h; simp [R.get] at h
    | true =>
      rw [hc, R.get_br, condT, R.get_ok] at h
      refine ⟨0, ?_⟩
      rw [← h]
      refine (nf_text_scan 0 s).trans ?_
      rw [hc, condT]
  · simp [R.get] at h

set_option maxRecDepth 100000 in
theorem snd_text_reader_node : SndR PR B0 24 S_text_reader_node := by
  refine snd_mk [(45, S_node_Pack), (21, S_text_count), (20, S_text_reader_next), (23, S_text_scan), (22, S_text_word)] [] S_text_reader_node [[.int .u64]] Tryz.func24 h_text_reader_node ⟨snd_node_Pack, snd_text_count, snd_text_reader_next, snd_text_scan, snd_text_word, trivial⟩ ?_
  intro vs r hwf h
  unfold S_text_reader_node at h
  split at h
  · rename_i ls
    cases hc : okTexts ls with
    | false => rw [hc] at h; simp [R.get] at h
    | true =>
      rw [hc, R.get_br, condT, R.get_ok] at h
      refine ⟨0, ?_⟩
      rw [← h]
      refine (nf_text_reader_node 0 ls).trans ?_
      rw [hc, condT, decide_eq_true (next_facts hc (Int.toNat 1)), decide_eq_true (next_facts hc (Int.toNat 3)), condT, condT]
      unfold rdNd
      have e : (ByteArray.toList (wAt (nextW ls) (Int.toNat 0)) == ByteArray.toList { data := #[108, 101, 97, 102] }) = ((wAt (nextW ls) 0).toList == w_leaf.toList) := rfl
      rw [e]
      cases ((wAt (nextW ls) 0).toList == w_leaf.toList) <;> rfl
  · simp [R.get] at h

set_option maxRecDepth 100000 in
theorem snd_internal_stringslite_HasSuffix : SndR PR B0 68 S_internal_stringslite_HasSuffix := by
  refine snd_mk [] [] S_internal_stringslite_HasSuffix [[.bool]] Tryz.func68 h_internal_stringslite_HasSuffix trivial ?_
  intro vs r hwf h
  unfold S_internal_stringslite_HasSuffix at h
  split at h
  · rename_i s t
    refine ⟨0, ?_⟩
    rw [R.get_ok] at h
    rw [← h]
    refine (nf_internal_stringslite_HasSuffix 0 s t).trans ?_
    have hb := hwf (by simp [oneBor])
    have hs : s.size ≤ strMax := hb.1
    have m : strMax = 140737488355327 := rfl
    unfold hasSuf
    by_cases hl : t.size ≤ s.size
    · have e : IntKind.wrap IntKind.i64 (ic s.size - ic t.size) = ((s.size - t.size : Nat) : Int) := by
        rw [wrap_id (by simp only [ic]; omega) (by simp only [ic]; omega)]
        simp only [ic]
        omega
      rw [e, decide_eq_true (show ic s.size ≥ ic t.size by simp only [ic]; omega), condT, decide_eq_true (show (0 : Int) ≤ ((s.size - t.size : Nat) : Int) by omega), decide_eq_true (show ((s.size - t.size : Nat) : Int) ≤ ic s.size by simp only [ic]; omega), Bool.and_self, condT, decide_eq_true hl, Bool.true_and, Int.toNat_natCast]
    · rw [decide_eq_false (show ¬ ic s.size ≥ ic t.size by simp only [ic]; omega), condF, decide_eq_false hl, Bool.false_and]
  · simp [R.get] at h
set_option maxRecDepth 100000 in
theorem snd_internal_stringslite_TrimSuffix : SndR PR B0 42 S_internal_stringslite_TrimSuffix := by
  refine snd_mk [(68, S_internal_stringslite_HasSuffix)] [] S_internal_stringslite_TrimSuffix [[.str]] Tryz.func42 h_internal_stringslite_TrimSuffix ⟨snd_internal_stringslite_HasSuffix, trivial⟩ ?_
  intro vs r hwf h
  unfold S_internal_stringslite_TrimSuffix at h
  split at h
  · rename_i s t
    refine ⟨0, ?_⟩
    rw [R.get_ok] at h
    rw [← h]
    refine (nf_internal_stringslite_TrimSuffix 0 s t).trans ?_
    have hb := hwf (by simp [oneBor])
    have hs : s.size ≤ strMax := hb.1
    have m : strMax = 140737488355327 := rfl
    unfold trimSuf
    cases hh : hasSuf s t with
    | false => rfl
    | true =>
      have hl : t.size ≤ s.size := by
        unfold hasSuf at hh
        rw [Bool.and_eq_true, decide_eq_true_eq] at hh
        exact hh.1
      have e : IntKind.wrap IntKind.i64 (ic s.size - ic t.size) = ((s.size - t.size : Nat) : Int) := by
        rw [wrap_id (by simp only [ic]; omega) (by simp only [ic]; omega)]
        simp only [ic]
        omega
      rw [e, condT, condT, decide_eq_true (show (0 : Int) ≤ ((s.size - t.size : Nat) : Int) by omega), decide_eq_true (show ((s.size - t.size : Nat) : Int) ≤ ic s.size by simp only [ic]; omega), Bool.and_self, condT, Int.toNat_natCast]
  · simp [R.get] at h
set_option maxRecDepth 100000 in
theorem snd_strings_TrimSuffix : SndR PR B0 19 S_strings_TrimSuffix := by
  refine snd_mk [(42, S_internal_stringslite_TrimSuffix)] [] S_strings_TrimSuffix [[.str]] Tryz.func19 h_strings_TrimSuffix ⟨snd_internal_stringslite_TrimSuffix, trivial⟩ ?_
  intro vs r hwf h
  unfold S_strings_TrimSuffix at h
  split at h
  · rename_i s t
    refine ⟨0, ?_⟩
    rw [R.get_ok] at h
    rw [← h]
    exact nf_strings_TrimSuffix 0 s t
  · simp [R.get] at h

/-! ### Print -/
abbrev xstN (ts : List IV) (i : Int) (l : List IV) (j : Int) (so : ByteArray) : St :=
  ⟨[(2, (.str { data := #[] })), (3, (.ptr 3 0 0)), (43, (.list true [(.int .i64), (.list false [(.int .u64)])] ts)), (44, (.int .i64 (ic ts.length))), (45, (.int .i64 i)), (59, (.list false [(.int .u64)] l)), (60, (.int .i64 (ic l.length))), (61, (.int .i64 j))], [(3, (some (.bld so)))]⟩
theorem nodes_print (N : Nat) (ts : List IV) (i : Int) (l : List IV) (hl : l.length ≤ 31) (hn : ∀ w ∈ l, nodeB w.toInt = true) (K : Out → St → Res) : ∀ (d j n : Nat) (so : ByteArray), j + d = l.length → d < n → so.size + 809 * d ≤ 1000000000 →
    lpE (E_text_Print N) (subC c_text_Print [1, 1, 1, 1, 1, 1, 1, 0, 1, 0, 0, 1, 1, 0, 0, 1, 1, 1, 0, 0]) ⟨[2, 3, 43, 44, 45, 59, 60, 61], [3], []⟩ n (xstN ts i l (j : Int) so) K =
      K (.exit 4) (xstN ts i l (ic l.length) (so ++ textB (nodesW (l.drop j))))
  | d, j, 0, _, _, h, _ => absurd h (by omega)
  | 0, j, n + 1, so, hd, _, _ => by
    have hj : j = l.length := by omega
    subst hj
    rw [lpE_succ, st_text_Print_3, decide_eq_false (show ¬ ((l.length : Nat) : Int) < ic l.length by simp only [ic]; omega), condF, List.drop_length]
    have e : so ++ textB (nodesW []) = so := by
      show so ++ ByteArray.empty = so
      rw [ByteArray.append_empty]
    rw [e]
  | d + 1, j, n + 1, so, hd, hn', hz => by
    have hjl : j < l.length := by omega
    have ej : IntKind.wrap IntKind.i64 ((j : Int) + 1) = ((j + 1 : Nat) : Int) := by
      rw [wrap_id (by omega) (by omega)]
      omega
    have hg : l.getD (Int.toNat (j : Int)) default = l[j] := by
      rw [Int.toNat_natCast, List.getD_eq_getElem?_getD, List.getElem?_eq_getElem hjl]
      rfl
    have hin := nodeB_in (hn l[j] (List.getElem_mem hjl))
    have hw := nodeW_ok hin
    have hls := line_size _ hw.1 hw.2
    rw [lpE_succ, st_text_Print_3, ej, hg, decide_eq_true (show (j : Int) < ic l.length by simp only [ic]; omega), condT, decide_eq_true (show (0 : Int) ≤ (j : Int) by omega), Bool.and_self, condT, List.drop_eq_getElem_cons hjl]
    have hr : textB (nodesW (l[j] :: l.drop (j + 1))) = lineB (nodeW (nodeN l[j].toInt)) ++ textB (nodesW (l.drop (j + 1))) := rfl
    rw [hr, ← ByteArray.append_assoc]
    have ih := nodes_print N ts i l hl hn K d (j + 1) n (so ++ lineB (nodeW (nodeN l[j].toInt))) (by omega) (by omega) (by rw [ByteArray.size_append]; omega)
    rw [← ih]
    have hsz : decide (so.size + (lineB (nodeW (nodeN l[j].toInt))).size ≤ 1000000000) = true := decide_eq_true (by omega)
    revert hsz
    unfold nodeW
    cases (nodeN l[j].toInt).lf with
    | true =>
      intro hsz
      have hsz : decide (ByteArray.size so + ByteArray.size (lineB [w_leaf, printB (nodeN l[j].toInt).v]) ≤ 1000000000) = true := hsz
      have e : List.map IV.toStr (List.drop 0 (List.take 2 [IV.str { data := #[108, 101, 97, 102] }, IV.str (printB (Nd.v (nodeN (IV.toInt l[j]))))])) = [w_leaf, printB (nodeN l[j].toInt).v] := rfl
      rw [condT, e, hsz]
      rfl
    | false =>
      intro hsz
      have hsz : decide (ByteArray.size so + ByteArray.size (lineB [w_if, itoaB (nodeN l[j].toInt).f, w_le, printB (nodeN l[j].toInt).a, w_then, itoaB (nodeN l[j].toInt).l, w_else, itoaB (nodeN l[j].toInt).r]) ≤ 1000000000) = true := hsz
      have e : List.map IV.toStr (List.drop 0 (List.take 8 [IV.str { data := #[105, 102] }, IV.str (itoaB (Nd.f (nodeN (IV.toInt l[j])))), IV.str { data := #[60, 61] }, IV.str (printB (Nd.a (nodeN (IV.toInt l[j])))), IV.str { data := #[116, 104, 101, 110] }, IV.str (itoaB (Nd.l (nodeN (IV.toInt l[j])))), IV.str { data := #[101, 108, 115, 101] }, IV.str (itoaB (Nd.r (nodeN (IV.toInt l[j]))))])) = [w_if, itoaB (nodeN l[j].toInt).f, w_le, printB (nodeN l[j].toInt).a, w_then, itoaB (nodeN l[j].toInt).l, w_else, itoaB (nodeN l[j].toInt).r] := rfl
      rw [condF, e, hsz]
      rfl

theorem treeOK_get {d c : Int} {t : IV} (h : treeOK d c t = true) : 0 ≤ (t.cell 0).toInt ∧ (t.cell 0).toInt < c ∧ 1 ≤ (t.cell 1).toList.length ∧ (t.cell 1).toList.length ≤ 31 ∧ ∀ w ∈ (t.cell 1).toList, nodeB w.toInt = true := by
  unfold treeOK treeB at h
  simp only [Bool.and_eq_true, Bool.not_eq_true', decide_eq_false_iff_not] at h
  obtain ⟨h1, h2, ⟨h3, h4⟩, h5, _⟩ := h
  exact ⟨by omega, by omega, Nat.le_of_ble_eq_true h3, Nat.le_of_ble_eq_true h4, nodes_in h5⟩
theorem treeW_ok {d c : Int} {t : IV} (hc : c ≤ 3) (h : treeOK d c t = true) : (∀ l ∈ treeW t, l.length ≤ 8 ∧ ∀ w ∈ l, w.size ≤ 100) ∧ (treeW t).length ≤ 32 := by
  obtain ⟨h1, h2, h3, h4, h5⟩ := treeOK_get h
  constructor
  · intro l hl
    unfold treeW at hl
    rcases List.mem_cons.1 hl with rfl | hl
    · refine ⟨by simp, fun w hw => ?_⟩
      simp only [List.mem_cons, List.not_mem_nil, or_false] at hw
      rcases hw with rfl | rfl | rfl
      · decide
      · exact itoaB_in' (by unfold InR; omega)
      · exact itoaB_in' (by unfold InR; simp only [ic]; omega)
    · unfold nodesW at hl
      obtain ⟨w, hw, rfl⟩ := List.mem_map.1 hl
      exact nodeW_ok (nodeB_in (h5 w hw))
  · unfold treeW nodesW
    rw [List.length_cons, List.length_map]
    omega

abbrev xstP (ts : List IV) (i : Int) (so : ByteArray) : St :=
  ⟨[(2, (.str { data := #[] })), (3, (.ptr 3 0 0)), (43, (.list true [(.int .i64), (.list false [(.int .u64)])] ts)), (44, (.int .i64 (ic ts.length))), (45, (.int .i64 i))], [(3, (some (.bld so)))]⟩
theorem trees_print (N : Nat) (hN : 40 ≤ N) (d c : Int) (hc : c ≤ 3) (ts : List IV) (hl : ts.length ≤ 8) (ht : ts.all (treeOK d c) = true) (K : Out → St → Res) : ∀ (m i n : Nat) (so : ByteArray), i + m = ts.length → m < n → so.size + 30000 * m ≤ 1000000000 →
    lpE (E_text_Print N) (subC c_text_Print [1, 1, 1, 1, 1, 1, 1, 0, 1, 0, 0]) ⟨[2, 3, 43, 44, 45], [3], []⟩ n (xstP ts (i : Int) so) K =
      K (.exit 2) (xstP ts (ic ts.length) (so ++ textB (treesW (ts.drop i))))
  | m, i, 0, _, _, h, _ => absurd h (by omega)
  | 0, i, n + 1, so, hd, _, _ => by
    have hi : i = ts.length := by omega
    subst hi
    rw [lpE_succ, st_text_Print_2, decide_eq_false (show ¬ ((ts.length : Nat) : Int) < ic ts.length by simp only [ic]; omega), condF, List.drop_length]
    have e : so ++ textB (treesW []) = so := by
      show so ++ ByteArray.empty = so
      rw [ByteArray.append_empty]
    rw [e]
  | m + 1, i, n + 1, so, hd, hn, hz => by
    have hil : i < ts.length := by omega
    have ei : IntKind.wrap IntKind.i64 ((i : Int) + 1) = ((i + 1 : Nat) : Int) := by
      rw [wrap_id (by omega) (by omega)]
      omega
    have hg : ts.getD (Int.toNat (i : Int)) default = ts[i] := by
      rw [Int.toNat_natCast, List.getD_eq_getElem?_getD, List.getElem?_eq_getElem hil]
      rfl
    have hok := List.all_eq_true.1 ht ts[i] (List.getElem_mem hil)
    have hw := treeW_ok hc hok
    have hts := text_size _ hw.1
    obtain ⟨h1, h2, h3, h4, h5⟩ := treeOK_get hok
    have hh : ∀ w ∈ [w_tree, itoaB (ts[i].cell 0).toInt, itoaB (ic (ts[i].cell 1).toList.length)], w.size ≤ 100 := (hw.1 _ (by unfold treeW; exact List.mem_cons_self ..)).2
    have hls := line_size _ (by simp) hh
    have e : List.map IV.toStr (List.drop 0 (List.take 3 [IV.str { data := #[116, 114, 101, 101] }, IV.str (itoaB (IV.toInt (IV.cell ts[i] 0))), IV.str (itoaB (ic (List.length (IV.toList (IV.cell ts[i] 1)))))])) = [w_tree, itoaB (ts[i].cell 0).toInt, itoaB (ic (ts[i].cell 1).toList.length)] := rfl
    have el : Nat.ble (List.length (List.drop 0 (List.take 3 [IV.str { data := #[116, 114, 101, 101] }, IV.str (itoaB (IV.toInt (IV.cell ts[i] 0))), IV.str (itoaB (ic (List.length (IV.toList (IV.cell ts[i] 1)))))]))) 1000 = true := rfl
    rw [lpE_succ, st_text_Print_2, hg, e, el, decide_eq_true (show (i : Int) < ic ts.length by simp only [ic]; omega), condT, decide_eq_true (show (0 : Int) ≤ (i : Int) by omega), Bool.and_self, condT,
      decide_eq_true (show so.size + (lineB [w_tree, itoaB (ts[i].cell 0).toInt, itoaB (ic (ts[i].cell 1).toList.length)]).size ≤ 1000000000 by omega), Bool.and_self, condT]
    refine (nodes_print N ts (i : Int) (ts[i].cell 1).toList h4 h5 _ (ts[i].cell 1).toList.length 0 N (so ++ lineB [w_tree, itoaB (ts[i].cell 0).toInt, itoaB (ic (ts[i].cell 1).toList.length)]) (by omega) (by omega) (by rw [ByteArray.size_append]; omega)).trans ?_
    rw [ex_text_Print_3_1, ei, List.drop_zero, List.drop_eq_getElem_cons hil]
    have hr : textB (treesW (ts[i] :: ts.drop (i + 1))) = (lineB [w_tree, itoaB (ts[i].cell 0).toInt, itoaB (ic (ts[i].cell 1).toList.length)] ++ textB (nodesW (ts[i].cell 1).toList)) ++ textB (treesW (ts.drop (i + 1))) := by
      rw [treesW, textB_app]
      rfl
    rw [hr, ← ByteArray.append_assoc (a := so), ← ByteArray.append_assoc (a := so)]
    have hsz : (lineB [w_tree, itoaB (ts[i].cell 0).toInt, itoaB (ic (ts[i].cell 1).toList.length)] ++ textB (nodesW (ts[i].cell 1).toList)).size ≤ 26000 := by
      have : textB (treeW ts[i]) = lineB [w_tree, itoaB (ts[i].cell 0).toInt, itoaB (ic (ts[i].cell 1).toList.length)] ++ textB (nodesW (ts[i].cell 1).toList) := rfl
      rw [← this]
      have := hw.2
      omega
    exact trees_print N hN d c hc ts hl ht K m (i + 1) n _ (by omega) (by omega) (by rw [ByteArray.append_assoc, ByteArray.size_append]; omega)

abbrev xstW (d c b0 b1 b2 : Int) (ts : List IV) (C : Nat) (so : ByteArray) (ws : List IV) (n : Nat) (i : Int) : St :=
  ⟨[(1, (.ptr 1 0 0)), (2, (.str { data := #[] })), (3, (.ptr 3 0 0)), (4, (.row 500 0 n)), (28, (.bview 1 2 3 1 C)), (29, (.int .i64 (ic C))), (30, (.int .i64 i))], [(1, (some (.box [(.int .i64 d), (.int .i64 c), (.int .i64 b0), (.int .i64 b1), (.int .i64 b2), (.list true [(.int .i64), (.list false [(.int .u64)])] ts)]))), (3, (some (.bld so))), (500, (some (.row true 9 false [.str] ws)))]⟩
theorem word_round (N : Nat) (d c b0 b1 b2 : Int) (ts : List IV) (C : Nat) (so : ByteArray) (ws : List IV) (n i : Nat) (b : Int) (hi : i < C) (hn : n ≤ 10) (h : (i = 0 ∧ b = b0) ∨ (i = 1 ∧ b = b1) ∨ (i = 2 ∧ b = b2)) (again : St → Res) (k : Out → St → Res) :
    rnd (E_text_Print N) (subC c_text_Print [1, 1, 1, 1, 1, 0, 1, 0, 0]) (xstW d c b0 b1 b2 ts C so ws n (i : Int)) (kLoop again ⟨[1, 2, 3, 4, 28, 29, 30], [1, 3, 500], [⟨.tmp 4, 500, 9, false, [.str]⟩]⟩ k) =
      again (xstW d c b0 b1 b2 ts C so (ws.take n ++ [.str (printB b)]) (n + 1) ((i + 1 : Nat) : Int)) := by
  rw [st_text_Print_1]
  have ei : IntKind.wrap IntKind.i64 ((i : Int) + 1) = ((i + 1 : Nat) : Int) := by
    rw [wrap_id (by omega) (by omega)]
    omega
  have eb : TI.bytes (Env.tyd (E_text_Print N) 9) = 16 := rfl
  have e1 : ∀ x : IV, List.length (List.drop 0 (List.take 1 [x])) = 1 := fun x => rfl
  rw [ei, eb, e1, e1, e1, decide_eq_true (show (i : Int) < ic C by simp only [ic]; omega), condT, condT, decide_eq_true (show (n + 1) * 16 ≤ bytesMax by unfold bytesMax; omega)]
  rcases h with ⟨rfl, rfl⟩ | ⟨rfl, rfl⟩ | ⟨rfl, rfl⟩ <;> rfl

theorem words_print (N : Nat) (hN : 10 ≤ N) (d b0 b1 b2 : Int) (ts : List IV) (C : Nat) (h1 : 1 ≤ C) (h3 : C ≤ 3) (so : ByteArray) (K : Out → St → Res) :
    lpE (E_text_Print N) (subC c_text_Print [1, 1, 1, 1, 1, 0, 1, 0, 0]) ⟨[1, 2, 3, 4, 28, 29, 30], [1, 3, 500], [⟨.tmp 4, 500, 9, false, [.str]⟩]⟩ N (xstW d (C : Int) b0 b1 b2 ts C so [.str w_bias] 1 0) K =
      K (.exit 0) (xstW d (C : Int) b0 b1 b2 ts C so ((w_bias :: (([b0, b1, b2].take C).map printB)).map IV.str) (1 + C) (C : Int)) := by
  obtain ⟨M, rfl⟩ : ∃ M, N = M + 4 := ⟨N - 4, by omega⟩
  have e0 : xstW d (C : Int) b0 b1 b2 ts C so [.str w_bias] 1 0 = xstW d (C : Int) b0 b1 b2 ts C so [.str w_bias] 1 ((0 : Nat) : Int) := rfl
  rw [e0, lpE_succ, word_round (M + 4) d (C : Int) b0 b1 b2 ts C so _ 1 0 b0 (by omega) (by omega) (by simp)]
  match C, h1, h3 with
  | 1, _, _ =>
    rw [lpE_succ, st_text_Print_1, decide_eq_false (show ¬ ((0 + 1 : Nat) : Int) < ic 1 by decide), condF]
    rfl
  | 2, _, _ =>
    rw [lpE_succ, word_round (M + 4) d _ b0 b1 b2 ts 2 so _ _ 1 b1 (by omega) (by omega) (by simp), lpE_succ, st_text_Print_1, decide_eq_false (show ¬ ((1 + 1 : Nat) : Int) < ic 2 by decide), condF]
    rfl
  | 3, _, _ =>
    rw [lpE_succ, word_round (M + 4) d _ b0 b1 b2 ts 3 so _ _ 1 b1 (by omega) (by omega) (by simp), lpE_succ, word_round (M + 4) d _ b0 b1 b2 ts 3 so _ _ 2 b2 (by omega) (by omega) (by simp), lpE_succ, st_text_Print_1, decide_eq_false (show ¬ ((2 + 1 : Nat) : Int) < ic 3 by decide), condF]
    rfl

theorem model_get {m : Md} (h : modelB m = true) : (1 ≤ m.d ∧ m.d ≤ 4) ∧ (1 ≤ m.c ∧ m.c ≤ 3) ∧ m.ts.length ≤ 8 ∧ (biasB m.c 0 m.b0 = true ∧ biasB m.c 1 m.b1 = true ∧ biasB m.c 2 m.b2 = true) ∧ m.ts.all (treeOK m.d m.c) = true := by
  unfold modelB at h
  simp only [Bool.and_eq_true, Bool.not_eq_true', decide_eq_false_iff_not] at h
  obtain ⟨⟨h1, h2, h3, h4, h5⟩, ⟨h6, h7, h8⟩, h9⟩ := h
  exact ⟨⟨by omega, by omega⟩, ⟨by omega, by omega⟩, Nat.le_of_ble_eq_true h5, ⟨h6, h7, h8⟩, h9⟩
theorem biasB_in {c j b : Int} (h : biasB c j b = true) : (-2147483648 ≤ b ∧ b ≤ 2147483647) ∧ (c ≤ j → b = 0) := by
  unfold biasB at h
  rw [Bool.and_eq_true] at h
  refine ⟨fits_in h.1, fun hj => ?_⟩
  have := h.2
  rw [decide_eq_true (show j ≥ c from hj)] at this
  simpa using this
theorem headM_ok {m : Md} (h : modelB m = true) : ∀ l ∈ headM m, l.length ≤ 8 ∧ ∀ w ∈ l, w.size ≤ 100 := by
  obtain ⟨hd, hc, _, ⟨g0, g1, g2⟩, _⟩ := model_get h
  have i0 := (biasB_in g0).1
  have i1 := (biasB_in g1).1
  have i2 := (biasB_in g2).1
  intro l hl
  unfold headM at hl
  simp only [List.mem_cons, List.not_mem_nil, or_false] at hl
  rcases hl with rfl | rfl
  · refine ⟨by simp, fun w hw => ?_⟩
    simp only [List.mem_cons, List.not_mem_nil, or_false] at hw
    rcases hw with rfl | rfl | rfl
    · decide
    · exact itoaB_in' (by unfold InR; omega)
    · exact itoaB_in' (by unfold InR; omega)
  · refine ⟨by simp only [List.length_cons, List.length_map, List.length_take, List.length_nil]; omega, fun w hw => ?_⟩
    rcases List.mem_cons.1 hw with rfl | hw
    · decide
    · obtain ⟨b, hb, rfl⟩ := List.mem_map.1 hw
      have hb := List.mem_of_mem_take hb
      simp only [List.mem_cons, List.not_mem_nil, or_false] at hb
      rcases hb with rfl | rfl | rfl
      · exact printB_in (by unfold InR; omega)
      · exact printB_in (by unfold InR; omega)
      · exact printB_in (by unfold InR; omega)

set_option maxRecDepth 100000 in
set_option maxHeartbeats 1000000 in
theorem snd_text_Print : SndR PR B0 10 S_text_Print := by
  refine snd_mk [(28, S_dec_Print), (25, S_model_Right), (29, S_node_Unpack), (27, S_strconv_Itoa), (30, S_strings_Builder_String), (26, S_text_line)] [(7, ⟨[1, 2, 3, 4, 28, 29, 30], [1, 3, 500], [⟨.tmp 4, 500, 9, false, [.str]⟩]⟩), (13, ⟨[2, 3, 43, 44, 45], [3], []⟩), (17, ⟨[2, 3, 43, 44, 45, 59, 60, 61], [3], []⟩)] S_text_Print [[.str]] Tryz.func10 h_text_Print ⟨snd_dec_Print, snd_model_Right, snd_node_Unpack, snd_strconv_Itoa, snd_strings_Builder_String, snd_text_line, trivial⟩ ?_
  intro vs r hwf h
  unfold S_text_Print at h
  split at h
  · rename_i d c b0 b1 b2 ts
    refine ⟨40, ?_⟩
    rw [R.get_ok] at h
    rw [← h]
    refine (nf_text_Print 40 d c b0 b1 b2 ts).trans ?_
    unfold printM
    cases hm : modelB ⟨d, c, b0, b1, b2, ts⟩ with
    | false => rfl
    | true =>
      obtain ⟨hd, hc, hl, _, ht⟩ := model_get hm
      simp only at hd hc hl ht
      have hh := headM_ok hm
      have hh1 := hh _ (List.mem_cons_self ..)
      have hh2 := hh _ (List.mem_cons_of_mem _ (List.mem_cons_self ..))
      have z1 := line_size _ hh1.1 hh1.2
      have z2 := line_size _ hh2.1 hh2.2
      obtain ⟨C, rfl⟩ : ∃ C : Nat, c = (C : Int) := ⟨c.toNat, by omega⟩
      have e1 : List.map IV.toStr (List.drop 0 (List.take 3 [IV.str { data := #[102, 111, 114, 101, 115, 116] }, IV.str (itoaB d), IV.str (itoaB (C : Int))])) = [w_forest, itoaB d, itoaB (C : Int)] := rfl
      have e2 : Nat.ble (List.length (List.drop 0 (List.take 3 [IV.str { data := #[102, 111, 114, 101, 115, 116] }, IV.str (itoaB d), IV.str (itoaB (C : Int))]))) 1000 = true := rfl
      have e3 : ByteArray.size ByteArray.empty = 0 := rfl
      have z1 : (lineB [w_forest, itoaB d, itoaB (C : Int)]).size ≤ 809 := z1
      rw [Bool.not_true, condF, condT, e1, e2, e3, decide_eq_true (show 0 + (lineB [w_forest, itoaB d, itoaB (C : Int)]).size ≤ 1000000000 by omega), Bool.and_self, condT, decide_eq_true (show (0 : Int) ≤ (C : Int) by omega), decide_eq_true (show (C : Int) ≤ ic 3 by simp only [ic]; omega), Bool.and_self, condT, Int.toNat_natCast, ByteArray.empty_append]
      refine (words_print 40 (by omega) d b0 b1 b2 ts C (by omega) (by omega) (lineB [w_forest, itoaB d, itoaB (C : Int)]) _).trans ?_
      rw [ex_text_Print_1_1]
      have e4 : List.map IV.toStr (List.drop 0 (List.take (1 + C) ((w_bias :: (([b0, b1, b2].take C).map printB)).map IV.str))) = w_bias :: (([b0, b1, b2].take C).map printB) := by
        match C, hc with
        | 0, hc => exact absurd hc.1 (by decide)
        | 1, _ => rfl
        | 2, _ => rfl
        | 3, _ => rfl
        | C + 4, hc => exact absurd hc.2 (by omega)
      have e5 : Nat.ble (List.length (List.drop 0 (List.take (1 + C) ((w_bias :: (([b0, b1, b2].take C).map printB)).map IV.str)))) 1000 = true := by
        apply Nat.ble_eq_true_of_le
        rw [List.length_drop, List.length_take]
        omega
      have z2 : (lineB (w_bias :: (([b0, b1, b2].take C).map printB))).size ≤ 809 := by
        have : (([b0, b1, b2].take (C : Int).toNat).map printB) = (([b0, b1, b2].take C).map printB) := by rw [Int.toNat_natCast]
        rw [← this]
        exact z2
      rw [e4, e5, decide_eq_true (show (lineB [w_forest, itoaB d, itoaB (C : Int)]).size + (lineB (w_bias :: (([b0, b1, b2].take C).map printB))).size ≤ 1000000000 by omega), Bool.and_self, condT]
      refine (trees_print 40 (by omega) d (C : Int) (by omega) ts hl ht _ ts.length 0 40 _ (by omega) (by omega) (by rw [ByteArray.size_append]; omega)).trans ?_
      rw [ex_text_Print_2_1, List.drop_zero]
      have e6 : textB (linesM ⟨d, (C : Int), b0, b1, b2, ts⟩) = lineB [w_forest, itoaB d, itoaB (C : Int)] ++ lineB (w_bias :: (([b0, b1, b2].take C).map printB)) ++ textB (treesW ts) := by
        show textB (headM ⟨d, (C : Int), b0, b1, b2, ts⟩ ++ treesW ts) = _
        rw [textB_app]
        show lineB [w_forest, itoaB d, itoaB (C : Int)] ++ (lineB (w_bias :: (([b0, b1, b2].take (C : Int).toNat).map printB)) ++ ByteArray.empty) ++ textB (treesW ts) = _
        rw [ByteArray.append_empty, Int.toNat_natCast]
      rw [e6]
  · simp [R.get] at h

end Go.FM

/-
  NORMAL FORMS: what the functions' runs come to (written by a program of this claim's own, checked by the kernel).
-/
namespace Go.FM
open Go Go.Proofs

/-! ### copse/text.Parse -/
def E_text_Parse (N : Nat) : Env := mkE [(18, S_strings_Split), (19, S_strings_TrimSuffix), (10, S_text_Print), (21, S_text_count), (20, S_text_reader_next), (24, S_text_reader_node), (23, S_text_scan), (22, S_text_word)] [(6, ⟨[0, 2, 3, 4, 6, 7, 28, 29], [2, 6, 15], []⟩), (10, ⟨[0, 2, 3, 4, 6], [2, 6, 15, 500], [⟨.cell 6 5, 500, 29, true, [.int .i64, .list false [.int .u64]]⟩]⟩), (14, ⟨[0, 2, 3, 4, 6, 10, 61, 62], [2, 6, 10, 15, 500, 501], [⟨.cell 6 5, 500, 29, true, [.int .i64, .list false [.int .u64]]⟩, ⟨.cell 10 1, 501, 22, false, [.int .u64]⟩]⟩)] 88 N

theorem nf_text_Parse (N : Nat) (s : ByteArray) : evFun (E_text_Parse N) c_text_Parse [.cell 2 32, .tmp 3] [[.int .i64, .int .i64, .int .i64, .int .i64, .int .i64, .list true [.int .i64, .list false [.int .u64]]], [.bool]] [(.str s)] =
  (cond (decide (ByteArray.size (trimSuf s { data := #[10] }) < 4294967281) && decide (1 ≤ ByteArray.size { data := #[10] }))
  (cond (okTexts (List.map IV.str (splitL (trimSuf s { data := #[10] }) { data := #[10] })))
    (cond (okTexts (List.drop 1 (List.map IV.str (splitL (trimSuf s { data := #[10] }) { data := #[10] }))))
      (lpE (E_text_Parse N) (subC c_text_Parse [1, 1, 1, 1, 1, 0, 1, 0, 0]) ⟨[0, 2, 3, 4, 6, 7, 28, 29], [2, 6, 15], []⟩ N ⟨[(0, (.str s)), (2, (.ptr 2 0 0)), (3, (.bool false)), (4, (.ptr 15 0 0)), (6, (.ptr 6 0 0)), (7, (.list false [.str] (nextW (List.drop 1 (List.map IV.str (splitL (trimSuf s { data := #[10] }) { data := #[10] })))))), (28, (.int .i64 (cntT (wAt (nextW (List.map IV.str (splitL (trimSuf s { data := #[10] }) { data := #[10] }))) (Int.toNat 2)) 3))), (29, (.int .i64 0))], [(2, (some (.box [(.int .i64 0), (.int .i64 0), (.int .i64 0), (.int .i64 0), (.int .i64 0), .zs]))), (6, (some (.box [(.int .i64 (cntT (wAt (nextW (List.map IV.str (splitL (trimSuf s { data := #[10] }) { data := #[10] }))) (Int.toNat 1)) 4)), (.int .i64 (cntT (wAt (nextW (List.map IV.str (splitL (trimSuf s { data := #[10] }) { data := #[10] }))) (Int.toNat 2)) 3)), (.int .i64 0), (.int .i64 0), (.int .i64 0), .zs]))), (15, (some (.box [(.list false [.str] (List.drop 1 (List.drop 1 (List.map IV.str (splitL (trimSuf s { data := #[10] }) { data := #[10] })))))])))]⟩ (kBlock 0 (kSq (E_text_Parse N) (subC c_text_Parse [1, 1, 1, 1, 1, 1]) (outT (E_text_Parse N) none [(ResultVar.cell 2 32), (ResultVar.tmp 3)] [[(.int .i64), (.int .i64), (.int .i64), (.int .i64), (.int .i64), (.list true [(.int .i64), (.list false [(.int .u64)])])], [.bool]]))))
      none)
    none)
  none) := by kernel_rfl

theorem st_text_Parse_1 (N : Nat) (s0 : ByteArray) (b3 : Bool) (l7 : List IV) (x28 : Int) (x29 : Int) (xo2_0 : Int) (xo2_1 : Int) (xo2_2 : Int) (xo2_3 : Int) (xo2_4 : Int) (xo6_0 : Int) (xo6_1 : Int) (xo6_2 : Int) (xo6_3 : Int) (xo6_4 : Int) (lo15_0 : List IV) (again : St → Res) (k : Out → St → Res) : rnd (E_text_Parse N) (subC c_text_Parse [1, 1, 1, 1, 1, 0, 1, 0, 0])
    ⟨[(0, (.str s0)), (2, (.ptr 2 0 0)), (3, (.bool b3)), (4, (.ptr 15 0 0)), (6, (.ptr 6 0 0)), (7, (.list false [.str] l7)), (28, (.int .i64 x28)), (29, (.int .i64 x29))], [(2, (some (.box [(.int .i64 xo2_0), (.int .i64 xo2_1), (.int .i64 xo2_2), (.int .i64 xo2_3), (.int .i64 xo2_4), .zs]))), (6, (some (.box [(.int .i64 xo6_0), (.int .i64 xo6_1), (.int .i64 xo6_2), (.int .i64 xo6_3), (.int .i64 xo6_4), .zs]))), (15, (some (.box [(.list false [.str] lo15_0)])))]⟩
    (kLoop again ⟨[0, 2, 3, 4, 6, 7, 28, 29], [2, 6, 15], []⟩ k) =
  (cond (decide (x29 < x28))
  (cond (decide (0 ≤ IntKind.wrap IntKind.i64 (1 + x29)))
    (cond (decide (ByteArray.size (wAt l7 (Int.toNat (IntKind.wrap IntKind.i64 (1 + x29)))) < 4294967281))
      (cond (decide (x29 = ic 0))
        (again ⟨[(0, (.str s0)), (2, (.ptr 2 0 0)), (3, (.bool b3)), (4, (.ptr 15 0 0)), (6, (.ptr 6 0 0)), (7, (.list false [.str] l7)), (28, (.int .i64 x28)), (29, (.int .i64 (IntKind.wrap IntKind.i64 (x29 + 1))))], [(2, (some (.box [(.int .i64 xo2_0), (.int .i64 xo2_1), (.int .i64 xo2_2), (.int .i64 xo2_3), (.int .i64 xo2_4), .zs]))), (6, (some (.box [(.int .i64 xo6_0), (.int .i64 xo6_1), (.int .i64 (decV (wAt l7 (Int.toNat (IntKind.wrap IntKind.i64 (1 + x29)))))), (.int .i64 xo6_3), (.int .i64 xo6_4), .zs]))), (15, (some (.box [(.list false [.str] lo15_0)])))]⟩)
        (cond (decide (x29 = ic 1))
          (again ⟨[(0, (.str s0)), (2, (.ptr 2 0 0)), (3, (.bool b3)), (4, (.ptr 15 0 0)), (6, (.ptr 6 0 0)), (7, (.list false [.str] l7)), (28, (.int .i64 x28)), (29, (.int .i64 (IntKind.wrap IntKind.i64 (x29 + 1))))], [(2, (some (.box [(.int .i64 xo2_0), (.int .i64 xo2_1), (.int .i64 xo2_2), (.int .i64 xo2_3), (.int .i64 xo2_4), .zs]))), (6, (some (.box [(.int .i64 xo6_0), (.int .i64 xo6_1), (.int .i64 xo6_2), (.int .i64 (decV (wAt l7 (Int.toNat (IntKind.wrap IntKind.i64 (1 + x29)))))), (.int .i64 xo6_4), .zs]))), (15, (some (.box [(.list false [.str] lo15_0)])))]⟩)
          (cond (decide (x29 = ic 2))
            (again ⟨[(0, (.str s0)), (2, (.ptr 2 0 0)), (3, (.bool b3)), (4, (.ptr 15 0 0)), (6, (.ptr 6 0 0)), (7, (.list false [.str] l7)), (28, (.int .i64 x28)), (29, (.int .i64 (IntKind.wrap IntKind.i64 (x29 + 1))))], [(2, (some (.box [(.int .i64 xo2_0), (.int .i64 xo2_1), (.int .i64 xo2_2), (.int .i64 xo2_3), (.int .i64 xo2_4), .zs]))), (6, (some (.box [(.int .i64 xo6_0), (.int .i64 xo6_1), (.int .i64 xo6_2), (.int .i64 xo6_3), (.int .i64 (decV (wAt l7 (Int.toNat (IntKind.wrap IntKind.i64 (1 + x29)))))), .zs]))), (15, (some (.box [(.list false [.str] lo15_0)])))]⟩)
            none)))
      none)
    none)
  (k (.exit 0) ⟨[(0, (.str s0)), (2, (.ptr 2 0 0)), (3, (.bool b3)), (4, (.ptr 15 0 0)), (6, (.ptr 6 0 0)), (7, (.list false [.str] l7)), (28, (.int .i64 x28)), (29, (.int .i64 x29))], [(2, (some (.box [(.int .i64 xo2_0), (.int .i64 xo2_1), (.int .i64 xo2_2), (.int .i64 xo2_3), (.int .i64 xo2_4), .zs]))), (6, (some (.box [(.int .i64 xo6_0), (.int .i64 xo6_1), (.int .i64 xo6_2), (.int .i64 xo6_3), (.int .i64 xo6_4), .zs]))), (15, (some (.box [(.list false [.str] lo15_0)])))]⟩)) := by kernel_rfl

theorem ex_text_Parse_1_1 (N : Nat) (s0 : ByteArray) (b3 : Bool) (l7 : List IV) (x28 : Int) (x29 : Int) (xo2_0 : Int) (xo2_1 : Int) (xo2_2 : Int) (xo2_3 : Int) (xo2_4 : Int) (xo6_0 : Int) (xo6_1 : Int) (xo6_2 : Int) (xo6_3 : Int) (xo6_4 : Int) (lo15_0 : List IV) : (kBlock 0 (kSq (E_text_Parse N) (subC c_text_Parse [1, 1, 1, 1, 1, 1]) (outT (E_text_Parse N) none [(ResultVar.cell 2 32), (ResultVar.tmp 3)] [[(.int .i64), (.int .i64), (.int .i64), (.int .i64), (.int .i64), (.list true [(.int .i64), (.list false [(.int .u64)])])], [.bool]]))) (.exit 0)
    ⟨[(0, (.str s0)), (2, (.ptr 2 0 0)), (3, (.bool b3)), (4, (.ptr 15 0 0)), (6, (.ptr 6 0 0)), (7, (.list false [.str] l7)), (28, (.int .i64 x28)), (29, (.int .i64 x29))], [(2, (some (.box [(.int .i64 xo2_0), (.int .i64 xo2_1), (.int .i64 xo2_2), (.int .i64 xo2_3), (.int .i64 xo2_4), .zs]))), (6, (some (.box [(.int .i64 xo6_0), (.int .i64 xo6_1), (.int .i64 xo6_2), (.int .i64 xo6_3), (.int .i64 xo6_4), .zs]))), (15, (some (.box [(.list false [.str] lo15_0)])))]⟩ =
  (lpE (E_text_Parse N) (subC c_text_Parse [1, 1, 1, 1, 1, 1, 0, 0, 0]) ⟨[0, 2, 3, 4, 6], [2, 6, 15, 500], [⟨(.cell 6 5), 500, 29, true, [(.int .i64), (.list false [(.int .u64)])]⟩]⟩ N ⟨[(0, (.str s0)), (2, (.ptr 2 0 0)), (3, (.bool b3)), (4, (.ptr 15 0 0)), (6, (.ptr 6 0 0))], [(2, (some (.box [(.int .i64 xo2_0), (.int .i64 xo2_1), (.int .i64 xo2_2), (.int .i64 xo2_3), (.int .i64 xo2_4), .zs]))), (6, (some (.box [(.int .i64 xo6_0), (.int .i64 xo6_1), (.int .i64 xo6_2), (.int .i64 xo6_3), (.int .i64 xo6_4), (.row 500 0 0)]))), (15, (some (.box [(.list false [.str] lo15_0)]))), (500, (some (.row true 29 true [(.int .i64), (.list false [(.int .u64)])] [])))]⟩ (kBlock 2 (kSq (E_text_Parse N) (subC c_text_Parse [1, 1, 1, 1, 1, 1, 1]) (outT (E_text_Parse N) none [(ResultVar.cell 2 32), (ResultVar.tmp 3)] [[(.int .i64), (.int .i64), (.int .i64), (.int .i64), (.int .i64), (.list true [(.int .i64), (.list false [(.int .u64)])])], [.bool]])))) := by kernel_rfl

theorem st_text_Parse_2 (N : Nat) (s0 : ByteArray) (b3 : Bool) (xo2_0 : Int) (xo2_1 : Int) (xo2_2 : Int) (xo2_3 : Int) (xo2_4 : Int) (xo6_0 : Int) (xo6_1 : Int) (xo6_2 : Int) (xo6_3 : Int) (xo6_4 : Int) (no6_5 : Nat) (lo15_0 : List IV) (lo500 : List IV) (again : St → Res) (k : Out → St → Res) : rnd (E_text_Parse N) (subC c_text_Parse [1, 1, 1, 1, 1, 1, 0, 0, 0])
    ⟨[(0, (.str s0)), (2, (.ptr 2 0 0)), (3, (.bool b3)), (4, (.ptr 15 0 0)), (6, (.ptr 6 0 0))], [(2, (some (.box [(.int .i64 xo2_0), (.int .i64 xo2_1), (.int .i64 xo2_2), (.int .i64 xo2_3), (.int .i64 xo2_4), .zs]))), (6, (some (.box [(.int .i64 xo6_0), (.int .i64 xo6_1), (.int .i64 xo6_2), (.int .i64 xo6_3), (.int .i64 xo6_4), (.row 500 0 no6_5)]))), (15, (some (.box [(.list false [.str] lo15_0)]))), (500, (some (.row true 29 true [(.int .i64), (.list false [(.int .u64)])] lo500)))]⟩
    (kLoop again ⟨[0, 2, 3, 4, 6], [2, 6, 15, 500], [⟨(.cell 6 5), 500, 29, true, [(.int .i64), (.list false [(.int .u64)])]⟩]⟩ k) =
  (cond (decide (ic (List.length lo15_0) > 0))
  (cond (decide (ic (no6_5 - 0) ≤ 8))
    (cond (okTexts lo15_0)
      (lpE (E_text_Parse N) (subC c_text_Parse [1, 1, 1, 1, 1, 1, 0, 0, 0, 1, 0, 1, 1, 0, 1, 0, 0]) ⟨[0, 2, 3, 4, 6, 10, 61, 62], [2, 6, 10, 15, 500, 501], [⟨(.cell 6 5), 500, 29, true, [(.int .i64), (.list false [(.int .u64)])]⟩, ⟨(.cell 10 1), 501, 22, false, [(.int .u64)]⟩]⟩ N ⟨[(0, (.str s0)), (2, (.ptr 2 0 0)), (3, (.bool b3)), (4, (.ptr 15 0 0)), (6, (.ptr 6 0 0)), (10, (.ptr 10 0 0)), (61, (.int .i64 (cntT (wAt (nextW lo15_0) (Int.toNat 2)) 31))), (62, (.int .i64 0))], [(2, (some (.box [(.int .i64 xo2_0), (.int .i64 xo2_1), (.int .i64 xo2_2), (.int .i64 xo2_3), (.int .i64 xo2_4), .zs]))), (6, (some (.box [(.int .i64 xo6_0), (.int .i64 xo6_1), (.int .i64 xo6_2), (.int .i64 xo6_3), (.int .i64 xo6_4), (.row 500 0 no6_5)]))), (10, (some (.box [(.int .i64 (cntT (wAt (nextW lo15_0) (Int.toNat 1)) 3)), (.row 501 0 0)]))), (15, (some (.box [(.list false [.str] (List.drop 1 lo15_0))]))), (500, (some (.row true 29 true [(.int .i64), (.list false [(.int .u64)])] lo500))), (501, (some (.row true 22 false [(.int .u64)] [])))]⟩ (kBlock 4 (kSq (E_text_Parse N) (subC c_text_Parse [1, 1, 1, 1, 1, 1, 0, 0, 0, 1, 0, 1, 1, 1]) (kBlock 3 (kLoop again ⟨[0, 2, 3, 4, 6], [2, 6, 15, 500], [⟨(.cell 6 5), 500, 29, true, [(.int .i64), (.list false [(.int .u64)])]⟩]⟩ k)))))
      none)
    (k (.exit 2) ⟨[(0, (.str s0)), (2, (.ptr 2 0 0)), (3, (.bool b3)), (4, (.ptr 15 0 0)), (6, (.ptr 6 0 0))], [(2, (some (.box [(.int .i64 xo2_0), (.int .i64 xo2_1), (.int .i64 xo2_2), (.int .i64 xo2_3), (.int .i64 xo2_4), .zs]))), (6, (some (.box [(.int .i64 xo6_0), (.int .i64 xo6_1), (.int .i64 xo6_2), (.int .i64 xo6_3), (.int .i64 xo6_4), (.row 500 0 no6_5)]))), (15, (some (.box [(.list false [.str] lo15_0)]))), (500, (some (.row true 29 true [(.int .i64), (.list false [(.int .u64)])] lo500)))]⟩))
  (k (.exit 2) ⟨[(0, (.str s0)), (2, (.ptr 2 0 0)), (3, (.bool b3)), (4, (.ptr 15 0 0)), (6, (.ptr 6 0 0))], [(2, (some (.box [(.int .i64 xo2_0), (.int .i64 xo2_1), (.int .i64 xo2_2), (.int .i64 xo2_3), (.int .i64 xo2_4), .zs]))), (6, (some (.box [(.int .i64 xo6_0), (.int .i64 xo6_1), (.int .i64 xo6_2), (.int .i64 xo6_3), (.int .i64 xo6_4), (.row 500 0 no6_5)]))), (15, (some (.box [(.list false [.str] lo15_0)]))), (500, (some (.row true 29 true [(.int .i64), (.list false [(.int .u64)])] lo500)))]⟩)) := by kernel_rfl

theorem st_text_Parse_3 (N : Nat) (s0 : ByteArray) (b3 : Bool) (x61 : Int) (x62 : Int) (xo2_0 : Int) (xo2_1 : Int) (xo2_2 : Int) (xo2_3 : Int) (xo2_4 : Int) (xo6_0 : Int) (xo6_1 : Int) (xo6_2 : Int) (xo6_3 : Int) (xo6_4 : Int) (no6_5 : Nat) (xo10_0 : Int) (no10_1 : Nat) (lo15_0 : List IV) (lo500 : List IV) (lo501 : List IV) (again : St → Res) (k : Out → St → Res) : rnd (E_text_Parse N) (subC c_text_Parse [1, 1, 1, 1, 1, 1, 0, 0, 0, 1, 0, 1, 1, 0, 1, 0, 0])
    ⟨[(0, (.str s0)), (2, (.ptr 2 0 0)), (3, (.bool b3)), (4, (.ptr 15 0 0)), (6, (.ptr 6 0 0)), (10, (.ptr 10 0 0)), (61, (.int .i64 x61)), (62, (.int .i64 x62))], [(2, (some (.box [(.int .i64 xo2_0), (.int .i64 xo2_1), (.int .i64 xo2_2), (.int .i64 xo2_3), (.int .i64 xo2_4), .zs]))), (6, (some (.box [(.int .i64 xo6_0), (.int .i64 xo6_1), (.int .i64 xo6_2), (.int .i64 xo6_3), (.int .i64 xo6_4), (.row 500 0 no6_5)]))), (10, (some (.box [(.int .i64 xo10_0), (.row 501 0 no10_1)]))), (15, (some (.box [(.list false [.str] lo15_0)]))), (500, (some (.row true 29 true [(.int .i64), (.list false [(.int .u64)])] lo500))), (501, (some (.row true 22 false [(.int .u64)] lo501)))]⟩
    (kLoop again ⟨[0, 2, 3, 4, 6, 10, 61, 62], [2, 6, 10, 15, 500, 501], [⟨(.cell 6 5), 500, 29, true, [(.int .i64), (.list false [(.int .u64)])]⟩, ⟨(.cell 10 1), 501, 22, false, [(.int .u64)]⟩]⟩ k) =
  (cond (decide (x62 < x61))
  (cond (okTexts lo15_0)
    (cond (decide ((no10_1 + List.length (List.drop 0 (List.take 1 [IV.int (packNd (rdNd (nextW lo15_0)))]))) * TI.bytes (Env.tyd (E_text_Parse N) 22) ≤ bytesMax))
      (again ⟨[(0, (.str s0)), (2, (.ptr 2 0 0)), (3, (.bool b3)), (4, (.ptr 15 0 0)), (6, (.ptr 6 0 0)), (10, (.ptr 10 0 0)), (61, (.int .i64 x61)), (62, (.int .i64 (IntKind.wrap IntKind.i64 (x62 + 1))))], [(2, (some (.box [(.int .i64 xo2_0), (.int .i64 xo2_1), (.int .i64 xo2_2), (.int .i64 xo2_3), (.int .i64 xo2_4), .zs]))), (6, (some (.box [(.int .i64 xo6_0), (.int .i64 xo6_1), (.int .i64 xo6_2), (.int .i64 xo6_3), (.int .i64 xo6_4), (.row 500 0 no6_5)]))), (10, (some (.box [(.int .i64 xo10_0), (.row 501 0 (no10_1 + List.length (List.drop 0 (List.take 1 [IV.int (packNd (rdNd (nextW lo15_0)))]))))]))), (15, (some (.box [(.list false [.str] (List.drop 1 lo15_0))]))), (500, (some (.row true 29 true [(.int .i64), (.list false [(.int .u64)])] lo500))), (501, (some (.row true 22 false [(.int .u64)] (List.take no10_1 lo501 ++ List.drop 0 (List.take 1 [IV.int (packNd (rdNd (nextW lo15_0)))])))))]⟩)
      none)
    none)
  (k (.exit 4) ⟨[(0, (.str s0)), (2, (.ptr 2 0 0)), (3, (.bool b3)), (4, (.ptr 15 0 0)), (6, (.ptr 6 0 0)), (10, (.ptr 10 0 0)), (61, (.int .i64 x61)), (62, (.int .i64 x62))], [(2, (some (.box [(.int .i64 xo2_0), (.int .i64 xo2_1), (.int .i64 xo2_2), (.int .i64 xo2_3), (.int .i64 xo2_4), .zs]))), (6, (some (.box [(.int .i64 xo6_0), (.int .i64 xo6_1), (.int .i64 xo6_2), (.int .i64 xo6_3), (.int .i64 xo6_4), (.row 500 0 no6_5)]))), (10, (some (.box [(.int .i64 xo10_0), (.row 501 0 no10_1)]))), (15, (some (.box [(.list false [.str] lo15_0)]))), (500, (some (.row true 29 true [(.int .i64), (.list false [(.int .u64)])] lo500))), (501, (some (.row true 22 false [(.int .u64)] lo501)))]⟩)) := by kernel_rfl

theorem ex_text_Parse_2_1 (N : Nat) (s0 : ByteArray) (b3 : Bool) (xo2_0 : Int) (xo2_1 : Int) (xo2_2 : Int) (xo2_3 : Int) (xo2_4 : Int) (xo6_0 : Int) (xo6_1 : Int) (xo6_2 : Int) (xo6_3 : Int) (xo6_4 : Int) (no6_5 : Nat) (lo15_0 : List IV) (lo500 : List IV) : (kBlock 2 (kSq (E_text_Parse N) (subC c_text_Parse [1, 1, 1, 1, 1, 1, 1]) (outT (E_text_Parse N) none [(ResultVar.cell 2 32), (ResultVar.tmp 3)] [[(.int .i64), (.int .i64), (.int .i64), (.int .i64), (.int .i64), (.list true [(.int .i64), (.list false [(.int .u64)])])], [.bool]]))) (.exit 2)
    ⟨[(0, (.str s0)), (2, (.ptr 2 0 0)), (3, (.bool b3)), (4, (.ptr 15 0 0)), (6, (.ptr 6 0 0))], [(2, (some (.box [(.int .i64 xo2_0), (.int .i64 xo2_1), (.int .i64 xo2_2), (.int .i64 xo2_3), (.int .i64 xo2_4), .zs]))), (6, (some (.box [(.int .i64 xo6_0), (.int .i64 xo6_1), (.int .i64 xo6_2), (.int .i64 xo6_3), (.int .i64 xo6_4), (.row 500 0 no6_5)]))), (15, (some (.box [(.list false [.str] lo15_0)]))), (500, (some (.row true 29 true [(.int .i64), (.list false [(.int .u64)])] lo500)))]⟩ =
  (cond (ByteArray.toList s0 == ByteArray.toList { data := #[] })
  (some ((.tup [(.agg [(.int .i64 0), (.int .i64 0), (.int .i64 0), (.int .i64 0), (.int .i64 0), (.list true [(.int .i64), (.list false [(.int .u64)])] [])]), (.bool false)]), []))
  (cond (!ByteArray.toList (printM { d := xo6_0, c := xo6_1, b0 := xo6_2, b1 := xo6_3, b2 := xo6_4, ts := List.drop 0 (List.take no6_5 lo500) }) == ByteArray.toList s0)
    (some ((.tup [(.agg [(.int .i64 0), (.int .i64 0), (.int .i64 0), (.int .i64 0), (.int .i64 0), (.list true [(.int .i64), (.list false [(.int .u64)])] [])]), (.bool false)]), []))
    (some ((.tup [(.agg [(.int .i64 xo6_0), (.int .i64 xo6_1), (.int .i64 xo6_2), (.int .i64 xo6_3), (.int .i64 xo6_4), (.list true [(.int .i64), (.list false [(.int .u64)])] (List.drop 0 (List.take no6_5 lo500)))]), (.bool true)]), [])))) := by kernel_rfl

theorem ex_text_Parse_3_1 (N : Nat) (again : St → Res) (k : Out → St → Res) (s0 : ByteArray) (b3 : Bool) (x61 : Int) (x62 : Int) (xo2_0 : Int) (xo2_1 : Int) (xo2_2 : Int) (xo2_3 : Int) (xo2_4 : Int) (xo6_0 : Int) (xo6_1 : Int) (xo6_2 : Int) (xo6_3 : Int) (xo6_4 : Int) (no6_5 : Nat) (xo10_0 : Int) (no10_1 : Nat) (lo15_0 : List IV) (lo500 : List IV) (lo501 : List IV) : (kBlock 4 (kSq (E_text_Parse N) (subC c_text_Parse [1, 1, 1, 1, 1, 1, 0, 0, 0, 1, 0, 1, 1, 1]) (kBlock 3 (kLoop again ⟨[0, 2, 3, 4, 6], [2, 6, 15, 500], [⟨(.cell 6 5), 500, 29, true, [(.int .i64), (.list false [(.int .u64)])]⟩]⟩ k)))) (.exit 4)
    ⟨[(0, (.str s0)), (2, (.ptr 2 0 0)), (3, (.bool b3)), (4, (.ptr 15 0 0)), (6, (.ptr 6 0 0)), (10, (.ptr 10 0 0)), (61, (.int .i64 x61)), (62, (.int .i64 x62))], [(2, (some (.box [(.int .i64 xo2_0), (.int .i64 xo2_1), (.int .i64 xo2_2), (.int .i64 xo2_3), (.int .i64 xo2_4), .zs]))), (6, (some (.box [(.int .i64 xo6_0), (.int .i64 xo6_1), (.int .i64 xo6_2), (.int .i64 xo6_3), (.int .i64 xo6_4), (.row 500 0 no6_5)]))), (10, (some (.box [(.int .i64 xo10_0), (.row 501 0 no10_1)]))), (15, (some (.box [(.list false [.str] lo15_0)]))), (500, (some (.row true 29 true [(.int .i64), (.list false [(.int .u64)])] lo500))), (501, (some (.row true 22 false [(.int .u64)] lo501)))]⟩ =
  (cond (decide ((no6_5 + List.length (List.drop 0 (List.take 1 [IV.agg [IV.int xo10_0, IV.list (List.drop 0 (List.take no10_1 lo501))]]))) * TI.bytes (Env.tyd (E_text_Parse N) 29) ≤ bytesMax))
  (again ⟨[(0, (.str s0)), (2, (.ptr 2 0 0)), (3, (.bool b3)), (4, (.ptr 15 0 0)), (6, (.ptr 6 0 0))], [(2, (some (.box [(.int .i64 xo2_0), (.int .i64 xo2_1), (.int .i64 xo2_2), (.int .i64 xo2_3), (.int .i64 xo2_4), .zs]))), (6, (some (.box [(.int .i64 xo6_0), (.int .i64 xo6_1), (.int .i64 xo6_2), (.int .i64 xo6_3), (.int .i64 xo6_4), (.row 500 0 (no6_5 + List.length (List.drop 0 (List.take 1 [IV.agg [IV.int xo10_0, IV.list (List.drop 0 (List.take no10_1 lo501))]]))))]))), (15, (some (.box [(.list false [.str] lo15_0)]))), (500, (some (.row true 29 true [(.int .i64), (.list false [(.int .u64)])] (List.take no6_5 lo500 ++ List.drop 0 (List.take 1 [IV.agg [IV.int xo10_0, IV.list (List.drop 0 (List.take no10_1 lo501))]])))))]⟩)
  none) := by kernel_rfl

/-! ### copse/copsebook.Same<uint64> -/
def E_copsebook_Same_uint64 (N : Nat) : Env := mkE [] [(4, ⟨[0, 1, 4, 5], [], []⟩)] 26 N

theorem nf_copsebook_Same_uint64 (N : Nat) (a : List IV) (b : List IV) : evFun (E_copsebook_Same_uint64 N) c_copsebook_Same_uint64 [.tmp 4] [[.bool]] [(.list false [.int .u64] a), (.list false [.int .u64] b)] =
  (cond (ic (List.length a) != ic (List.length b))
  (some ((.bool false), []))
  (lpE (E_copsebook_Same_uint64 N) (subC c_copsebook_Same_uint64 [1, 1, 0, 1, 0, 0]) ⟨[0, 1, 4, 5], [], []⟩ N ⟨[(0, (.list false [(.int .u64)] a)), (1, (.list false [(.int .u64)] b)), (4, (.bool false)), (5, (.int .i64 0))], []⟩ (kBlock 0 (kSq (E_copsebook_Same_uint64 N) (subC c_copsebook_Same_uint64 [1, 1, 1]) (outT (E_copsebook_Same_uint64 N) none [(ResultVar.tmp 4)] [[.bool]]))))) := by kernel_rfl

theorem st_copsebook_Same_uint64_1 (N : Nat) (l0 : List IV) (l1 : List IV) (b4 : Bool) (x5 : Int) (again : St → Res) (k : Out → St → Res) : rnd (E_copsebook_Same_uint64 N) (subC c_copsebook_Same_uint64 [1, 1, 0, 1, 0, 0])
    ⟨[(0, (.list false [(.int .u64)] l0)), (1, (.list false [(.int .u64)] l1)), (4, (.bool b4)), (5, (.int .i64 x5))], []⟩
    (kLoop again ⟨[0, 1, 4, 5], [], []⟩ k) =
  (cond (decide (x5 < ic (List.length l0)))
  (cond (decide (0 ≤ x5) && decide (x5 < ic (List.length l0)))
    (cond (decide (0 ≤ x5) && decide (x5 < ic (List.length l1)))
      (cond (IV.toInt (List.getD l0 (Int.toNat x5) default) != IV.toInt (List.getD l1 (Int.toNat x5) default))
        (k .ret ⟨[(0, (.list false [(.int .u64)] l0)), (1, (.list false [(.int .u64)] l1)), (4, (.bool false)), (5, (.int .i64 x5))], []⟩)
        (again ⟨[(0, (.list false [(.int .u64)] l0)), (1, (.list false [(.int .u64)] l1)), (4, (.bool b4)), (5, (.int .i64 (IntKind.wrap IntKind.i64 (x5 + 1))))], []⟩))
      none)
    none)
  (k (.exit 0) ⟨[(0, (.list false [(.int .u64)] l0)), (1, (.list false [(.int .u64)] l1)), (4, (.bool b4)), (5, (.int .i64 x5))], []⟩)) := by kernel_rfl

theorem ex_copsebook_Same_uint64_1_1 (N : Nat) (l0 : List IV) (l1 : List IV) (b4 : Bool) (x5 : Int) : (kBlock 0 (kSq (E_copsebook_Same_uint64 N) (subC c_copsebook_Same_uint64 [1, 1, 1]) (outT (E_copsebook_Same_uint64 N) none [(ResultVar.tmp 4)] [[.bool]]))) (.exit 0)
    ⟨[(0, (.list false [(.int .u64)] l0)), (1, (.list false [(.int .u64)] l1)), (4, (.bool b4)), (5, (.int .i64 x5))], []⟩ =
  (some ((.bool true), [])) := by kernel_rfl

theorem ex_copsebook_Same_uint64_1_2 (N : Nat) (l0 : List IV) (l1 : List IV) (b4 : Bool) (x5 : Int) : (kBlock 0 (kSq (E_copsebook_Same_uint64 N) (subC c_copsebook_Same_uint64 [1, 1, 1]) (outT (E_copsebook_Same_uint64 N) none [(ResultVar.tmp 4)] [[.bool]]))) .ret
    ⟨[(0, (.list false [(.int .u64)] l0)), (1, (.list false [(.int .u64)] l1)), (4, (.bool b4)), (5, (.int .i64 x5))], []⟩ =
  (some ((.bool b4), [])) := by kernel_rfl

/-! ### copse/copsekeep.Models -/
def E_copsekeep_Models (N : Nat) : Env := mkE [(31, S_copsebook_Same_uint64)] [(4, ⟨[2, 3, 4, 36, 37], [2, 3], []⟩)] 70 N

theorem nf_copsekeep_Models (N : Nat) (a_Dim : Int) (a_Classes : Int) (a_Bias_0 : Int) (a_Bias_1 : Int) (a_Bias_2 : Int) (a_Trees : List IV) (a1_Dim : Int) (a1_Classes : Int) (a1_Bias_0 : Int) (a1_Bias_1 : Int) (a1_Bias_2 : Int) (a1_Trees : List IV) : evFun (E_copsekeep_Models N) c_copsekeep_Models [.tmp 4] [[.bool]] [(.agg [(.int .i64 a_Dim), (.int .i64 a_Classes), (.int .i64 a_Bias_0), (.int .i64 a_Bias_1), (.int .i64 a_Bias_2), (.list true [.int .i64, .list false [.int .u64]] a_Trees)]), (.agg [(.int .i64 a1_Dim), (.int .i64 a1_Classes), (.int .i64 a1_Bias_0), (.int .i64 a1_Bias_1), (.int .i64 a1_Bias_2), (.list true [.int .i64, .list false [.int .u64]] a1_Trees)])] =
  (cond (a_Dim != a1_Dim)
  (some ((.bool false), []))
  (cond (a_Classes != a1_Classes)
    (some ((.bool false), []))
    (cond (!(a_Bias_0 == a1_Bias_0 && (a_Bias_1 == a1_Bias_1 && (a_Bias_2 == a1_Bias_2 && true))))
      (some ((.bool false), []))
      (cond (ic (List.length a_Trees) != ic (List.length a1_Trees))
        (some ((.bool false), []))
        (lpE (E_copsekeep_Models N) (subC c_copsekeep_Models [1, 1, 0, 1, 0, 0]) ⟨[2, 3, 4, 36, 37], [2, 3], []⟩ N ⟨[(2, (.ptr 2 0 0)), (3, (.ptr 3 0 0)), (4, (.bool false)), (36, (.int .i64 (ic (List.length a_Trees)))), (37, (.int .i64 0))], [(2, (some (.box [(.int .i64 a_Dim), (.int .i64 a_Classes), (.int .i64 a_Bias_0), (.int .i64 a_Bias_1), (.int .i64 a_Bias_2), (.list true [(.int .i64), (.list false [(.int .u64)])] a_Trees)]))), (3, (some (.box [(.int .i64 a1_Dim), (.int .i64 a1_Classes), (.int .i64 a1_Bias_0), (.int .i64 a1_Bias_1), (.int .i64 a1_Bias_2), (.list true [(.int .i64), (.list false [(.int .u64)])] a1_Trees)])))]⟩ (kBlock 0 (kSq (E_copsekeep_Models N) (subC c_copsekeep_Models [1, 1, 1]) (outT (E_copsekeep_Models N) none [(ResultVar.tmp 4)] [[.bool]])))))))) := by kernel_rfl

theorem st_copsekeep_Models_1 (N : Nat) (b4 : Bool) (x36 : Int) (x37 : Int) (xo2_0 : Int) (xo2_1 : Int) (xo2_2 : Int) (xo2_3 : Int) (xo2_4 : Int) (lo2_5 : List IV) (xo3_0 : Int) (xo3_1 : Int) (xo3_2 : Int) (xo3_3 : Int) (xo3_4 : Int) (lo3_5 : List IV) (again : St → Res) (k : Out → St → Res) : rnd (E_copsekeep_Models N) (subC c_copsekeep_Models [1, 1, 0, 1, 0, 0])
    ⟨[(2, (.ptr 2 0 0)), (3, (.ptr 3 0 0)), (4, (.bool b4)), (36, (.int .i64 x36)), (37, (.int .i64 x37))], [(2, (some (.box [(.int .i64 xo2_0), (.int .i64 xo2_1), (.int .i64 xo2_2), (.int .i64 xo2_3), (.int .i64 xo2_4), (.list true [(.int .i64), (.list false [(.int .u64)])] lo2_5)]))), (3, (some (.box [(.int .i64 xo3_0), (.int .i64 xo3_1), (.int .i64 xo3_2), (.int .i64 xo3_3), (.int .i64 xo3_4), (.list true [(.int .i64), (.list false [(.int .u64)])] lo3_5)])))]⟩
    (kLoop again ⟨[2, 3, 4, 36, 37], [2, 3], []⟩ k) =
  (cond (decide (x37 < x36))
  (cond (decide (0 ≤ x37) && decide (x37 < ic (List.length lo2_5)))
    (cond (decide (0 ≤ x37) && decide (x37 < ic (List.length lo3_5)))
      (cond (IV.toInt (IV.cell (List.getD lo2_5 (Int.toNat x37) default) 0) != IV.toInt (IV.cell (List.getD lo3_5 (Int.toNat x37) default) 0))
        (k .ret ⟨[(2, (.ptr 2 0 0)), (3, (.ptr 3 0 0)), (4, (.bool false)), (36, (.int .i64 x36)), (37, (.int .i64 x37))], [(2, (some (.box [(.int .i64 xo2_0), (.int .i64 xo2_1), (.int .i64 xo2_2), (.int .i64 xo2_3), (.int .i64 xo2_4), (.list true [(.int .i64), (.list false [(.int .u64)])] lo2_5)]))), (3, (some (.box [(.int .i64 xo3_0), (.int .i64 xo3_1), (.int .i64 xo3_2), (.int .i64 xo3_3), (.int .i64 xo3_4), (.list true [(.int .i64), (.list false [(.int .u64)])] lo3_5)])))]⟩)
        (cond (decide (0 ≤ x37) && decide (x37 < ic (List.length lo2_5)))
          (cond (decide (0 ≤ x37) && decide (x37 < ic (List.length lo3_5)))
            (cond (!sameI (IV.toList (IV.cell (List.getD lo2_5 (Int.toNat x37) default) 1)) (IV.toList (IV.cell (List.getD lo3_5 (Int.toNat x37) default) 1)))
              (k .ret ⟨[(2, (.ptr 2 0 0)), (3, (.ptr 3 0 0)), (4, (.bool false)), (36, (.int .i64 x36)), (37, (.int .i64 x37))], [(2, (some (.box [(.int .i64 xo2_0), (.int .i64 xo2_1), (.int .i64 xo2_2), (.int .i64 xo2_3), (.int .i64 xo2_4), (.list true [(.int .i64), (.list false [(.int .u64)])] lo2_5)]))), (3, (some (.box [(.int .i64 xo3_0), (.int .i64 xo3_1), (.int .i64 xo3_2), (.int .i64 xo3_3), (.int .i64 xo3_4), (.list true [(.int .i64), (.list false [(.int .u64)])] lo3_5)])))]⟩)
              (again ⟨[(2, (.ptr 2 0 0)), (3, (.ptr 3 0 0)), (4, (.bool b4)), (36, (.int .i64 x36)), (37, (.int .i64 (IntKind.wrap IntKind.i64 (x37 + 1))))], [(2, (some (.box [(.int .i64 xo2_0), (.int .i64 xo2_1), (.int .i64 xo2_2), (.int .i64 xo2_3), (.int .i64 xo2_4), (.list true [(.int .i64), (.list false [(.int .u64)])] lo2_5)]))), (3, (some (.box [(.int .i64 xo3_0), (.int .i64 xo3_1), (.int .i64 xo3_2), (.int .i64 xo3_3), (.int .i64 xo3_4), (.list true [(.int .i64), (.list false [(.int .u64)])] lo3_5)])))]⟩))
            none)
          none))
      none)
    none)
  (k (.exit 0) ⟨[(2, (.ptr 2 0 0)), (3, (.ptr 3 0 0)), (4, (.bool b4)), (36, (.int .i64 x36)), (37, (.int .i64 x37))], [(2, (some (.box [(.int .i64 xo2_0), (.int .i64 xo2_1), (.int .i64 xo2_2), (.int .i64 xo2_3), (.int .i64 xo2_4), (.list true [(.int .i64), (.list false [(.int .u64)])] lo2_5)]))), (3, (some (.box [(.int .i64 xo3_0), (.int .i64 xo3_1), (.int .i64 xo3_2), (.int .i64 xo3_3), (.int .i64 xo3_4), (.list true [(.int .i64), (.list false [(.int .u64)])] lo3_5)])))]⟩)) := by kernel_rfl

theorem ex_copsekeep_Models_1_1 (N : Nat) (b4 : Bool) (x36 : Int) (x37 : Int) (xo2_0 : Int) (xo2_1 : Int) (xo2_2 : Int) (xo2_3 : Int) (xo2_4 : Int) (lo2_5 : List IV) (xo3_0 : Int) (xo3_1 : Int) (xo3_2 : Int) (xo3_3 : Int) (xo3_4 : Int) (lo3_5 : List IV) : (kBlock 0 (kSq (E_copsekeep_Models N) (subC c_copsekeep_Models [1, 1, 1]) (outT (E_copsekeep_Models N) none [(ResultVar.tmp 4)] [[.bool]]))) (.exit 0)
    ⟨[(2, (.ptr 2 0 0)), (3, (.ptr 3 0 0)), (4, (.bool b4)), (36, (.int .i64 x36)), (37, (.int .i64 x37))], [(2, (some (.box [(.int .i64 xo2_0), (.int .i64 xo2_1), (.int .i64 xo2_2), (.int .i64 xo2_3), (.int .i64 xo2_4), (.list true [(.int .i64), (.list false [(.int .u64)])] lo2_5)]))), (3, (some (.box [(.int .i64 xo3_0), (.int .i64 xo3_1), (.int .i64 xo3_2), (.int .i64 xo3_3), (.int .i64 xo3_4), (.list true [(.int .i64), (.list false [(.int .u64)])] lo3_5)])))]⟩ =
  (some ((.bool true), [])) := by kernel_rfl

theorem ex_copsekeep_Models_1_2 (N : Nat) (b4 : Bool) (x36 : Int) (x37 : Int) (xo2_0 : Int) (xo2_1 : Int) (xo2_2 : Int) (xo2_3 : Int) (xo2_4 : Int) (lo2_5 : List IV) (xo3_0 : Int) (xo3_1 : Int) (xo3_2 : Int) (xo3_3 : Int) (xo3_4 : Int) (lo3_5 : List IV) : (kBlock 0 (kSq (E_copsekeep_Models N) (subC c_copsekeep_Models [1, 1, 1]) (outT (E_copsekeep_Models N) none [(ResultVar.tmp 4)] [[.bool]]))) .ret
    ⟨[(2, (.ptr 2 0 0)), (3, (.ptr 3 0 0)), (4, (.bool b4)), (36, (.int .i64 x36)), (37, (.int .i64 x37))], [(2, (some (.box [(.int .i64 xo2_0), (.int .i64 xo2_1), (.int .i64 xo2_2), (.int .i64 xo2_3), (.int .i64 xo2_4), (.list true [(.int .i64), (.list false [(.int .u64)])] lo2_5)]))), (3, (some (.box [(.int .i64 xo3_0), (.int .i64 xo3_1), (.int .i64 xo3_2), (.int .i64 xo3_3), (.int .i64 xo3_4), (.list true [(.int .i64), (.list false [(.int .u64)])] lo3_5)])))]⟩ =
  (some ((.bool b4), [])) := by kernel_rfl

end Go.FM

/-
  text's FUNCTIONS COME TO WHAT IS SAID (2): Parse; models compared.
-/
namespace Go.FM
open Go Go.Proofs

theorem cntT_in (s : ByteArray) {most : Int} (h : 0 ≤ most) : 0 ≤ cntT s most ∧ cntT s most ≤ most := by
  unfold cntT
  cases ha : atoiN s <;> cases h1 : decide (atoiV s < 0) <;> cases h2 : decide (atoiV s > most)
  all_goals simp only [Bool.not_true, Bool.not_false, Bool.and_self, Bool.and_true, Bool.and_false, Bool.false_and, Bool.true_and, cond_true, cond_false]
  all_goals first
    | exact ⟨by omega, by omega⟩
    | (have h1 := of_decide_eq_false h1; have h2 := of_decide_eq_false h2; omega)

theorem trim_size (s t : ByteArray) : (trimSuf s t).size ≤ s.size := by
  unfold trimSuf
  cases hasSuf s t with
  | true =>
    rw [condT, ByteArray.size_extract]
    omega
  | false => exact Nat.le_refl _
theorem lines_ok {s : ByteArray} (h : s.size < 4294967281) : okTexts (linesOf s) = true := by
  unfold okTexts linesOf
  rw [List.all_eq_true]
  intro x hx
  obtain ⟨w, hw, rfl⟩ := List.mem_map.1 hx
  have := (splitB_sizes w_lf _ (trimLF s)).2 w hw
  have h2 : (trimLF s).size ≤ s.size := trim_size s w_lf
  refine decide_eq_true ?_
  show w.size < 4294967281
  omega

abbrev kpA : KP := ⟨[0, 2, 3, 4, 6, 7, 28, 29], [2, 6, 15], []⟩
abbrev kpB : KP := ⟨[0, 2, 3, 4, 6], [2, 6, 15, 500], [⟨.cell 6 5, 500, 29, true, [.int .i64, .list false [.int .u64]]⟩]⟩
abbrev kpC : KP := ⟨[0, 2, 3, 4, 6, 10, 61, 62], [2, 6, 10, 15, 500, 501], [⟨.cell 6 5, 500, 29, true, [.int .i64, .list false [.int .u64]]⟩, ⟨.cell 10 1, 501, 22, false, [.int .u64]⟩]⟩
abbrev xstA (s : ByteArray) (W : List IV) (C : Int) (i : Int) (d c b0 b1 b2 : Int) (L : List IV) : St :=
  ⟨[(0, (.str s)), (2, (.ptr 2 0 0)), (3, (.bool false)), (4, (.ptr 15 0 0)), (6, (.ptr 6 0 0)), (7, (.list false [.str] W)), (28, (.int .i64 C)), (29, (.int .i64 i))], [(2, (some (.box [(.int .i64 0), (.int .i64 0), (.int .i64 0), (.int .i64 0), (.int .i64 0), .zs]))), (6, (some (.box [(.int .i64 d), (.int .i64 c), (.int .i64 b0), (.int .i64 b1), (.int .i64 b2), .zs]))), (15, (some (.box [(.list false [.str] L)])))]⟩
theorem bias_read (N : Nat) (s : ByteArray) (W : List IV) (hW : ∀ i, (wAt W i).size < 4294967281) (C : Int) (i : Nat) (hi : (i : Int) < C) (h3 : i < 3) (d c b0 b1 b2 : Int) (L : List IV) (again : St → Res) (k : Out → St → Res) :
    rnd (E_text_Parse N) (subC c_text_Parse [1, 1, 1, 1, 1, 0, 1, 0, 0]) (xstA s W C (i : Int) d c b0 b1 b2 L) (kLoop again kpA k) =
      again (xstA s W C ((i + 1 : Nat) : Int) d c (cond (Nat.beq i 0) (decV (wAt W (1 + i))) b0) (cond (Nat.beq i 1) (decV (wAt W (1 + i))) b1) (cond (Nat.beq i 2) (decV (wAt W (1 + i))) b2) L) := by
  rw [st_text_Parse_1]
  have ei : IntKind.wrap IntKind.i64 ((i : Int) + 1) = ((i + 1 : Nat) : Int) := by
    rw [wrap_id (by omega) (by omega)]
    omega
  have ei' : IntKind.wrap IntKind.i64 (1 + (i : Int)) = ((1 + i : Nat) : Int) := by
    rw [wrap_id (by omega) (by omega)]
    omega
  rw [ei, ei', Int.toNat_natCast, decide_eq_true hi, condT, decide_eq_true (show (0 : Int) ≤ ((1 + i : Nat) : Int) by omega), condT, decide_eq_true (hW (1 + i)), condT]
  match i, h3 with
  | 0, _ => rfl
  | 1, _ => rfl
  | 2, _ => rfl

theorem biases_read (N : Nat) (s : ByteArray) (LS W : List IV) (hWe : W = nextW (LS.drop 1)) (hW : ∀ i, (wAt W i).size < 4294967281) (C : Int) (h0 : 0 ≤ C) (h3 : C ≤ 3) (hN : 10 ≤ N) (d c : Int) (L : List IV) (K : Out → St → Res) :
    lpE (E_text_Parse N) (subC c_text_Parse [1, 1, 1, 1, 1, 0, 1, 0, 0]) kpA N (xstA s W C 0 d c 0 0 0 L) K = K (.exit 0) (xstA s W C C d c (rdBias LS C 0) (rdBias LS C 1) (rdBias LS C 2) L) := by
  obtain ⟨M, rfl⟩ : ∃ M, N = M + 4 := ⟨N - 4, by omega⟩
  obtain ⟨n, rfl⟩ : ∃ n : Nat, C = (n : Int) := ⟨C.toNat, by omega⟩
  subst hWe
  have e0 : xstA s (nextW (LS.drop 1)) (n : Int) 0 d c 0 0 0 L = xstA s (nextW (LS.drop 1)) (n : Int) ((0 : Nat) : Int) d c 0 0 0 L := rfl
  rw [e0]
  match n, h3 with
  | 0, _ =>
    rw [lpE_succ, st_text_Parse_1, decide_eq_false (show ¬ ((0 : Nat) : Int) < ((0 : Nat) : Int) by omega), condF]
    rfl
  | 1, _ =>
    rw [lpE_succ, bias_read (M + 4) s _ hW _ 0 (by omega) (by omega), lpE_succ, st_text_Parse_1, decide_eq_false (show ¬ ((0 + 1 : Nat) : Int) < ((1 : Nat) : Int) by omega), condF]
    rfl
  | 2, _ =>
    rw [lpE_succ, bias_read (M + 4) s _ hW _ 0 (by omega) (by omega), lpE_succ, bias_read (M + 4) s _ hW _ 1 (by omega) (by omega), lpE_succ, st_text_Parse_1, decide_eq_false (show ¬ ((1 + 1 : Nat) : Int) < ((2 : Nat) : Int) by omega), condF]
    rfl
  | 3, _ =>
    rw [lpE_succ, bias_read (M + 4) s _ hW _ 0 (by omega) (by omega), lpE_succ, bias_read (M + 4) s _ hW _ 1 (by omega) (by omega), lpE_succ, bias_read (M + 4) s _ hW _ 2 (by omega) (by omega), lpE_succ, st_text_Parse_1, decide_eq_false (show ¬ ((2 + 1 : Nat) : Int) < ((3 : Nat) : Int) by omega), condF]
    rfl
  | n + 4, h3 => exact absurd h3 (by omega)

abbrev xstD (s : ByteArray) (d c b0 b1 b2 : Int) (L : List IV) (T : List IV) (cl : Int) (k : Int) (j : Int) (NL : List IV) : St :=
  ⟨[(0, (.str s)), (2, (.ptr 2 0 0)), (3, (.bool false)), (4, (.ptr 15 0 0)), (6, (.ptr 6 0 0)), (10, (.ptr 10 0 0)), (61, (.int .i64 k)), (62, (.int .i64 j))], [(2, (some (.box [(.int .i64 0), (.int .i64 0), (.int .i64 0), (.int .i64 0), (.int .i64 0), .zs]))), (6, (some (.box [(.int .i64 d), (.int .i64 c), (.int .i64 b0), (.int .i64 b1), (.int .i64 b2), (.row 500 0 T.length)]))), (10, (some (.box [(.int .i64 cl), (.row 501 0 NL.length)]))), (15, (some (.box [(.list false [.str] L)]))), (500, (some (.row true 29 true [(.int .i64), (.list false [(.int .u64)])] T))), (501, (some (.row true 22 false [(.int .u64)] NL)))]⟩
theorem rdNodes_succ (L : List IV) (j : Nat) : rdNodes L (j + 1) = rdNodes L j ++ [.int (packNd (rdNd (nextW (L.drop j))))] := by
  unfold rdNodes
  rw [List.range_succ, List.map_append]
  rfl
theorem rdNodes_len (L : List IV) (j : Nat) : (rdNodes L j).length = j := by
  unfold rdNodes
  rw [List.length_map, List.length_range]
theorem nodes_read (N : Nat) (s : ByteArray) (d c b0 b1 b2 : Int) (T L : List IV) (hL : okTexts L = true) (cl : Int) (k : Nat) (hk : k ≤ 31) (K : Out → St → Res) : ∀ (m j n : Nat), j + m = k → m < n →
    lpE (E_text_Parse N) (subC c_text_Parse [1, 1, 1, 1, 1, 1, 0, 0, 0, 1, 0, 1, 1, 0, 1, 0, 0]) kpC n (xstD s d c b0 b1 b2 (L.drop j) T cl (k : Int) (j : Int) (rdNodes L j)) K =
      K (.exit 4) (xstD s d c b0 b1 b2 (L.drop k) T cl (k : Int) (k : Int) (rdNodes L k))
  | m, j, 0, _, h => absurd h (by omega)
  | 0, j, n + 1, hd, _ => by
    have hj : j = k := by omega
    subst hj
    rw [lpE_succ, st_text_Parse_3, decide_eq_false (show ¬ (j : Int) < (j : Int) by omega), condF]
  | m + 1, j, n + 1, hd, hn => by
    have ej : IntKind.wrap IntKind.i64 ((j : Int) + 1) = ((j + 1 : Nat) : Int) := by
      rw [wrap_id (by omega) (by omega)]
      omega
    have eb : TI.bytes (Env.tyd (E_text_Parse N) 22) = 8 := rfl
    have e1 : ∀ x : IV, List.length (List.drop 0 (List.take 1 [x])) = 1 := fun x => rfl
    have e2 : ∀ x : IV, List.drop 0 (List.take 1 [x]) = [x] := fun x => rfl
    rw [lpE_succ, st_text_Parse_3, ej, eb, e1, e2, decide_eq_true (show (j : Int) < (k : Int) by omega), condT, okTexts_drop hL j, condT, rdNodes_len, decide_eq_true (show (j + 1) * 8 ≤ bytesMax by unfold bytesMax; omega), condT]
    have e3 : List.take j (rdNodes L j) = rdNodes L j := List.take_of_length_le (by rw [rdNodes_len]; omega)
    rw [e3, ← rdNodes_succ, List.drop_drop]
    have ih := nodes_read N s d c b0 b1 b2 T L hL cl k hk K m (j + 1) n (by omega) (by omega)
    unfold xstD at ih ⊢
    rw [rdNodes_len] at ih
    exact ih

abbrev xstQ (s : ByteArray) (d c b0 b1 b2 : Int) (L T : List IV) : St :=
  ⟨[(0, (.str s)), (2, (.ptr 2 0 0)), (3, (.bool false)), (4, (.ptr 15 0 0)), (6, (.ptr 6 0 0))], [(2, (some (.box [(.int .i64 0), (.int .i64 0), (.int .i64 0), (.int .i64 0), (.int .i64 0), .zs]))), (6, (some (.box [(.int .i64 d), (.int .i64 c), (.int .i64 b0), (.int .i64 b1), (.int .i64 b2), (.row 500 0 T.length)]))), (15, (some (.box [(.list false [.str] L)]))), (500, (some (.row true 29 true [(.int .i64), (.list false [(.int .u64)])] T)))]⟩
theorem trees_read (N : Nat) (hN : 40 ≤ N) (s : ByteArray) (d c b0 b1 b2 : Int) (K : Out → St → Res) : ∀ (m n : Nat) (L T : List IV), okTexts L = true → T.length + m = 9 → m < n →
    ∃ L', lpE (E_text_Parse N) (subC c_text_Parse [1, 1, 1, 1, 1, 1, 0, 0, 0]) kpB n (xstQ s d c b0 b1 b2 L T) K = K (.exit 2) (xstQ s d c b0 b1 b2 L' (T ++ rdTrees m L))
  | m, 0, L, T, _, _, h => absurd h (by omega)
  | m, n + 1, [], T, hL, hT, hn => by
    refine ⟨[], ?_⟩
    have e : rdTrees m [] = [] := by cases m <;> rfl
    rw [lpE_succ, st_text_Parse_2, decide_eq_false (show ¬ ic (List.length ([] : List IV)) > 0 by decide), condF, e, List.append_nil]
  | 0, n + 1, l :: L, T, hL, hT, hn => by
    refine ⟨l :: L, ?_⟩
    rw [lpE_succ, st_text_Parse_2, decide_eq_true (show ic (List.length (l :: L)) > 0 by simp only [ic, List.length_cons]; omega), condT, decide_eq_false (show ¬ ic (T.length - 0) ≤ 8 by simp only [ic]; omega), condF]
    show K (.exit 2) _ = K (.exit 2) (xstQ s d c b0 b1 b2 (l :: L) (T ++ []))
    rw [List.append_nil]
  | m + 1, n + 1, l :: L, T, hL, hT, hn => by
    obtain ⟨k0, k1⟩ := cntT_in (wAt (nextW (l :: L)) 2) (most := 31) (by omega)
    have hk : cntT (wAt (nextW (l :: L)) 2) 31 = ((rdK (l :: L) : Nat) : Int) := by unfold rdK; omega
    have hLd := okTexts_drop hL 1
    have hk31 : rdK (l :: L) ≤ 31 := by unfold rdK; omega
    have e2 : Int.toNat 2 = 2 := rfl
    have e1 : Int.toNat 1 = 1 := rfl
    rw [lpE_succ, st_text_Parse_2, decide_eq_true (show ic (List.length (l :: L)) > 0 by simp only [ic, List.length_cons]; omega), condT, decide_eq_true (show ic (T.length - 0) ≤ 8 by simp only [ic]; omega), condT, hL, condT, e2, e1, hk]
    have run := nodes_read N s d c b0 b1 b2 T (List.drop 1 (l :: L)) hLd (cntT (wAt (nextW (l :: L)) 1) 3) (rdK (l :: L)) hk31
      (kBlock 4 (kSq (E_text_Parse N) (subC c_text_Parse [1, 1, 1, 1, 1, 1, 0, 0, 0, 1, 0, 1, 1, 1]) (kBlock 3 (kLoop (fun s' => lpE (E_text_Parse N) (subC c_text_Parse [1, 1, 1, 1, 1, 1, 0, 0, 0]) kpB n s' K) kpB K)))) (rdK (l :: L)) 0 N (by omega) (by omega)
    have eb : TI.bytes (Env.tyd (E_text_Parse N) 29) = 32 := rfl
    have e3 : ∀ x : IV, List.length (List.drop 0 (List.take 1 [x])) = 1 := fun x => rfl
    have e4 : ∀ x : IV, List.drop 0 (List.take 1 [x]) = [x] := fun x => rfl
    rw [ex_text_Parse_3_1, eb, e3, e4, decide_eq_true (show (T.length + 1) * 32 ≤ bytesMax by unfold bytesMax; omega), condT, rdNodes_len] at run
    have e5 : List.take T.length T = T := List.take_of_length_le (Nat.le_refl _)
    have e6 : List.drop 0 (List.take (rdK (l :: L)) (rdNodes (List.drop 1 (l :: L)) (rdK (l :: L)))) = rdNodes (List.drop 1 (l :: L)) (rdK (l :: L)) := by
      rw [List.drop_zero, List.take_of_length_le (by rw [rdNodes_len]; omega)]
    rw [e5, e6] at run
    obtain ⟨L', hL'⟩ := trees_read N hN s d c b0 b1 b2 K m n (List.drop (rdK (l :: L)) (List.drop 1 (l :: L))) (T ++ [rdTree (l :: L)]) (okTexts_drop hLd _) (by rw [List.length_append, List.length_cons, List.length_nil]; omega) (by omega)
    refine ⟨L', ?_⟩
    have e7 : T ++ rdTrees (m + 1) (l :: L) = T ++ [rdTree (l :: L)] ++ rdTrees m (List.drop (rdK (l :: L)) (List.drop 1 (l :: L))) := by
      rw [List.append_assoc]
      rfl
    rw [e7, ← hL']
    refine Eq.trans ?_ (run.trans ?_)
    · rfl
    · have e8 : (T ++ [rdTree (l :: L)]).length = T.length + 1 := by rw [List.length_append]; rfl
      unfold xstQ
      rw [e8]
      rfl

set_option maxRecDepth 100000 in
set_option maxHeartbeats 1000000 in
theorem snd_text_Parse : SndR PR B0 9 S_text_Parse := by
  refine snd_mk [(18, S_strings_Split), (19, S_strings_TrimSuffix), (10, S_text_Print), (21, S_text_count), (20, S_text_reader_next), (24, S_text_reader_node), (23, S_text_scan), (22, S_text_word)] [(6, kpA), (10, kpB), (14, kpC)] S_text_Parse [[.int .i64, .int .i64, .int .i64, .int .i64, .int .i64, .list true [.int .i64, .list false [.int .u64]]], [.bool]] Tryz.func9 h_text_Parse ⟨snd_strings_Split, snd_strings_TrimSuffix, snd_text_Print, snd_text_count, snd_text_reader_next, snd_text_reader_node, snd_text_scan, snd_text_word, trivial⟩ ?_
  intro vs r hwf h
  unfold S_text_Parse at h
  split at h
  · rename_i s
    cases hc : decide (s.size < 4294967281) with
    | false => rw [hc] at h; simp [R.get] at h
    | true =>
      rw [hc, R.get_br, condT, R.get_ok] at h
      have hs := of_decide_eq_true hc
      refine ⟨40, ?_⟩
      rw [← h]
      refine (nf_text_Parse 40 s).trans ?_
      have hok := lines_ok hs
      have e0 : List.map IV.str (splitL (trimSuf s { data := #[10] }) { data := #[10] }) = linesOf s := rfl
      have e1 : decide (1 ≤ ByteArray.size { data := #[10] }) = true := rfl
      have ts := trim_size s w_lf
      have e2 : Int.toNat 2 = 2 := rfl
      have e3 : Int.toNat 1 = 1 := rfl
      rw [e0, e1, e2, e3, decide_eq_true (show ByteArray.size (trimSuf s { data := #[10] }) < 4294967281 from Nat.lt_of_le_of_lt ts hs), Bool.and_self, condT, hok, condT, okTexts_drop hok 1, condT]
      generalize hLS : linesOf s = LS at hok ⊢
      obtain ⟨c0, c3⟩ := cntT_in (wAt (nextW LS) 2) (most := 3) (by omega)
      refine (biases_read 40 s LS (nextW (LS.drop 1)) rfl (next_facts (okTexts_drop hok 1)) (cntT (wAt (nextW LS) 2) 3) c0 c3 (by omega) (cntT (wAt (nextW LS) 1) 4) (cntT (wAt (nextW LS) 2) 3) (List.drop 1 (List.drop 1 LS)) _).trans ?_
      rw [ex_text_Parse_1_1]
      obtain ⟨L', hL'⟩ := trees_read 40 (by omega) s (cntT (wAt (nextW LS) 1) 4) (cntT (wAt (nextW LS) 2) 3) (rdBias LS (cntT (wAt (nextW LS) 2) 3) 0) (rdBias LS (cntT (wAt (nextW LS) 2) 3) 1) (rdBias LS (cntT (wAt (nextW LS) 2) 3) 2)
        (kBlock 2 (kSq (E_text_Parse 40) (subC c_text_Parse [1, 1, 1, 1, 1, 1, 1]) (outT (E_text_Parse 40) none [(ResultVar.cell 2 32), (ResultVar.tmp 3)] [[(.int .i64), (.int .i64), (.int .i64), (.int .i64), (.int .i64), (.list true [(.int .i64), (.list false [(.int .u64)])])], [.bool]])))
        9 40 (List.drop 1 (List.drop 1 LS)) [] (okTexts_drop (okTexts_drop hok 1) 1) rfl (by omega)
      refine hL'.trans ?_
      rw [ex_text_Parse_2_1]
      have e4 : ([] : List IV) ++ rdTrees 9 (List.drop 1 (List.drop 1 LS)) = rdTrees 9 (LS.drop 2) := by
        rw [List.nil_append, List.drop_drop]
      have e5 : List.drop 0 (List.take (([] : List IV) ++ rdTrees 9 (List.drop 1 (List.drop 1 LS))).length (([] : List IV) ++ rdTrees 9 (List.drop 1 (List.drop 1 LS)))) = rdTrees 9 (LS.drop 2) := by
        rw [List.drop_zero, List.take_of_length_le (Nat.le_refl _), e4]
      rw [e5]
      have e6 : (⟨cntT (wAt (nextW LS) 1) 4, cntT (wAt (nextW LS) 2) 3, rdBias LS (cntT (wAt (nextW LS) 2) 3) 0, rdBias LS (cntT (wAt (nextW LS) 2) 3) 1, rdBias LS (cntT (wAt (nextW LS) 2) 3) 2, rdTrees 9 (LS.drop 2)⟩ : Md) = candM s := by
        unfold candM
        rw [hLS]
        rfl
      unfold textM textOK
      rw [← e6]
      cases (ByteArray.toList s == ByteArray.toList w_none) with
      | true => rfl
      | false =>
        rw [condF, Bool.not_false, Bool.true_and]
        cases (ByteArray.toList (printM ⟨cntT (wAt (nextW LS) 1) 4, cntT (wAt (nextW LS) 2) 3, rdBias LS (cntT (wAt (nextW LS) 2) 3) 0, rdBias LS (cntT (wAt (nextW LS) 2) 3) 1, rdBias LS (cntT (wAt (nextW LS) 2) 3) 2, rdTrees 9 (LS.drop 2)⟩) == ByteArray.toList s) <;> rfl
  · simp [R.get] at h

/-! ### models compared -/
theorem sameI_drop : ∀ (a b : List IV), a.length = b.length → ∀ i, i < a.length → sameI (a.drop i) (b.drop i) = (((a.getD i default).toInt == (b.getD i default).toInt) && sameI (a.drop (i + 1)) (b.drop (i + 1)))
  | [], _, _, i, h => by simp at h
  | x :: a, [], h, _, _ => by simp at h
  | x :: a, y :: b, _, 0, _ => rfl
  | x :: a, y :: b, h, i + 1, hi => sameI_drop a b (by simpa using h) i (by simpa using hi)
abbrev xstS (a b : List IV) (i : Int) : St := ⟨[(0, (.list false [(.int .u64)] a)), (1, (.list false [(.int .u64)] b)), (4, (.bool false)), (5, (.int .i64 i))], []⟩
theorem same_run (N : Nat) (a b : List IV) (hab : a.length = b.length) (ha : a.length ≤ strMax) : ∀ (m i n : Nat), i + m = a.length → m < n →
    lpE (E_copsebook_Same_uint64 N) (subC c_copsebook_Same_uint64 [1, 1, 0, 1, 0, 0]) ⟨[0, 1, 4, 5], [], []⟩ n (xstS a b (i : Int)) (kBlock 0 (kSq (E_copsebook_Same_uint64 N) (subC c_copsebook_Same_uint64 [1, 1, 1]) (outT (E_copsebook_Same_uint64 N) none [(ResultVar.tmp 4)] [[.bool]]))) =
      some (.bool (sameI (a.drop i) (b.drop i)), [])
  | m, i, 0, _, h => absurd h (by omega)
  | 0, i, n + 1, hd, _ => by
    have hi : i = a.length := by omega
    subst hi
    rw [lpE_succ, st_copsebook_Same_uint64_1, decide_eq_false (show ¬ (a.length : Int) < ic a.length by simp only [ic]; omega), condF, List.drop_length, hab, List.drop_length]
    exact ex_copsebook_Same_uint64_1_1 N a b false _
  | m + 1, i, n + 1, hd, hn => by
    have mx : strMax = 140737488355327 := rfl
    have ei : IntKind.wrap IntKind.i64 ((i : Int) + 1) = ((i + 1 : Nat) : Int) := by
      rw [wrap_id (by omega) (by omega)]
      omega
    rw [lpE_succ, st_copsebook_Same_uint64_1, ei, decide_eq_true (show (i : Int) < ic a.length by simp only [ic]; omega), condT, decide_eq_true (show (0 : Int) ≤ (i : Int) by omega), Bool.and_self, condT, decide_eq_true (show (i : Int) < ic b.length by simp only [ic]; omega), Bool.and_self, condT, Int.toNat_natCast, sameI_drop a b hab i (by omega)]
    have e : ((a.getD i default).toInt != (b.getD i default).toInt) = !((a.getD i default).toInt == (b.getD i default).toInt) := rfl
    rw [e]
    cases ((a.getD i default).toInt == (b.getD i default).toInt) with
    | true =>
      rw [Bool.not_true, condF, Bool.true_and]
      exact same_run N a b hab ha m (i + 1) n (by omega) (by omega)
    | false =>
      rw [Bool.not_false, condT, Bool.false_and]
      exact ex_copsebook_Same_uint64_1_2 N a b false _
theorem sameI_len : ∀ (a b : List IV), a.length ≠ b.length → sameI a b = false
  | [], [], h => absurd rfl h
  | [], _ :: _, _ => rfl
  | _ :: _, [], _ => rfl
  | x :: a, y :: b, h => by
    rw [sameI, sameI_len a b (by simpa using h), Bool.and_false]
theorem sameT_len : ∀ (a b : List IV), a.length ≠ b.length → sameT a b = false
  | [], [], h => absurd rfl h
  | [], _ :: _, _ => rfl
  | _ :: _, [], _ => rfl
  | x :: a, y :: b, h => by
    rw [sameT, sameT_len a b (by simpa using h), Bool.and_false]

set_option maxRecDepth 100000 in
theorem snd_copsebook_Same_uint64 : SndR PR B0 31 S_copsebook_Same_uint64 := by
  refine snd_mk [] [(4, ⟨[0, 1, 4, 5], [], []⟩)] S_copsebook_Same_uint64 [[.bool]] Tryz.func31 h_copsebook_Same_uint64 trivial ?_
  intro vs r hwf h
  unfold S_copsebook_Same_uint64 at h
  split at h
  · rename_i a b
    have hb := hwf (by simp [oneBor])
    have ha : a.length ≤ strMax := by
      have := hb.1
      simp only [wfV, wfL] at this
      exact this.1
    refine ⟨a.length + 1, ?_⟩
    rw [R.get_ok] at h
    rw [← h]
    refine (nf_copsebook_Same_uint64 (a.length + 1) a b).trans ?_
    have e : (ic a.length != ic b.length) = !(decide (a.length = b.length)) := by
      show (!(ic a.length == ic b.length)) = _
      congr 1
      rw [beq_dec]
      simp only [ic]
      congr 1
      rw [eq_iff_iff]
      omega
    rw [e]
    by_cases hab : a.length = b.length
    · rw [decide_eq_true hab, Bool.not_true, condF]
      exact same_run (a.length + 1) a b hab ha a.length 0 (a.length + 1) (by omega) (by omega)
    · rw [decide_eq_false hab, Bool.not_false, condT, sameI_len a b hab]
  · simp [R.get] at h

theorem sameT_drop : ∀ (a b : List IV), a.length = b.length → ∀ i, i < a.length → sameT (a.drop i) (b.drop i) = ((((a.getD i default).cell 0).toInt == ((b.getD i default).cell 0).toInt && sameI ((a.getD i default).cell 1).toList ((b.getD i default).cell 1).toList) && sameT (a.drop (i + 1)) (b.drop (i + 1)))
  | [], _, _, i, h => by simp at h
  | x :: a, [], h, _, _ => by simp at h
  | x :: a, y :: b, _, 0, _ => rfl
  | x :: a, y :: b, h, i + 1, hi => sameT_drop a b (by simpa using h) i (by simpa using hi)
abbrev xstM (m n : Md) (i : Int) : St := ⟨[(2, (.ptr 2 0 0)), (3, (.ptr 3 0 0)), (4, (.bool false)), (36, (.int .i64 (ic m.ts.length))), (37, (.int .i64 i))], [(2, (some (.box [(.int .i64 m.d), (.int .i64 m.c), (.int .i64 m.b0), (.int .i64 m.b1), (.int .i64 m.b2), (.list true [(.int .i64), (.list false [(.int .u64)])] m.ts)]))), (3, (some (.box [(.int .i64 n.d), (.int .i64 n.c), (.int .i64 n.b0), (.int .i64 n.b1), (.int .i64 n.b2), (.list true [(.int .i64), (.list false [(.int .u64)])] n.ts)])))]⟩
theorem models_run (N : Nat) (m n : Md) (hab : m.ts.length = n.ts.length) (ha : m.ts.length ≤ strMax) : ∀ (k i f : Nat), i + k = m.ts.length → k < f →
    lpE (E_copsekeep_Models N) (subC c_copsekeep_Models [1, 1, 0, 1, 0, 0]) ⟨[2, 3, 4, 36, 37], [2, 3], []⟩ f (xstM m n (i : Int)) (kBlock 0 (kSq (E_copsekeep_Models N) (subC c_copsekeep_Models [1, 1, 1]) (outT (E_copsekeep_Models N) none [(ResultVar.tmp 4)] [[.bool]]))) =
      some (.bool (sameT (m.ts.drop i) (n.ts.drop i)), [])
  | k, i, 0, _, h => absurd h (by omega)
  | 0, i, f + 1, hd, _ => by
    have hi : i = m.ts.length := by omega
    subst hi
    rw [lpE_succ, st_copsekeep_Models_1, decide_eq_false (show ¬ (m.ts.length : Int) < ic m.ts.length by simp only [ic]; omega), condF, List.drop_length, hab, List.drop_length]
    exact ex_copsekeep_Models_1_1 N false _ _ m.d m.c m.b0 m.b1 m.b2 m.ts n.d n.c n.b0 n.b1 n.b2 n.ts
  | k + 1, i, f + 1, hd, hn => by
    have mx : strMax = 140737488355327 := rfl
    have ei : IntKind.wrap IntKind.i64 ((i : Int) + 1) = ((i + 1 : Nat) : Int) := by
      rw [wrap_id (by omega) (by omega)]
      omega
    have R2 := ex_copsekeep_Models_1_2 N false (ic m.ts.length) (i : Int) m.d m.c m.b0 m.b1 m.b2 m.ts n.d n.c n.b0 n.b1 n.b2 n.ts
    have ih := models_run N m n hab ha k (i + 1) f (by omega) (by omega)
    rw [lpE_succ, st_copsekeep_Models_1, ei, Int.toNat_natCast, sameT_drop m.ts n.ts hab i (by omega)]
    simp only [decide_eq_true (show (i : Int) < ic m.ts.length by simp only [ic]; omega), decide_eq_true (show (0 : Int) ≤ (i : Int) by omega), decide_eq_true (show (i : Int) < ic n.ts.length by simp only [ic]; omega), Bool.and_self, condT]
    have e : (((m.ts.getD i default).cell 0).toInt != ((n.ts.getD i default).cell 0).toInt) = !(((m.ts.getD i default).cell 0).toInt == ((n.ts.getD i default).cell 0).toInt) := rfl
    rw [e]
    cases (((m.ts.getD i default).cell 0).toInt == ((n.ts.getD i default).cell 0).toInt) with
    | false =>
      simp only [Bool.not_false, condT, Bool.false_and]
      exact R2
    | true =>
      simp only [Bool.not_true, condF, Bool.true_and]
      cases sameI ((m.ts.getD i default).cell 1).toList ((n.ts.getD i default).cell 1).toList with
      | false =>
        simp only [Bool.not_false, condT, Bool.false_and]
        exact R2
      | true =>
        simp only [Bool.not_true, condF, Bool.true_and]
        exact ih

set_option maxRecDepth 100000 in
theorem snd_copsekeep_Models : SndR PR B0 11 S_copsekeep_Models := by
  refine snd_mk [(31, S_copsebook_Same_uint64)] [(4, ⟨[2, 3, 4, 36, 37], [2, 3], []⟩)] S_copsekeep_Models [[.bool]] Tryz.func11 h_copsekeep_Models ⟨snd_copsebook_Same_uint64, trivial⟩ ?_
  intro vs r hwf h
  unfold S_copsekeep_Models at h
  split at h
  · rename_i d c b0 b1 b2 ts d' c' b0' b1' b2' ts'
    have hb := hwf (by simp [oneBor])
    have ha : ts.length ≤ strMax := by
      have := hb.1
      simp only [wfV, wfLs, wfL] at this
      exact this.2.2.2.2.2.1.1
    refine ⟨ts.length + 1, ?_⟩
    rw [R.get_ok] at h
    rw [← h]
    refine (nf_copsekeep_Models (ts.length + 1) d c b0 b1 b2 ts d' c' b0' b1' b2' ts').trans ?_
    unfold sameM
    have n1 : ∀ x y : Int, (x != y) = !(x == y) := fun _ _ => rfl
    have e : (ic ts.length != ic ts'.length) = !(decide (ts.length = ts'.length)) := by
      show (!(ic ts.length == ic ts'.length)) = _
      congr 1
      rw [beq_dec]
      simp only [ic]
      congr 1
      rw [eq_iff_iff]
      omega
    rw [e, n1, n1]
    cases (d == d') with
    | false => rfl
    | true =>
    cases (c == c') with
    | false => rfl
    | true =>
    cases (b0 == b0') with
    | false => rfl
    | true =>
    cases (b1 == b1') with
    | false => rfl
    | true =>
    cases (b2 == b2') with
    | false => rfl
    | true =>
      simp only [Bool.not_true, condF, Bool.and_self, Bool.true_and]
      by_cases hab : ts.length = ts'.length
      · rw [decide_eq_true hab, Bool.not_true, condF]
        exact models_run (ts.length + 1) ⟨d, c, b0, b1, b2, ts⟩ ⟨d', c', b0', b1', b2', ts'⟩ hab ha ts.length 0 (ts.length + 1) (by simp) (by omega)
      · rw [decide_eq_false hab, Bool.not_false, condT, sameT_len ts ts' hab]
  · simp [R.get] at h

end Go.FM
