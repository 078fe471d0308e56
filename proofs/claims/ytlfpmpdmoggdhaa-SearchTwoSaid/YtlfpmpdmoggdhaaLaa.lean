/-
  WHAT THE LIBRARY's FUNCTIONS COME TO, as the small machine asks it: specifications; of no program.

-/
import Derived.Test.YtlfpmpdmoggdhaaSmc
import Derived.Lib.AtoiAll
import Derived.Lib.ItoaLen
import Derived.Lib.Split
import Derived.Lib.IndexMore
import Derived.Lib.LaidTab
import Derived.Lib.SplitLaws
import Derived.Lib.TrimByte
import Derived.Lib.Repeat
import Derived.Lib.ItoaNum
import Derived.Lib.Join
import Derived.Test.YtlfpmpdmoggdhaaProg
import Derived.Shelf.Strings.BuilderK
import Derived.Shelf.Small.Bits
import Derived.Shelf.Strconv.Itoa0
import Derived.Shelf.Sort.Plain
import Derived.Ground.Names2Prog
import Derived.Shelf.Slices.CompactI
import Derived.Shelf.Slices.Cells
import Derived.Shelf.Slices.In.SortNone
import Derived.Ground.SlgnProg
import Derived.Shelf.SlicesE.Compact
import Derived.Ground.SlgfProg
import Derived.Shelf.SlicesE.IndexFunc
import Derived.Shelf.SlicesE.DeleteFunc
import Derived.Lib.AppendIntMem

/-
  WHAT THE LIBRARY's FUNCTIONS COME TO, as the small machine asks it: specifications; of no program.
-/
namespace Go.FM
open Go Go.RowKit

theorem R.get_br (b : Bool) (x y : R) : (R.br b x y).get = cond b x.get y.get := by cases b <;> rfl
theorem R.get_ok (v : V) (o : List (List V)) : (R.ok v o).get = some (v, o) := rfl
theorem R.get_no : R.no.get = none := rfl

def itoaB (n : Int) : ByteArray := ⟨(Lib.itoa n).toArray⟩
/-- strconv.Atoi: the number; is there no error? -/
def atoiV (s : ByteArray) : Int := match Lib.atoiAll s.data.toList with | .ok v => v | .range => Lib.atoiSat s.data.toList | _ => 0
def atoiN (s : ByteArray) : Bool := match Lib.atoiAll s.data.toList with | .ok _ => true | _ => false
def cutL (s sep : ByteArray) : ByteArray := ⟨(Lib.cut s.data.toList sep.data.toList).1.toArray⟩
def cutR (s sep : ByteArray) : ByteArray := ⟨(Lib.cut s.data.toList sep.data.toList).2.1.toArray⟩
def cutF (s sep : ByteArray) : Bool := (Lib.cut s.data.toList sep.data.toList).2.2
def splitL (s sep : ByteArray) : List ByteArray := Lib.splitB sep 0 (Lib.countB s sep) s
def byteOf (c : Int) : UInt8 := UInt8.ofNat c.toNat

def S_strings_Builder_WriteString : RSpec
  | [.bor [.bld s], .str t] => .br (decide (s.size + t.size ≤ strMax)) (.ok (.tup [.int .i64 (ic t.size), .err true]) [[.bld (s ++ t)]]) .no
  | _ => .no
def S_strings_Builder_WriteByte : RSpec
  | [.bor [.bld s], .int .u8 c] => .br (decide (s.size + 1 ≤ strMax)) (.ok (.err true) [[.bld (s.push (byteOf c))]]) .no
  | _ => .no
def S_strings_Builder_String : RSpec
  | [.bor [.bld s]] => .ok (.str s) [[.bld s]]
  | _ => .no
def S_strconv_Itoa : RSpec
  | [.int .i64 n] => .ok (.str (itoaB n)) []
  | _ => .no
def S_strconv_Atoi : RSpec
  | [.str s] => .ok (.tup [.int .i64 (atoiV s), .err (atoiN s)]) []
  | _ => .no
def S_strings_Cut : RSpec
  | [.str s, .str sep] => .br (decide (s.size < 4294967281)) (.ok (.tup [.str (cutL s sep), .str (cutR s sep), .bool (cutF s sep)]) []) .no
  | _ => .no
def S_strings_Split : RSpec
  | [.str s, .str sep] => .br (decide (s.size < 4294967281) && decide (1 ≤ sep.size)) (.ok (.list false [.str] ((splitL s sep).map IV.str)) []) .no
  | _ => .no

def numB (n : Int) : ByteArray := ⟨(Lib.decDigits n.toNat).toArray⟩
/-- strconv.ParseUint(s, 10, 64): the number; is there no error? -/
def puV (s : ByteArray) : Int := match Lib.parseMag s.data.toList with | .ok v => (v : Int) | .range => 18446744073709551615 | _ => 0
def puN (s : ByteArray) : Bool := match Lib.parseMag s.data.toList with | .ok _ => true | _ => false
def trimRB (s cs : ByteArray) : ByteArray := ⟨(Lib.trimRightB s.data.toList (cs.data.toList.headD 0)).toArray⟩
def repB (s : ByteArray) (n : Nat) : ByteArray := ⟨(Lib.repeatL s.data.toList n).toArray⟩
def trimPreB (s p : ByteArray) : ByteArray := ⟨(Lib.trimPrefix s.data.toList p.data.toList).toArray⟩
def hasPreB (s p : ByteArray) : Bool := Lib.hasPrefix s.data.toList p.data.toList
def S_strconv_FormatUint : RSpec
  | [.int .u64 n, .int .i64 b] => .br (decide (b = 10)) (.ok (.str (numB n)) []) .no
  | _ => .no
def S_strconv_ParseUint : RSpec
  | [.str s, .int .i64 b, .int .i64 c] => .br (decide (b = 10) && decide (c = 64)) (.ok (.tup [.int .u64 (puV s), .err (puN s)]) []) .no
  | _ => .no
def S_strings_TrimRight : RSpec
  | [.str s, .str cs] => .br (decide (cs.size = 1) && decide ((cs.data.toList.headD 0).toNat < 128)) (.ok (.str (trimRB s cs)) []) .no
  | _ => .no
def S_strings_Repeat : RSpec
  | [.str s, .int .i64 n] => .br (decide (0 ≤ n) && decide (s.size * n.toNat ≤ strMax)) (.ok (.str (repB s n.toNat)) []) .no
  | _ => .no
def S_strings_CutPrefix : RSpec
  | [.str s, .str p] => .ok (.tup [.str (trimPreB s p), .bool (hasPreB s p)]) []
  | _ => .no

def joinB (l : List ByteArray) (sep : ByteArray) : ByteArray := ⟨(Lib.join (l.map (·.data.toList)) sep.data.toList).toArray⟩
def S_strings_Join : RSpec
  | [.list false [.str] l, .str sep] => .br (decide (l.length ≤ strMax) && decide ((joinB (l.map IV.toStr) sep).size ≤ strMax)) (.ok (.str (joinB (l.map IV.toStr) sep)) []) .no
  | _ => .no
/-- The first place of a word; or -1. -/
def idxS : List IV → ByteArray → Int → Int
  | [], _, _ => -1
  | x :: l, s, i => cond (s.toList == x.toStr.toList) i (idxS l s (i + 1))

theorem parseMag_bound {l : List UInt8} {u : Nat} (h : Lib.parseMag l = .ok u) : u < 18446744073709551616 := Lib.parseMag_lt h

theorem atoi_ok_bound {l : List UInt8} {v : Int} (h : Lib.atoiAll l = .ok v) : IntKind.i64.min ≤ v ∧ v ≤ IntKind.i64.max := by
  have e1 : IntKind.i64.min = -9223372036854775808 := rfl
  have e2 : IntKind.i64.max = 9223372036854775807 := rfl
  rw [e1, e2]
  unfold Lib.atoiAll at h
  split at h
  · cases h
  · simp only at h
    split at h
    · cases h
    · cases h
    · rename_i u hu
      split at h
      · cases h
      · split at h
        · cases h
        · simp only [Lib.NumEnd.ok.injEq] at h
          subst h
          split <;> omega
theorem atoiV_bound (s : ByteArray) : IntKind.i64.min ≤ atoiV s ∧ atoiV s ≤ IntKind.i64.max := by
  have e1 : IntKind.i64.min = -9223372036854775808 := rfl
  have e2 : IntKind.i64.max = 9223372036854775807 := rfl
  unfold atoiV
  split
  · rename_i v hv
    exact atoi_ok_bound hv
  · unfold Lib.atoiSat
    rw [e1, e2]
    split <;> omega
  · rw [e1, e2]; omega

theorem itoaB_size {n : Int} (h0 : IntKind.i64.min ≤ n) (h1 : n ≤ IntKind.i64.max) : (itoaB n).size ≤ 21 := by
  have e1 : IntKind.i64.min = -9223372036854775808 := rfl
  have e2 : IntKind.i64.max = 9223372036854775807 := rfl
  rw [e1] at h0
  rw [e2] at h1
  have := Lib.itoa_length_le n h0 h1
  simpa [itoaB, ByteArray.size] using this

theorem puV_bound (s : ByteArray) : IntKind.u64.min ≤ puV s ∧ puV s ≤ IntKind.u64.max := by
  have e1 : IntKind.u64.min = 0 := rfl
  have e2 : IntKind.u64.max = 18446744073709551615 := rfl
  unfold puV
  split
  · rename_i v hv
    have := Lib.parseMag_lt hv
    rw [e1, e2]; omega
  · rw [e1, e2]; omega
  · rw [e1, e2]; omega
theorem numB_size {n : Int} (h0 : 0 ≤ n) (h1 : n ≤ 18446744073709551615) : (numB n).size ≤ 20 := by
  rcases Int.lt_or_le 0 n with h | h
  · have hd := Lib.numDigits_eq n.toNat (by omega) (by omega)
    have hl := Lib.decDigits_length n.toNat
    have hs : (numB n).size = (Lib.decDigits n.toNat).length := by simp [numB, ByteArray.size]
    rw [hs, hl]
    split at hd <;> omega
  · have : n = 0 := by omega
    subst this
    have hd : Lib.decDigits (0 : Int).toNat = [UInt8.ofNat (48 + 0)] := by rw [show (0 : Int).toNat = 0 from rfl, Lib.decDigits]; rfl
    unfold numB
    rw [hd]
    decide
theorem trimRB_size (s cs : ByteArray) : (trimRB s cs).size ≤ s.size := by
  have : ∀ (l : List UInt8) c, (Lib.trimRightB l c).length ≤ l.length := fun l c => by
    unfold Lib.trimRightB
    rw [List.length_reverse]
    have := (List.dropWhile_sublist (· == c) (l := l.reverse)).length_le
    simpa using this
  have h := this s.data.toList (cs.data.toList.headD 0)
  simp only [trimRB, ByteArray.size, List.size_toArray]
  simpa using h
theorem trimPreB_size (s p : ByteArray) : (trimPreB s p).size ≤ s.size := by
  simp only [trimPreB, ByteArray.size, List.size_toArray, Lib.trimPrefix]
  split
  · simp
  · simp
theorem repB_size (s : ByteArray) (n : Nat) : (repB s n).size = s.size * n := by
  have : ∀ (l : List UInt8) n, (Lib.repeatL l n).length = l.length * n := fun l n => by rw [Lib.repeatL_length, Nat.mul_comm]
  show (Lib.repeatL s.data.toList n).toArray.size = s.size * n
  rw [List.size_toArray, this, Array.length_toList]
  rfl

theorem cut_sizes (s sep : ByteArray) : (cutL s sep).size ≤ s.size ∧ (cutR s sep).size ≤ s.size := by
  unfold cutL cutR Lib.cut
  split
  · simp only [ByteArray.size, List.size_toArray, List.length_take, List.length_drop, Array.length_toList]
    omega
  · simp only [ByteArray.size, List.size_toArray, Array.length_toList, List.length_nil]
    omega

theorem splitB_sizes (sep : ByteArray) : ∀ (k : Nat) (s : ByteArray), (Lib.splitB sep 0 k s).length ≤ k + 1 ∧ ∀ p ∈ Lib.splitB sep 0 k s, p.size ≤ s.size
  | 0, s => by simp [Lib.splitB]
  | k + 1, s => by
    unfold Lib.splitB
    split
    · simp
    · obtain ⟨h1, h2⟩ := splitB_sizes sep k (s.extract ((Lib.indexB s sep).toNat + sep.size) s.size)
      refine ⟨by simp only [List.length_cons]; omega, fun p hp => ?_⟩
      rcases List.mem_cons.1 hp with h | h
      · subst h
        simp only [ByteArray.size_extract]
        omega
      · have := h2 p h
        simp only [ByteArray.size_extract] at this
        omega

end Go.FM

/-
  THE PROGRAM's TABLES: its types, and its functions' codes (written by a program of this claim's own).
-/
namespace Go.FM
open Go Go.Proofs

def tyTab : List (Nat × TI) := [
  (2, ⟨1, 8, false, [.int .i64], [.int .i64 0], .leaf⟩),
  (3, ⟨1, 8, false, [.int .i64], [.int .i64 0], .leaf⟩),
  (4, ⟨1, 1, false, [.bool], [.bool false], .leaf⟩),
  (5, ⟨1, 1, false, [.int .u8], [.int .u8 0], .leaf⟩),
  (6, ⟨1, 1, false, [.int .u8], [.int .u8 0], .leaf⟩),
  (7, ⟨4, 24, true, [.int .i64, .int .i64, .bool, .int .u8], [.int .i64 0, .int .i64 0, .bool false, .int .u8 0], .struct [(0, 2), (1, 3), (2, 4), (3, 6)]⟩),
  (22, ⟨3, 24, true, [.int .i64, .int .i64, .int .i64], [.int .i64 0, .int .i64 0, .int .i64 0], .array 3 3⟩),
  (23, ⟨1, 24, false, [.list true [.int .i64, .list false [.int .u64]]], [.zs], .slice 66⟩),
  (25, ⟨6, 64, true, [.int .i64, .int .i64, .int .i64, .int .i64, .int .i64, .list true [.int .i64, .list false [.int .u64]]], [.int .i64 0, .int .i64 0, .int .i64 0, .int .i64 0, .int .i64 0, .zs], .struct [(0, 3), (1, 3), (2, 22), (5, 23)]⟩),
  (28, ⟨2, 16, true, [.int .i64, .int .i64], [.int .i64 0, .int .i64 0], .struct [(0, 3), (1, 3)]⟩),
  (30, ⟨10, 80, true, [.int .i64, .int .i64, .int .i64, .int .i64, .int .i64, .int .i64, .int .i64, .int .i64, .int .i64, .int .i64], [.int .i64 0, .int .i64 0, .int .i64 0, .int .i64 0, .int .i64 0, .int .i64 0, .int .i64 0, .int .i64 0, .int .i64 0, .int .i64 0], .array 5 28⟩),
  (32, ⟨17, 136, true, [.int .i64, .int .i64, .int .i64, .int .i64, .int .i64, .int .i64, .int .i64, .int .i64, .int .i64, .int .i64, .int .i64, .int .i64, .int .i64, .int .i64, .int .i64, .bool, .int .i64], [.int .i64 0, .int .i64 0, .int .i64 0, .int .i64 0, .int .i64 0, .int .i64 0, .int .i64 0, .int .i64 0, .int .i64 0, .int .i64 0, .int .i64 0, .int .i64 0, .int .i64 0, .int .i64 0, .int .i64 0, .bool false, .int .i64 0], .struct [(0, 3), (1, 3), (2, 30), (12, 3), (13, 3), (14, 3), (15, 4), (16, 3)]⟩),
  (33, ⟨1, 24, false, [.list true [.bool, .int .i64, .int .i64]], [.zs], .slice 82⟩),
  (35, ⟨4, 32, true, [.int .i64, .int .i64, .int .i64, .int .i64], [.int .i64 0, .int .i64 0, .int .i64 0, .int .i64 0], .array 4 3⟩),
  (37, ⟨8, 80, true, [.int .i64, .list true [.bool, .int .i64, .int .i64], .int .i64, .int .i64, .int .i64, .int .i64, .int .i64, .int .i64], [.int .i64 0, .zs, .int .i64 0, .int .i64 0, .int .i64 0, .int .i64 0, .int .i64 0, .int .i64 0], .struct [(0, 3), (1, 33), (2, 35), (6, 3), (7, 3)]⟩),
  (40, ⟨1, 24, false, [.list false [.int .i64]], [.zs], .slice 3⟩),
  (41, ⟨1, 24, false, [.list true [.int .i64, .list false [.int .i64], .list false [.int .i64], .list false [.int .i64], .list false [.int .i64]]], [.zs], .slice 69⟩),
  (43, ⟨4, 64, true, [.int .i64, .int .i64, .list false [.int .i64], .list true [.int .i64, .list false [.int .i64], .list false [.int .i64], .list false [.int .i64], .list false [.int .i64]]], [.int .i64 0, .int .i64 0, .zs, .zs], .struct [(0, 3), (1, 3), (2, 40), (3, 41)]⟩),
  (45, ⟨8, 80, true, [.int .i64, .int .i64, .int .i64, .int .i64, .int .i64, .int .i64, .bool, .list false [.int .i64]], [.int .i64 0, .int .i64 0, .int .i64 0, .int .i64 0, .int .i64 0, .int .i64 0, .bool false, .zs], .struct [(0, 3), (1, 3), (2, 3), (3, 3), (4, 3), (5, 3), (6, 4), (7, 40)]⟩),
  (51, ⟨1, 24, false, [.list false [.bool]], [.zs], .slice 4⟩),
  (52, ⟨1, 8, false, [.list false []], [.nilp], .ptr 79⟩),
  (60, ⟨1, 8, false, [.int .u64], [.int .u64 0], .leaf⟩),
  (63, ⟨6, 48, true, [.bool, .int .i64, .int .i64, .int .i64, .int .i64, .int .i64], [.bool false, .int .i64 0, .int .i64 0, .int .i64 0, .int .i64 0, .int .i64 0], .struct [(0, 4), (1, 3), (2, 3), (3, 3), (4, 3), (5, 3)]⟩),
  (64, ⟨1, 24, false, [.list false [.int .u64]], [.zs], .slice 60⟩),
  (66, ⟨2, 32, true, [.int .i64, .list false [.int .u64]], [.int .i64 0, .zs], .struct [(0, 3), (1, 64)]⟩),
  (69, ⟨5, 104, true, [.int .i64, .list false [.int .i64], .list false [.int .i64], .list false [.int .i64], .list false [.int .i64]], [.int .i64 0, .zs, .zs, .zs, .zs], .struct [(0, 3), (1, 40), (2, 40), (3, 40), (4, 40)]⟩),
  (77, ⟨1, 24, false, [.list true [.int .i64, .int .i64, .int .i64, .int .i64, .int .i64, .int .i64, .int .i64, .int .i64, .int .i64, .int .i64]], [.zs], .slice 30⟩),
  (79, ⟨34, 336, true, [.int .i64, .int .i64, .int .i64, .int .i64, .int .i64, .list true [.int .i64, .list false [.int .u64]], .int .i64, .int .i64, .int .i64, .int .i64, .int .i64, .int .i64, .int .i64, .int .i64, .int .i64, .int .i64, .int .i64, .int .i64, .int .i64, .int .i64, .int .i64, .bool, .int .i64, .list true [.int .i64, .int .i64, .int .i64, .int .i64, .int .i64, .int .i64, .int .i64, .int .i64, .int .i64, .int .i64], .list true [.bool, .int .i64, .int .i64], .int .i64, .list true [.bool, .int .i64, .int .i64], .int .i64, .int .i64, .int .i64, .int .i64, .int .i64, .int .i64, .int .i64], [.int .i64 0, .int .i64 0, .int .i64 0, .int .i64 0, .int .i64 0, .zs, .int .i64 0, .int .i64 0, .int .i64 0, .int .i64 0, .int .i64 0, .int .i64 0, .int .i64 0, .int .i64 0, .int .i64 0, .int .i64 0, .int .i64 0, .int .i64 0, .int .i64 0, .int .i64 0, .int .i64 0, .bool false, .int .i64 0, .zs, .zs, .int .i64 0, .zs, .int .i64 0, .int .i64 0, .int .i64 0, .int .i64 0, .int .i64 0, .int .i64 0, .int .i64 0], .struct [(0, 25), (6, 32), (23, 77), (24, 33), (25, 37), (33, 3)]⟩),
  (82, ⟨3, 24, true, [.bool, .int .i64, .int .i64], [.bool false, .int .i64 0, .int .i64 0], .struct [(0, 4), (1, 3), (2, 3)]⟩),
  (92, ⟨1, 8, false, [.int .u64], [.int .u64 0], .leaf⟩),
  (93, ⟨1, 24, false, [.list true [.bool, .int .i64, .int .i64, .int .i64, .int .i64, .int .i64]], [.zs], .slice 63⟩),
  (124, ⟨1, 24, false, [.list true [.int .i64, .int .i64, .int .i64, .int .i64, .int .i64, .int .i64, .int .i64, .int .i64, .int .i64, .int .i64, .int .i64]], [.zs], .slice 127⟩),
  (127, ⟨11, 88, true, [.int .i64, .int .i64, .int .i64, .int .i64, .int .i64, .int .i64, .int .i64, .int .i64, .int .i64, .int .i64, .int .i64], [.int .i64 0, .int .i64 0, .int .i64 0, .int .i64 0, .int .i64 0, .int .i64 0, .int .i64 0, .int .i64 0, .int .i64 0, .int .i64 0, .int .i64 0], .struct [(0, 30), (10, 3)]⟩)]

def eqTab : List Nat := [28, 35, 63, 82]

noncomputable abbrev PR : Program := Try.prog
theorem ti_ok : tisB PR 999999 tyTab = true := by kernel_rfl
theorem eq_ok : eqsB PR tyTab eqTab = true := by kernel_rfl
theorem mo_ok : PR.follows .mixedOrders = true := by kernel_rfl
theorem bld_any (h : (lkd TI.none tyTab 999999).d = .bld) : ∃ i, PR.info? 999999 = some i ∧ i.zero = some (.agg #[.pointer none, .slice none 0 0]) := by
  have h' : TD.leaf = .bld := h
  cases h'
def mkE (sp : List (Nat × RSpec)) (lp : List (Nat × KP)) (nt N : Nat) : Env := ⟨tyTab, sp, [], lp, nt, N, eqTab, []⟩
def mkI (sp : List (Nat × RSpec)) (ip : List (Nat × Ip)) (lp : List (Nat × KP)) (nt N : Nat) : Env := ⟨tyTab, sp, [], lp, nt, N, eqTab, ip⟩
/-- copse/copselaw22.SearchRuns -/
noncomputable abbrev f_copselaw22_SearchRuns : Func := Try.f3
noncomputable def c_copselaw22_SearchRuns : Code := codeOf Try.f3
theorem h_copselaw22_SearchRuns : (f_copselaw22_SearchRuns.name == "runtime.NumGoroutine") = false ∧ f_copselaw22_SearchRuns.body = some c_copselaw22_SearchRuns ∧ f_copselaw22_SearchRuns.ntmps = 60 ∧ Nat.ble 60 900000 = true ∧ f_copselaw22_SearchRuns.results.toList = [.tmp 0] := ⟨by kernel_rfl, by kernel_rfl, by kernel_rfl, by kernel_rfl, by kernel_rfl⟩
/-- copse/copselaw22.SearchPoint -/
noncomputable abbrev f_copselaw22_SearchPoint : Func := Try.f4
noncomputable def c_copselaw22_SearchPoint : Code := codeOf Try.f4
theorem h_copselaw22_SearchPoint : (f_copselaw22_SearchPoint.name == "runtime.NumGoroutine") = false ∧ f_copselaw22_SearchPoint.body = some c_copselaw22_SearchPoint ∧ f_copselaw22_SearchPoint.ntmps = 86 ∧ Nat.ble 86 900000 = true ∧ f_copselaw22_SearchPoint.results.toList = [.tmp 6] := ⟨by kernel_rfl, by kernel_rfl, by kernel_rfl, by kernel_rfl, by kernel_rfl⟩
/-- copse/copselaw22.SearchTwo -/
noncomputable abbrev f_copselaw22_SearchTwo : Func := Try.f5
noncomputable def c_copselaw22_SearchTwo : Code := codeOf Try.f5
theorem h_copselaw22_SearchTwo : (f_copselaw22_SearchTwo.name == "runtime.NumGoroutine") = false ∧ f_copselaw22_SearchTwo.body = some c_copselaw22_SearchTwo ∧ f_copselaw22_SearchTwo.ntmps = 90 ∧ Nat.ble 90 900000 = true ∧ f_copselaw22_SearchTwo.results.toList = [.tmp 10] := ⟨by kernel_rfl, by kernel_rfl, by kernel_rfl, by kernel_rfl, by kernel_rfl⟩
/-- copse/copselaw22.SearchLeft -/
noncomputable abbrev f_copselaw22_SearchLeft : Func := Try.f6
noncomputable def c_copselaw22_SearchLeft : Code := codeOf Try.f6
theorem h_copselaw22_SearchLeft : (f_copselaw22_SearchLeft.name == "runtime.NumGoroutine") = false ∧ f_copselaw22_SearchLeft.body = some c_copselaw22_SearchLeft ∧ f_copselaw22_SearchLeft.ntmps = 109 ∧ Nat.ble 109 900000 = true ∧ f_copselaw22_SearchLeft.results.toList = [.tmp 6] := ⟨by kernel_rfl, by kernel_rfl, by kernel_rfl, by kernel_rfl, by kernel_rfl⟩
/-- copse/copsekeep.Three -/
noncomputable abbrev f_copsekeep_Three : Func := Try.f7
noncomputable def c_copsekeep_Three : Code := codeOf Try.f7
theorem h_copsekeep_Three : (f_copsekeep_Three.name == "runtime.NumGoroutine") = false ∧ f_copsekeep_Three.body = some c_copsekeep_Three ∧ f_copsekeep_Three.ntmps = 14 ∧ Nat.ble 14 900000 = true ∧ f_copsekeep_Three.results.toList = [.cell 0 25] := ⟨by kernel_rfl, by kernel_rfl, by kernel_rfl, by kernel_rfl, by kernel_rfl⟩
/-- copse/search.Run -/
noncomputable abbrev f_search_Run : Func := Try.f8
noncomputable def c_search_Run : Code := codeOf Try.f8
theorem h_search_Run : (f_search_Run.name == "runtime.NumGoroutine") = false ∧ f_search_Run.body = some c_search_Run ∧ f_search_Run.ntmps = 13 ∧ Nat.ble 13 900000 = true ∧ f_search_Run.results.toList = [.cell 4 37] := ⟨by kernel_rfl, by kernel_rfl, by kernel_rfl, by kernel_rfl, by kernel_rfl⟩
/-- (copse/copsekeep.Forest).Model -/
noncomputable abbrev f_copsekeep_Forest_Model : Func := Try.f9
noncomputable def c_copsekeep_Forest_Model : Code := codeOf Try.f9
theorem h_copsekeep_Forest_Model : (f_copsekeep_Forest_Model.name == "runtime.NumGoroutine") = false ∧ f_copsekeep_Forest_Model.body = some c_copsekeep_Forest_Model ∧ f_copsekeep_Forest_Model.ntmps = 63 ∧ Nat.ble 63 900000 = true ∧ f_copsekeep_Forest_Model.results.toList = [.cell 2 25] := ⟨by kernel_rfl, by kernel_rfl, by kernel_rfl, by kernel_rfl, by kernel_rfl⟩
/-- (copse/copsekeep.Ask).Query -/
noncomputable abbrev f_copsekeep_Ask_Query : Func := Try.f10
noncomputable def c_copsekeep_Ask_Query : Code := codeOf Try.f10
theorem h_copsekeep_Ask_Query : (f_copsekeep_Ask_Query.name == "runtime.NumGoroutine") = false ∧ f_copsekeep_Ask_Query.body = some c_copsekeep_Ask_Query ∧ f_copsekeep_Ask_Query.ntmps = 58 ∧ Nat.ble 58 900000 = true ∧ f_copsekeep_Ask_Query.results.toList = [.cell 4 32] := ⟨by kernel_rfl, by kernel_rfl, by kernel_rfl, by kernel_rfl, by kernel_rfl⟩
/-- copse/copsekeep.Inside -/
noncomputable abbrev f_copsekeep_Inside : Func := Try.f11
noncomputable def c_copsekeep_Inside : Code := codeOf Try.f11
theorem h_copsekeep_Inside : (f_copsekeep_Inside.name == "runtime.NumGoroutine") = false ∧ f_copsekeep_Inside.body = some c_copsekeep_Inside ∧ f_copsekeep_Inside.ntmps = 31 ∧ Nat.ble 31 900000 = true ∧ f_copsekeep_Inside.results.toList = [.cell 4 35] := ⟨by kernel_rfl, by kernel_rfl, by kernel_rfl, by kernel_rfl, by kernel_rfl⟩
/-- copse/query.Breaks -/
noncomputable abbrev f_query_Breaks : Func := Try.f12
noncomputable def c_query_Breaks : Code := codeOf Try.f12
theorem h_query_Breaks : (f_query_Breaks.name == "runtime.NumGoroutine") = false ∧ f_query_Breaks.body = some c_query_Breaks ∧ f_query_Breaks.ntmps = 75 ∧ Nat.ble 75 900000 = true ∧ f_query_Breaks.results.toList = [.tmp 8] := ⟨by kernel_rfl, by kernel_rfl, by kernel_rfl, by kernel_rfl, by kernel_rfl⟩
/-- copse/query.Start -/
noncomputable abbrev f_query_Start : Func := Try.f13
noncomputable def c_query_Start : Code := codeOf Try.f13
theorem h_query_Start : (f_query_Start.name == "runtime.NumGoroutine") = false ∧ f_query_Start.body = some c_query_Start ∧ f_query_Start.ntmps = 16 ∧ Nat.ble 16 900000 = true ∧ f_query_Start.results.toList = [.cell 2 30] := ⟨by kernel_rfl, by kernel_rfl, by kernel_rfl, by kernel_rfl, by kernel_rfl⟩
/-- copse/search.New -/
noncomputable abbrev f_search_New : Func := Try.f14
noncomputable def c_search_New : Code := codeOf Try.f14
theorem h_search_New : (f_search_New.name == "runtime.NumGoroutine") = false ∧ f_search_New.body = some c_search_New ∧ f_search_New.ntmps = 26 ∧ Nat.ble 26 900000 = true ∧ f_search_New.results.toList = [.tmp 4] := ⟨by kernel_rfl, by kernel_rfl, by kernel_rfl, by kernel_rfl, by kernel_rfl⟩
/-- (*copse/search.Search).Step -/
noncomputable abbrev f_search_Search_Step : Func := Try.f15
noncomputable def c_search_Search_Step : Code := codeOf Try.f15
theorem h_search_Search_Step : (f_search_Search_Step.name == "runtime.NumGoroutine") = false ∧ f_search_Search_Step.body = some c_search_Search_Step ∧ f_search_Search_Step.ntmps = 165 ∧ Nat.ble 165 900000 = true ∧ f_search_Search_Step.results.toList = [.tmp 2] := ⟨by kernel_rfl, by kernel_rfl, by kernel_rfl, by kernel_rfl, by kernel_rfl⟩
/-- copse/copsekeep.Verdicts -/
noncomputable abbrev f_copsekeep_Verdicts : Func := Try.f16
noncomputable def c_copsekeep_Verdicts : Code := codeOf Try.f16
theorem h_copsekeep_Verdicts : (f_copsekeep_Verdicts.name == "runtime.NumGoroutine") = false ∧ f_copsekeep_Verdicts.body = some c_copsekeep_Verdicts ∧ f_copsekeep_Verdicts.ntmps = 38 ∧ Nat.ble 38 900000 = true ∧ f_copsekeep_Verdicts.results.toList = [.tmp 4] := ⟨by kernel_rfl, by kernel_rfl, by kernel_rfl, by kernel_rfl, by kernel_rfl⟩
/-- (*copse/search.Search).Verdict -/
noncomputable abbrev f_search_Search_Verdict : Func := Try.f17
noncomputable def c_search_Search_Verdict : Code := codeOf Try.f17
theorem h_search_Search_Verdict : (f_search_Search_Verdict.name == "runtime.NumGoroutine") = false ∧ f_search_Search_Verdict.body = some c_search_Search_Verdict ∧ f_search_Search_Verdict.ntmps = 22 ∧ Nat.ble 22 900000 = true ∧ f_search_Search_Verdict.results.toList = [.cell 2 37] := ⟨by kernel_rfl, by kernel_rfl, by kernel_rfl, by kernel_rfl, by kernel_rfl⟩
/-- copse/copsebook.Within -/
noncomputable abbrev f_copsebook_Within : Func := Try.f18
noncomputable def c_copsebook_Within : Code := codeOf Try.f18
theorem h_copsebook_Within : (f_copsebook_Within.name == "runtime.NumGoroutine") = false ∧ f_copsebook_Within.body = some c_copsebook_Within ∧ f_copsebook_Within.ntmps = 24 ∧ Nat.ble 24 900000 = true ∧ f_copsebook_Within.results.toList = [.tmp 6] := ⟨by kernel_rfl, by kernel_rfl, by kernel_rfl, by kernel_rfl, by kernel_rfl⟩
/-- (*copse/search.Search).Left -/
noncomputable abbrev f_search_Search_Left : Func := Try.f19
noncomputable def c_search_Search_Left : Code := codeOf Try.f19
theorem h_search_Search_Left : (f_search_Search_Left.name == "runtime.NumGoroutine") = false ∧ f_search_Search_Left.body = some c_search_Search_Left ∧ f_search_Search_Left.ntmps = 8 ∧ Nat.ble 8 900000 = true ∧ f_search_Search_Left.results.toList = [.tmp 2] := ⟨by kernel_rfl, by kernel_rfl, by kernel_rfl, by kernel_rfl, by kernel_rfl⟩
/-- copse/copseref6.Pack -/
noncomputable abbrev f_copseref6_Pack : Func := Try.f20
noncomputable def c_copseref6_Pack : Code := codeOf Try.f20
theorem h_copseref6_Pack : (f_copseref6_Pack.name == "runtime.NumGoroutine") = false ∧ f_copseref6_Pack.body = some c_copseref6_Pack ∧ f_copseref6_Pack.ntmps = 32 ∧ Nat.ble 32 900000 = true ∧ f_copseref6_Pack.results.toList = [.tmp 2] := ⟨by kernel_rfl, by kernel_rfl, by kernel_rfl, by kernel_rfl, by kernel_rfl⟩
/-- copse/copsekeep.pick -/
noncomputable abbrev f_copsekeep_pick : Func := Try.f21
noncomputable def c_copsekeep_pick : Code := codeOf Try.f21
theorem h_copsekeep_pick : (f_copsekeep_pick.name == "runtime.NumGoroutine") = false ∧ f_copsekeep_pick.body = some c_copsekeep_pick ∧ f_copsekeep_pick.ntmps = 15 ∧ Nat.ble 15 900000 = true ∧ f_copsekeep_pick.results.toList = [.tmp 4] := ⟨by kernel_rfl, by kernel_rfl, by kernel_rfl, by kernel_rfl, by kernel_rfl⟩
/-- (copse/copsekeep.Tree).Nodes -/
noncomputable abbrev f_copsekeep_Tree_Nodes : Func := Try.f22
noncomputable def c_copsekeep_Tree_Nodes : Code := codeOf Try.f22
theorem h_copsekeep_Tree_Nodes : (f_copsekeep_Tree_Nodes.name == "runtime.NumGoroutine") = false ∧ f_copsekeep_Tree_Nodes.body = some c_copsekeep_Tree_Nodes ∧ f_copsekeep_Tree_Nodes.ntmps = 113 ∧ Nat.ble 113 900000 = true ∧ f_copsekeep_Tree_Nodes.results.toList = [.tmp 4] := ⟨by kernel_rfl, by kernel_rfl, by kernel_rfl, by kernel_rfl, by kernel_rfl⟩
/-- copse/copsekeep.Region -/
noncomputable abbrev f_copsekeep_Region : Func := Try.f23
noncomputable def c_copsekeep_Region : Code := codeOf Try.f23
theorem h_copsekeep_Region : (f_copsekeep_Region.name == "runtime.NumGoroutine") = false ∧ f_copsekeep_Region.body = some c_copsekeep_Region ∧ f_copsekeep_Region.ntmps = 32 ∧ Nat.ble 32 900000 = true ∧ f_copsekeep_Region.results.toList = [.cell 4 30] := ⟨by kernel_rfl, by kernel_rfl, by kernel_rfl, by kernel_rfl, by kernel_rfl⟩
/-- copse/query.Right -/
noncomputable abbrev f_query_Right : Func := Try.f24
noncomputable def c_query_Right : Code := codeOf Try.f24
theorem h_query_Right : (f_query_Right.name == "runtime.NumGoroutine") = false ∧ f_query_Right.body = some c_query_Right ∧ f_query_Right.ntmps = 41 ∧ Nat.ble 41 900000 = true ∧ f_query_Right.results.toList = [.tmp 4] := ⟨by kernel_rfl, by kernel_rfl, by kernel_rfl, by kernel_rfl, by kernel_rfl⟩
/-- copse/model.Eval -/
noncomputable abbrev f_model_Eval : Func := Try.f25
noncomputable def c_model_Eval : Code := codeOf Try.f25
theorem h_model_Eval : (f_model_Eval.name == "runtime.NumGoroutine") = false ∧ f_model_Eval.body = some c_model_Eval ∧ f_model_Eval.ntmps = 24 ∧ Nat.ble 24 900000 = true ∧ f_model_Eval.results.toList = [.tmp 6] := ⟨by kernel_rfl, by kernel_rfl, by kernel_rfl, by kernel_rfl, by kernel_rfl⟩
/-- copse/span.Has -/
noncomputable abbrev f_span_Has : Func := Try.f26
noncomputable def c_span_Has : Code := codeOf Try.f26
theorem h_span_Has : (f_span_Has.name == "runtime.NumGoroutine") = false ∧ f_span_Has.body = some c_span_Has ∧ f_span_Has.ntmps = 15 ∧ Nat.ble 15 900000 = true ∧ f_span_Has.results.toList = [.tmp 4] := ⟨by kernel_rfl, by kernel_rfl, by kernel_rfl, by kernel_rfl, by kernel_rfl⟩
/-- copse/query.Second -/
noncomputable abbrev f_query_Second : Func := Try.f27
noncomputable def c_query_Second : Code := codeOf Try.f27
theorem h_query_Second : (f_query_Second.name == "runtime.NumGoroutine") = false ∧ f_query_Second.body = some c_query_Second ∧ f_query_Second.ntmps = 14 ∧ Nat.ble 14 900000 = true ∧ f_query_Second.results.toList = [.cell 6 35] := ⟨by kernel_rfl, by kernel_rfl, by kernel_rfl, by kernel_rfl, by kernel_rfl⟩
/-- copse/query.paired -/
noncomputable abbrev f_query_paired : Func := Try.f28
noncomputable def c_query_paired : Code := codeOf Try.f28
theorem h_query_paired : (f_query_paired.name == "runtime.NumGoroutine") = false ∧ f_query_paired.body = some c_query_paired ∧ f_query_paired.ntmps = 16 ∧ Nat.ble 16 900000 = true ∧ f_query_paired.results.toList = [.tmp 2] := ⟨by kernel_rfl, by kernel_rfl, by kernel_rfl, by kernel_rfl, by kernel_rfl⟩
/-- copse/goal.Closed -/
noncomputable abbrev f_goal_Closed : Func := Try.f29
noncomputable def c_goal_Closed : Code := codeOf Try.f29
theorem h_goal_Closed : (f_goal_Closed.name == "runtime.NumGoroutine") = false ∧ f_goal_Closed.body = some c_goal_Closed ∧ f_goal_Closed.ntmps = 86 ∧ Nat.ble 86 900000 = true ∧ f_goal_Closed.results.toList = [.tmp 6] := ⟨by kernel_rfl, by kernel_rfl, by kernel_rfl, by kernel_rfl, by kernel_rfl⟩
/-- copse/goal.Corner -/
noncomputable abbrev f_goal_Corner : Func := Try.f30
noncomputable def c_goal_Corner : Code := codeOf Try.f30
theorem h_goal_Corner : (f_goal_Corner.name == "runtime.NumGoroutine") = false ∧ f_goal_Corner.body = some c_goal_Corner ∧ f_goal_Corner.ntmps = 9 ∧ Nat.ble 9 900000 = true ∧ f_goal_Corner.results.toList = [.cell 2 35, .tmp 3] := ⟨by kernel_rfl, by kernel_rfl, by kernel_rfl, by kernel_rfl, by kernel_rfl⟩
/-- copse/goal.Split -/
noncomputable abbrev f_goal_Split : Func := Try.f31
noncomputable def c_goal_Split : Code := codeOf Try.f31
theorem h_goal_Split : (f_goal_Split.name == "runtime.NumGoroutine") = false ∧ f_goal_Split.body = some c_goal_Split ∧ f_goal_Split.ntmps = 31 ∧ Nat.ble 31 900000 = true ∧ f_goal_Split.results.toList = [.tmp 6, .tmp 7, .tmp 8] := ⟨by kernel_rfl, by kernel_rfl, by kernel_rfl, by kernel_rfl, by kernel_rfl⟩
/-- copse/box.Cut -/
noncomputable abbrev f_box_Cut : Func := Try.f32
noncomputable def c_box_Cut : Code := codeOf Try.f32
theorem h_box_Cut : (f_box_Cut.name == "runtime.NumGoroutine") = false ∧ f_box_Cut.body = some c_box_Cut ∧ f_box_Cut.ntmps = 32 ∧ Nat.ble 32 900000 = true ∧ f_box_Cut.results.toList = [.cell 6 30, .cell 7 30] := ⟨by kernel_rfl, by kernel_rfl, by kernel_rfl, by kernel_rfl, by kernel_rfl⟩
/-- copse/copsebook.Same<copse/api.Step> -/
noncomputable abbrev f_copsebook_Same_apiStep : Func := Try.f33
noncomputable def c_copsebook_Same_apiStep : Code := codeOf Try.f33
theorem h_copsebook_Same_apiStep : (f_copsebook_Same_apiStep.name == "runtime.NumGoroutine") = false ∧ f_copsebook_Same_apiStep.body = some c_copsebook_Same_apiStep ∧ f_copsebook_Same_apiStep.ntmps = 26 ∧ Nat.ble 26 900000 = true ∧ f_copsebook_Same_apiStep.results.toList = [.tmp 4] := ⟨by kernel_rfl, by kernel_rfl, by kernel_rfl, by kernel_rfl, by kernel_rfl⟩
/-- copse/copseref6.RightNode -/
noncomputable abbrev f_copseref6_RightNode : Func := Try.f35
noncomputable def c_copseref6_RightNode : Code := codeOf Try.f35
theorem h_copseref6_RightNode : (f_copseref6_RightNode.name == "runtime.NumGoroutine") = false ∧ f_copseref6_RightNode.body = some c_copseref6_RightNode ∧ f_copseref6_RightNode.ntmps = 66 ∧ Nat.ble 66 900000 = true ∧ f_copseref6_RightNode.results.toList = [.tmp 2] := ⟨by kernel_rfl, by kernel_rfl, by kernel_rfl, by kernel_rfl, by kernel_rfl⟩
/-- copse/model.Right -/
noncomputable abbrev f_model_Right : Func := Try.f36
noncomputable def c_model_Right : Code := codeOf Try.f36
theorem h_model_Right : (f_model_Right.name == "runtime.NumGoroutine") = false ∧ f_model_Right.body = some c_model_Right ∧ f_model_Right.ntmps = 54 ∧ Nat.ble 54 900000 = true ∧ f_model_Right.results.toList = [.tmp 2] := ⟨by kernel_rfl, by kernel_rfl, by kernel_rfl, by kernel_rfl, by kernel_rfl⟩
/-- copse/query.region -/
noncomputable abbrev f_query_region : Func := Try.f37
noncomputable def c_query_region : Code := codeOf Try.f37
theorem h_query_region : (f_query_region.name == "runtime.NumGoroutine") = false ∧ f_query_region.body = some c_query_region ∧ f_query_region.ntmps = 35 ∧ Nat.ble 35 900000 = true ∧ f_query_region.results.toList = [.tmp 4] := ⟨by kernel_rfl, by kernel_rfl, by kernel_rfl, by kernel_rfl, by kernel_rfl⟩
/-- copse/query.kind -/
noncomputable abbrev f_query_kind : Func := Try.f38
noncomputable def c_query_kind : Code := codeOf Try.f38
theorem h_query_kind : (f_query_kind.name == "runtime.NumGoroutine") = false ∧ f_query_kind.body = some c_query_kind ∧ f_query_kind.ntmps = 71 ∧ Nat.ble 71 900000 = true ∧ f_query_kind.results.toList = [.tmp 4] := ⟨by kernel_rfl, by kernel_rfl, by kernel_rfl, by kernel_rfl, by kernel_rfl⟩
/-- copse/model.eval -/
noncomputable abbrev f_model_eval : Func := Try.f39
noncomputable def c_model_eval : Code := codeOf Try.f39
theorem h_model_eval : (f_model_eval.name == "runtime.NumGoroutine") = false ∧ f_model_eval.body = some c_model_eval ∧ f_model_eval.ntmps = 33 ∧ Nat.ble 33 900000 = true ∧ f_model_eval.results.toList = [.tmp 6] := ⟨by kernel_rfl, by kernel_rfl, by kernel_rfl, by kernel_rfl, by kernel_rfl⟩
/-- copse/box.Empty -/
noncomputable abbrev f_box_Empty : Func := Try.f40
noncomputable def c_box_Empty : Code := codeOf Try.f40
theorem h_box_Empty : (f_box_Empty.name == "runtime.NumGoroutine") = false ∧ f_box_Empty.body = some c_box_Empty ∧ f_box_Empty.ntmps = 12 ∧ Nat.ble 12 900000 = true ∧ f_box_Empty.results.toList = [.tmp 2] := ⟨by kernel_rfl, by kernel_rfl, by kernel_rfl, by kernel_rfl, by kernel_rfl⟩
/-- copse/bound.Sum -/
noncomputable abbrev f_bound_Sum : Func := Try.f41
noncomputable def c_bound_Sum : Code := codeOf Try.f41
theorem h_bound_Sum : (f_bound_Sum.name == "runtime.NumGoroutine") = false ∧ f_bound_Sum.body = some c_bound_Sum ∧ f_bound_Sum.ntmps = 69 ∧ Nat.ble 69 900000 = true ∧ f_bound_Sum.results.toList = [.tmp 6, .tmp 7, .tmp 8] := ⟨by kernel_rfl, by kernel_rfl, by kernel_rfl, by kernel_rfl, by kernel_rfl⟩
/-- copse/bound.Margin -/
noncomputable abbrev f_bound_Margin : Func := Try.f42
noncomputable def c_bound_Margin : Code := codeOf Try.f42
theorem h_bound_Margin : (f_bound_Margin.name == "runtime.NumGoroutine") = false ∧ f_bound_Margin.body = some c_bound_Margin ∧ f_bound_Margin.ntmps = 62 ∧ Nat.ble 62 900000 = true ∧ f_bound_Margin.results.toList = [.tmp 6, .tmp 7] := ⟨by kernel_rfl, by kernel_rfl, by kernel_rfl, by kernel_rfl, by kernel_rfl⟩
/-- copse/couple.Ordered -/
noncomputable abbrev f_couple_Ordered : Func := Try.f43
noncomputable def c_couple_Ordered : Code := codeOf Try.f43
theorem h_couple_Ordered : (f_couple_Ordered.name == "runtime.NumGoroutine") = false ∧ f_couple_Ordered.body = some c_couple_Ordered ∧ f_couple_Ordered.ntmps = 23 ∧ Nat.ble 23 900000 = true ∧ f_couple_Ordered.results.toList = [.tmp 4] := ⟨by kernel_rfl, by kernel_rfl, by kernel_rfl, by kernel_rfl, by kernel_rfl⟩
/-- copse/couple.Change -/
noncomputable abbrev f_couple_Change : Func := Try.f44
noncomputable def c_couple_Change : Code := codeOf Try.f44
theorem h_couple_Change : (f_couple_Change.name == "runtime.NumGoroutine") = false ∧ f_couple_Change.body = some c_couple_Change ∧ f_couple_Change.ntmps = 54 ∧ Nat.ble 54 900000 = true ∧ f_couple_Change.results.toList = [.tmp 6, .tmp 7, .tmp 8] := ⟨by kernel_rfl, by kernel_rfl, by kernel_rfl, by kernel_rfl, by kernel_rfl⟩
/-- copse/box.Low -/
noncomputable abbrev f_box_Low : Func := Try.f45
noncomputable def c_box_Low : Code := codeOf Try.f45
theorem h_box_Low : (f_box_Low.name == "runtime.NumGoroutine") = false ∧ f_box_Low.body = some c_box_Low ∧ f_box_Low.ntmps = 16 ∧ Nat.ble 16 900000 = true ∧ f_box_Low.results.toList = [.cell 2 35] := ⟨by kernel_rfl, by kernel_rfl, by kernel_rfl, by kernel_rfl, by kernel_rfl⟩
/-- copse/grid.Cuts -/
noncomputable abbrev f_grid_Cuts : Func := Try.f46
noncomputable def c_grid_Cuts : Code := codeOf Try.f46
theorem h_grid_Cuts : (f_grid_Cuts.name == "runtime.NumGoroutine") = false ∧ f_grid_Cuts.body = some c_grid_Cuts ∧ f_grid_Cuts.ntmps = 24 ∧ Nat.ble 24 900000 = true ∧ f_grid_Cuts.results.toList = [.tmp 8] := ⟨by kernel_rfl, by kernel_rfl, by kernel_rfl, by kernel_rfl, by kernel_rfl⟩
/-- copse/span.Cut -/
noncomputable abbrev f_span_Cut : Func := Try.f47
noncomputable def c_span_Cut : Code := codeOf Try.f47
theorem h_span_Cut : (f_span_Cut.name == "runtime.NumGoroutine") = false ∧ f_span_Cut.body = some c_span_Cut ∧ f_span_Cut.ntmps = 29 ∧ Nat.ble 29 900000 = true ∧ f_span_Cut.results.toList = [.cell 4 28, .cell 5 28] := ⟨by kernel_rfl, by kernel_rfl, by kernel_rfl, by kernel_rfl, by kernel_rfl⟩
/-- copse/copseref1.Fits -/
noncomputable abbrev f_copseref1_Fits : Func := Try.f48
noncomputable def c_copseref1_Fits : Code := codeOf Try.f48
theorem h_copseref1_Fits : (f_copseref1_Fits.name == "runtime.NumGoroutine") = false ∧ f_copseref1_Fits.body = some c_copseref1_Fits ∧ f_copseref1_Fits.ntmps = 27 ∧ Nat.ble 27 900000 = true ∧ f_copseref1_Fits.results.toList = [.tmp 4] := ⟨by kernel_rfl, by kernel_rfl, by kernel_rfl, by kernel_rfl, by kernel_rfl⟩
/-- copse/bits.Fits -/
noncomputable abbrev f_bits_Fits : Func := Try.f49
noncomputable def c_bits_Fits : Code := codeOf Try.f49
theorem h_bits_Fits : (f_bits_Fits.name == "runtime.NumGoroutine") = false ∧ f_bits_Fits.body = some c_bits_Fits ∧ f_bits_Fits.ntmps = 25 ∧ Nat.ble 25 900000 = true ∧ f_bits_Fits.results.toList = [.tmp 4] := ⟨by kernel_rfl, by kernel_rfl, by kernel_rfl, by kernel_rfl, by kernel_rfl⟩
/-- slices.ContainsFunc<<>copse/api.Tree,copse/api.Tree> -/
noncomputable abbrev f_slices_ContainsFunc_apiTreeapiTree : Func := Try.f50
noncomputable def c_slices_ContainsFunc_apiTreeapiTree : Code := codeOf Try.f50
theorem h_slices_ContainsFunc_apiTreeapiTree : (f_slices_ContainsFunc_apiTreeapiTree.name == "runtime.NumGoroutine") = false ∧ f_slices_ContainsFunc_apiTreeapiTree.body = some c_slices_ContainsFunc_apiTreeapiTree ∧ f_slices_ContainsFunc_apiTreeapiTree.ntmps = 9 ∧ Nat.ble 9 900000 = true ∧ f_slices_ContainsFunc_apiTreeapiTree.results.toList = [.tmp 4] := ⟨by kernel_rfl, by kernel_rfl, by kernel_rfl, by kernel_rfl, by kernel_rfl⟩
/-- copse/model.Right$1 -/
noncomputable abbrev f_model_Right_1 : Func := Try.f51
noncomputable def c_model_Right_1 : Code := codeOf Try.f51
theorem h_model_Right_1 : (f_model_Right_1.name == "runtime.NumGoroutine") = false ∧ f_model_Right_1.body = some c_model_Right_1 ∧ f_model_Right_1.ntmps = 22 ∧ Nat.ble 22 900000 = true ∧ f_model_Right_1.results.toList = [.tmp 3] := ⟨by kernel_rfl, by kernel_rfl, by kernel_rfl, by kernel_rfl, by kernel_rfl⟩
/-- copse/tree.Right -/
noncomputable abbrev f_tree_Right : Func := Try.f52
noncomputable def c_tree_Right : Code := codeOf Try.f52
theorem h_tree_Right : (f_tree_Right.name == "runtime.NumGoroutine") = false ∧ f_tree_Right.body = some c_tree_Right ∧ f_tree_Right.ntmps = 94 ∧ Nat.ble 94 900000 = true ∧ f_tree_Right.results.toList = [.tmp 4] := ⟨by kernel_rfl, by kernel_rfl, by kernel_rfl, by kernel_rfl, by kernel_rfl⟩
/-- copse/span.Empty -/
noncomputable abbrev f_span_Empty : Func := Try.f53
noncomputable def c_span_Empty : Code := codeOf Try.f53
theorem h_span_Empty : (f_span_Empty.name == "runtime.NumGoroutine") = false ∧ f_span_Empty.body = some c_span_Empty ∧ f_span_Empty.ntmps = 8 ∧ Nat.ble 8 900000 = true ∧ f_span_Empty.results.toList = [.tmp 2] := ⟨by kernel_rfl, by kernel_rfl, by kernel_rfl, by kernel_rfl, by kernel_rfl⟩
/-- copse/tree.Value -/
noncomputable abbrev f_tree_Value : Func := Try.f54
noncomputable def c_tree_Value : Code := codeOf Try.f54
theorem h_tree_Value : (f_tree_Value.name == "runtime.NumGoroutine") = false ∧ f_tree_Value.body = some c_tree_Value ∧ f_tree_Value.ntmps = 15 ∧ Nat.ble 15 900000 = true ∧ f_tree_Value.results.toList = [.tmp 4] := ⟨by kernel_rfl, by kernel_rfl, by kernel_rfl, by kernel_rfl, by kernel_rfl⟩
/-- copse/bound.Tree -/
noncomputable abbrev f_bound_Tree : Func := Try.f55
noncomputable def c_bound_Tree : Code := codeOf Try.f55
theorem h_bound_Tree : (f_bound_Tree.name == "runtime.NumGoroutine") = false ∧ f_bound_Tree.body = some c_bound_Tree ∧ f_bound_Tree.ntmps = 43 ∧ Nat.ble 43 900000 = true ∧ f_bound_Tree.results.toList = [.tmp 4, .tmp 5, .tmp 6] := ⟨by kernel_rfl, by kernel_rfl, by kernel_rfl, by kernel_rfl, by kernel_rfl⟩
/-- copse/couple.pairs -/
noncomputable abbrev f_couple_pairs : Func := Try.f56
noncomputable def c_couple_pairs : Code := codeOf Try.f56
theorem h_couple_pairs : (f_couple_pairs.name == "runtime.NumGoroutine") = false ∧ f_couple_pairs.body = some c_couple_pairs ∧ f_couple_pairs.ntmps = 16 ∧ Nat.ble 16 900000 = true ∧ f_couple_pairs.results.toList = [.tmp 2] := ⟨by kernel_rfl, by kernel_rfl, by kernel_rfl, by kernel_rfl, by kernel_rfl⟩
/-- copse/couple.First -/
noncomputable abbrev f_couple_First : Func := Try.f57
noncomputable def c_couple_First : Code := codeOf Try.f57
theorem h_couple_First : (f_couple_First.name == "runtime.NumGoroutine") = false ∧ f_couple_First.body = some c_couple_First ∧ f_couple_First.ntmps = 10 ∧ Nat.ble 10 900000 = true ∧ f_couple_First.results.toList = [.cell 4 30] := ⟨by kernel_rfl, by kernel_rfl, by kernel_rfl, by kernel_rfl, by kernel_rfl⟩
/-- copse/couple.Second -/
noncomputable abbrev f_couple_Second : Func := Try.f58
noncomputable def c_couple_Second : Code := codeOf Try.f58
theorem h_couple_Second : (f_couple_Second.name == "runtime.NumGoroutine") = false ∧ f_couple_Second.body = some c_couple_Second ∧ f_couple_Second.ntmps = 15 ∧ Nat.ble 15 900000 = true ∧ f_couple_Second.results.toList = [.cell 4 30] := ⟨by kernel_rfl, by kernel_rfl, by kernel_rfl, by kernel_rfl, by kernel_rfl⟩
/-- copse/grid.feature -/
noncomputable abbrev f_grid_feature : Func := Try.f59
noncomputable def c_grid_feature : Code := codeOf Try.f59
theorem h_grid_feature : (f_grid_feature.name == "runtime.NumGoroutine") = false ∧ f_grid_feature.body = some c_grid_feature ∧ f_grid_feature.ntmps = 23 ∧ Nat.ble 23 900000 = true ∧ f_grid_feature.results.toList = [.tmp 4] := ⟨by kernel_rfl, by kernel_rfl, by kernel_rfl, by kernel_rfl, by kernel_rfl⟩
/-- copse/model.Thresholds -/
noncomputable abbrev f_model_Thresholds : Func := Try.f61
noncomputable def c_model_Thresholds : Code := codeOf Try.f61
theorem h_model_Thresholds : (f_model_Thresholds.name == "runtime.NumGoroutine") = false ∧ f_model_Thresholds.body = some c_model_Thresholds ∧ f_model_Thresholds.ntmps = 54 ∧ Nat.ble 54 900000 = true ∧ f_model_Thresholds.results.toList = [.tmp 4] := ⟨by kernel_rfl, by kernel_rfl, by kernel_rfl, by kernel_rfl, by kernel_rfl⟩
/-- copse/grid.Cuts$1 -/
noncomputable abbrev f_grid_Cuts_1 : Func := Try.f62
noncomputable def c_grid_Cuts_1 : Code := codeOf Try.f62
theorem h_grid_Cuts_1 : (f_grid_Cuts_1.name == "runtime.NumGoroutine") = false ∧ f_grid_Cuts_1.body = some c_grid_Cuts_1 ∧ f_grid_Cuts_1.ntmps = 14 ∧ Nat.ble 14 900000 = true ∧ f_grid_Cuts_1.results.toList = [.tmp 3] := ⟨by kernel_rfl, by kernel_rfl, by kernel_rfl, by kernel_rfl, by kernel_rfl⟩
/-- copse/span.of -/
noncomputable abbrev f_span_of : Func := Try.f63
noncomputable def c_span_of : Code := codeOf Try.f63
theorem h_span_of : (f_span_of.name == "runtime.NumGoroutine") = false ∧ f_span_of.body = some c_span_of ∧ f_span_of.ntmps = 12 ∧ Nat.ble 12 900000 = true ∧ f_span_of.results.toList = [.cell 4 28] := ⟨by kernel_rfl, by kernel_rfl, by kernel_rfl, by kernel_rfl, by kernel_rfl⟩
/-- copse/span.none -/
noncomputable abbrev f_span_none : Func := Try.f64
noncomputable def c_span_none : Code := codeOf Try.f64
theorem h_span_none : (f_span_none.name == "runtime.NumGoroutine") = false ∧ f_span_none.body = some c_span_none ∧ f_span_none.ntmps = 2 ∧ Nat.ble 2 900000 = true ∧ f_span_none.results.toList = [.cell 0 28] := ⟨by kernel_rfl, by kernel_rfl, by kernel_rfl, by kernel_rfl, by kernel_rfl⟩
/-- slices.IndexFunc<<>copse/api.Tree,copse/api.Tree> -/
noncomputable abbrev f_slices_IndexFunc_apiTreeapiTree : Func := Try.f65
noncomputable def c_slices_IndexFunc_apiTreeapiTree : Code := codeOf Try.f65
theorem h_slices_IndexFunc_apiTreeapiTree : (f_slices_IndexFunc_apiTreeapiTree.name == "runtime.NumGoroutine") = false ∧ f_slices_IndexFunc_apiTreeapiTree.body = some c_slices_IndexFunc_apiTreeapiTree ∧ f_slices_IndexFunc_apiTreeapiTree.ntmps = 19 ∧ Nat.ble 19 900000 = true ∧ f_slices_IndexFunc_apiTreeapiTree.results.toList = [.tmp 4] := ⟨by kernel_rfl, by kernel_rfl, by kernel_rfl, by kernel_rfl, by kernel_rfl⟩
/-- copse/node.Unpack -/
noncomputable abbrev f_node_Unpack : Func := Try.f66
noncomputable def c_node_Unpack : Code := codeOf Try.f66
theorem h_node_Unpack : (f_node_Unpack.name == "runtime.NumGoroutine") = false ∧ f_node_Unpack.body = some c_node_Unpack ∧ f_node_Unpack.ntmps = 33 ∧ Nat.ble 33 900000 = true ∧ f_node_Unpack.results.toList = [.cell 2 63, .tmp 3] := ⟨by kernel_rfl, by kernel_rfl, by kernel_rfl, by kernel_rfl, by kernel_rfl⟩
/-- copse/tree.end -/
noncomputable abbrev f_tree_end : Func := Try.f67
noncomputable def c_tree_end : Code := codeOf Try.f67
theorem h_tree_end : (f_tree_end.name == "runtime.NumGoroutine") = false ∧ f_tree_end.body = some c_tree_end ∧ f_tree_end.ntmps = 46 ∧ Nat.ble 46 900000 = true ∧ f_tree_end.results.toList = [.tmp 4, .cell 5 63] := ⟨by kernel_rfl, by kernel_rfl, by kernel_rfl, by kernel_rfl, by kernel_rfl⟩
/-- copse/leaves.List -/
noncomputable abbrev f_leaves_List : Func := Try.f68
noncomputable def c_leaves_List : Code := codeOf Try.f68
theorem h_leaves_List : (f_leaves_List.name == "runtime.NumGoroutine") = false ∧ f_leaves_List.body = some c_leaves_List ∧ f_leaves_List.ntmps = 79 ∧ Nat.ble 79 900000 = true ∧ f_leaves_List.results.toList = [.tmp 4] := ⟨by kernel_rfl, by kernel_rfl, by kernel_rfl, by kernel_rfl, by kernel_rfl⟩
/-- copse/bits.Signed -/
noncomputable abbrev f_bits_Signed : Func := Try.f72
noncomputable def c_bits_Signed : Code := codeOf Try.f72
theorem h_bits_Signed : (f_bits_Signed.name == "runtime.NumGoroutine") = false ∧ f_bits_Signed.body = some c_bits_Signed ∧ f_bits_Signed.ntmps = 14 ∧ Nat.ble 14 900000 = true ∧ f_bits_Signed.results.toList = [.tmp 6] := ⟨by kernel_rfl, by kernel_rfl, by kernel_rfl, by kernel_rfl, by kernel_rfl⟩
/-- copse/bits.Get -/
noncomputable abbrev f_bits_Get : Func := Try.f73
noncomputable def c_bits_Get : Code := codeOf Try.f73
theorem h_bits_Get : (f_bits_Get.name == "runtime.NumGoroutine") = false ∧ f_bits_Get.body = some c_bits_Get ∧ f_bits_Get.ntmps = 18 ∧ Nat.ble 18 900000 = true ∧ f_bits_Get.results.toList = [.tmp 6] := ⟨by kernel_rfl, by kernel_rfl, by kernel_rfl, by kernel_rfl, by kernel_rfl⟩
/-- copse/node.Unpack$1 -/
noncomputable abbrev f_node_Unpack_1 : Func := Try.f74
noncomputable def c_node_Unpack_1 : Code := codeOf Try.f74
theorem h_node_Unpack_1 : (f_node_Unpack_1.name == "runtime.NumGoroutine") = false ∧ f_node_Unpack_1.body = some c_node_Unpack_1 ∧ f_node_Unpack_1.ntmps = 11 ∧ Nat.ble 11 900000 = true ∧ f_node_Unpack_1.results.toList = [.tmp 5] := ⟨by kernel_rfl, by kernel_rfl, by kernel_rfl, by kernel_rfl, by kernel_rfl⟩
/-- copse/node.Pack -/
noncomputable abbrev f_node_Pack : Func := Try.f75
noncomputable def c_node_Pack : Code := codeOf Try.f75
theorem h_node_Pack : (f_node_Pack.name == "runtime.NumGoroutine") = false ∧ f_node_Pack.body = some c_node_Pack ∧ f_node_Pack.ntmps = 32 ∧ Nat.ble 32 900000 = true ∧ f_node_Pack.results.toList = [.tmp 2] := ⟨by kernel_rfl, by kernel_rfl, by kernel_rfl, by kernel_rfl, by kernel_rfl⟩
/-- copse/bits.Wrap -/
noncomputable abbrev f_bits_Wrap : Func := Try.f78
noncomputable def c_bits_Wrap : Code := codeOf Try.f78
theorem h_bits_Wrap : (f_bits_Wrap.name == "runtime.NumGoroutine") = false ∧ f_bits_Wrap.body = some c_bits_Wrap ∧ f_bits_Wrap.ntmps = 21 ∧ Nat.ble 21 900000 = true ∧ f_bits_Wrap.results.toList = [.tmp 4] := ⟨by kernel_rfl, by kernel_rfl, by kernel_rfl, by kernel_rfl, by kernel_rfl⟩
/-- copse/bits.field -/
noncomputable abbrev f_bits_field : Func := Try.f79
noncomputable def c_bits_field : Code := codeOf Try.f79
theorem h_bits_field : (f_bits_field.name == "runtime.NumGoroutine") = false ∧ f_bits_field.body = some c_bits_field ∧ f_bits_field.ntmps = 21 ∧ Nat.ble 21 900000 = true ∧ f_bits_field.results.toList = [.tmp 4] := ⟨by kernel_rfl, by kernel_rfl, by kernel_rfl, by kernel_rfl, by kernel_rfl⟩
/-- copse/bits.mask -/
noncomputable abbrev f_bits_mask : Func := Try.f80
noncomputable def c_bits_mask : Code := codeOf Try.f80
theorem h_bits_mask : (f_bits_mask.name == "runtime.NumGoroutine") = false ∧ f_bits_mask.body = some c_bits_mask ∧ f_bits_mask.ntmps = 7 ∧ Nat.ble 7 900000 = true ∧ f_bits_mask.results.toList = [.tmp 2] := ⟨by kernel_rfl, by kernel_rfl, by kernel_rfl, by kernel_rfl, by kernel_rfl⟩
/-- copse/node.Right -/
noncomputable abbrev f_node_Right : Func := Try.f81
noncomputable def c_node_Right : Code := codeOf Try.f81
theorem h_node_Right : (f_node_Right.name == "runtime.NumGoroutine") = false ∧ f_node_Right.body = some c_node_Right ∧ f_node_Right.ntmps = 43 ∧ Nat.ble 43 900000 = true ∧ f_node_Right.results.toList = [.tmp 2] := ⟨by kernel_rfl, by kernel_rfl, by kernel_rfl, by kernel_rfl, by kernel_rfl⟩
/-- copse/bits.Put -/
noncomputable abbrev f_bits_Put : Func := Try.f82
noncomputable def c_bits_Put : Code := codeOf Try.f82
theorem h_bits_Put : (f_bits_Put.name == "runtime.NumGoroutine") = false ∧ f_bits_Put.body = some c_bits_Put ∧ f_bits_Put.ntmps = 30 ∧ Nat.ble 30 900000 = true ∧ f_bits_Put.results.toList = [.tmp 8] := ⟨by kernel_rfl, by kernel_rfl, by kernel_rfl, by kernel_rfl, by kernel_rfl⟩
/-- copse/node.child -/
noncomputable abbrev f_node_child : Func := Try.f94
noncomputable def c_node_child : Code := codeOf Try.f94
theorem h_node_child : (f_node_child.name == "runtime.NumGoroutine") = false ∧ f_node_child.body = some c_node_child ∧ f_node_child.ntmps = 9 ∧ Nat.ble 9 900000 = true ∧ f_node_child.results.toList = [.tmp 2] := ⟨by kernel_rfl, by kernel_rfl, by kernel_rfl, by kernel_rfl, by kernel_rfl⟩
end Go.FM

/-
  THE LIBRARY's strings.Builder AS THE SMALL MACHINE SEES IT: copyCheck, WriteString, WriteByte, String: contracts with the frame that the small machine asks; after the shelf's own proofs.
-/
namespace Go.FM
open Go Go.Proofs Go.RowKit
theorem Keep.freeze {O : Nat → Prop} (w : World) (a : Addr) (n : Nat) (h : O a.block) : Keep O w (w.freeze a n) := by
  unfold World.freeze
  split
  · exact Keep.refl _ _
  · exact ⟨rfl, rfl, rfl, by simp, fun b _ hn => by simp only [Array.getElem?_modify]; rw [if_neg (fun e : a.block = b => hn (e ▸ h))]⟩
end Go.FM

/-
  DERIVED: THE SHELF's CONTRACTS AT THIS DUMP, IN PLAIN WORDS (tools/lay-plain.mjs out of 'TryShelf.lean', which tools/lay-shelf.mjs wrote): THE SAME DECLARATIONS UNDER THE SAME NAMES: 'import', 'namespace', 'open', 'def', 'theorem' AND NOTHING ELSE: no command of the shelf's: FOR A HAND-IN. Each laying: the table of numbers ('.._ren') and one theorem, a field a fact of the dump's own or the kernel's comparison; each contract: ONE APPLICATION.
-/
namespace Go.Proofs
open Go.Shelf
def Try.lays128_ren : Go.Shelf.Ren := ⟨fun | 128 => 92 | n => n, fun | 51 => 146 | 3 => 3 | 4 => 4 | 46 => 92 | 5 => 5 | 9 => 9 | n => n, fun | n => n⟩
theorem Try.lays128 : Go.Proofs.Lays.n128 Try.prog Try.lays128_ren := {
  mixed := by kernel_rfl
  f128 := Try.func92.trans (congrArg some (by kernel_rfl))
  t3 := Try.underlying3
  a3 := Try.isAgg3
  z3 := Try.sizeOf3
  v3 := Try.zeroValue3
  t4 := Try.underlying4
  a4 := Try.isAgg4
  z4 := Try.sizeOf4
  v4 := Try.zeroValue4
  t5 := Try.underlying5
  a5 := Try.isAgg5
  z5 := Try.sizeOf5
  v5 := Try.zeroValue5
  t9 := Try.underlying9
  a9 := Try.isAgg9
  z9 := Try.sizeOf9
  v9 := Try.zeroValue9
  t46 := Try.underlying92
  a46 := Try.isAgg92
  z46 := Try.sizeOf92
  v46 := Try.zeroValue92
  t51 := Try.underlying146
  a51 := Try.isAgg146
  z51 := Try.sizeOf146
  v51 := Try.zeroValue146 }
/-- bits.Len32: "Len32 returns the minimum number of bits required to represent x; the result is 0 for x == 0.": IT RETURNS 'Lib.bitLen x'; the world is as it was. ('h0', 'h1': x is a uint32.) (LAID: no walk: one application.) -/
theorem Try.bits_Len32 (x : Int) (w : World) (h0 : 0 ≤ x) (h1 : x ≤ 4294967295) :
    Calls Try.prog 92 #[.int .u32 x] w fun e w' => e = .returned (.int .i64 (Lib.bitLen x.toNat)) ∧ w' = w := Any.bits_Len32 Try.lays128 x w h0 h1
def Try.lays125_ren : Go.Shelf.Ren := ⟨fun | 125 => 77 | 128 => 92 | 129 => 93 | n => n, fun | 46 => 92 | 3 => 3 | 51 => 146 | 53 => 60 | 4 => 4 | 5 => 5 | 9 => 9 | n => n, fun | n => n⟩
theorem Try.lays125 : Go.Proofs.Lays.n125 Try.prog Try.lays125_ren := {
  mixed := by kernel_rfl
  f125 := Try.func77.trans (congrArg some (by kernel_rfl))
  f128 := Try.func92.trans (congrArg some (by kernel_rfl))
  f129 := Try.func93.trans (congrArg some (by kernel_rfl))
  t3 := Try.underlying3
  a3 := Try.isAgg3
  z3 := Try.sizeOf3
  v3 := Try.zeroValue3
  t4 := Try.underlying4
  a4 := Try.isAgg4
  z4 := Try.sizeOf4
  v4 := Try.zeroValue4
  t5 := Try.underlying5
  a5 := Try.isAgg5
  z5 := Try.sizeOf5
  v5 := Try.zeroValue5
  t9 := Try.underlying9
  a9 := Try.isAgg9
  z9 := Try.sizeOf9
  v9 := Try.zeroValue9
  t46 := Try.underlying92
  a46 := Try.isAgg92
  z46 := Try.sizeOf92
  v46 := Try.zeroValue92
  t51 := Try.underlying146
  a51 := Try.isAgg146
  z51 := Try.sizeOf146
  v51 := Try.zeroValue146
  t53 := Try.underlying60
  a53 := Try.isAgg60
  z53 := Try.sizeOf60
  v53 := Try.zeroValue60 }
/-- bits.Len: "Len returns the minimum number of bits required to represent x; the result is 0 for x == 0.": IT RETURNS 'Lib.bitLen x'; the world is as it was. (A uint has 64 bits in the model.) ITS CALLEE bits.Len64 IS MET BY ITS OWN CONTRACT OFF THE SHELF (lay that first). (LAID: no walk: one application.) -/
theorem Try.bits_Len (x : Int) (w : World) (h0 : 0 ≤ x) (h1 : x ≤ 18446744073709551615) :
    Calls Try.prog 77 #[.int .u64 x] w fun e w' => e = .returned (.int .i64 (Lib.bitLen x.toNat)) ∧ w' = w := Any.bits_Len Try.lays125 x w h0 h1
def Try.lays129_ren : Go.Shelf.Ren := ⟨fun | 129 => 93 | n => n, fun | 53 => 60 | 3 => 3 | 4 => 4 | 46 => 92 | 5 => 5 | 9 => 9 | n => n, fun | n => n⟩
theorem Try.lays129 : Go.Proofs.Lays.n129 Try.prog Try.lays129_ren := {
  mixed := by kernel_rfl
  f129 := Try.func93.trans (congrArg some (by kernel_rfl))
  t3 := Try.underlying3
  a3 := Try.isAgg3
  z3 := Try.sizeOf3
  v3 := Try.zeroValue3
  t4 := Try.underlying4
  a4 := Try.isAgg4
  z4 := Try.sizeOf4
  v4 := Try.zeroValue4
  t5 := Try.underlying5
  a5 := Try.isAgg5
  z5 := Try.sizeOf5
  v5 := Try.zeroValue5
  t9 := Try.underlying9
  a9 := Try.isAgg9
  z9 := Try.sizeOf9
  v9 := Try.zeroValue9
  t46 := Try.underlying92
  a46 := Try.isAgg92
  z46 := Try.sizeOf92
  v46 := Try.zeroValue92
  t53 := Try.underlying60
  a53 := Try.isAgg60
  z53 := Try.sizeOf60
  v53 := Try.zeroValue60 }
/-- bits.Len64: "Len64 returns the minimum number of bits required to represent x; the result is 0 for x == 0.": IT RETURNS 'Lib.bitLen x'; the world is as it was. ('h0', 'h1': x is a uint64.) (LAID: no walk: one application.) -/
theorem Try.bits_Len64 (x : Int) (w : World) (h0 : 0 ≤ x) (h1 : x ≤ 18446744073709551615) :
    Calls Try.prog 93 #[.int .u64 x] w fun e w' => e = .returned (.int .i64 (Lib.bitLen x.toNat)) ∧ w' = w := Any.bits_Len64 Try.lays129 x w h0 h1
def Try.lays189_ren : Go.Shelf.Ren := ⟨fun | 189 => 70 | 125 => 77 | 257 => 76 | 128 => 92 | 129 => 93 | 294 => 83 | 295 => 84 | 296 => 85 | 297 => 86 | 298 => 87 | 299 => 88 | 216 => 89 | 300 => 90 | 301 => 91 | 328 => 95 | 329 => 96 | 330 => 97 | 331 => 98 | 332 => 99 | 215 => 100 | 343 => 101 | n => n, fun | 28 => 40 | 3 => 3 | 46 => 92 | 0 => 0 | 51 => 146 | 53 => 60 | 4 => 4 | 183 => 140 | 182 => 139 | 131 => 98 | 5 => 5 | 9 => 9 | 218 => 148 | 222 => 152 | 228 => 154 | 229 => 155 | n => n, fun | n => n⟩
theorem Try.lays189 : Go.Proofs.Lays.n189 Try.prog Try.lays189_ren := {
  mixed := by kernel_rfl
  f125 := Try.func77.trans (congrArg some (by kernel_rfl))
  f128 := Try.func92.trans (congrArg some (by kernel_rfl))
  f129 := Try.func93.trans (congrArg some (by kernel_rfl))
  f189 := Try.func70.trans (congrArg some (by kernel_rfl))
  f215 := Try.func100.trans (congrArg some (by kernel_rfl))
  f216 := Try.func89.trans (congrArg some (by kernel_rfl))
  f257 := Try.func76.trans (congrArg some (by kernel_rfl))
  f294 := Try.func83.trans (congrArg some (by kernel_rfl))
  f295 := Try.func84.trans (congrArg some (by kernel_rfl))
  f296 := Try.func85.trans (congrArg some (by kernel_rfl))
  f297 := Try.func86.trans (congrArg some (by kernel_rfl))
  f298 := Try.func87.trans (congrArg some (by kernel_rfl))
  f299 := Try.func88.trans (congrArg some (by kernel_rfl))
  f300 := Try.func90.trans (congrArg some (by kernel_rfl))
  f301 := Try.func91.trans (congrArg some (by kernel_rfl))
  f328 := Try.func95.trans (congrArg some (by kernel_rfl))
  f329 := Try.func96.trans (congrArg some (by kernel_rfl))
  f330 := Try.func97.trans (congrArg some (by kernel_rfl))
  f331 := Try.func98.trans (congrArg some (by kernel_rfl))
  f332 := Try.func99.trans (congrArg some (by kernel_rfl))
  f343 := Try.func101.trans (congrArg some (by kernel_rfl))
  t0 := Try.underlying0
  a0 := Try.isAgg0
  z0 := Try.sizeOf0
  v0 := Try.zeroValue0
  t3 := Try.underlying3
  a3 := Try.isAgg3
  z3 := Try.sizeOf3
  v3 := Try.zeroValue3
  t4 := Try.underlying4
  a4 := Try.isAgg4
  z4 := Try.sizeOf4
  v4 := Try.zeroValue4
  t5 := Try.underlying5
  a5 := Try.isAgg5
  z5 := Try.sizeOf5
  v5 := Try.zeroValue5
  t9 := Try.underlying9
  a9 := Try.isAgg9
  z9 := Try.sizeOf9
  v9 := Try.zeroValue9
  t28 := Try.underlying40
  a28 := Try.isAgg40
  z28 := Try.sizeOf40
  v28 := Try.zeroValue40
  t46 := Try.underlying92
  a46 := Try.isAgg92
  z46 := Try.sizeOf92
  v46 := Try.zeroValue92
  t51 := Try.underlying146
  a51 := Try.isAgg146
  z51 := Try.sizeOf146
  v51 := Try.zeroValue146
  t53 := Try.underlying60
  a53 := Try.isAgg60
  z53 := Try.sizeOf60
  v53 := Try.zeroValue60
  t131 := Try.underlying98
  a131 := Try.isAgg98
  z131 := Try.sizeOf98
  v131 := Try.zeroValue98
  t182 := Try.underlying139
  a182 := Try.isAgg139
  z182 := Try.sizeOf139
  v182 := Try.zeroValue139
  t183 := Try.underlying140
  a183 := Try.isAgg140
  z183 := Try.sizeOf140
  v183 := Try.zeroValue140
  t218 := Try.underlying148
  a218 := Try.isAgg148
  z218 := Try.sizeOf148
  v218 := Try.zeroValue148
  t222 := Try.underlying152
  a222 := Try.isAgg152
  z222 := Try.sizeOf152
  v222 := Try.zeroValue152
  t228 := Try.underlying154
  a228 := Try.isAgg154
  z228 := Try.sizeOf154
  v228 := Try.zeroValue154
  t229 := Try.underlying155
  a229 := Try.isAgg155
  z229 := Try.sizeOf155
  v229 := Try.zeroValue155 }
open Go.Sort Go.RowKit in
theorem Try.slices_Sort_int (blk off cap : Nat) (zs : List Int) (w : World) (hH : Holds (Value.int .i64) w blk off zs.toArray) (hblk : blk < w.heap.size) (hsz : zs.length < 4611686018427387904) :
    Calls Try.prog 70 #[.slice (some ⟨blk, off, none⟩) zs.length cap] w fun e w' =>
      e = .returned (.tuple #[]) ∧ ∃ n os, w' = grow (putRow (Value.int .i64) (Sort.ahead w n) blk off (zs.mergeSort fun x y => decide (x ≤ y)).toArray) os := Any.slices_Sort_int Try.lays189 blk off cap zs w hH hblk hsz
def Try.laysNm220_ren : Go.Shelf.Ren := ⟨fun | 20 => 71 | n => n, fun | 22 => 40 | 3 => 3 | 4 => 4 | 0 => 0 | n => n, fun | n => n⟩
theorem Try.laysNm220 : Go.Proofs.Lays2.n20 Try.prog Try.laysNm220_ren := {
  mixed := by kernel_rfl
  f20 := Try.func71.trans (congrArg some (by kernel_rfl))
  t0 := Try.underlying0
  a0 := Try.isAgg0
  z0 := Try.sizeOf0
  v0 := Try.zeroValue0
  t3 := Try.underlying3
  a3 := Try.isAgg3
  z3 := Try.sizeOf3
  v3 := Try.zeroValue3
  t4 := Try.underlying4
  a4 := Try.isAgg4
  z4 := Try.sizeOf4
  v4 := Try.zeroValue4
  t22 := Try.underlying40
  a22 := Try.isAgg40
  z22 := Try.sizeOf40
  v22 := Try.zeroValue40
  i3 := by kernel_rfl }
open Go.RowKit Go.Lib Go.Sort in
/-- slices.Compact at []int, over an array: the library's two loops are walked. (LAID: no walk: one application.) -/
theorem Try.slices_Compact_int_arr (blk off cap : Nat) (d : Array Int) (w : World) (hH : Holds encI w blk off d) (hsz : d.size ≤ 9223372036854775807) (hcap : d.size ≤ cap) :
    Calls Try.prog 71 #[.slice (some ⟨blk, off, none⟩) d.size cap] w fun e w' => e = .returned (.slice (some ⟨blk, off, none⟩) (compactUpTo d d.size).length cap) ∧ ∃ q, w' = putRow encI (Sort.ahead w q) blk off (compactUpTo d d.size ++ List.replicate (d.size - (compactUpTo d d.size).length) 0).toArray := Any.slices_Compact_int_arr Try.laysNm220 blk off cap d w hH hsz hcap
open Go.RowKit Go.Lib Go.Sort in
/-- slices.Compact at []int: "Compact replaces consecutive runs of equal elements with a single copy. This is like the uniq command found on Unix. Compact modifies the contents of the slice s and returns the modified slice, which may have a smaller length. Compact zeroes the elements between the new length and the original length. The result preserves the nilness of s.": IT RETURNS THE SLICE CUT TO 'Lib.compact zs'; ITS CELLS HOLD 'Lib.compact zs', THEN ZERO VALUES up to the old length; all else is as it was, but for the count of draws. IN THE WORDS OF slices.Sort's CONTRACT ('Holds', 'putRow'): so the everyday 'slices.Sort(xs); xs = slices.Compact(xs)' goes from the one contract to the other. It asks 'zs.length ≤ cap' (every slice's: the reslicing 's[:k]' looks at it). Length 0, nil: '.._empty'. (LAID: no walk: one application.) -/
theorem Try.slices_Compact_int (blk off cap : Nat) (zs : List Int) (w : World) (hH : Holds (Value.int .i64) w blk off zs.toArray) (hsz : zs.length ≤ 9223372036854775807) (hcap : zs.length ≤ cap) :
    Calls Try.prog 71 #[.slice (some ⟨blk, off, none⟩) zs.length cap] w fun e w' => e = .returned (.slice (some ⟨blk, off, none⟩) (Lib.compact zs).length cap) ∧ ∃ q, w' = putRow (Value.int .i64) (Sort.ahead w q) blk off (Lib.compact zs ++ List.replicate (zs.length - (Lib.compact zs).length) 0).toArray := Any.slices_Compact_int Try.laysNm220 blk off cap zs w hH hsz hcap
open Go.RowKit Go.Lib Go.Sort in
/-- The same at a slice of length 0, a nil one too: it comes back as it is. (LAID: no walk: one application.) -/
theorem Try.slices_Compact_int_empty (a : Option Addr) (cap : Nat) (w : World) :
    Calls Try.prog 71 #[.slice a 0 cap] w fun e w' => e = .returned (.slice a 0 cap) ∧ w' = w := Any.slices_Compact_int_empty Try.laysNm220 a cap w
open Go.RowKit Go.Lib Go.Sort in
/-- slices.Compact at []int, of an argument: the slice cut to 'Lib.compact (elements)'; the n cells hold that, then zeros. (LAID: no walk: one application.) -/
theorem Try.slices_Compact_int_cells (b off n c : Nat) (zs : List Int) (w : World) (hz : n ≤ zs.length) (hbig : n ≤ 9223372036854775807) (hcap : n ≤ c) (hc : ∀ j, j < zs.length → w.cell? ⟨b, off + j, none⟩ = some (.int .i64 (zs.getD j 0))) (hf : ∀ j, j < n → w.frozen? ⟨b, off + j, none⟩ = false) :
    Calls Try.prog 71 #[.slice (some ⟨b, off, none⟩) n c] w fun e w' => e = .returned (.slice (some ⟨b, off, none⟩) (Lib.compact (zs.take n)).length c) ∧ ∃ q, w' = (w.drewN q).setCells b off ((Lib.compact (zs.take n) ++ List.replicate (n - (Lib.compact (zs.take n)).length) 0).map (Value.int .i64)) := Any.slices_Compact_int_cells Try.laysNm220 b off n c zs w hz hbig hcap hc hf
open Go.RowKit Go.Sort in
/-- .. and plain. (LAID: no walk: one application.) -/
theorem Try.slices_Sort_int_none (p : Option Addr) (cap : Nat) (w : World) :
    Calls Try.prog 70 #[.slice p 0 cap] w fun e w' => e = .returned (.tuple #[]) ∧ w' = w := Any.slices_Sort_int_none Try.lays189 p cap w
def Try.laysSlE43_f71_ren : Go.Shelf.Ren := ⟨fun | 43 => 71 | n => n, fun | 22 => 40 | 23 => 3 | 3 => 3 | 4 => 4 | 0 => 0 | n => n, fun | n => n⟩
theorem Try.laysSlE43_f71 : Go.Proofs.SlLaysE.n43 Try.prog Try.laysSlE43_f71_ren := {
  mixed := by kernel_rfl
  f43 := ⟨Try.f71.name, by decide, Try.func71.trans (congrArg some (by kernel_rfl))⟩
  t0 := Try.underlying0
  a0 := Try.isAgg0
  z0 := Try.sizeOf0
  v0 := Try.zeroValue0
  t3 := Try.underlying3
  a3 := Try.isAgg3
  z3 := Try.sizeOf3
  v3 := Try.zeroValue3
  t4 := Try.underlying4
  a4 := Try.isAgg4
  z4 := Try.sizeOf4
  v4 := Try.zeroValue4
  t22 := Try.underlying40
  a22 := Try.isAgg40
  z22 := Try.sizeOf40
  v22 := Try.zeroValue40
  a23 := Try.isAgg3
  z23 := Try.sizeOf3 }
open Go.RowKit Go.Lib Go.Sort in
/-- slices.Compact: "Compact replaces consecutive runs of equal elements with a single copy. .. Compact zeroes the elements between the new length and the original length.": IT RETURNS THE SLICE CUT TO 'compactUpTo d d.size'; ITS CELLS HOLD THAT, THEN ZERO VALUES up to the old length; the library's two loops are walked. (LAID AT THE INSTANCE 'slices.Compact[[]int,int]': no walk: one application.) -/
theorem Try.slices_Compact {α : Type} [Inhabited α] [DecidableEq α] (enc : α → Value) (hO : OneCell enc) (heq : EqlAt Try.prog 3 enc (fun x y => decide (x = y))) (hne : NeqAt Try.prog 3 enc (fun x y => decide (x = y))) (zr : α) (v23 : ∀ w, (zeroValue 3).run Try.prog w = .ok (enc zr) w) (blk off cap : Nat) (d : Array α) (w : World) (hH : Holds enc w blk off d) (hsz : d.size ≤ 9223372036854775807) (hcap : d.size ≤ cap) :
    Calls Try.prog 71 #[.slice (some ⟨blk, off, none⟩) d.size cap] w fun e w' => e = .returned (.slice (some ⟨blk, off, none⟩) (compactUpTo d d.size).length cap) ∧ ∃ q, w' = putRow enc (Sort.ahead w q) blk off (compactUpTo d d.size ++ List.replicate (d.size - (compactUpTo d d.size).length) zr).toArray := AnyE.slices_Compact Try.laysSlE43_f71 enc hO heq hne zr v23 blk off cap d w hH hsz hcap
def Try.laysSlH6_f69_ren : Go.Shelf.Ren := ⟨fun | 6 => 69 | n => n, fun | 22 => 40 | 23 => 3 | 25 => 116 | 3 => 3 | 0 => 0 | 4 => 4 | n => n, fun | n => n⟩
theorem Try.laysSlH6_f69 : Go.Proofs.SlLaysH.n6 Try.prog Try.laysSlH6_f69_ren := {
  mixed := by kernel_rfl
  f6 := ⟨Try.f69.name, by decide, Try.func69.trans (congrArg some (by kernel_rfl))⟩
  t0 := Try.underlying0
  a0 := Try.isAgg0
  z0 := Try.sizeOf0
  v0 := Try.zeroValue0
  t3 := Try.underlying3
  a3 := Try.isAgg3
  z3 := Try.sizeOf3
  v3 := Try.zeroValue3
  t4 := Try.underlying4
  a4 := Try.isAgg4
  z4 := Try.sizeOf4
  v4 := Try.zeroValue4
  t22 := Try.underlying40
  a22 := Try.isAgg40
  z22 := Try.sizeOf40
  v22 := Try.zeroValue40
  a23 := Try.isAgg3
  z23 := Try.sizeOf3
  t25 := Try.underlying116
  a25 := Try.isAgg116
  z25 := Try.sizeOf116
  v25 := Try.zeroValue116 }
open Go.RowKit Go.Lib in
/-- slices.IndexFunc: "IndexFunc returns the first index i satisfying f(s[i]), or -1 if none do." (LAID AT THE INSTANCE 'slices.IndexFunc[[]int,int]': no walk: one application.) -/
theorem Try.slices_IndexFunc {α : Type} [Inhabited α] (enc : α → Value) (p : α → Bool) (g : Nat) (lb : Array Value) (eg : ∀ args w, (callFunc g args).run Try.prog w = .ok (.enter g args) w) (b off n c : Nat) (zs : List α) (w : World) (hp : PredAt Try.prog g lb enc p w) (hz : n ≤ zs.length) (hbig : n ≤ 9223372036854775807) (hc : ∀ j, j < zs.length → w.cell? ⟨b, off + j, none⟩ = some (enc zs[j]!)) :
    Calls Try.prog 69 #[.slice (some ⟨b, off, none⟩) n c, .func (.func g) #[] lb] w fun e w' => e = .returned (.int .i64 (Lib.idxBy (fun _ y => p y) (zs.take n) default)) ∧ ∃ q, w' = w.drewN q := AnyE.slices_IndexFunc Try.laysSlH6_f69 enc p g lb eg b off n c zs w hp hz hbig hc
open Go.RowKit Go.Lib in
/-- The same at a slice of length 0, a nil one too: the predicate is not called: nothing is asked of it. (LAID AT THE INSTANCE 'slices.IndexFunc[[]int,int]': no walk: one application.) -/
theorem Try.slices_IndexFunc_empty {α : Type} [Inhabited α] (a : Option Addr) (c : Nat) (fv : Value) (w : World) :
    Calls Try.prog 69 #[.slice a 0 c, fv] w fun e w' => e = .returned (.int .i64 (-1)) ∧ w' = w := AnyE.slices_IndexFunc_empty Try.laysSlH6_f69 a c fv w
def Try.laysSlH10_f60_ren : Go.Shelf.Ren := ⟨fun | 10 => 60 | 6 => 69 | n => n, fun | 22 => 40 | 23 => 3 | 25 => 116 | 3 => 3 | 4 => 4 | 0 => 0 | n => n, fun | n => n⟩
theorem Try.laysSlH10_f60 : Go.Proofs.SlLaysH.n10 Try.prog Try.laysSlH10_f60_ren := {
  mixed := by kernel_rfl
  f6 := ⟨Try.f69.name, by decide, Try.func69.trans (congrArg some (by kernel_rfl))⟩
  f10 := ⟨Try.f60.name, by decide, Try.func60.trans (congrArg some (by kernel_rfl))⟩
  t0 := Try.underlying0
  a0 := Try.isAgg0
  z0 := Try.sizeOf0
  v0 := Try.zeroValue0
  t3 := Try.underlying3
  a3 := Try.isAgg3
  z3 := Try.sizeOf3
  v3 := Try.zeroValue3
  t4 := Try.underlying4
  a4 := Try.isAgg4
  z4 := Try.sizeOf4
  v4 := Try.zeroValue4
  t22 := Try.underlying40
  a22 := Try.isAgg40
  z22 := Try.sizeOf40
  v22 := Try.zeroValue40
  a23 := Try.isAgg3
  z23 := Try.sizeOf3
  t25 := Try.underlying116
  a25 := Try.isAgg116
  z25 := Try.sizeOf116
  v25 := Try.zeroValue116 }
open Go.RowKit Go.Lib Go.Sort in
theorem Try.slices_DeleteFunc {α : Type} [Inhabited α] (enc : α → Value) (hO : OneCell enc) (p : α → Bool) (g : Nat) (lb : Array Value) (eg : ∀ args w, (callFunc g args).run Try.prog w = .ok (.enter g args) w) (zr : α) (v23 : ∀ w, (zeroValue 3).run Try.prog w = .ok (enc zr) w) (blk off cap : Nat) (d : Array α) (w : World) (hp : PredAt Try.prog g lb enc p w) (hpo : PredOver Try.prog g lb enc p blk off d.size w) (hH : Holds enc w blk off d) (hsz : d.size ≤ 9223372036854775807) (hcap : d.size ≤ cap) :
    Calls Try.prog 60 #[.slice (some ⟨blk, off, none⟩) d.size cap, .func (.func g) #[] lb] w fun e w' => e = .returned (.slice (some ⟨blk, off, none⟩) (d.toList.filter fun x => !p x).length cap) ∧ ∃ q, w' = putRow enc (Sort.ahead w q) blk off ((d.toList.filter fun x => !p x) ++ List.replicate (d.size - (d.toList.filter fun x => !p x).length) zr).toArray := AnyE.slices_DeleteFunc Try.laysSlH10_f60 enc hO p g lb eg zr v23 blk off cap d w hp hpo hH hsz hcap
end Go.Proofs

/-
  THE LIBRARY's strconv.FormatUint AT BASE 10: the number's decimal numeral: a contract over this program; after the shelf's own proofs of its sisters.
-/
namespace Go.FM
open Go Go.Proofs Go.RowKit Go.Sort Go.Lib
end Go.FM

/-
  WHAT THE LIBRARY's FUNCTIONS OVER SLICES OF STRINGS COME TO, as the small machine asks it: specifications; over this program's type of a string.
-/
namespace Go.FM
open Go Go.RowKit
end Go.FM

/-
  THE LIBRARY's FUNCTIONS AS THE SMALL MACHINE SEES THEM: strings.Builder, strconv.Itoa, strconv.Atoi, strings.Cut, strings.Split: contracts over this program, out of the shelf's.
-/
namespace Go.FM
open Go Go.Proofs Go.RowKit

/-- What the calls ask of the package-level variables. -/
structure GF (h : Nat → Option Obj) : Prop where
  unit : True
def B0 : BT := { T := 999999, e := 5, ng := 0, F := GF }

theorem glob_cell {w : World} {h : Nat → Option Obj} (hh : h = fun b => if b < B0.ng then w.heap[b]? else none) {g : Nat} (hg : g < 0) {o : Obj} (ho : h g = some o) : w.heap[g]? = some o := by
  rw [hh] at ho
  simp only at ho
  rw [if_pos (show g < B0.ng from hg)] at ho
  exact ho

theorem Keep.below {w w' : World} (h : Below w.heap.size w w') : Keep (fun _ => False) w w' := ⟨h.os, h.tape, h.output, h.size, fun b hb _ => h.block b hb⟩
theorem Keep.drewN {O : Nat → Prop} (w : World) : ∀ n, Keep O w (w.drewN n) := fun _ => ⟨rfl, rfl, rfl, Nat.le_refl _, fun _ _ _ => rfl⟩
theorem Keep.grow (w : World) (os : Array Obj) : Keep (fun _ => False) w (Go.Sort.grow w os) := ⟨rfl, rfl, rfl, by simp [Go.Sort.grow], fun b hb _ => by simp [Go.Sort.grow, Array.getElem?_append_left hb]⟩

/-! ### strings.Builder -/

theorem byteOf_cell {c : Int} (h0 : IntKind.u8.min ≤ c) (h1 : c ≤ IntKind.u8.max) : (Value.int .u8 ((byteOf c).toNat : Int)) = .int .u8 c := by
  have e1 : IntKind.u8.min = 0 := rfl
  have e2 : IntKind.u8.max = 255 := rfl
  have : ((byteOf c).toNat : Int) = c := by
    unfold byteOf
    rw [UInt8.toNat_ofNat_of_lt' (by simp [UInt8.size]; omega)]
    omega
  rw [this]



/-! ### strconv -/




/-! ### strings -/







/-! ### contracts out of runs -/
def SpsOK : List (Nat × RSpec) → Prop
  | [] => True
  | (f, sp) :: r => SndR PR B0 f sp ∧ SpsOK r

set_option maxRecDepth 100000 in
theorem SpsOK.get : ∀ {l : List (Nat × RSpec)}, SpsOK l → ∀ f sp, lk l f = some sp → SndR PR B0 f sp
  | [], _, f, sp, h => by simp [lk] at h
  | (g, sg) :: r, hs, f, sp, h => by
    simp only [lk] at h
    split at h
    · rename_i hb
      simp only [Option.some.injEq] at h
      subst h
      rw [← beq_eq'.1 hb]
      exact hs.1
    · exact SpsOK.get hs.2 f sp h

set_option maxRecDepth 100000 in
theorem snd_mk {f : Nat} {fn : Func} {code : Code} {rs : List ResultVar} {nt : Nat} (sps : List (Nat × RSpec)) (lp : List (Nat × KP)) (sp : RSpec) (rks : List (List Kd)) (hf : PR.funcs[f]? = some fn)
    (hc : (fn.name == "runtime.NumGoroutine") = false ∧ fn.body = some code ∧ fn.ntmps = nt ∧ Nat.ble nt 900000 = true ∧ fn.results.toList = rs) (hs : SpsOK sps)
    (h : ∀ vs r, (oneBor vs (borOf vs) → wfVs vs) → (sp vs).get = some r → ∃ N, evFun (mkE sps lp nt N) code rs rks vs = some r) : SndR PR B0 f sp :=
  snd_fun (mkE sps lp nt) sp rks hf hc (fun _ => rfl) mo_ok (fun _ => tisB_ok rfl ti_ok) (fun _ => eqsB_ok rfl eq_ok) (fun _ => hs.get) (fun _ f p hp => by cases hp) (fun _ h => bld_any h) h

/-- And with functions that turn a row in place. -/
def IpsOK : List (Nat × Ip) → Prop
  | [] => True
  | (f, p) :: r => IpSnd PR f p ∧ IpsOK r

set_option maxRecDepth 100000 in
theorem IpsOK.get : ∀ {l : List (Nat × Ip)}, IpsOK l → ∀ f p, lk l f = some p → IpSnd PR f p
  | [], _, f, p, h => by simp [lk] at h
  | (g, pg) :: r, hs, f, p, h => by
    simp only [lk] at h
    split at h
    · rename_i hb
      simp only [Option.some.injEq] at h
      subst h
      rw [← beq_eq'.1 hb]
      exact hs.1
    · exact IpsOK.get hs.2 f p h

set_option maxRecDepth 100000 in
theorem snd_mkI {f : Nat} {fn : Func} {code : Code} {rs : List ResultVar} {nt : Nat} (sps : List (Nat × RSpec)) (ips : List (Nat × Ip)) (lp : List (Nat × KP)) (sp : RSpec) (rks : List (List Kd)) (hf : PR.funcs[f]? = some fn)
    (hc : (fn.name == "runtime.NumGoroutine") = false ∧ fn.body = some code ∧ fn.ntmps = nt ∧ Nat.ble nt 900000 = true ∧ fn.results.toList = rs) (hs : SpsOK sps) (hi : IpsOK ips)
    (h : ∀ vs r, (oneBor vs (borOf vs) → wfVs vs) → (sp vs).get = some r → ∃ N, evFun (mkI sps ips lp nt N) code rs rks vs = some r) : SndR PR B0 f sp :=
  snd_fun (mkI sps ips lp nt) sp rks hf hc (fun _ => rfl) mo_ok (fun _ => tisB_ok rfl ti_ok) (fun _ => eqsB_ok rfl eq_ok) (fun _ => hs.get) (fun _ => hi.get) (fun _ h => bld_any h) h

end Go.FM

/-
  SMALL LEMMAS FOR NORMAL FORMS: counters, bounds.
-/
namespace Go.FM
open Go Go.RowKit

theorem wrap_id {n : Int} (h0 : -9223372036854775808 ≤ n) (h1 : n ≤ 9223372036854775807) : IntKind.wrap .i64 n = n := by
  have e : IntKind.wrap .i64 n = (n + 9223372036854775808) % 18446744073709551616 - 9223372036854775808 := by
    simp [IntKind.wrap, IntKind.bits, IntKind.signed]
    omega
  rw [e]
  omega
theorem idx_lt {α : Type} {l : List α} {i : Nat} (h : i < l.length) : decide ((i : Int) < ic l.length) = true := by simp [ic]; omega
theorem idx_ge {α : Type} {l : List α} {i : Nat} (h : l.length ≤ i) : decide ((i : Int) < ic l.length) = false := by simp [ic]; omega
theorem idx_0 {i : Nat} : decide (0 ≤ (i : Int)) = true := by simp
theorem succ_w {i : Nat} (h : i < 9223372036854775807) : IntKind.wrap .i64 ((i : Int) + 1) = ((i + 1 : Nat) : Int) := by rw [wrap_id (by omega) (by omega)]; rfl
theorem getD_i {α : Type} [Inhabited α] {l : List α} {i : Nat} (h : i < l.length) : l.getD (i : Int).toNat default = l[i] := by simp [h]
theorem int_lt {i n : Nat} (h : i < n) : decide ((i : Int) < ic n) = true := by simp [ic]; omega
theorem int_ge {i n : Nat} (h : n ≤ i) : decide ((i : Int) < ic n) = false := by simp [ic]; omega
theorem dec_le_not (a b : Int) : decide (a ≤ b) = !decide (b < a) := by rw [Bool.eq_iff_iff]; simp
theorem dec_ge_not (a b : Int) : decide (a ≥ b) = !decide (a < b) := by rw [Bool.eq_iff_iff]; simp
theorem dec_gt (a b : Int) : decide (a > b) = decide (b < a) := rfl
theorem beq_dec (a b : Int) : (a == b) = decide (a = b) := rfl
theorem bne_dec (a b : Int) : (a != b) = !decide (a = b) := rfl

/-- (no rfl-lemmas: the kernel is not to unfold what stands under them) -/
theorem condT {α : Type _} (a b : α) : cond true a b = a := Eq.trans (Eq.refl a) (Eq.refl a)
theorem condF {α : Type _} (a b : α) : cond false a b = b := Eq.trans (Eq.refl b) (Eq.refl b)

end Go.FM

/-
  WHAT dec's FUNCTIONS COME TO, and the document's own beside them: specifications; of no program.
-/
namespace Go.FM
open Go

def i64w (n : Int) : Int := IntKind.wrap .i64 n
def u64w (n : Int) : Int := IntKind.wrap .u64 n
def withinM (lo hi : Int) : Int := i64w (i64w (hi - lo) + 1)
def withinZ (n lo hi : Int) : Int := cond (decide (n.tmod (withinM lo hi) < 0)) (i64w (lo + i64w (i64w (i64w (n.tmod (withinM lo hi) + hi) - lo) + 1))) (i64w (lo + n.tmod (withinM lo hi)))
def S_copsebook_Within : RSpec
  | [.int .i64 n, .int .i64 lo, .int .i64 hi] => .br (decide (withinM lo hi = 0)) .no (.ok (.int .i64 (withinZ n lo hi)) [])
  | _ => .no

/-! ### a number's text -/
abbrev w_minus : ByteArray := ⟨#[45]⟩
abbrev w_point : ByteArray := ⟨#[46]⟩
abbrev w_nought : ByteArray := ⟨#[48]⟩
abbrev w_none : ByteArray := ⟨#[]⟩
def S_dec_part : RSpec
  | [] => .ok (.int .u64 390625) []
  | _ => .no
/-- The decimals of so many parts, of eight places. -/
def decsL (r : Nat) : List UInt8 := Lib.trimRightB (Lib.repeatL [48] (8 - (Lib.decDigits (r * 390625)).length) ++ Lib.decDigits (r * 390625)) 48
def sizeL (u : Nat) : List UInt8 := Lib.decDigits (u / 256) ++ (if u % 256 = 0 then [] else 46 :: decsL (u % 256))
def printL (n : Int) : List UInt8 := if n < 0 then 45 :: sizeL n.natAbs else sizeL n.natAbs
def printB (n : Int) : ByteArray := ⟨(printL n).toArray⟩
def S_dec_Print : RSpec
  | [.int .i64 n] => .ok (.str (printB n)) []
  | _ => .no
def S_dec_digits : RSpec
  | [.str s] => .ok (.tup [.int .u64 (puV s), .bool (puN s)]) []
  | _ => .no

/-! ### a text, scanned -/
def decWhole (s : ByteArray) : ByteArray := cutL (trimPreB s w_minus) w_point
def decPart (s : ByteArray) : ByteArray := cutR (trimPreB s w_minus) w_point
def decFull (s : ByteArray) : ByteArray := decPart s ++ repB w_nought (8 - (decPart s).size)
def decSize (s : ByteArray) : Int := u64w (u64w (puV (decWhole s) * 256) + puV (decFull s) / 390625)
def decNum (s : ByteArray) : Int := i64w (cond (hasPreB s w_minus) (u64w (0 - decSize s)) (decSize s))
def decIs (s : ByteArray) : Bool :=
  decide ((decPart s).size ≤ 8) && (puN (decWhole s) && (puN (decFull s) && (decide (puV (decWhole s) ≤ 36028797018963968) && (decide (puV (decFull s) % 390625 = 0) && decide (printB (decNum s) = s)))))
def decV (s : ByteArray) : Int := cond (decIs s) (decNum s) 0
def S_dec_Scan : RSpec
  | [.str s] => .br (decide (s.size < 4294967281)) (.ok (.tup [.int .i64 (decV s), .bool (decIs s)]) []) .no
  | _ => .no

/-! ### the document's own answer -/
def numL (u : Nat) : List UInt8 := if u = 0 then [] else Lib.decDigits u
def digL (u k : Nat) : List UInt8 := List.replicate (k - (numL u).length) 48 ++ numL u
def S_copseref1_digits : RSpec
  | [.int .u64 u, .int .i64 k] => .br (decide (0 ≤ k) && decide (k ≤ 100)) (.ok (.str ⟨(digL u.toNat k.toNat).toArray⟩) []) .no
  | _ => .no
def S_copseref1_Print : RSpec
  | [.int .i64 n] => .ok (.str (printB n)) []
  | _ => .no

structure Cst where
  w : Int
  p : Int
  n : Int
  pt : Bool
def u8w (n : Int) : Int := IntKind.wrap .u8 n
def dig (c : UInt8) : Int := i64w (u8w (ic c.toNat - 48))
def cStep (first : Bool) (c : UInt8) (s : Cst) : Option Cst :=
  cond (ic c.toNat == 45 && first) (some s)
  (cond (ic c.toNat == 46 && !s.pt) (some ⟨s.w, s.p, s.n, true⟩)
  (cond (decide (ic c.toNat < 48) || decide (ic c.toNat > 57)) none
  (cond s.pt
    (cond (s.n == 8) none (some ⟨s.w, i64w (i64w (10 * s.p) + dig c), i64w (s.n + 1), s.pt⟩))
    (cond (decide (s.w > 36028797018963968)) none (some ⟨i64w (i64w (10 * s.w) + dig c), s.p, s.n, s.pt⟩)))))
def cRun : Bool → List UInt8 → Cst → Option Cst
  | _, [], s => some s
  | b, c :: r, s => match cStep b c s with
    | some s' => cRun false r s'
    | none => none
def cPad : Nat → Int → Int
  | 0, p => p
  | n + 1, p => cPad n (i64w (10 * p))
def cFin (minus : Bool) (w p : Int) : List IV :=
  cond (decide (w > 36028797018963968)) []
  (cond (p.tmod 390625 != 0) []
  (cond (minus && (w == 36028797018963968 && p == 0)) [.int (-9223372036854775808)]
  (cond (w == 36028797018963968) []
    [.int (cond minus (i64w (0 - i64w (i64w (w * 256) + i64w (p.tdiv 390625)))) (i64w (i64w (w * 256) + i64w (p.tdiv 390625))))])))
def minusB (s : ByteArray) : Bool := match s.data.toList with | [] => false | c :: _ => ic c.toNat == 45
def candL (s : ByteArray) : List IV := match cRun true s.data.toList ⟨0, 0, 0, false⟩ with
  | none => []
  | some st => cFin (minusB s) st.w (cPad (8 - st.n).toNat st.p)
def S_copseref1_candidates : RSpec
  | [.str s] => .ok (.list false [.int .i64] (candL s)) []
  | _ => .no
def refIs (s : ByteArray) : Bool := (candL s).any fun x => decide (printB x.toInt = s)
def refV (s : ByteArray) : Int := (((candL s).find? fun x => decide (printB x.toInt = s)).getD (.int 0)).toInt
def S_copseref1_Scan : RSpec
  | [.str s] => .ok (.tup [.int .i64 (refV s), .bool (refIs s)]) []
  | _ => .no

/-! ### the laws -/
def S_copselaw3_DecRuns : RSpec
  | [] => .ok (.bool true) []
  | _ => .no
def fromPoint (s : ByteArray) : ByteArray := ⟨(s.data.toList.dropWhile (fun c => !(c == 46))).toArray⟩
def S_copselaw3_DecAlone_1 : RSpec
  | [.str s] => .ok (.str (fromPoint s)) []
  | _ => .no

end Go.FM

/-
  NORMAL FORMS: what the functions' runs come to (written by a program of this claim's own, checked by the kernel).
-/
namespace Go.FM
open Go Go.Proofs

/-! ### copse/copsebook.Within -/
def E_copsebook_Within (N : Nat) : Env := mkE [] [] 24 N

theorem nf_copsebook_Within (N : Nat) (n : Int) (lo : Int) (hi : Int) : evFun (E_copsebook_Within N) c_copsebook_Within [.tmp 6] [[.int .i64]] [(.int .i64 n), (.int .i64 lo), (.int .i64 hi)] =
  (cond (decide (IntKind.wrap IntKind.i64 (IntKind.wrap IntKind.i64 (hi - lo) + 1) = 0))
  none
  (cond (decide (Int.tmod n (IntKind.wrap IntKind.i64 (IntKind.wrap IntKind.i64 (hi - lo) + 1)) < 0))
    (some ((.int .i64 (IntKind.wrap IntKind.i64 (lo + IntKind.wrap IntKind.i64 (IntKind.wrap IntKind.i64 (IntKind.wrap IntKind.i64 (Int.tmod n (IntKind.wrap IntKind.i64 (IntKind.wrap IntKind.i64 (hi - lo) + 1)) + hi) - lo) + 1)))), []))
    (some ((.int .i64 (IntKind.wrap IntKind.i64 (lo + Int.tmod n (IntKind.wrap IntKind.i64 (IntKind.wrap IntKind.i64 (hi - lo) + 1))))), [])))) := by kernel_rfl




end Go.FM

/-
  copsebook.Within COMES TO WHAT IS SAID.
-/
namespace Go.FM
open Go Go.Proofs

set_option maxRecDepth 100000 in
theorem snd_copsebook_Within : SndR PR B0 18 S_copsebook_Within := by
  refine snd_mk [] [] S_copsebook_Within [[.int .i64]] Try.func18 h_copsebook_Within trivial ?_
  intro vs r hwf h
  unfold S_copsebook_Within at h
  split at h
  · rename_i n lo hi
    refine ⟨0, ?_⟩
    rw [← h]
    refine (nf_copsebook_Within 0 n lo hi).trans ?_
    simp only [R.get_br, R.get_ok, R.get_no]
    unfold withinZ withinM i64w
    cases decide (IntKind.wrap IntKind.i64 (IntKind.wrap IntKind.i64 (hi - lo) + 1) = 0) <;> cases decide (Int.tmod n (IntKind.wrap IntKind.i64 (IntKind.wrap IntKind.i64 (hi - lo) + 1)) < 0) <;> rfl
  · simp [R.get] at h

end Go.FM

/-
  NUMERALS, in plain Lean: bytes, digits, words; of no program.
-/
namespace Go.FM
open Go

/-! ### bytes -/
theorem bytes_ext {s t : ByteArray} (h : s.data.toList = t.data.toList) : s = t := ByteArray.ext (Array.ext' h)
theorem bytes_beq (s t : ByteArray) : (s.toList == t.toList) = decide (s = t) := by
  rw [Lib.toList_data, Lib.toList_data]
  by_cases h : s = t
  · subst h; simp
  · rw [decide_eq_false h, beq_eq_false_iff_ne]
    exact fun e => h (bytes_ext e)
theorem size_len (s : ByteArray) : s.size = s.data.toList.length := by rw [Array.length_toList]; rfl

/-! ### numerals -/
theorem decDigits_ch (u : Nat) : ∀ c ∈ Lib.decDigits u, 48 ≤ c.toNat ∧ c.toNat ≤ 57 := by
  induction u using Nat.strongRecOn with
  | _ u ih =>
    intro c hc
    rw [Lib.decDigits] at hc
    split at hc
    · rename_i h
      simp only [List.mem_singleton] at hc
      subst hc
      rw [UInt8.toNat_ofNat_of_lt' (by simp [UInt8.size]; omega)]
      omega
    · rename_i h
      rw [List.mem_append, List.mem_singleton] at hc
      rcases hc with hc | hc
      · exact ih (u / 10) (by omega) c hc
      · subst hc
        rw [UInt8.toNat_ofNat_of_lt' (by simp [UInt8.size]; omega)]
        omega
theorem decDigits_ne (u : Nat) : Lib.decDigits u ≠ [] := by
  rw [Lib.decDigits]
  split <;> simp
theorem itoa_ch (n : Int) : ∀ c ∈ Lib.itoa n, c.toNat = 45 ∨ (48 ≤ c.toNat ∧ c.toNat ≤ 57) := by
  intro c hc
  unfold Lib.itoa at hc
  split at hc
  · rcases List.mem_cons.1 hc with h | h
    · subst h; exact .inl rfl
    · exact .inr (decDigits_ch _ c h)
  · exact .inr (decDigits_ch _ c hc)
theorem itoa_no (n : Int) (c : UInt8) (hc : c.toNat < 45) : c ∉ Lib.itoa n := by
  intro h
  rcases itoa_ch n c h with h1 | h1 <;> omega

theorem parse_dec (u : Nat) : ∀ (acc : Nat) (r : List UInt8), acc * 10 ^ (Lib.decDigits u).length + u < 18446744073709551616 →
    Lib.parseUint10 acc (Lib.decDigits u ++ r) = Lib.parseUint10 (acc * 10 ^ (Lib.decDigits u).length + u) r := by
  induction u using Nat.strongRecOn with
  | _ u ih =>
    intro acc r hlt
    rw [Lib.decDigits] at hlt ⊢
    split at hlt
    · rename_i h
      rw [dif_pos h]
      simp only [List.length_singleton, Nat.pow_one, List.singleton_append] at hlt ⊢
      have hc : (UInt8.ofNat (48 + u)).toNat = 48 + u := UInt8.toNat_ofNat_of_lt' (by simp [UInt8.size]; omega)
      rw [Lib.parseUint10, hc, if_pos (by omega), if_neg (by omega), if_neg (by omega)]
      congr 1
      omega
    · rename_i h
      rw [dif_neg h]
      simp only [List.length_append, List.length_singleton, Nat.pow_succ, List.append_assoc, List.singleton_append] at hlt ⊢
      have ea : acc * (10 ^ (Lib.decDigits (u / 10)).length * 10) = acc * 10 ^ (Lib.decDigits (u / 10)).length * 10 := by rw [Nat.mul_assoc]
      rw [ea] at hlt ⊢
      rw [ih (u / 10) (by omega) acc _ (by omega)]
      have hc : (UInt8.ofNat (48 + u % 10)).toNat = 48 + u % 10 := UInt8.toNat_ofNat_of_lt' (by simp [UInt8.size]; omega)
      rw [Lib.parseUint10, hc, if_pos (by omega), if_neg (by omega), if_neg (by omega)]
      congr 1
      omega
theorem parse_mag (u : Nat) (h : u < 18446744073709551616) : Lib.parseMag (Lib.decDigits u) = .ok u := by
  unfold Lib.parseMag
  rw [if_neg (decDigits_ne u)]
  have := parse_dec u 0 [] (by omega)
  rw [List.append_nil] at this
  rw [this, Nat.zero_mul, Nat.zero_add]
  rfl
theorem atoi_itoa (n : Int) (h0 : -9223372036854775808 ≤ n) (h1 : n ≤ 9223372036854775807) : Lib.atoiAll (Lib.itoa n) = .ok n := by
  unfold Lib.itoa
  split
  · rename_i hn
    unfold Lib.atoiAll
    have e : (45 : UInt8).toNat = 45 := rfl
    simp only [e, or_true, if_true, parse_mag n.natAbs (by omega), not_true_eq_false, false_and, if_false, true_and]
    rw [if_neg (by omega)]
    congr 1
    omega
  · rename_i hn
    obtain ⟨c, r, hl⟩ : ∃ c r, Lib.decDigits n.toNat = c :: r := by
      cases h : Lib.decDigits n.toNat with
      | nil => exact absurd h (decDigits_ne _)
      | cons c r => exact ⟨c, r, rfl⟩
    have hc := decDigits_ch n.toNat c (by rw [hl]; exact List.mem_cons_self ..)
    have hm := parse_mag n.toNat (by omega)
    rw [hl] at hm ⊢
    unfold Lib.atoiAll
    have e1 : ¬ c.toNat = 43 := by omega
    have e2 : ¬ c.toNat = 45 := by omega
    simp only [e1, e2, or_self, if_false, hm, false_and, not_false_eq_true, true_and]
    rw [if_neg (by omega)]
    congr 1
    omega
theorem atoiV_of {s : ByteArray} {n : Int} (h : s.data.toList = Lib.itoa n) (h0 : -9223372036854775808 ≤ n) (h1 : n ≤ 9223372036854775807) : atoiV s = n := by
  unfold atoiV
  rw [h, atoi_itoa n h0 h1]

/-! ### words -/
theorem indexByte_at : ∀ (w r : List UInt8) (c : UInt8), c ∉ w → Lib.indexByte (w ++ c :: r) c = w.length
  | [], r, c, _ => by simp [Lib.indexByte]
  | b :: w, r, c, h => by
    simp only [List.mem_cons, not_or] at h
    have e : (b == c) = false := beq_eq_false_iff_ne.2 (fun e => h.1 e.symm)
    have e2 : ((w.length : Int) == -1) = false := by rw [beq_eq_false_iff_ne]; omega
    simp only [List.cons_append, Lib.indexByte, e, indexByte_at w r c h.2, e2, List.length_cons]
    simp
theorem indexByte_no : ∀ (w : List UInt8) (c : UInt8), c ∉ w → Lib.indexByte w c = -1
  | [], c, _ => rfl
  | b :: w, c, h => by
    simp only [List.mem_cons, not_or] at h
    have e : (b == c) = false := beq_eq_false_iff_ne.2 (fun e => h.1 e.symm)
    simp [Lib.indexByte, e, indexByte_no w c h.2]

theorem cut_at (w r : List UInt8) (c : UInt8) (h : c ∉ w) : Lib.cut (w ++ c :: r) [c] = (w, r, true) := by
  unfold Lib.cut
  rw [Lib.index_one, indexByte_at w r c h, if_pos (by omega)]
  simp

theorem split_at (w r : List UInt8) (c : UInt8) (h : c ∉ w) : Lib.split (w ++ c :: r) [c] = w :: Lib.split r [c] := by
  unfold Lib.split
  have ec : Lib.count (w ++ c :: r) [c] = Lib.count r [c] + 1 := by
    rw [Lib.count_one, Lib.count_one, List.count_append, List.count_eq_zero_of_not_mem h, List.count_cons_self, Nat.zero_add]
  rw [ec, Lib.splitK, Lib.index_one, indexByte_at w r c h]
  have e2 : ((w.length : Int) == -1) = false := by rw [beq_eq_false_iff_ne]; omega
  rw [e2]
  simp
theorem split_no (w : List UInt8) (c : UInt8) (h : c ∉ w) : Lib.split w [c] = [w] := by
  unfold Lib.split
  rw [Lib.count_one, List.count_eq_zero_of_not_mem h]
  rfl

theorem splitL_data (s sep : ByteArray) : (splitL s sep).map (·.data.toList) = Lib.split s.data.toList sep.data.toList := by
  unfold splitL Lib.split
  rw [Lib.splitB_data]

end Go.FM

/-
  dec's PLAIN LAWS: a number's text is scanned to the number; whatever is scanned is a number's text; the document's own answer says the same. Of no program.
-/
namespace Go.FM
open Go

theorem tmod_rng {n m : Int} (h : 0 < m) : -m < n.tmod m ∧ n.tmod m < m := by
  constructor
  · rcases Int.lt_or_le n 0 with hn | hn
    · have e : n.tmod m = -((-n).tmod m) := by rw [Int.neg_tmod, Int.neg_neg]
      have := Int.tmod_lt_of_pos (-n) h
      omega
    · have := Int.tmod_nonneg m hn
      omega
  · exact Int.tmod_lt_of_pos n h
theorem within_in {n lo hi : Int} (h : lo ≤ hi) (h0 : -2000000000000000000 ≤ lo) (h1 : hi ≤ 2000000000000000000) : withinM lo hi = hi - lo + 1 ∧ lo ≤ withinZ n lo hi ∧ withinZ n lo hi ≤ hi := by
  have e1 : i64w (hi - lo) = hi - lo := wrap_id (by omega) (by omega)
  have e2 : withinM lo hi = hi - lo + 1 := by
    unfold withinM
    rw [e1]
    exact wrap_id (by omega) (by omega)
  refine ⟨e2, ?_⟩
  unfold withinZ
  rw [e2]
  obtain ⟨t0, t1⟩ := tmod_rng (n := n) (m := hi - lo + 1) (by omega)
  generalize n.tmod (hi - lo + 1) = q at t0 t1 ⊢
  cases hq : decide (q < 0) with
  | true =>
    have hq := of_decide_eq_true hq
    simp only [cond_true]
    have a1 : i64w (q + hi) = q + hi := wrap_id (by omega) (by omega)
    have a2 : i64w (q + hi - lo) = q + hi - lo := wrap_id (by omega) (by omega)
    have a3 : i64w (q + hi - lo + 1) = q + hi - lo + 1 := wrap_id (by omega) (by omega)
    have a4 : i64w (lo + (q + hi - lo + 1)) = lo + (q + hi - lo + 1) := wrap_id (by omega) (by omega)
    rw [a1, a2, a3, a4]
    omega
  | false =>
    have hq := of_decide_eq_false hq
    simp only [cond_false]
    have a1 : i64w (lo + q) = lo + q := wrap_id (by omega) (by omega)
    rw [a1]
    omega

theorem u64_wrap (n : Int) : IntKind.wrap .u64 n = n % 18446744073709551616 := by simp [IntKind.wrap, IntKind.bits, IntKind.signed]

/-! ### the 256 parts -/
abbrev InR (n : Int) : Prop := -9223372036854775808 ≤ n ∧ n ≤ 9223372036854775807
theorem all256 {f : Nat → Bool} (h : (List.range 256).all f = true) {r : Nat} (hr : r < 256) : f r = true := List.all_eq_true.1 h r (List.mem_range.2 hr)

def okParse (r : Nat) : Bool := match Lib.parseMag ((if r = 0 then [] else decsL r) ++ Lib.repeatL [48] (8 - (if r = 0 then [] else decsL r).length)) with | .ok v => Nat.beq v (r * 390625) | _ => false
theorem part_parse8 : (List.range 256).all okParse = true := by kernel_rfl
theorem part_parse {r : Nat} (h : r < 256) : Lib.parseMag ((if r = 0 then [] else decsL r) ++ Lib.repeatL [48] (8 - (if r = 0 then [] else decsL r).length)) = .ok (r * 390625) := by
  have := all256 part_parse8 h
  unfold okParse at this
  split at this
  · rename_i v hv
    rw [hv, Nat.eq_of_beq_eq_true this]
  · cases this

def okDecs (r : Nat) : Bool := Nat.beq r 0 || (Nat.ble (decsL r).length 8 && ((decsL r).all (fun c => Nat.ble 48 c.toNat && Nat.ble c.toNat 57) && (match (decsL r).reverse with | [] => false | c :: _ => !(Nat.beq c.toNat 48))))
theorem decs_ok8 : (List.range 256).all okDecs = true := by kernel_rfl
theorem decs_ok {r : Nat} (h0 : r ≠ 0) (h : r < 256) : (decsL r).length ≤ 8 ∧ (∀ c ∈ decsL r, 48 ≤ c.toNat ∧ c.toNat ≤ 57) ∧ ∃ l c, decsL r = l ++ [c] ∧ c.toNat ≠ 48 := by
  have := all256 decs_ok8 h
  unfold okDecs at this
  simp only [Bool.or_eq_true, Bool.and_eq_true, List.all_eq_true] at this
  rcases this with h1 | ⟨h1, h2, h3⟩
  · exact absurd (Nat.eq_of_beq_eq_true h1) h0
  · refine ⟨Nat.le_of_ble_eq_true h1, fun c hc => ⟨Nat.le_of_ble_eq_true (h2 c hc).1, Nat.le_of_ble_eq_true (h2 c hc).2⟩, ?_⟩
    cases hr : (decsL r).reverse with
    | nil => rw [hr] at h3; cases h3
    | cons c l =>
      rw [hr] at h3
      refine ⟨l.reverse, c, ?_, ?_⟩
      · have := congrArg List.reverse hr
        simpa using this
      · intro e
        have h3 : (!c.toNat.beq 48) = true := h3
        rw [e] at h3
        cases h3

def okHalf (r : Nat) : Bool := Nat.ble (if (2 * r) % 256 = 0 then [] else 46 :: decsL ((2 * r) % 256)).length (if r = 0 then [] else 46 :: decsL r).length
theorem half_ok8 : (List.range 256).all okHalf = true := by kernel_rfl
theorem half_ok {r : Nat} (h : r < 256) : (if (2 * r) % 256 = 0 then ([] : List UInt8) else 46 :: decsL ((2 * r) % 256)).length ≤ (if r = 0 then ([] : List UInt8) else 46 :: decsL r).length := Nat.le_of_ble_eq_true (all256 half_ok8 h)

/-! ### a number's text -/
theorem sizeL_eq (u : Nat) : sizeL u = Lib.decDigits (u / 256) ++ (if u % 256 = 0 then [] else 46 :: decsL (u % 256)) := rfl
theorem dec_first (v : Nat) : ∃ c r, Lib.decDigits v = c :: r ∧ 48 ≤ c.toNat ∧ c.toNat ≤ 57 := by
  cases h : Lib.decDigits v with
  | nil => exact absurd h (decDigits_ne v)
  | cons c r => exact ⟨c, r, rfl, decDigits_ch v c (by rw [h]; exact List.mem_cons_self ..)⟩
theorem size_first (u : Nat) : ∃ c r, sizeL u = c :: r ∧ 48 ≤ c.toNat ∧ c.toNat ≤ 57 := by
  obtain ⟨c, r, h, h1⟩ := dec_first (u / 256)
  exact ⟨c, r ++ _, by rw [sizeL_eq, h]; rfl, h1⟩
theorem size_last (u : Nat) : ∃ l c, sizeL u = l ++ [c] ∧ 48 ≤ c.toNat ∧ c.toNat ≤ 57 := by
  rw [sizeL_eq]
  by_cases h : u % 256 = 0
  · rw [if_pos h, List.append_nil]
    refine ⟨(Lib.decDigits (u / 256)).dropLast, (Lib.decDigits (u / 256)).getLast (decDigits_ne _), (List.dropLast_concat_getLast _).symm, ?_⟩
    exact decDigits_ch _ _ (List.getLast_mem _)
  · rw [if_neg h]
    obtain ⟨_, h2, l, c, h3, _⟩ := decs_ok h (by omega : u % 256 < 256)
    refine ⟨Lib.decDigits (u / 256) ++ 46 :: l, c, by rw [h3]; simp, h2 c (by rw [h3]; simp)⟩
theorem dec_no (v : Nat) {c : UInt8} (h : c.toNat < 48) : c ∉ Lib.decDigits v := fun hc => by
  have := decDigits_ch v c hc
  omega
theorem cut_none (w : List UInt8) (c : UInt8) (h : c ∉ w) : Lib.cut w [c] = (w, [], false) := by
  unfold Lib.cut
  rw [Lib.index_one, indexByte_no w c h, if_neg (by omega)]
theorem size_cut (u : Nat) : (Lib.cut (sizeL u) [46]).1 = Lib.decDigits (u / 256) ∧ (Lib.cut (sizeL u) [46]).2.1 = (if u % 256 = 0 then [] else decsL (u % 256)) := by
  have hno : (46 : UInt8) ∉ Lib.decDigits (u / 256) := dec_no _ (by decide)
  rw [sizeL_eq]
  by_cases h : u % 256 = 0
  · rw [if_pos h, if_pos h, List.append_nil, cut_none _ _ hno]
    exact ⟨rfl, rfl⟩
  · rw [if_neg h, if_neg h, cut_at _ _ _ hno]
    exact ⟨rfl, rfl⟩

theorem print_minus (n : Int) : hasPreB (printB n) w_minus = decide (n < 0) ∧ trimPreB (printB n) w_minus = ⟨(sizeL n.natAbs).toArray⟩ := by
  unfold hasPreB trimPreB Lib.trimPrefix Lib.hasPrefix printB printL
  show [(45 : UInt8)].isPrefixOf (if n < 0 then 45 :: sizeL n.natAbs else sizeL n.natAbs) = _ ∧ (⟨(if [(45 : UInt8)].isPrefixOf (if n < 0 then 45 :: sizeL n.natAbs else sizeL n.natAbs) = true then _ else (if n < 0 then 45 :: sizeL n.natAbs else sizeL n.natAbs)).toArray⟩ : ByteArray) = _
  by_cases h : n < 0
  · rw [if_pos h, decide_eq_true h]
    have e : [(45 : UInt8)].isPrefixOf (45 :: sizeL n.natAbs) = true := by simp [List.isPrefixOf]
    rw [e, if_pos rfl]
    exact ⟨rfl, rfl⟩
  · rw [if_neg h, decide_eq_false h]
    obtain ⟨c, r, hc, hc1, _⟩ := size_first n.natAbs
    have e : [(45 : UInt8)].isPrefixOf (sizeL n.natAbs) = false := by
      rw [hc]
      simp only [List.isPrefixOf, Bool.and_true, beq_eq_false_iff_ne]
      intro e
      rw [← e] at hc1
      revert hc1
      decide
    rw [e]
    simp

theorem puV_ok {s : ByteArray} {v : Nat} (h : Lib.parseMag s.data.toList = .ok v) : puV s = v ∧ puN s = true := by
  unfold puV puN
  rw [h]
  exact ⟨rfl, rfl⟩

theorem print_scan {n : Int} (hn : InR n) : decIs (printB n) = true ∧ decV (printB n) = n := by
  obtain ⟨hn0, hn1⟩ := hn
  obtain ⟨hm, hb⟩ := print_minus n
  have hu : n.natAbs ≤ 9223372036854775808 := by omega
  obtain ⟨c1, c2⟩ := size_cut n.natAbs
  have hW : decWhole (printB n) = ⟨(Lib.decDigits (n.natAbs / 256)).toArray⟩ := by
    unfold decWhole cutL
    rw [hb]
    show (⟨(Lib.cut (sizeL n.natAbs) [46]).1.toArray⟩ : ByteArray) = _
    rw [c1]
  have hP : decPart (printB n) = ⟨(if n.natAbs % 256 = 0 then [] else decsL (n.natAbs % 256)).toArray⟩ := by
    unfold decPart cutR
    rw [hb]
    show (⟨(Lib.cut (sizeL n.natAbs) [46]).2.1.toArray⟩ : ByteArray) = _
    rw [c2]
  have hr : n.natAbs % 256 < 256 := by omega
  obtain ⟨v1, n1⟩ := puV_ok (s := decWhole (printB n)) (v := n.natAbs / 256) (by rw [hW]; exact parse_mag _ (by omega))
  have hz : (decPart (printB n)).size = (if n.natAbs % 256 = 0 then ([] : List UInt8) else decsL (n.natAbs % 256)).length := by rw [hP, size_len]
  have h8 : (decPart (printB n)).size ≤ 8 := by
    rw [hz]
    split
    · simp
    · rename_i h0
      exact (decs_ok h0 hr).1
  obtain ⟨v2, n2⟩ := puV_ok (s := decFull (printB n)) (v := n.natAbs % 256 * 390625) (by
    have := part_parse hr
    unfold decFull
    rw [hz, hP]
    simp only [ByteArray.data_append, Array.toList_append]
    exact this)
  have hS : decSize (printB n) = (n.natAbs : Int) := by
    unfold decSize u64w
    rw [v1, v2]
    rw [u64_wrap, u64_wrap]
    omega
  have hN : decNum (printB n) = n := by
    unfold decNum
    rw [hm, hS]
    unfold i64w u64w
    cases hd : decide (n < 0) with
    | true =>
      have := of_decide_eq_true hd
      simp only [cond_true]
      rw [IntKind.wrap_i64, u64_wrap]
      omega
    | false =>
      have := of_decide_eq_false hd
      simp only [cond_false]
      rw [wrap_id (by omega) (by omega)]
      omega
  have hI : decIs (printB n) = true := by
    unfold decIs
    rw [decide_eq_true h8, n1, n2, v1, v2, hN, decide_eq_true (show ((n.natAbs / 256 : Nat) : Int) ≤ 36028797018963968 by omega), decide_eq_true (show ((n.natAbs % 256 * 390625 : Nat) : Int) % 390625 = 0 by omega), decide_eq_true rfl]
    rfl
  refine ⟨hI, ?_⟩
  unfold decV
  rw [hI, hN]
  rfl

theorem i64w_in (n : Int) : InR (i64w n) := by
  unfold i64w
  rw [IntKind.wrap_i64]
  omega
theorem scan_print {s : ByteArray} (h : decIs s = true) : printB (decV s) = s ∧ InR (decV s) := by
  unfold decV
  rw [h]
  unfold decIs at h
  simp only [Bool.and_eq_true, decide_eq_true_eq] at h
  exact ⟨h.2.2.2.2.2, i64w_in _⟩
theorem scan_none {s : ByteArray} (h : decIs s = false) : decV s = 0 := by
  unfold decV
  rw [h]
  rfl
theorem print_inj {n m : Int} (hn : InR n) (hm : InR m) (h : printB n = printB m) : n = m := by
  have := (print_scan hn).2
  rw [h, (print_scan hm).2] at this
  exact this.symm

/-! ### the ends of a text -/
theorem print_first (n : Int) : ∃ c r, (printB n).data.toList = c :: r ∧ c.toNat ≠ 43 := by
  show ∃ c r, printL n = c :: r ∧ c.toNat ≠ 43
  unfold printL
  split
  · exact ⟨45, _, rfl, by decide⟩
  · obtain ⟨c, r, h, h1, _⟩ := size_first n.natAbs
    exact ⟨c, r, h, by omega⟩
theorem print_last (n : Int) : ∃ l c, (printB n).data.toList = l ++ [c] ∧ 48 ≤ c.toNat := by
  show ∃ l c, printL n = l ++ [c] ∧ 48 ≤ c.toNat
  unfold printL
  obtain ⟨l, c, h, h1, _⟩ := size_last n.natAbs
  split
  · exact ⟨45 :: l, c, by rw [h]; rfl, h1⟩
  · exact ⟨l, c, h, h1⟩
theorem print_len (n : Int) (hn : InR n) : 1 ≤ (printB n).size ∧ (printB n).size ≤ 40 := by
  obtain ⟨c, r, h, _⟩ := print_first n
  refine ⟨by rw [size_len, h]; simp, ?_⟩
  rw [size_len]
  show (printL n).length ≤ 40
  have hs : (sizeL n.natAbs).length ≤ 30 := by
    rw [sizeL_eq, List.length_append]
    have h1 : (Lib.decDigits (n.natAbs / 256)).length ≤ 20 := by
      have := numB_size (n := ((n.natAbs / 256 : Nat) : Int)) (by omega) (by obtain ⟨_, _⟩ := hn; omega)
      rw [size_len] at this
      exact this
    split
    · simp; omega
    · rename_i h0
      have := (decs_ok h0 (by omega : n.natAbs % 256 < 256)).1
      simp only [List.length_cons]
      omega
  unfold printL
  split
  · simp only [List.length_cons]; omega
  · omega
theorem no_point (n : Int) : decIs (printB n ++ ⟨#[46]⟩) = false := by
  cases h : decIs (printB n ++ ⟨#[46]⟩) with
  | false => rfl
  | true =>
    exfalso
    obtain ⟨h1, _⟩ := scan_print h
    obtain ⟨l, c, hl, hc⟩ := print_last (decV (printB n ++ ⟨#[46]⟩))
    rw [h1] at hl
    simp only [ByteArray.data_append, Array.toList_append] at hl
    have := List.append_inj_right' hl rfl
    simp only [List.cons.injEq, and_true] at this
    rw [← this] at hc
    revert hc
    decide
theorem no_plus (n : Int) : decIs (⟨#[43]⟩ ++ printB n) = false := by
  cases h : decIs (⟨#[43]⟩ ++ printB n) with
  | false => rfl
  | true =>
    exfalso
    obtain ⟨h1, _⟩ := scan_print h
    obtain ⟨c, r, hl, hc⟩ := print_first (decV (⟨#[43]⟩ ++ printB n))
    rw [h1] at hl
    simp only [ByteArray.data_append, Array.toList_append] at hl
    have hl : (43 : UInt8) :: _ = c :: r := hl
    injection hl with e _
    rw [← e] at hc
    exact hc rfl
theorem print_neg {x : Int} (h : 0 < x) : printB (-x) = ⟨#[45]⟩ ++ printB x := by
  apply bytes_ext
  simp only [ByteArray.data_append, Array.toList_append]
  show printL (-x) = 45 :: printL x
  unfold printL
  rw [if_pos (by omega), if_neg (by omega), Int.natAbs_neg]
theorem print_pos {x : Int} (h : 0 ≤ x) : (printB x).data.toList = sizeL x.natAbs := by
  show printL x = _
  unfold printL
  rw [if_neg (by omega)]
theorem drop_dec (v : Nat) (l : List UInt8) : (Lib.decDigits v ++ l).dropWhile (fun c => !(c == 46)) = l.dropWhile (fun c => !(c == 46)) := by
  rw [List.dropWhile_append_of_pos]
  intro c hc
  have := decDigits_ch v c hc
  simp only [Bool.not_eq_true', beq_eq_false_iff_ne]
  intro e
  rw [e] at this
  revert this
  decide
theorem print_from {x : Int} (h : 0 ≤ x) : fromPoint (printB x) = ⟨(if x.natAbs % 256 = 0 then [] else 46 :: decsL (x.natAbs % 256)).toArray⟩ := by
  unfold fromPoint
  rw [print_pos h, sizeL_eq, drop_dec]
  split
  · rfl
  · rfl

end Go.FM

/-
  WHAT ask's FUNCTIONS COME TO: specifications.
-/
namespace Go.FM
open Go

/-! ### queries -/
structure Qy where
  k : Int
  c : Int
  a0 : Int
  b0 : Int
  a1 : Int
  b1 : Int
  a2 : Int
  b2 : Int
  a3 : Int
  b3 : Int
  a4 : Int
  b4 : Int
  lo : Int
  hi : Int
  ft : Int
  fl : Bool
  bu : Int
def Qy.V (q : Qy) : V := .agg [.int .i64 q.k, .int .i64 q.c, .int .i64 q.a0, .int .i64 q.b0, .int .i64 q.a1, .int .i64 q.b1, .int .i64 q.a2, .int .i64 q.b2, .int .i64 q.a3, .int .i64 q.b3, .int .i64 q.a4, .int .i64 q.b4, .int .i64 q.lo, .int .i64 q.hi, .int .i64 q.ft, .bool q.fl, .int .i64 q.bu]
def Qy.none : Qy := ⟨0, 0, 0, 0, 0, 0, 0, 0, 0, 0, 0, 0, 0, 0, 0, false, 0⟩
def Qy.eq (p q : Qy) : Bool :=
  (p.k == q.k) && ((p.c == q.c) && ((p.a0 == q.a0) && ((p.b0 == q.b0) && ((p.a1 == q.a1) && ((p.b1 == q.b1) && ((p.a2 == q.a2) && ((p.b2 == q.b2) && ((p.a3 == q.a3) && ((p.b3 == q.b3) && ((p.a4 == q.a4) && ((p.b4 == q.b4) && ((p.lo == q.lo) && ((p.hi == q.hi) && ((p.ft == q.ft) && ((p.fl == q.fl) && ((p.bu == q.bu) && true))))))))))))))))
/-- What so many features tell. -/
def told (q : Qy) (d : Int) : Qy :=
  ⟨q.k, q.c, cond (decide (0 < d)) q.a0 0, cond (decide (0 < d)) q.b0 0, cond (decide (1 < d)) q.a1 0, cond (decide (1 < d)) q.b1 0, cond (decide (2 < d)) q.a2 0, cond (decide (2 < d)) q.b2 0, cond (decide (3 < d)) q.a3 0, cond (decide (3 < d)) q.b3 0, cond (decide (4 < d)) q.a4 0, cond (decide (4 < d)) q.b4 0,
    cond (q.k == 1) q.lo 0, cond (q.k == 1) q.hi 0, cond (q.k == 3) q.ft 0, cond (q.k == 3) q.fl false, q.bu⟩
def S_ask_told : RSpec
  | [.agg [.int .i64 k, .int .i64 c, .int .i64 a0, .int .i64 b0, .int .i64 a1, .int .i64 b1, .int .i64 a2, .int .i64 b2, .int .i64 a3, .int .i64 b3, .int .i64 a4, .int .i64 b4, .int .i64 lo, .int .i64 hi, .int .i64 ft, .bool fl, .int .i64 bu], .int .i64 d] =>
    .br (decide (0 ≤ d) && decide (d ≤ 5)) (.ok (.agg [.int .i64 (told ⟨k, c, a0, b0, a1, b1, a2, b2, a3, b3, a4, b4, lo, hi, ft, fl, bu⟩ d).k, .int .i64 (told ⟨k, c, a0, b0, a1, b1, a2, b2, a3, b3, a4, b4, lo, hi, ft, fl, bu⟩ d).c,
      .int .i64 (told ⟨k, c, a0, b0, a1, b1, a2, b2, a3, b3, a4, b4, lo, hi, ft, fl, bu⟩ d).a0, .int .i64 (told ⟨k, c, a0, b0, a1, b1, a2, b2, a3, b3, a4, b4, lo, hi, ft, fl, bu⟩ d).b0,
      .int .i64 (told ⟨k, c, a0, b0, a1, b1, a2, b2, a3, b3, a4, b4, lo, hi, ft, fl, bu⟩ d).a1, .int .i64 (told ⟨k, c, a0, b0, a1, b1, a2, b2, a3, b3, a4, b4, lo, hi, ft, fl, bu⟩ d).b1,
      .int .i64 (told ⟨k, c, a0, b0, a1, b1, a2, b2, a3, b3, a4, b4, lo, hi, ft, fl, bu⟩ d).a2, .int .i64 (told ⟨k, c, a0, b0, a1, b1, a2, b2, a3, b3, a4, b4, lo, hi, ft, fl, bu⟩ d).b2,
      .int .i64 (told ⟨k, c, a0, b0, a1, b1, a2, b2, a3, b3, a4, b4, lo, hi, ft, fl, bu⟩ d).a3, .int .i64 (told ⟨k, c, a0, b0, a1, b1, a2, b2, a3, b3, a4, b4, lo, hi, ft, fl, bu⟩ d).b3,
      .int .i64 (told ⟨k, c, a0, b0, a1, b1, a2, b2, a3, b3, a4, b4, lo, hi, ft, fl, bu⟩ d).a4, .int .i64 (told ⟨k, c, a0, b0, a1, b1, a2, b2, a3, b3, a4, b4, lo, hi, ft, fl, bu⟩ d).b4,
      .int .i64 (told ⟨k, c, a0, b0, a1, b1, a2, b2, a3, b3, a4, b4, lo, hi, ft, fl, bu⟩ d).lo, .int .i64 (told ⟨k, c, a0, b0, a1, b1, a2, b2, a3, b3, a4, b4, lo, hi, ft, fl, bu⟩ d).hi,
      .int .i64 (told ⟨k, c, a0, b0, a1, b1, a2, b2, a3, b3, a4, b4, lo, hi, ft, fl, bu⟩ d).ft, .bool (told ⟨k, c, a0, b0, a1, b1, a2, b2, a3, b3, a4, b4, lo, hi, ft, fl, bu⟩ d).fl,
      .int .i64 (told ⟨k, c, a0, b0, a1, b1, a2, b2, a3, b3, a4, b4, lo, hi, ft, fl, bu⟩ d).bu]) []) .no
  | _ => .no
def smallB (n : Int) : Bool := decide (0 ≤ n) && decide (n ≤ 1073741824)
def S_ask_small : RSpec
  | [.int .i64 n] => .ok (.bool (smallB n)) []
  | _ => .no
def S_ask_count : RSpec
  | [.str s] => .ok (.int .i64 (atoiV s)) []
  | _ => .no
def S_ask_scan : RSpec
  | [.str s] => .br (decide (s.size < 4294967281)) (.ok (.int .i64 (decV s)) []) .no
  | _ => .no

/-! ### words -/
abbrev w_range : ByteArray := ⟨#[114, 97, 110, 103, 101]⟩
abbrev w_best : ByteArray := ⟨#[98, 101, 115, 116]⟩
abbrev w_rises : ByteArray := ⟨#[114, 105, 115, 101, 115]⟩
abbrev w_falls : ByteArray := ⟨#[102, 97, 108, 108, 115]⟩
abbrev w_from : ByteArray := ⟨#[102, 114, 111, 109]⟩
abbrev w_to : ByteArray := ⟨#[116, 111]⟩
abbrev w_by : ByteArray := ⟨#[98, 121]⟩
abbrev w_in : ByteArray := ⟨#[105, 110]⟩
abbrev w_budget : ByteArray := ⟨#[98, 117, 100, 103, 101, 116]⟩
abbrev w_dots : ByteArray := ⟨#[46, 46]⟩
abbrev w_space : ByteArray := ⟨#[32]⟩
def spanW (a b : Int) : ByteArray := printB a ++ w_dots ++ printB b
def headW (q : Qy) : List ByteArray :=
  cond (q.k == 1) [w_range, itoaB q.c, w_from, printB q.lo, w_to, printB q.hi]
  (cond (q.k == 2) [w_best, itoaB q.c] [cond q.fl w_falls w_rises, itoaB q.c, w_by, itoaB q.ft])
def Qy.spans (q : Qy) : List (Int × Int) := [(q.a0, q.b0), (q.a1, q.b1), (q.a2, q.b2), (q.a3, q.b3), (q.a4, q.b4)]
def wordsQ (q : Qy) (d : Nat) : List ByteArray := headW q ++ w_in :: ((q.spans.take d).map fun s => spanW s.1 s.2) ++ [w_budget, itoaB q.bu]
def okQ (q : Qy) (d : Int) : Bool :=
  (!(decide (d < 1)) && !(decide (d > 4))) && (q.eq (told q d) && (smallB q.c && (smallB q.ft && (smallB q.bu && ((q.k == 1) || ((q.k == 2) || (q.k == 3)))))))
def printQ (q : Qy) (d : Int) : ByteArray := cond (okQ q d) (joinB (wordsQ q d.toNat) w_space) w_none
def S_ask_Print : RSpec
  | [.agg [.int .i64 k, .int .i64 c, .int .i64 a0, .int .i64 b0, .int .i64 a1, .int .i64 b1, .int .i64 a2, .int .i64 b2, .int .i64 a3, .int .i64 b3, .int .i64 a4, .int .i64 b4, .int .i64 lo, .int .i64 hi, .int .i64 ft, .bool fl, .int .i64 bu], .int .i64 d] =>
    .ok (.str (printQ ⟨k, c, a0, b0, a1, b1, a2, b2, a3, b3, a4, b4, lo, hi, ft, fl, bu⟩ d)) []
  | _ => .no

/-! ### a query, read -/
def wAt (l : List IV) (i : Nat) : ByteArray := (l.getD i default).toStr
def headQ (l : List IV) : Qy :=
  cond ((wAt l 0).toList == w_range.toList) ⟨1, atoiV (wAt l 1), 0, 0, 0, 0, 0, 0, 0, 0, 0, 0, decV (wAt l 3), decV (wAt l 5), 0, false, 0⟩
  (cond ((wAt l 0).toList == w_best.toList) ⟨2, atoiV (wAt l 1), 0, 0, 0, 0, 0, 0, 0, 0, 0, 0, 0, 0, 0, false, 0⟩
  (cond ((wAt l 0).toList == w_rises.toList || (wAt l 0).toList == w_falls.toList) ⟨3, atoiV (wAt l 1), 0, 0, 0, 0, 0, 0, 0, 0, 0, 0, 0, 0, atoiV (wAt l 3), (wAt l 0).toList == w_falls.toList, 0⟩
  ⟨0, atoiV (wAt l 1), 0, 0, 0, 0, 0, 0, 0, 0, 0, 0, 0, 0, 0, false, 0⟩))
def S_ask_head : RSpec
  | [.list false [.str] l] => .br (decide (l.length ≤ 4294967290) && l.all (fun x => decide (x.toStr.size < 4294967281)))
    (.ok (.agg [.int .i64 (headQ l).k, .int .i64 (headQ l).c, .int .i64 (headQ l).a0, .int .i64 (headQ l).b0, .int .i64 (headQ l).a1, .int .i64 (headQ l).b1, .int .i64 (headQ l).a2, .int .i64 (headQ l).b2, .int .i64 (headQ l).a3, .int .i64 (headQ l).b3, .int .i64 (headQ l).a4, .int .i64 (headQ l).b4,
      .int .i64 (headQ l).lo, .int .i64 (headQ l).hi, .int .i64 (headQ l).ft, .bool (headQ l).fl, .int .i64 (headQ l).bu]) []) .no
  | _ => .no
def spA (l : List IV) (i : Nat) : Int := decV (cutL (wAt l i) w_dots)
def spB (l : List IV) (i : Nat) : Int := decV (cutR (wAt l i) w_dots)
/-- The query of a line's words, 'in' being at place i, with d spans. -/
def rawQ (l : List IV) (i d : Nat) : Qy :=
  ⟨(headQ (l.take i)).k, (headQ (l.take i)).c,
    cond (Nat.blt 0 d) (spA l (i + 1)) 0, cond (Nat.blt 0 d) (spB l (i + 1)) 0, cond (Nat.blt 1 d) (spA l (i + 2)) 0, cond (Nat.blt 1 d) (spB l (i + 2)) 0, cond (Nat.blt 2 d) (spA l (i + 3)) 0, cond (Nat.blt 2 d) (spB l (i + 3)) 0, cond (Nat.blt 3 d) (spA l (i + 4)) 0, cond (Nat.blt 3 d) (spB l (i + 4)) 0, 0, 0,
    (headQ (l.take i)).lo, (headQ (l.take i)).hi, (headQ (l.take i)).ft, (headQ (l.take i)).fl, atoiV (wAt l (l.length - 1))⟩
def lineW (s : ByteArray) : List IV := (splitL s w_space).map IV.str
def lineI (s : ByteArray) : Int := idxS (lineW s) w_in 0
def lineD (s : ByteArray) : Int := ic (lineW s).length - 2 - lineI s - 1
def lineQ (s : ByteArray) : Qy := rawQ (lineW s) (lineI s).toNat (lineD s).toNat
def askOK (s : ByteArray) : Bool := (!(decide (lineI s < 0)) && (!(decide (lineD s < 1)) && !(decide (lineD s > 4)))) && (printQ (lineQ s) (lineD s)).toList == s.toList
def askQ (s : ByteArray) : Qy := cond (askOK s) (lineQ s) Qy.none
def askD (s : ByteArray) : Int := cond (askOK s) (lineD s) 0
def S_ask_Parse : RSpec
  | [.str s] => .br (decide (s.size < 4294967281))
    (.ok (.tup [.agg [.int .i64 (askQ s).k, .int .i64 (askQ s).c, .int .i64 (askQ s).a0, .int .i64 (askQ s).b0, .int .i64 (askQ s).a1, .int .i64 (askQ s).b1, .int .i64 (askQ s).a2, .int .i64 (askQ s).b2, .int .i64 (askQ s).a3, .int .i64 (askQ s).b3, .int .i64 (askQ s).a4, .int .i64 (askQ s).b4,
      .int .i64 (askQ s).lo, .int .i64 (askQ s).hi, .int .i64 (askQ s).ft, .bool (askQ s).fl, .int .i64 (askQ s).bu], .int .i64 (askD s), .bool (askOK s)]) []) .no
  | _ => .no
def S_copselaw11_AskRuns : RSpec
  | [] => .ok (.bool true) []
  | _ => .no

end Go.FM

/-
  WHAT copsekeep's FUNCTIONS COME TO, and packing beside them: specifications. Of no program.
-/
namespace Go.FM
open Go

def pickZ (l : List IV) (i : Int) : Int := cond (ic l.length == 0) 0 (l.getD (i.tmod (ic l.length)).toNat default).toInt
def S_copsekeep_pick : RSpec
  | [.list false [.int .i64] l, .int .i64 i] => .br (decide (0 ≤ i)) (.ok (.int .i64 (pickZ l i)) []) .no
  | _ => .no

/-! ### nodes -/
def fits32 (n : Int) : Bool := decide (-2147483648 ≤ n) && decide (n ≤ 2147483647)
def S_copseref1_Fits : RSpec
  | [.int .i64 n, .int .i64 w] => .br (decide (w = 32)) (.ok (.bool (fits32 n)) []) .no
  | _ => .no
def rightN (lf : Bool) (v f a l r : Int) : Bool :=
  cond lf (fits32 v && ((f == 0) && ((a == 0) && ((l == 0) && (r == 0)))))
    ((v == 0) && (decide (0 ≤ f) && (decide (f < 4) && (fits32 a && (decide (1 ≤ l) && (decide (l < 31) && (decide (1 ≤ r) && decide (r < 31))))))))
def S_copseref6_RightNode : RSpec
  | [.agg [.bool lf, .int .i64 v, .int .i64 f, .int .i64 a, .int .i64 l, .int .i64 r]] => .ok (.bool (rightN lf v f a l r)) []
  | _ => .no
def andU (a b : Int) : Int := u64w (ic (BitVec.toNat (BitVec.ofInt (IntKind.bits IntKind.u64) a &&& BitVec.ofInt (IntKind.bits IntKind.u64) b)))
def orU (a b : Int) : Int := u64w (ic (BitVec.toNat (BitVec.ofInt (IntKind.bits IntKind.u64) a ||| BitVec.ofInt (IntKind.bits IntKind.u64) b)))
def shlU (a : Int) (k : Nat) : Int := u64w (a * 2 ^ k)
def packW (lf : Bool) (v f a l r : Int) : Int :=
  cond (rightN lf v f a l r)
    (cond lf (orU 9223372036854775808 (andU (u64w v) 4294967295))
      (orU (orU (orU (andU (u64w a) 4294967295) (shlU (u64w f) 32)) (shlU (u64w l) 40)) (shlU (u64w r) 48)))
    0
def S_copseref6_Pack : RSpec
  | [.agg [.bool lf, .int .i64 v, .int .i64 f, .int .i64 a, .int .i64 l, .int .i64 r]] => .ok (.int .u64 (packW lf v f a l r)) []
  | _ => .no

/-! ### trees -/
def mkN (lf : Bool) (v f a l r : Int) : IV := .agg [.bool lf, .int v, .int f, .int a, .int l, .int r]
def leafN (v : Int) : IV := mkN true v 0 0 0 0
def packN (x : IV) : IV := .int (packW (x.cell 0).toBool (x.cell 1).toInt (x.cell 2).toInt (x.cell 3).toInt (x.cell 4).toInt (x.cell 5).toInt)
structure Ns where
  nodes : List IV
  leaves : List IV
def nsK (part : List IV) (i : Nat) (s : Ns) : Int := withinZ (part.getD i default).toInt 0 (ic s.leaves.length - 1)
def nsAt (part : List IV) (i : Nat) (s : Ns) : Int := (s.leaves.getD (nsK part i s).toNat default).toInt
def nsStep (part byl atl val : List IV) (dim : Int) (i : Nat) (s : Ns) : Ns :=
  ⟨s.nodes.set (nsAt part i s).toNat (mkN false 0 (withinZ (pickZ byl (i : Int)) 0 (dim - 1)) (withinZ (pickZ atl (i : Int)) 0 9) (ic s.nodes.length) (ic s.nodes.length + 1)) ++
      [leafN (withinZ (pickZ val (2 * (i : Int) + 1)) (-3000) 3000), leafN (withinZ (pickZ val (2 * (i : Int) + 2)) (-3000) 3000)],
    s.leaves.take (nsK part i s).toNat ++ s.leaves.drop ((nsK part i s).toNat + 1) ++ [.int (ic s.nodes.length), .int (ic s.nodes.length + 1)]⟩
def nsRun (part byl atl val : List IV) (dim : Int) : Nat → Nat → Ns → Ns
  | 0, _, s => s
  | d + 1, i, s => nsRun part byl atl val dim d (i + 1) (nsStep part byl atl val dim i s)
def nsTree (part byl atl val : List IV) (dim : Int) : Ns := nsRun part byl atl val dim (min part.length 7) 0 ⟨[leafN (withinZ (pickZ val 0) (-3000) 3000)], [.int 0]⟩
def nodesL (part byl atl val : List IV) (dim : Int) : List IV := (nsTree part byl atl val dim).nodes.map packN
def S_copsekeep_Tree_Nodes : RSpec
  | [.agg [.int .i64 _, .list false [.int .i64] part, .list false [.int .i64] byl, .list false [.int .i64] atl, .list false [.int .i64] val], .int .i64 dim] =>
    .br (decide (1 ≤ dim) && decide (dim ≤ 4)) (.ok (.list false [.int .u64] (nodesL part byl atl val dim)) []) .no
  | _ => .no

/-! ### models -/
def dimF (d : Int) : Int := withinZ d 1 3
def clsF (c : Int) : Int := withinZ c 1 3
def biasF (c : Int) (bias : List IV) (j : Int) : Int := cond (decide (j < clsF c)) (withinZ (pickZ bias j) (-500) 500) 0
def treeF (d c : Int) (t : IV) : IV := .agg [.int (withinZ (t.cell 0).toInt 0 (clsF c - 1)), .list (nodesL (t.cell 1).toList (t.cell 2).toList (t.cell 3).toList (t.cell 4).toList (dimF d))]
def treesF (d c : Int) (ts : List IV) : List IV := (ts.take 4).map (treeF d c)
def S_copsekeep_Forest_Model : RSpec
  | [.agg [.int .i64 d, .int .i64 c, .list false [.int .i64] bias, .list true [.int .i64, .list false [.int .i64], .list false [.int .i64], .list false [.int .i64], .list false [.int .i64]] ts]] =>
    .ok (.agg [.int .i64 (dimF d), .int .i64 (clsF c), .int .i64 (biasF c bias 0), .int .i64 (biasF c bias 1), .int .i64 (biasF c bias 2), .list true [.int .i64, .list false [.int .u64]] (treesF d c ts)]) []
  | _ => .no

/-! ### queries of numbers -/
def regA (d : Int) (l : List IV) (i : Int) : Int := cond (decide (i < d)) (withinZ (pickZ l (2 * i)) (-2) 9) 0
def regB (d : Int) (l : List IV) (i : Int) : Int := cond (decide (i < d)) (withinZ (pickZ l (2 * i)) (-2) 9 + withinZ (pickZ l (2 * i + 1)) 0 11) 0
def S_copsekeep_Region : RSpec
  | [.agg [.int .i64 d, .int .i64 _, .int .i64 _, .int .i64 _, .int .i64 _, .list true [.int .i64, .list false [.int .u64]] _], .list false [.int .i64] l] =>
    .br (decide (0 ≤ d) && decide (d ≤ 4)) (.ok (.agg [.int .i64 (regA d l 0), .int .i64 (regB d l 0), .int .i64 (regA d l 1), .int .i64 (regB d l 1), .int .i64 (regA d l 2), .int .i64 (regB d l 2), .int .i64 (regA d l 3), .int .i64 (regB d l 3), .int .i64 0, .int .i64 0]) []) .no
  | _ => .no
structure Ak where
  k : Int
  c : Int
  lo : Int
  size : Int
  ft : Int
  bu : Int
  fl : Bool
  sp : List IV
def kindA (a : Ak) (cls : Int) : Int := cond (withinZ a.k 1 3 == 2 && decide (cls < 2)) 1 (withinZ a.k 1 3)
def loA (a : Ak) : Int := withinZ a.lo (-9000) 9000
def queryA (a : Ak) (dim cls : Int) : Qy :=
  ⟨kindA a cls, withinZ a.c 0 (cls - 1), regA dim a.sp 0, regB dim a.sp 0, regA dim a.sp 1, regB dim a.sp 1, regA dim a.sp 2, regB dim a.sp 2, regA dim a.sp 3, regB dim a.sp 3, 0, 0,
    cond (kindA a cls == 1) (loA a) 0, cond (kindA a cls == 1) (loA a + withinZ a.size 0 18000) 0, cond (kindA a cls == 3) (withinZ a.ft 0 (dim - 1)) 0, cond (kindA a cls == 3) a.fl false, withinZ a.bu 0 65536⟩
def S_copsekeep_Ask_Query : RSpec
  | [.agg [.int .i64 k, .int .i64 c, .int .i64 lo, .int .i64 size, .int .i64 ft, .int .i64 bu, .bool fl, .list false [.int .i64] sp], .agg [.int .i64 dim, .int .i64 cls, .int .i64 _, .int .i64 _, .int .i64 _, .list true [.int .i64, .list false [.int .u64]] _]] =>
    .br ((decide (1 ≤ dim) && decide (dim ≤ 4)) && (decide (1 ≤ cls) && decide (cls ≤ 3)))
      (.ok (.agg [.int .i64 (queryA ⟨k, c, lo, size, ft, bu, fl, sp⟩ dim cls).k, .int .i64 (queryA ⟨k, c, lo, size, ft, bu, fl, sp⟩ dim cls).c,
        .int .i64 (queryA ⟨k, c, lo, size, ft, bu, fl, sp⟩ dim cls).a0, .int .i64 (queryA ⟨k, c, lo, size, ft, bu, fl, sp⟩ dim cls).b0, .int .i64 (queryA ⟨k, c, lo, size, ft, bu, fl, sp⟩ dim cls).a1, .int .i64 (queryA ⟨k, c, lo, size, ft, bu, fl, sp⟩ dim cls).b1,
        .int .i64 (queryA ⟨k, c, lo, size, ft, bu, fl, sp⟩ dim cls).a2, .int .i64 (queryA ⟨k, c, lo, size, ft, bu, fl, sp⟩ dim cls).b2, .int .i64 (queryA ⟨k, c, lo, size, ft, bu, fl, sp⟩ dim cls).a3, .int .i64 (queryA ⟨k, c, lo, size, ft, bu, fl, sp⟩ dim cls).b3,
        .int .i64 (queryA ⟨k, c, lo, size, ft, bu, fl, sp⟩ dim cls).a4, .int .i64 (queryA ⟨k, c, lo, size, ft, bu, fl, sp⟩ dim cls).b4, .int .i64 (queryA ⟨k, c, lo, size, ft, bu, fl, sp⟩ dim cls).lo, .int .i64 (queryA ⟨k, c, lo, size, ft, bu, fl, sp⟩ dim cls).hi,
        .int .i64 (queryA ⟨k, c, lo, size, ft, bu, fl, sp⟩ dim cls).ft, .bool (queryA ⟨k, c, lo, size, ft, bu, fl, sp⟩ dim cls).fl, .int .i64 (queryA ⟨k, c, lo, size, ft, bu, fl, sp⟩ dim cls).bu]) []) .no
  | _ => .no

end Go.FM

/-
  NORMAL FORMS: what the functions' runs come to (written by a program of this claim's own, checked by the kernel).
-/
namespace Go.FM
open Go Go.Proofs

/-! ### copse/copsekeep.pick -/
def E_copsekeep_pick (N : Nat) : Env := mkE [] [] 15 N

theorem nf_copsekeep_pick (N : Nat) (l : List IV) (i : Int) : evFun (E_copsekeep_pick N) c_copsekeep_pick [.tmp 4] [[.int .i64]] [(.list false [.int .i64] l), (.int .i64 i)] =
  (cond (ic (List.length l) == 0)
  (some ((.int .i64 0), []))
  (cond (decide (ic (List.length l) = 0))
   none
   (cond (decide (0 ≤ Int.tmod i (ic (List.length l))) && decide (Int.tmod i (ic (List.length l)) < ic (List.length l)))
    (some ((.int .i64 (IV.toInt (List.getD l (Int.toNat (Int.tmod i (ic (List.length l)))) default))), []))
    none))) := by kernel_rfl

/-! ### copse/copseref1.Fits -/
def E_copseref1_Fits (N : Nat) : Env := mkE [] [] 27 N

theorem nf_copseref1_Fits (N : Nat) (n : Int) (w : Int) : evFun (E_copseref1_Fits N) c_copseref1_Fits [.tmp 4] [[.bool]] [(.int .i64 n), (.int .i64 w)] =
  (cond (decide (w < 1))
  (some ((.bool false), []))
  (cond (decide (w > 64))
   (some ((.bool false), []))
   (cond (w == 64)
    (some ((.bool true), []))
    (cond (decide (IntKind.wrap IntKind.i64 (w - 1) < 0))
     none
     (cond (decide (n ≥ IntKind.wrap IntKind.i64 (0 - IntKind.wrap IntKind.i64 (1 * 2 ^ min (Int.toNat (IntKind.wrap IntKind.i64 (w - 1))) (IntKind.bits IntKind.i64)))))
      (some ((.bool (decide (n ≤ IntKind.wrap IntKind.i64 (IntKind.wrap IntKind.i64 (1 * 2 ^ min (Int.toNat (IntKind.wrap IntKind.i64 (w - 1))) (IntKind.bits IntKind.i64)) - 1)))), []))
      (some ((.bool false), []))))))) := by kernel_rfl

/-! ### copse/copseref6.RightNode -/
def E_copseref6_RightNode (N : Nat) : Env := mkE [(48, S_copseref1_Fits)] [] 66 N

theorem nf_copseref6_RightNode (N : Nat) (n_Leaf : Bool) (n_Value : Int) (n_Feature : Int) (n_At : Int) (n_Left : Int) (n_Right : Int) : evFun (E_copseref6_RightNode N) c_copseref6_RightNode [.tmp 2] [[.bool]] [(.agg [(.bool n_Leaf), (.int .i64 n_Value), (.int .i64 n_Feature), (.int .i64 n_At), (.int .i64 n_Left), (.int .i64 n_Right)])] =
  (cond n_Leaf
  (cond (fits32 n_Value)
   (cond (n_Feature == 0)
    (cond (n_At == 0) (cond (n_Left == 0) (some ((.bool (n_Right == 0)), [])) (some ((.bool false), []))) (some ((.bool false), [])))
    (some ((.bool false), [])))
   (some ((.bool false), [])))
  (cond (n_Value == 0)
   (cond (decide (n_Feature ≥ 0))
    (cond (decide (n_Feature < 4))
     (cond (fits32 n_At)
      (cond (decide (n_Left ≥ 1))
       (cond (decide (n_Left < 31)) (cond (decide (n_Right ≥ 1)) (some ((.bool (decide (n_Right < 31))), [])) (some ((.bool false), []))) (some ((.bool false), [])))
       (some ((.bool false), [])))
      (some ((.bool false), [])))
     (some ((.bool false), [])))
    (some ((.bool false), [])))
   (some ((.bool false), [])))) := by kernel_rfl

/-! ### copse/copseref6.Pack -/
def E_copseref6_Pack (N : Nat) : Env := mkE [(35, S_copseref6_RightNode)] [] 32 N

theorem nf_copseref6_Pack (N : Nat) (n_Leaf : Bool) (n_Value : Int) (n_Feature : Int) (n_At : Int) (n_Left : Int) (n_Right : Int) : evFun (E_copseref6_Pack N) c_copseref6_Pack [.tmp 2] [[.int .u64]] [(.agg [(.bool n_Leaf), (.int .i64 n_Value), (.int .i64 n_Feature), (.int .i64 n_At), (.int .i64 n_Left), (.int .i64 n_Right)])] =
  (cond (!rightN n_Leaf n_Value n_Feature n_At n_Left n_Right)
  (some ((.int .u64 0), []))
  (cond n_Leaf
   (some ((.int .u64 (IntKind.wrap IntKind.u64 (ic (BitVec.toNat (BitVec.ofInt (IntKind.bits IntKind.u64) 9223372036854775808 ||| BitVec.ofInt (IntKind.bits IntKind.u64) (IntKind.wrap IntKind.u64 (ic (BitVec.toNat (BitVec.ofInt (IntKind.bits IntKind.u64) (IntKind.wrap IntKind.u64 n_Value) &&& BitVec.ofInt (IntKind.bits IntKind.u64) 4294967295))))))))), []))
   (some ((.int .u64 (IntKind.wrap IntKind.u64 (ic (BitVec.toNat (BitVec.ofInt (IntKind.bits IntKind.u64) (IntKind.wrap IntKind.u64 (ic (BitVec.toNat (BitVec.ofInt (IntKind.bits IntKind.u64) (IntKind.wrap IntKind.u64 (ic (BitVec.toNat (BitVec.ofInt (IntKind.bits IntKind.u64) (IntKind.wrap IntKind.u64 (ic (BitVec.toNat (BitVec.ofInt (IntKind.bits IntKind.u64) (IntKind.wrap IntKind.u64 n_At) &&& BitVec.ofInt (IntKind.bits IntKind.u64) 4294967295)))) ||| BitVec.ofInt (IntKind.bits IntKind.u64) (IntKind.wrap IntKind.u64 (IntKind.wrap IntKind.u64 n_Feature * 2 ^ min (Int.toNat 32) (IntKind.bits IntKind.u64))))))) ||| BitVec.ofInt (IntKind.bits IntKind.u64) (IntKind.wrap IntKind.u64 (IntKind.wrap IntKind.u64 n_Left * 2 ^ min (Int.toNat 40) (IntKind.bits IntKind.u64))))))) ||| BitVec.ofInt (IntKind.bits IntKind.u64) (IntKind.wrap IntKind.u64 (IntKind.wrap IntKind.u64 n_Right * 2 ^ min (Int.toNat 48) (IntKind.bits IntKind.u64)))))))), [])))) := by kernel_rfl

/-! ### copse/copsekeep.Region -/
def E_copsekeep_Region (N : Nat) : Env := mkE [(18, S_copsebook_Within), (21, S_copsekeep_pick)] [(3, ⟨[1, 4, 5, 9, 10], [4, 5], []⟩)] 32 N

theorem nf_copsekeep_Region (N : Nat) (m_Dim : Int) (m_Classes : Int) (m_Bias_0 : Int) (m_Bias_1 : Int) (m_Bias_2 : Int) (m_Trees : List IV) (l : List IV) : evFun (E_copsekeep_Region N) c_copsekeep_Region [.cell 4 30] [[.int .i64, .int .i64, .int .i64, .int .i64, .int .i64, .int .i64, .int .i64, .int .i64, .int .i64, .int .i64]] [(.agg [(.int .i64 m_Dim), (.int .i64 m_Classes), (.int .i64 m_Bias_0), (.int .i64 m_Bias_1), (.int .i64 m_Bias_2), (.list true [.int .i64, .list false [.int .u64]] m_Trees)]), (.list false [.int .i64] l)] =
  (lpE (E_copsekeep_Region N) (subC c_copsekeep_Region [1, 1, 0, 1, 0, 0]) ⟨[1, 4, 5, 9, 10], [4, 5], []⟩ N ⟨[(1, (.list false [(.int .i64)] l)), (4, (.ptr 4 0 0)), (5, (.ptr 5 0 0)), (9, (.int .i64 m_Dim)), (10, (.int .i64 0))], [(4, (some (.box [(.int .i64 0), (.int .i64 0), (.int .i64 0), (.int .i64 0), (.int .i64 0), (.int .i64 0), (.int .i64 0), (.int .i64 0), (.int .i64 0), (.int .i64 0)]))), (5, (some (.box [(.int .i64 0), (.int .i64 0), (.int .i64 0), (.int .i64 0), (.int .i64 0), (.int .i64 0), (.int .i64 0), (.int .i64 0), (.int .i64 0), (.int .i64 0)])))]⟩ (kBlock 0 (kSq (E_copsekeep_Region N) (subC c_copsekeep_Region [1, 1, 1]) (outT (E_copsekeep_Region N) none [(ResultVar.cell 4 30)] [[(.int .i64), (.int .i64), (.int .i64), (.int .i64), (.int .i64), (.int .i64), (.int .i64), (.int .i64), (.int .i64), (.int .i64)]])))) := by kernel_rfl

theorem st_copsekeep_Region_1 (N : Nat) (l1 : List IV) (x9 : Int) (x10 : Int) (xo4_0 : Int) (xo4_1 : Int) (xo4_2 : Int) (xo4_3 : Int) (xo4_4 : Int) (xo4_5 : Int) (xo4_6 : Int) (xo4_7 : Int) (xo4_8 : Int) (xo4_9 : Int) (xo5_0 : Int) (xo5_1 : Int) (xo5_2 : Int) (xo5_3 : Int) (xo5_4 : Int) (xo5_5 : Int) (xo5_6 : Int) (xo5_7 : Int) (xo5_8 : Int) (xo5_9 : Int) (again : St → Res) (k : Out → St → Res) : rnd (E_copsekeep_Region N) (subC c_copsekeep_Region [1, 1, 0, 1, 0, 0])
    ⟨[(1, (.list false [(.int .i64)] l1)), (4, (.ptr 4 0 0)), (5, (.ptr 5 0 0)), (9, (.int .i64 x9)), (10, (.int .i64 x10))], [(4, (some (.box [(.int .i64 xo4_0), (.int .i64 xo4_1), (.int .i64 xo4_2), (.int .i64 xo4_3), (.int .i64 xo4_4), (.int .i64 xo4_5), (.int .i64 xo4_6), (.int .i64 xo4_7), (.int .i64 xo4_8), (.int .i64 xo4_9)]))), (5, (some (.box [(.int .i64 xo5_0), (.int .i64 xo5_1), (.int .i64 xo5_2), (.int .i64 xo5_3), (.int .i64 xo5_4), (.int .i64 xo5_5), (.int .i64 xo5_6), (.int .i64 xo5_7), (.int .i64 xo5_8), (.int .i64 xo5_9)])))]⟩
    (kLoop again ⟨[1, 4, 5, 9, 10], [4, 5], []⟩ k) =
  (cond (decide (x10 < x9))
  (cond (decide (0 ≤ IntKind.wrap IntKind.i64 (2 * x10)))
   (cond (decide (0 ≤ IntKind.wrap IntKind.i64 (IntKind.wrap IntKind.i64 (2 * x10) + 1)))
    (cond (decide (x10 = ic 0))
     (again ⟨[(1, (.list false [(.int .i64)] l1)), (4, (.ptr 4 0 0)), (5, (.ptr 5 0 0)), (9, (.int .i64 x9)), (10, (.int .i64 (IntKind.wrap IntKind.i64 (x10 + 1))))], [(4, (some (.box [(.int .i64 xo4_0), (.int .i64 xo4_1), (.int .i64 xo4_2), (.int .i64 xo4_3), (.int .i64 xo4_4), (.int .i64 xo4_5), (.int .i64 xo4_6), (.int .i64 xo4_7), (.int .i64 xo4_8), (.int .i64 xo4_9)]))), (5, (some (.box [(.int .i64 (withinZ (pickZ l1 (IntKind.wrap IntKind.i64 (2 * x10))) (-2) 9)), (.int .i64 (IntKind.wrap IntKind.i64 (withinZ (pickZ l1 (IntKind.wrap IntKind.i64 (2 * x10))) (-2) 9 + withinZ (pickZ l1 (IntKind.wrap IntKind.i64 (IntKind.wrap IntKind.i64 (2 * x10) + 1))) 0 11))), (.int .i64 xo5_2), (.int .i64 xo5_3), (.int .i64 xo5_4), (.int .i64 xo5_5), (.int .i64 xo5_6), (.int .i64 xo5_7), (.int .i64 xo5_8), (.int .i64 xo5_9)])))]⟩)
     (cond (decide (x10 = ic 1))
      (again ⟨[(1, (.list false [(.int .i64)] l1)), (4, (.ptr 4 0 0)), (5, (.ptr 5 0 0)), (9, (.int .i64 x9)), (10, (.int .i64 (IntKind.wrap IntKind.i64 (x10 + 1))))], [(4, (some (.box [(.int .i64 xo4_0), (.int .i64 xo4_1), (.int .i64 xo4_2), (.int .i64 xo4_3), (.int .i64 xo4_4), (.int .i64 xo4_5), (.int .i64 xo4_6), (.int .i64 xo4_7), (.int .i64 xo4_8), (.int .i64 xo4_9)]))), (5, (some (.box [(.int .i64 xo5_0), (.int .i64 xo5_1), (.int .i64 (withinZ (pickZ l1 (IntKind.wrap IntKind.i64 (2 * x10))) (-2) 9)), (.int .i64 (IntKind.wrap IntKind.i64 (withinZ (pickZ l1 (IntKind.wrap IntKind.i64 (2 * x10))) (-2) 9 + withinZ (pickZ l1 (IntKind.wrap IntKind.i64 (IntKind.wrap IntKind.i64 (2 * x10) + 1))) 0 11))), (.int .i64 xo5_4), (.int .i64 xo5_5), (.int .i64 xo5_6), (.int .i64 xo5_7), (.int .i64 xo5_8), (.int .i64 xo5_9)])))]⟩)
      (cond (decide (x10 = ic 2))
       (again ⟨[(1, (.list false [(.int .i64)] l1)), (4, (.ptr 4 0 0)), (5, (.ptr 5 0 0)), (9, (.int .i64 x9)), (10, (.int .i64 (IntKind.wrap IntKind.i64 (x10 + 1))))], [(4, (some (.box [(.int .i64 xo4_0), (.int .i64 xo4_1), (.int .i64 xo4_2), (.int .i64 xo4_3), (.int .i64 xo4_4), (.int .i64 xo4_5), (.int .i64 xo4_6), (.int .i64 xo4_7), (.int .i64 xo4_8), (.int .i64 xo4_9)]))), (5, (some (.box [(.int .i64 xo5_0), (.int .i64 xo5_1), (.int .i64 xo5_2), (.int .i64 xo5_3), (.int .i64 (withinZ (pickZ l1 (IntKind.wrap IntKind.i64 (2 * x10))) (-2) 9)), (.int .i64 (IntKind.wrap IntKind.i64 (withinZ (pickZ l1 (IntKind.wrap IntKind.i64 (2 * x10))) (-2) 9 + withinZ (pickZ l1 (IntKind.wrap IntKind.i64 (IntKind.wrap IntKind.i64 (2 * x10) + 1))) 0 11))), (.int .i64 xo5_6), (.int .i64 xo5_7), (.int .i64 xo5_8), (.int .i64 xo5_9)])))]⟩)
       (cond (decide (x10 = ic 3))
        (again ⟨[(1, (.list false [(.int .i64)] l1)), (4, (.ptr 4 0 0)), (5, (.ptr 5 0 0)), (9, (.int .i64 x9)), (10, (.int .i64 (IntKind.wrap IntKind.i64 (x10 + 1))))], [(4, (some (.box [(.int .i64 xo4_0), (.int .i64 xo4_1), (.int .i64 xo4_2), (.int .i64 xo4_3), (.int .i64 xo4_4), (.int .i64 xo4_5), (.int .i64 xo4_6), (.int .i64 xo4_7), (.int .i64 xo4_8), (.int .i64 xo4_9)]))), (5, (some (.box [(.int .i64 xo5_0), (.int .i64 xo5_1), (.int .i64 xo5_2), (.int .i64 xo5_3), (.int .i64 xo5_4), (.int .i64 xo5_5), (.int .i64 (withinZ (pickZ l1 (IntKind.wrap IntKind.i64 (2 * x10))) (-2) 9)), (.int .i64 (IntKind.wrap IntKind.i64 (withinZ (pickZ l1 (IntKind.wrap IntKind.i64 (2 * x10))) (-2) 9 + withinZ (pickZ l1 (IntKind.wrap IntKind.i64 (IntKind.wrap IntKind.i64 (2 * x10) + 1))) 0 11))), (.int .i64 xo5_8), (.int .i64 xo5_9)])))]⟩)
        (cond (decide (x10 = ic 4))
         (again ⟨[(1, (.list false [(.int .i64)] l1)), (4, (.ptr 4 0 0)), (5, (.ptr 5 0 0)), (9, (.int .i64 x9)), (10, (.int .i64 (IntKind.wrap IntKind.i64 (x10 + 1))))], [(4, (some (.box [(.int .i64 xo4_0), (.int .i64 xo4_1), (.int .i64 xo4_2), (.int .i64 xo4_3), (.int .i64 xo4_4), (.int .i64 xo4_5), (.int .i64 xo4_6), (.int .i64 xo4_7), (.int .i64 xo4_8), (.int .i64 xo4_9)]))), (5, (some (.box [(.int .i64 xo5_0), (.int .i64 xo5_1), (.int .i64 xo5_2), (.int .i64 xo5_3), (.int .i64 xo5_4), (.int .i64 xo5_5), (.int .i64 xo5_6), (.int .i64 xo5_7), (.int .i64 (withinZ (pickZ l1 (IntKind.wrap IntKind.i64 (2 * x10))) (-2) 9)), (.int .i64 (IntKind.wrap IntKind.i64 (withinZ (pickZ l1 (IntKind.wrap IntKind.i64 (2 * x10))) (-2) 9 + withinZ (pickZ l1 (IntKind.wrap IntKind.i64 (IntKind.wrap IntKind.i64 (2 * x10) + 1))) 0 11)))])))]⟩)
         none)))))
    none)
   none)
  (k (.exit 0) ⟨[(1, (.list false [(.int .i64)] l1)), (4, (.ptr 4 0 0)), (5, (.ptr 5 0 0)), (9, (.int .i64 x9)), (10, (.int .i64 x10))], [(4, (some (.box [(.int .i64 xo4_0), (.int .i64 xo4_1), (.int .i64 xo4_2), (.int .i64 xo4_3), (.int .i64 xo4_4), (.int .i64 xo4_5), (.int .i64 xo4_6), (.int .i64 xo4_7), (.int .i64 xo4_8), (.int .i64 xo4_9)]))), (5, (some (.box [(.int .i64 xo5_0), (.int .i64 xo5_1), (.int .i64 xo5_2), (.int .i64 xo5_3), (.int .i64 xo5_4), (.int .i64 xo5_5), (.int .i64 xo5_6), (.int .i64 xo5_7), (.int .i64 xo5_8), (.int .i64 xo5_9)])))]⟩)) := by kernel_rfl

theorem ex_copsekeep_Region_1_1 (N : Nat) (l1 : List IV) (x9 : Int) (x10 : Int) (xo4_0 : Int) (xo4_1 : Int) (xo4_2 : Int) (xo4_3 : Int) (xo4_4 : Int) (xo4_5 : Int) (xo4_6 : Int) (xo4_7 : Int) (xo4_8 : Int) (xo4_9 : Int) (xo5_0 : Int) (xo5_1 : Int) (xo5_2 : Int) (xo5_3 : Int) (xo5_4 : Int) (xo5_5 : Int) (xo5_6 : Int) (xo5_7 : Int) (xo5_8 : Int) (xo5_9 : Int) : (kBlock 0 (kSq (E_copsekeep_Region N) (subC c_copsekeep_Region [1, 1, 1]) (outT (E_copsekeep_Region N) none [(ResultVar.cell 4 30)] [[(.int .i64), (.int .i64), (.int .i64), (.int .i64), (.int .i64), (.int .i64), (.int .i64), (.int .i64), (.int .i64), (.int .i64)]]))) (.exit 0)
    ⟨[(1, (.list false [(.int .i64)] l1)), (4, (.ptr 4 0 0)), (5, (.ptr 5 0 0)), (9, (.int .i64 x9)), (10, (.int .i64 x10))], [(4, (some (.box [(.int .i64 xo4_0), (.int .i64 xo4_1), (.int .i64 xo4_2), (.int .i64 xo4_3), (.int .i64 xo4_4), (.int .i64 xo4_5), (.int .i64 xo4_6), (.int .i64 xo4_7), (.int .i64 xo4_8), (.int .i64 xo4_9)]))), (5, (some (.box [(.int .i64 xo5_0), (.int .i64 xo5_1), (.int .i64 xo5_2), (.int .i64 xo5_3), (.int .i64 xo5_4), (.int .i64 xo5_5), (.int .i64 xo5_6), (.int .i64 xo5_7), (.int .i64 xo5_8), (.int .i64 xo5_9)])))]⟩ =
  (some ((.agg [(.int .i64 xo5_0), (.int .i64 xo5_1), (.int .i64 xo5_2), (.int .i64 xo5_3), (.int .i64 xo5_4), (.int .i64 xo5_5), (.int .i64 xo5_6), (.int .i64 xo5_7), (.int .i64 xo5_8), (.int .i64 xo5_9)]), [])) := by kernel_rfl

end Go.FM

/-
  NORMAL FORMS: what the functions' runs come to (written by a program of this claim's own, checked by the kernel).
-/
namespace Go.FM
open Go Go.Proofs

/-! ### (copse/copsekeep.Ask).Query -/
def E_copsekeep_Ask_Query (N : Nat) : Env := mkE [(18, S_copsebook_Within), (23, S_copsekeep_Region)] [] 58 N

theorem nf_copsekeep_Ask_Query (N : Nat) (a_Kind : Int) (a_Class : Int) (a_Lo : Int) (a_Size : Int) (a_Feature : Int) (a_Budget : Int) (a_Falls : Bool) (a_Spans : List IV) (m_Dim : Int) (m_Classes : Int) (m_Bias_0 : Int) (m_Bias_1 : Int) (m_Bias_2 : Int) (m_Trees : List IV) : evFun (E_copsekeep_Ask_Query N) c_copsekeep_Ask_Query [.cell 4 32] [[.int .i64, .int .i64, .int .i64, .int .i64, .int .i64, .int .i64, .int .i64, .int .i64, .int .i64, .int .i64, .int .i64, .int .i64, .int .i64, .int .i64, .int .i64, .bool, .int .i64]] [(.agg [(.int .i64 a_Kind), (.int .i64 a_Class), (.int .i64 a_Lo), (.int .i64 a_Size), (.int .i64 a_Feature), (.int .i64 a_Budget), (.bool a_Falls), (.list false [.int .i64] a_Spans)]), (.agg [(.int .i64 m_Dim), (.int .i64 m_Classes), (.int .i64 m_Bias_0), (.int .i64 m_Bias_1), (.int .i64 m_Bias_2), (.list true [.int .i64, .list false [.int .u64]] m_Trees)])] =
  (cond (decide (withinM 0 (IntKind.wrap IntKind.i64 (m_Classes - 1)) = 0))
  none
  (cond (decide (0 ≤ m_Dim) && decide (m_Dim ≤ 4))
   (cond (withinZ a_Kind 1 3 == 2)
    (cond (decide (m_Classes < 2))
     (some ((.agg [(.int .i64 1), (.int .i64 (withinZ a_Class 0 (IntKind.wrap IntKind.i64 (m_Classes - 1)))), (.int .i64 (regA m_Dim a_Spans 0)), (.int .i64 (regB m_Dim a_Spans 0)), (.int .i64 (regA m_Dim a_Spans 1)), (.int .i64 (regB m_Dim a_Spans 1)), (.int .i64 (regA m_Dim a_Spans 2)), (.int .i64 (regB m_Dim a_Spans 2)), (.int .i64 (regA m_Dim a_Spans 3)), (.int .i64 (regB m_Dim a_Spans 3)), (.int .i64 0), (.int .i64 0), (.int .i64 (withinZ a_Lo (-9000) 9000)), (.int .i64 (IntKind.wrap IntKind.i64 (withinZ a_Lo (-9000) 9000 + withinZ a_Size 0 18000))), (.int .i64 0), (.bool false), (.int .i64 (withinZ a_Budget 0 65536))]), []))
     (cond (withinZ a_Kind 1 3 == 1)
      (some ((.agg [(.int .i64 (withinZ a_Kind 1 3)), (.int .i64 (withinZ a_Class 0 (IntKind.wrap IntKind.i64 (m_Classes - 1)))), (.int .i64 (regA m_Dim a_Spans 0)), (.int .i64 (regB m_Dim a_Spans 0)), (.int .i64 (regA m_Dim a_Spans 1)), (.int .i64 (regB m_Dim a_Spans 1)), (.int .i64 (regA m_Dim a_Spans 2)), (.int .i64 (regB m_Dim a_Spans 2)), (.int .i64 (regA m_Dim a_Spans 3)), (.int .i64 (regB m_Dim a_Spans 3)), (.int .i64 0), (.int .i64 0), (.int .i64 (withinZ a_Lo (-9000) 9000)), (.int .i64 (IntKind.wrap IntKind.i64 (withinZ a_Lo (-9000) 9000 + withinZ a_Size 0 18000))), (.int .i64 0), (.bool false), (.int .i64 (withinZ a_Budget 0 65536))]), []))
      (some ((.agg [(.int .i64 (withinZ a_Kind 1 3)), (.int .i64 (withinZ a_Class 0 (IntKind.wrap IntKind.i64 (m_Classes - 1)))), (.int .i64 (regA m_Dim a_Spans 0)), (.int .i64 (regB m_Dim a_Spans 0)), (.int .i64 (regA m_Dim a_Spans 1)), (.int .i64 (regB m_Dim a_Spans 1)), (.int .i64 (regA m_Dim a_Spans 2)), (.int .i64 (regB m_Dim a_Spans 2)), (.int .i64 (regA m_Dim a_Spans 3)), (.int .i64 (regB m_Dim a_Spans 3)), (.int .i64 0), (.int .i64 0), (.int .i64 0), (.int .i64 0), (.int .i64 0), (.bool false), (.int .i64 (withinZ a_Budget 0 65536))]), []))))
    (cond (withinZ a_Kind 1 3 == 3)
     (cond (decide (withinM 0 (IntKind.wrap IntKind.i64 (m_Dim - 1)) = 0))
      none
      (cond (withinZ a_Kind 1 3 == 1)
       (some ((.agg [(.int .i64 (withinZ a_Kind 1 3)), (.int .i64 (withinZ a_Class 0 (IntKind.wrap IntKind.i64 (m_Classes - 1)))), (.int .i64 (regA m_Dim a_Spans 0)), (.int .i64 (regB m_Dim a_Spans 0)), (.int .i64 (regA m_Dim a_Spans 1)), (.int .i64 (regB m_Dim a_Spans 1)), (.int .i64 (regA m_Dim a_Spans 2)), (.int .i64 (regB m_Dim a_Spans 2)), (.int .i64 (regA m_Dim a_Spans 3)), (.int .i64 (regB m_Dim a_Spans 3)), (.int .i64 0), (.int .i64 0), (.int .i64 (withinZ a_Lo (-9000) 9000)), (.int .i64 (IntKind.wrap IntKind.i64 (withinZ a_Lo (-9000) 9000 + withinZ a_Size 0 18000))), (.int .i64 (withinZ a_Feature 0 (IntKind.wrap IntKind.i64 (m_Dim - 1)))), (.bool a_Falls), (.int .i64 (withinZ a_Budget 0 65536))]), []))
       (some ((.agg [(.int .i64 (withinZ a_Kind 1 3)), (.int .i64 (withinZ a_Class 0 (IntKind.wrap IntKind.i64 (m_Classes - 1)))), (.int .i64 (regA m_Dim a_Spans 0)), (.int .i64 (regB m_Dim a_Spans 0)), (.int .i64 (regA m_Dim a_Spans 1)), (.int .i64 (regB m_Dim a_Spans 1)), (.int .i64 (regA m_Dim a_Spans 2)), (.int .i64 (regB m_Dim a_Spans 2)), (.int .i64 (regA m_Dim a_Spans 3)), (.int .i64 (regB m_Dim a_Spans 3)), (.int .i64 0), (.int .i64 0), (.int .i64 0), (.int .i64 0), (.int .i64 (withinZ a_Feature 0 (IntKind.wrap IntKind.i64 (m_Dim - 1)))), (.bool a_Falls), (.int .i64 (withinZ a_Budget 0 65536))]), []))))
     (cond (withinZ a_Kind 1 3 == 1)
      (some ((.agg [(.int .i64 (withinZ a_Kind 1 3)), (.int .i64 (withinZ a_Class 0 (IntKind.wrap IntKind.i64 (m_Classes - 1)))), (.int .i64 (regA m_Dim a_Spans 0)), (.int .i64 (regB m_Dim a_Spans 0)), (.int .i64 (regA m_Dim a_Spans 1)), (.int .i64 (regB m_Dim a_Spans 1)), (.int .i64 (regA m_Dim a_Spans 2)), (.int .i64 (regB m_Dim a_Spans 2)), (.int .i64 (regA m_Dim a_Spans 3)), (.int .i64 (regB m_Dim a_Spans 3)), (.int .i64 0), (.int .i64 0), (.int .i64 (withinZ a_Lo (-9000) 9000)), (.int .i64 (IntKind.wrap IntKind.i64 (withinZ a_Lo (-9000) 9000 + withinZ a_Size 0 18000))), (.int .i64 0), (.bool false), (.int .i64 (withinZ a_Budget 0 65536))]), []))
      (some ((.agg [(.int .i64 (withinZ a_Kind 1 3)), (.int .i64 (withinZ a_Class 0 (IntKind.wrap IntKind.i64 (m_Classes - 1)))), (.int .i64 (regA m_Dim a_Spans 0)), (.int .i64 (regB m_Dim a_Spans 0)), (.int .i64 (regA m_Dim a_Spans 1)), (.int .i64 (regB m_Dim a_Spans 1)), (.int .i64 (regA m_Dim a_Spans 2)), (.int .i64 (regB m_Dim a_Spans 2)), (.int .i64 (regA m_Dim a_Spans 3)), (.int .i64 (regB m_Dim a_Spans 3)), (.int .i64 0), (.int .i64 0), (.int .i64 0), (.int .i64 0), (.int .i64 0), (.bool false), (.int .i64 (withinZ a_Budget 0 65536))]), [])))))
   none)) := by kernel_rfl

end Go.FM

/-
  copsekeep's FUNCTIONS COME TO WHAT IS SAID (1): picks, nodes packed, regions, queries.
-/
namespace Go.FM
open Go Go.Proofs

set_option maxRecDepth 100000 in
theorem snd_copsekeep_pick : SndR PR B0 21 S_copsekeep_pick := by
  refine snd_mk [] [] S_copsekeep_pick [[.int .i64]] Try.func21 h_copsekeep_pick trivial ?_
  intro vs r hwf h
  unfold S_copsekeep_pick at h
  split at h
  · rename_i l i
    cases hc : decide (0 ≤ i) with
    | false => rw [hc] at h; simp [R.get] at h
    | true =>
      rw [hc, R.get_br, condT, R.get_ok] at h
      have hc := of_decide_eq_true hc
      refine ⟨0, ?_⟩
      rw [← h]
      refine (nf_copsekeep_pick 0 l i).trans ?_
      unfold pickZ
      cases h0 : (ic (List.length l) == 0) with
      | true => rfl
      | false =>
        rw [beq_dec] at h0
        have h0' := of_decide_eq_false h0
        have hl : 0 < (l.length : Int) := by simp only [ic] at h0'; omega
        have t0 := Int.tmod_nonneg (l.length : Int) hc
        have t1 := Int.tmod_lt_of_pos i hl
        rw [condF, h0, condF, decide_eq_true (show 0 ≤ Int.tmod i (ic (List.length l)) from t0), decide_eq_true (show Int.tmod i (ic (List.length l)) < ic (List.length l) from t1), Bool.and_true, condT, condF]
  · simp [R.get] at h

set_option maxRecDepth 100000 in
theorem snd_copseref1_Fits : SndR PR B0 48 S_copseref1_Fits := by
  refine snd_mk [] [] S_copseref1_Fits [[.bool]] Try.func48 h_copseref1_Fits trivial ?_
  intro vs r hwf h
  unfold S_copseref1_Fits at h
  split at h
  · rename_i n w
    cases hc : decide (w = 32) with
    | false => rw [hc] at h; simp [R.get] at h
    | true =>
      rw [hc, R.get_br, condT, R.get_ok] at h
      have hc := of_decide_eq_true hc
      subst hc
      refine ⟨0, ?_⟩
      rw [← h]
      refine (nf_copseref1_Fits 0 n 32).trans ?_
      have e1 : IntKind.wrap IntKind.i64 (0 - IntKind.wrap IntKind.i64 (1 * 2 ^ min (Int.toNat (IntKind.wrap IntKind.i64 ((32 : Int) - 1))) (IntKind.bits IntKind.i64))) = -2147483648 := by kernel_rfl
      have e2 : IntKind.wrap IntKind.i64 (IntKind.wrap IntKind.i64 (1 * 2 ^ min (Int.toNat (IntKind.wrap IntKind.i64 ((32 : Int) - 1))) (IntKind.bits IntKind.i64)) - 1) = 2147483647 := by kernel_rfl
      have e3 : decide (IntKind.wrap IntKind.i64 ((32 : Int) - 1) < 0) = false := by kernel_rfl
      rw [e1, e2, e3]
      unfold fits32
      have e4 : decide (n ≥ -2147483648) = decide (-2147483648 ≤ n) := rfl
      rw [e4]
      cases decide (-2147483648 ≤ n) <;> rfl
  · simp [R.get] at h

theorem cond_andb (a b : Bool) : cond a (some (V.bool b, [])) (some (V.bool false, [])) = (some (V.bool (a && b), []) : Res) := by cases a <;> rfl

set_option maxRecDepth 100000 in
theorem snd_copseref6_RightNode : SndR PR B0 35 S_copseref6_RightNode := by
  refine snd_mk [(48, S_copseref1_Fits)] [] S_copseref6_RightNode [[.bool]] Try.func35 h_copseref6_RightNode ⟨snd_copseref1_Fits, trivial⟩ ?_
  intro vs r hwf h
  unfold S_copseref6_RightNode at h
  split at h
  · rename_i lf v f a l r'
    refine ⟨0, ?_⟩
    rw [← h]
    refine (nf_copseref6_RightNode 0 lf v f a l r').trans ?_
    simp only [R.get_ok, cond_andb]
    unfold rightN
    cases lf with
    | true => rfl
    | false => rfl
  · simp [R.get] at h

set_option maxRecDepth 100000 in
theorem snd_copseref6_Pack : SndR PR B0 20 S_copseref6_Pack := by
  refine snd_mk [(35, S_copseref6_RightNode)] [] S_copseref6_Pack [[.int .u64]] Try.func20 h_copseref6_Pack ⟨snd_copseref6_RightNode, trivial⟩ ?_
  intro vs r hwf h
  unfold S_copseref6_Pack at h
  split at h
  · rename_i lf v f a l r'
    refine ⟨0, ?_⟩
    rw [← h]
    refine (nf_copseref6_Pack 0 lf v f a l r').trans ?_
    unfold packW
    cases rightN lf v f a l r' with
    | false => rfl
    | true => cases lf <;> rfl
  · simp [R.get] at h

/-! ### regions -/
def rgA (l : List IV) (j : Int) : Int := withinZ (pickZ l (2 * j)) (-2) 9
def rgB (l : List IV) (j : Int) : Int := withinZ (pickZ l (2 * j)) (-2) 9 + withinZ (pickZ l (2 * j + 1)) 0 11
def rgC (l : List IV) (i : Nat) : List V := [.int .i64 (cond (Nat.blt 0 i) (rgA l 0) 0), .int .i64 (cond (Nat.blt 0 i) (rgB l 0) 0), .int .i64 (cond (Nat.blt 1 i) (rgA l 1) 0), .int .i64 (cond (Nat.blt 1 i) (rgB l 1) 0), .int .i64 (cond (Nat.blt 2 i) (rgA l 2) 0), .int .i64 (cond (Nat.blt 2 i) (rgB l 2) 0), .int .i64 (cond (Nat.blt 3 i) (rgA l 3) 0), .int .i64 (cond (Nat.blt 3 i) (rgB l 3) 0), .int .i64 0, .int .i64 0]
abbrev stG (l : List IV) (D : Int) (i : Nat) (x : Int) : St := ⟨[(1, (.list false [(.int .i64)] l)), (4, (.ptr 4 0 0)), (5, (.ptr 5 0 0)), (9, (.int .i64 D)), (10, (.int .i64 x))], [(4, (some (.box [(.int .i64 0), (.int .i64 0), (.int .i64 0), (.int .i64 0), (.int .i64 0), (.int .i64 0), (.int .i64 0), (.int .i64 0), (.int .i64 0), (.int .i64 0)]))), (5, (some (.box (rgC l i))))]⟩
theorem sum_in (l : List IV) (j : Int) : IntKind.wrap IntKind.i64 (withinZ (pickZ l (2 * j)) (-2) 9 + withinZ (pickZ l (2 * j + 1)) 0 11) = rgB l j := by
  obtain ⟨_, a1, a2⟩ := within_in (n := pickZ l (2 * j)) (lo := -2) (hi := 9) (by omega) (by omega) (by omega)
  obtain ⟨_, b1, b2⟩ := within_in (n := pickZ l (2 * j + 1)) (lo := 0) (hi := 11) (by omega) (by omega) (by omega)
  exact wrap_id (by omega) (by omega)
theorem region_round (N : Nat) (l : List IV) (D : Int) (i : Nat) (hi : (i : Int) < D) (h4 : i < 4) (again : St → Res) (k : Out → St → Res) :
    rnd (E_copsekeep_Region N) (subC c_copsekeep_Region [1, 1, 0, 1, 0, 0]) (stG l D i (i : Int)) (kLoop again ⟨[1, 4, 5, 9, 10], [4, 5], []⟩ k) = again (stG l D (i + 1) ((i + 1 : Nat) : Int)) := by
  refine (st_copsekeep_Region_1 N l D i 0 0 0 0 0 0 0 0 0 0 (cond (Nat.blt 0 i) (rgA l 0) 0) (cond (Nat.blt 0 i) (rgB l 0) 0) (cond (Nat.blt 1 i) (rgA l 1) 0) (cond (Nat.blt 1 i) (rgB l 1) 0) (cond (Nat.blt 2 i) (rgA l 2) 0) (cond (Nat.blt 2 i) (rgB l 2) 0) (cond (Nat.blt 3 i) (rgA l 3) 0) (cond (Nat.blt 3 i) (rgB l 3) 0) 0 0 again k).trans ?_
  have w2 : IntKind.wrap IntKind.i64 (2 * (i : Int)) = 2 * (i : Int) := wrap_id (by omega) (by omega)
  have w3 : IntKind.wrap IntKind.i64 (2 * (i : Int) + 1) = 2 * (i : Int) + 1 := wrap_id (by omega) (by omega)
  rw [decide_eq_true hi, condT, w2, w3, decide_eq_true (show 0 ≤ 2 * (i : Int) by omega), condT, decide_eq_true (show 0 ≤ 2 * (i : Int) + 1 by omega), condT, sum_in]
  have hi4 : i = 0 ∨ i = 1 ∨ i = 2 ∨ i = 3 := by omega
  rcases hi4 with rfl | rfl | rfl | rfl
  · rw [show decide (((0 : Nat) : Int) = ic 0) = true from rfl, condT]
    rfl
  · rw [show decide (((1 : Nat) : Int) = ic 0) = false from rfl, show decide (((1 : Nat) : Int) = ic 1) = true from rfl, condF, condT]
    rfl
  · rw [show decide (((2 : Nat) : Int) = ic 0) = false from rfl, show decide (((2 : Nat) : Int) = ic 1) = false from rfl, show decide (((2 : Nat) : Int) = ic 2) = true from rfl, condF, condF, condT]
    rfl
  · rw [show decide (((3 : Nat) : Int) = ic 0) = false from rfl, show decide (((3 : Nat) : Int) = ic 1) = false from rfl, show decide (((3 : Nat) : Int) = ic 2) = false from rfl, show decide (((3 : Nat) : Int) = ic 3) = true from rfl, condF, condF, condF, condT]
    rfl
theorem region_run (N : Nat) (l : List IV) (D : Nat) (hD : D ≤ 4) (K : Out → St → Res) : ∀ (d i n : Nat), i + d = D → d < n →
    lpE (E_copsekeep_Region N) (subC c_copsekeep_Region [1, 1, 0, 1, 0, 0]) ⟨[1, 4, 5, 9, 10], [4, 5], []⟩ n (stG l D i (i : Int)) K = K (.exit 0) (stG l D D (D : Int))
  | 0, i, n + 1, hd, hn => by
    have hi : i = D := by omega
    subst hi
    rw [lpE_succ]
    refine (st_copsekeep_Region_1 N l _ _ 0 0 0 0 0 0 0 0 0 0 (cond (Nat.blt 0 i) (rgA l 0) 0) (cond (Nat.blt 0 i) (rgB l 0) 0) (cond (Nat.blt 1 i) (rgA l 1) 0) (cond (Nat.blt 1 i) (rgB l 1) 0) (cond (Nat.blt 2 i) (rgA l 2) 0) (cond (Nat.blt 2 i) (rgB l 2) 0) (cond (Nat.blt 3 i) (rgA l 3) 0) (cond (Nat.blt 3 i) (rgB l 3) 0) 0 0 _ _).trans ?_
    rw [decide_eq_false (show ¬ (i : Int) < (i : Int) by omega), condF]
    rfl
  | d + 1, i, n + 1, hd, hn => by
    rw [lpE_succ, region_round N l D i (by omega) (by omega)]
    exact region_run N l D hD K d (i + 1) n (by omega) (by omega)
  | _, _, 0, _, h => by omega

set_option maxRecDepth 100000 in
theorem snd_copsekeep_Region : SndR PR B0 23 S_copsekeep_Region := by
  refine snd_mk [(18, S_copsebook_Within), (21, S_copsekeep_pick)] [(3, ⟨[1, 4, 5, 9, 10], [4, 5], []⟩)] S_copsekeep_Region [[.int .i64, .int .i64, .int .i64, .int .i64, .int .i64, .int .i64, .int .i64, .int .i64, .int .i64, .int .i64]] Try.func23 h_copsekeep_Region
    ⟨snd_copsebook_Within, snd_copsekeep_pick, trivial⟩ ?_
  intro vs r hwf h
  unfold S_copsekeep_Region at h
  split at h
  · rename_i d c b0 b1 b2 ts l
    cases hc : (decide (0 ≤ d) && decide (d ≤ 4)) with
    | false => rw [hc] at h; simp [R.get] at h
    | true =>
      rw [hc, R.get_br, condT, R.get_ok] at h
      simp only [Bool.and_eq_true, decide_eq_true_eq] at hc
      refine ⟨10, ?_⟩
      rw [← h]
      refine (nf_copsekeep_Region 10 d c b0 b1 b2 ts l).trans ?_
      obtain ⟨D, rfl⟩ : ∃ D : Nat, d = D := ⟨d.toNat, by omega⟩
      refine (region_run 10 l D (by omega) _ D 0 10 (by omega) (by omega)).trans ?_
      refine (ex_copsekeep_Region_1_1 10 l D D 0 0 0 0 0 0 0 0 0 0 (cond (Nat.blt 0 D) (rgA l 0) 0) (cond (Nat.blt 0 D) (rgB l 0) 0) (cond (Nat.blt 1 D) (rgA l 1) 0) (cond (Nat.blt 1 D) (rgB l 1) 0) (cond (Nat.blt 2 D) (rgA l 2) 0) (cond (Nat.blt 2 D) (rgB l 2) 0) (cond (Nat.blt 3 D) (rgA l 3) 0) (cond (Nat.blt 3 D) (rgB l 3) 0) 0 0).trans ?_
      have hD : D = 0 ∨ D = 1 ∨ D = 2 ∨ D = 3 ∨ D = 4 := by omega
      rcases hD with rfl | rfl | rfl | rfl | rfl <;> rfl
  · simp [R.get] at h

/-! ### queries -/
set_option maxRecDepth 100000 in
theorem snd_copsekeep_Ask_Query : SndR PR B0 10 S_copsekeep_Ask_Query := by
  refine snd_mk [(18, S_copsebook_Within), (23, S_copsekeep_Region)] [] S_copsekeep_Ask_Query [[.int .i64, .int .i64, .int .i64, .int .i64, .int .i64, .int .i64, .int .i64, .int .i64, .int .i64, .int .i64, .int .i64, .int .i64, .int .i64, .int .i64, .int .i64, .bool, .int .i64]] Try.func10 h_copsekeep_Ask_Query
    ⟨snd_copsebook_Within, snd_copsekeep_Region, trivial⟩ ?_
  intro vs r hwf h
  unfold S_copsekeep_Ask_Query at h
  split at h
  · rename_i k c lo size ft bu fl sp dim cls b0 b1 b2 ts
    cases hc : ((decide (1 ≤ dim) && decide (dim ≤ 4)) && (decide (1 ≤ cls) && decide (cls ≤ 3))) with
    | false => rw [hc] at h; simp [R.get] at h
    | true =>
      rw [hc, R.get_br, condT, R.get_ok] at h
      simp only [Bool.and_eq_true, decide_eq_true_eq] at hc
      obtain ⟨⟨d1, d4⟩, c1, c3⟩ := hc
      refine ⟨0, ?_⟩
      rw [← h]
      refine (nf_copsekeep_Ask_Query 0 k c lo size ft bu fl sp dim cls b0 b1 b2 ts).trans ?_
      have w1 : IntKind.wrap IntKind.i64 (cls - 1) = cls - 1 := wrap_id (by omega) (by omega)
      have w2 : IntKind.wrap IntKind.i64 (dim - 1) = dim - 1 := wrap_id (by omega) (by omega)
      obtain ⟨m1, _, _⟩ := within_in (n := c) (lo := 0) (hi := cls - 1) (by omega) (by omega) (by omega)
      obtain ⟨m2, _, _⟩ := within_in (n := ft) (lo := 0) (hi := dim - 1) (by omega) (by omega) (by omega)
      obtain ⟨_, l1, l2⟩ := within_in (n := lo) (lo := -9000) (hi := 9000) (by omega) (by omega) (by omega)
      obtain ⟨_, s1, s2⟩ := within_in (n := size) (lo := 0) (hi := 18000) (by omega) (by omega) (by omega)
      have w3 : IntKind.wrap IntKind.i64 (withinZ lo (-9000) 9000 + withinZ size 0 18000) = withinZ lo (-9000) 9000 + withinZ size 0 18000 := wrap_id (by omega) (by omega)
      rw [w1, w2, w3, m1, m2, decide_eq_false (show ¬ (cls - 1 - 0 + 1 = 0) by omega), decide_eq_false (show ¬ (dim - 1 - 0 + 1 = 0) by omega), decide_eq_true (show 0 ≤ dim by omega), decide_eq_true (show dim ≤ 4 by omega)]
      unfold queryA kindA loA
      obtain ⟨_, k1, k2⟩ := within_in (n := k) (lo := 1) (hi := 3) (by omega) (by omega) (by omega)
      generalize withinZ k 1 3 = K at k1 k2
      have hK : K = 1 ∨ K = 2 ∨ K = 3 := by omega
      simp only
      generalize decide (cls < 2) = cl
      rcases hK with rfl | rfl | rfl <;> cases cl <;> rfl
  · simp [R.get] at h

end Go.FM

/-
  WHAT text's FUNCTIONS, AND THOSE BENEATH THEM (bits, node, tree, model), COME TO: specifications. Of no program.
-/
namespace Go.FM
open Go

/-! ### bits -/
def S_bits_Fits : RSpec
  | [.int .i64 n, .int .i64 w] => .br (decide (w = 32)) (.ok (.bool (fits32 n)) []) .no
  | _ => .no
def fieldZ (a w : Int) : Bool := decide (0 ≤ a) && (decide (a < 64) && (decide (1 ≤ w) && decide (w ≤ 64 - a)))
def S_bits_field : RSpec
  | [.int .i64 a, .int .i64 w] => .br (decide (0 ≤ a) && decide (a < 64)) (.ok (.bool (decide (1 ≤ w) && decide (w ≤ 64 - a))) []) .no
  | _ => .no
/-- Of so many bits, all. -/
def maskZ (w : Int) : Int := (18446744073709551615 : Int).fdiv (2 ^ (64 - w).toNat)
def S_bits_mask : RSpec
  | [.int .i64 w] => .br (decide (1 ≤ w) && decide (w ≤ 64)) (.ok (.int .u64 (maskZ w)) []) .no
  | _ => .no
def andNotU (a b : Int) : Int := u64w (ic (BitVec.toNat (BitVec.ofInt (IntKind.bits IntKind.u64) a &&& ~~~ (BitVec.ofInt (IntKind.bits IntKind.u64) b))))
def putZ (x a w y : Int) : Int := orU (andNotU x (shlU (maskZ w) a.toNat)) (andU (shlU y a.toNat) (shlU (maskZ w) a.toNat))
def getZ (x a w : Int) : Int := andU (x.fdiv (2 ^ a.toNat)) (maskZ w)
def S_bits_Put : RSpec
  | [.int .u64 x, .int .i64 a, .int .i64 w, .int .u64 y] => .br (decide (0 ≤ a) && (decide (a < 64) && (decide (1 ≤ w) && decide (w ≤ 64 - a)))) (.ok (.int .u64 (putZ x a w y)) []) .no
  | _ => .no
def S_bits_Get : RSpec
  | [.int .u64 x, .int .i64 a, .int .i64 w] => .br (decide (0 ≤ a) && (decide (a < 64) && (decide (1 ≤ w) && decide (w ≤ 64 - a)))) (.ok (.int .u64 (getZ x a w)) []) .no
  | _ => .no
def wrap32 (n : Int) : Int := (i64w (n * 2 ^ 32)).fdiv (2 ^ 32)
def S_bits_Wrap : RSpec
  | [.int .i64 n, .int .i64 w] => .br (decide (w = 32)) (.ok (.int .i64 (wrap32 n)) []) .no
  | _ => .no
def signZ (x : Int) : Int := wrap32 (i64w (getZ x 0 32))
def S_bits_Signed : RSpec
  | [.int .u64 x, .int .i64 a, .int .i64 w] => .br (decide (a = 0) && decide (w = 32)) (.ok (.int .i64 (signZ x)) []) .no
  | _ => .no

/-! ### node -/
structure Nd where
  lf : Bool
  v : Int
  f : Int
  a : Int
  l : Int
  r : Int
def Nd.eq (x y : Nd) : Bool := (x.lf == y.lf) && ((x.v == y.v) && ((x.f == y.f) && ((x.a == y.a) && ((x.l == y.l) && ((x.r == y.r) && true)))))
def Nd.zero : Nd := ⟨false, 0, 0, 0, 0, 0⟩
def childB (n : Int) : Bool := decide (1 ≤ n) && decide (n < 31)
def S_node_child : RSpec
  | [.int .i64 n] => .ok (.bool (childB n)) []
  | _ => .no
def rightNd (x : Nd) : Bool :=
  cond x.lf (x.eq ⟨true, x.v, 0, 0, 0, 0⟩ && fits32 x.v)
    ((x.v == 0) && (decide (0 ≤ x.f) && (decide (x.f < 4) && (fits32 x.a && (childB x.l && childB x.r)))))
def S_node_Right : RSpec
  | [.agg [.bool lf, .int .i64 v, .int .i64 f, .int .i64 a, .int .i64 l, .int .i64 r]] => .ok (.bool (rightNd ⟨lf, v, f, a, l, r⟩)) []
  | _ => .no
def packNd (x : Nd) : Int :=
  cond (rightNd x)
    (cond x.lf (putZ 9223372036854775808 0 32 (u64w x.v))
      (putZ (putZ (putZ (putZ 0 0 32 (u64w x.a)) 32 4 (u64w x.f)) 40 8 (u64w x.l)) 48 8 (u64w x.r)))
    0
def S_node_Pack : RSpec
  | [.agg [.bool lf, .int .i64 v, .int .i64 f, .int .i64 a, .int .i64 l, .int .i64 r]] => .ok (.int .u64 (packNd ⟨lf, v, f, a, l, r⟩)) []
  | _ => .no
def readNd (w : Int) : Nd :=
  cond (getZ w 63 1 == 0) ⟨false, 0, i64w (getZ w 32 4), signZ w, i64w (getZ w 40 8), i64w (getZ w 48 8)⟩ ⟨true, signZ w, 0, 0, 0, 0⟩
def nodeB (w : Int) : Bool := !(w == 0) && (packNd (readNd w) == w)
def nodeN (w : Int) : Nd := cond (nodeB w) (readNd w) Nd.zero
def S_node_Unpack : RSpec
  | [.int .u64 w] => .ok (.tup [.agg [.bool (nodeN w).lf, .int .i64 (nodeN w).v, .int .i64 (nodeN w).f, .int .i64 (nodeN w).a, .int .i64 (nodeN w).l, .int .i64 (nodeN w).r], .bool (nodeB w)]) []
  | _ => .no

def S_node_Unpack_1 : RSpec
  | [.int .i64 a, .int .i64 w, .bor [.int .u64 x]] => .br (decide (0 ≤ a) && (decide (a < 64) && (decide (1 ≤ w) && decide (w ≤ 64 - a)))) (.ok (.int .i64 (i64w (getZ x a w))) [[.int .u64 x]]) .no
  | _ => .no

/-! ### tree -/
def named1 (x : Nd) (j : Nat) : Nat := cond x.lf 0 ((if x.l = (j : Int) then 1 else 0) + (if x.r = (j : Int) then 1 else 0))
def namedBy (l : List IV) (j : Nat) : Nat := (l.map fun w => named1 (nodeN w.toInt) j).sum
def forkB (dim n : Int) (i : Nat) (x : Nd) : Bool :=
  cond x.lf true (!(decide (x.f ≥ dim)) && (!(x.l == x.r) && (!(decide (min x.l x.r ≤ (i : Int))) && !(decide (max x.l x.r ≥ n)))))
def nodesB (dim n : Int) : Nat → List IV → Bool
  | _, [] => true
  | i, w :: r => (nodeB w.toInt && forkB dim n i (nodeN w.toInt)) && nodesB dim n (i + 1) r
def onceB (l : List IV) : Bool := (List.range (l.length - 1)).all fun j => namedBy l (j + 1) == 1
def treeB (l : List IV) (dim : Int) : Bool := (Nat.ble 1 l.length && Nat.ble l.length 31) && (nodesB dim (ic l.length) 0 l && onceB l)
def S_tree_Right : RSpec
  | [.list false [.int .u64] l, .int .i64 dim] => .ok (.bool (treeB l dim)) []
  | _ => .no

/-! ### model -/
structure Md where
  d : Int
  c : Int
  b0 : Int
  b1 : Int
  b2 : Int
  ts : List IV
def treeOK (d c : Int) (t : IV) : Bool := !(decide ((t.cell 0).toInt < 0)) && (!(decide ((t.cell 0).toInt ≥ c)) && treeB (t.cell 1).toList d)
def biasB (c : Int) (j b : Int) : Bool := fits32 b && !(decide (j ≥ c) && !(b == 0))
def modelB (m : Md) : Bool :=
  (!(decide (m.d < 1)) && (!(decide (m.d > 4)) && (!(decide (m.c < 1)) && (!(decide (m.c > 3)) && Nat.ble m.ts.length 8)))) &&
    ((biasB m.c 0 m.b0 && (biasB m.c 1 m.b1 && biasB m.c 2 m.b2)) && m.ts.all (treeOK m.d m.c))

abbrev kTree : List Kd := [.int .i64, .list false [.int .u64]]
def S_model_Right_1 : RSpec
  | [.agg [.int .i64 k, .list false [.int .u64] l], .bor [.int .i64 d, .int .i64 c, .int .i64 b0, .int .i64 b1, .int .i64 b2, .list true [.int .i64, .list false [.int .u64]] ts]] =>
    .ok (.bool (!(treeOK d c (.agg [.int k, .list l])))) [[.int .i64 d, .int .i64 c, .int .i64 b0, .int .i64 b1, .int .i64 b2, .list true kTree ts]]
  | _ => .no
def idxBad (d c : Int) : List IV → Int → Int
  | [], _ => -1
  | t :: r, i => cond (treeOK d c t) (idxBad d c r (i + 1)) i
def S_slices_IndexFunc_apiTreeapiTree : RSpec
  | [.list true [.int .i64, .list false [.int .u64]] l, .clo 51 [.bor [.int .i64 d, .int .i64 c, .int .i64 b0, .int .i64 b1, .int .i64 b2, .list true [.int .i64, .list false [.int .u64]] ts]]] =>
    .ok (.int .i64 (idxBad d c l 0)) [[.int .i64 d, .int .i64 c, .int .i64 b0, .int .i64 b1, .int .i64 b2, .list true kTree ts]]
  | _ => .no
def S_slices_ContainsFunc_apiTreeapiTree : RSpec
  | [.list true [.int .i64, .list false [.int .u64]] l, .clo 51 [.bor [.int .i64 d, .int .i64 c, .int .i64 b0, .int .i64 b1, .int .i64 b2, .list true [.int .i64, .list false [.int .u64]] ts]]] =>
    .ok (.bool (!(l.all (treeOK d c)))) [[.int .i64 d, .int .i64 c, .int .i64 b0, .int .i64 b1, .int .i64 b2, .list true kTree ts]]
  | _ => .no
def S_model_Right : RSpec
  | [.agg [.int .i64 d, .int .i64 c, .int .i64 b0, .int .i64 b1, .int .i64 b2, .list true [.int .i64, .list false [.int .u64]] ts]] => .ok (.bool (modelB ⟨d, c, b0, b1, b2, ts⟩)) []
  | _ => .no

/-! ### text -/
abbrev w_forest : ByteArray := ⟨#[102, 111, 114, 101, 115, 116]⟩
abbrev w_bias : ByteArray := ⟨#[98, 105, 97, 115]⟩
abbrev w_tree : ByteArray := ⟨#[116, 114, 101, 101]⟩
abbrev w_leaf : ByteArray := ⟨#[108, 101, 97, 102]⟩
abbrev w_if : ByteArray := ⟨#[105, 102]⟩
abbrev w_le : ByteArray := ⟨#[60, 61]⟩
abbrev w_then : ByteArray := ⟨#[116, 104, 101, 110]⟩
abbrev w_else : ByteArray := ⟨#[101, 108, 115, 101]⟩
abbrev w_lf : ByteArray := ⟨#[10]⟩
def lineB (ws : List ByteArray) : ByteArray := joinB ws w_space ++ w_lf
def textB : List (List ByteArray) → ByteArray
  | [] => ByteArray.empty
  | l :: r => lineB l ++ textB r
def nodeW (x : Nd) : List ByteArray :=
  cond x.lf [w_leaf, printB x.v] [w_if, itoaB x.f, w_le, printB x.a, w_then, itoaB x.l, w_else, itoaB x.r]
def nodesW (l : List IV) : List (List ByteArray) := l.map fun w => nodeW (nodeN w.toInt)
def treeW (t : IV) : List (List ByteArray) := [w_tree, itoaB (t.cell 0).toInt, itoaB (ic (t.cell 1).toList.length)] :: nodesW (t.cell 1).toList
def treesW : List IV → List (List ByteArray)
  | [] => []
  | t :: r => treeW t ++ treesW r
def headM (m : Md) : List (List ByteArray) := [[w_forest, itoaB m.d, itoaB m.c], w_bias :: ([m.b0, m.b1, m.b2].take m.c.toNat).map printB]
def linesM (m : Md) : List (List ByteArray) := headM m ++ treesW m.ts
def printM (m : Md) : ByteArray := cond (modelB m) (textB (linesM m)) w_none

/-- A count, if it is no more than so many. -/
def cntT (s : ByteArray) (most : Int) : Int := cond (atoiN s && (!(decide (atoiV s < 0)) && !(decide (atoiV s > most)))) (atoiV s) 0
def nextW (ls : List IV) : List IV := match ls with | [] => [] | l :: _ => lineW l.toStr
def rdNd (l : List IV) : Nd :=
  cond ((wAt l 0).toList == w_leaf.toList) ⟨true, decV (wAt l 1), 0, 0, 0, 0⟩ ⟨false, 0, cntT (wAt l 1) 4, decV (wAt l 3), cntT (wAt l 5) 31, cntT (wAt l 7) 31⟩
def rdNodes (ls : List IV) (k : Nat) : List IV := (List.range k).map fun i => .int (packNd (rdNd (nextW (ls.drop i))))
def rdK (ls : List IV) : Nat := (cntT (wAt (nextW ls) 2) 31).toNat
def rdTree (ls : List IV) : IV := .agg [.int (cntT (wAt (nextW ls) 1) 3), .list (rdNodes (ls.drop 1) (rdK ls))]
def rdTrees : Nat → List IV → List IV
  | 0, _ => []
  | n + 1, ls => match ls with
    | [] => []
    | l :: r => rdTree (l :: r) :: rdTrees n (r.drop (rdK (l :: r)))
def rdBias (ls : List IV) (c : Int) (j : Nat) : Int := cond (decide ((j : Int) < c)) (decV (wAt (nextW (ls.drop 1)) (1 + j))) 0
def rdC (ls : List IV) : Int := cntT (wAt (nextW ls) 2) 3
def rdModel (ls : List IV) : Md := ⟨cntT (wAt (nextW ls) 1) 4, rdC ls, rdBias ls (rdC ls) 0, rdBias ls (rdC ls) 1, rdBias ls (rdC ls) 2, rdTrees 9 (ls.drop 2)⟩
def hasSuf (s t : ByteArray) : Bool := decide (t.size ≤ s.size) && (s.extract (s.size - t.size) s.size).toList == t.toList
def trimSuf (s t : ByteArray) : ByteArray := cond (hasSuf s t) (s.extract 0 (s.size - t.size)) s
def trimLF (s : ByteArray) : ByteArray := trimSuf s w_lf
def linesOf (s : ByteArray) : List IV := (splitL (trimLF s) w_lf).map IV.str
def candM (s : ByteArray) : Md := rdModel (linesOf s)
def Md.zero : Md := ⟨0, 0, 0, 0, 0, []⟩
def textOK (s : ByteArray) : Bool := !(s.toList == w_none.toList) && (printM (candM s)).toList == s.toList
def textM (s : ByteArray) : Md := cond (textOK s) (candM s) Md.zero

def okTexts (l : List IV) : Bool := l.all fun x => decide (x.toStr.size < 4294967281)
def S_text_line : RSpec
  | [.bor [.bld s], .list false [.str] ws] => .br (Nat.ble ws.length 1000 && decide (s.size + (lineB (ws.map IV.toStr)).size ≤ 1000000000)) (.ok (.tup []) [[.bld (s ++ lineB (ws.map IV.toStr))]]) .no
  | _ => .no
def S_text_Print : RSpec
  | [.agg [.int .i64 d, .int .i64 c, .int .i64 b0, .int .i64 b1, .int .i64 b2, .list true [.int .i64, .list false [.int .u64]] ts]] => .ok (.str (printM ⟨d, c, b0, b1, b2, ts⟩)) []
  | _ => .no
def S_text_reader_next : RSpec
  | [.bor [.list false [.str] ls]] => .br (okTexts ls) (.ok (.list false [.str] (nextW ls)) [[.list false [.str] (ls.drop 1)]]) .no
  | _ => .no
def S_text_word : RSpec
  | [.list false [.str] l, .int .i64 i] => .br (decide (0 ≤ i)) (.ok (.str (wAt l i.toNat)) []) .no
  | _ => .no
def S_text_count : RSpec
  | [.str s, .int .i64 most] => .ok (.int .i64 (cntT s most)) []
  | _ => .no
def S_text_scan : RSpec
  | [.str s] => .br (decide (s.size < 4294967281)) (.ok (.int .i64 (decV s)) []) .no
  | _ => .no
def S_text_reader_node : RSpec
  | [.bor [.list false [.str] ls]] => .br (okTexts ls) (.ok (.int .u64 (packNd (rdNd (nextW ls)))) [[.list false [.str] (ls.drop 1)]]) .no
  | _ => .no
def S_internal_stringslite_HasSuffix : RSpec
  | [.str s, .str t] => .ok (.bool (hasSuf s t)) []
  | _ => .no
def S_internal_stringslite_TrimSuffix : RSpec
  | [.str s, .str t] => .ok (.str (trimSuf s t)) []
  | _ => .no
def S_strings_TrimSuffix : RSpec
  | [.str s, .str t] => .ok (.str (trimSuf s t)) []
  | _ => .no
def S_text_Parse : RSpec
  | [.str s] => .br (decide (s.size < 4294967281)) (.ok (.tup [.agg [.int .i64 (textM s).d, .int .i64 (textM s).c, .int .i64 (textM s).b0, .int .i64 (textM s).b1, .int .i64 (textM s).b2, .list true kTree (textM s).ts], .bool (textOK s)]) []) .no
  | _ => .no
def sameI : List IV → List IV → Bool
  | [], [] => true
  | x :: r, y :: r' => (x.toInt == y.toInt) && sameI r r'
  | _, _ => false
def S_copsebook_Same_uint64 : RSpec
  | [.list false [.int .u64] a, .list false [.int .u64] b] => .ok (.bool (sameI a b)) []
  | _ => .no
def sameT : List IV → List IV → Bool
  | [], [] => true
  | x :: r, y :: r' => ((x.cell 0).toInt == (y.cell 0).toInt && sameI (x.cell 1).toList (y.cell 1).toList) && sameT r r'
  | _, _ => false
def sameM (m n : Md) : Bool := (m.d == n.d) && ((m.c == n.c) && (((m.b0 == n.b0) && ((m.b1 == n.b1) && (m.b2 == n.b2))) && sameT m.ts n.ts))
def S_copsekeep_Models : RSpec
  | [.agg [.int .i64 d, .int .i64 c, .int .i64 b0, .int .i64 b1, .int .i64 b2, .list true [.int .i64, .list false [.int .u64]] ts], .agg [.int .i64 d', .int .i64 c', .int .i64 b0', .int .i64 b1', .int .i64 b2', .list true [.int .i64, .list false [.int .u64]] ts']] =>
    .ok (.bool (sameM ⟨d, c, b0, b1, b2, ts⟩ ⟨d', c', b0', b1', b2', ts'⟩)) []
  | _ => .no
def S_copselaw9_TextRuns : RSpec
  | [] => .ok (.bool true) []
  | _ => .no

end Go.FM

/-
  NORMAL FORMS: what the functions' runs come to (written by a program of this claim's own, checked by the kernel).
-/
namespace Go.FM
open Go Go.Proofs

/-! ### copse/bits.Fits -/
def E_bits_Fits (N : Nat) : Env := mkE [] [] 25 N

theorem nf_bits_Fits (N : Nat) (n : Int) (w : Int) : evFun (E_bits_Fits N) c_bits_Fits [.tmp 4] [[.bool]] [(.int .i64 n), (.int .i64 w)] =
  (cond (decide (w < 1))
  (some ((.bool false), []))
  (cond (decide (w > 64))
    (some ((.bool false), []))
    (cond (decide (IntKind.wrap IntKind.u64 (IntKind.wrap IntKind.i64 (w - 1)) < 0))
      none
      (cond (Int.fdiv n (2 ^ min (Int.toNat (IntKind.wrap IntKind.u64 (IntKind.wrap IntKind.i64 (w - 1)))) (IntKind.bits IntKind.i64)) == 0)
        (some ((.bool true), []))
        (cond (decide (IntKind.wrap IntKind.u64 (IntKind.wrap IntKind.i64 (w - 1)) < 0))
          none
          (some ((.bool (Int.fdiv n (2 ^ min (Int.toNat (IntKind.wrap IntKind.u64 (IntKind.wrap IntKind.i64 (w - 1)))) (IntKind.bits IntKind.i64)) == -1)), []))))))) := by kernel_rfl

/-! ### copse/bits.Wrap -/
def E_bits_Wrap (N : Nat) : Env := mkE [] [] 21 N

theorem nf_bits_Wrap (N : Nat) (n : Int) (w : Int) : evFun (E_bits_Wrap N) c_bits_Wrap [.tmp 4] [[.int .i64]] [(.int .i64 n), (.int .i64 w)] =
  (cond (decide (w < 1))
  (some ((.int .i64 n), []))
  (cond (decide (w ≥ 64))
    (some ((.int .i64 n), []))
    (cond (decide (IntKind.wrap IntKind.u64 (IntKind.wrap IntKind.i64 (64 - w)) < 0))
      none
      (cond (decide (IntKind.wrap IntKind.u64 (IntKind.wrap IntKind.i64 (64 - w)) < 0))
        none
        (some ((.int .i64 (Int.fdiv (IntKind.wrap IntKind.i64 (n * 2 ^ min (Int.toNat (IntKind.wrap IntKind.u64 (IntKind.wrap IntKind.i64 (64 - w)))) (IntKind.bits IntKind.i64))) (2 ^ min (Int.toNat (IntKind.wrap IntKind.u64 (IntKind.wrap IntKind.i64 (64 - w)))) (IntKind.bits IntKind.i64)))), [])))))) := by kernel_rfl

/-! ### copse/bits.field -/
def E_bits_field (N : Nat) : Env := mkE [] [] 21 N

theorem nf_bits_field (N : Nat) (atv : Int) (w : Int) : evFun (E_bits_field N) c_bits_field [.tmp 4] [[.bool]] [(.int .i64 atv), (.int .i64 w)] =
  (cond (decide (atv ≥ 0))
  (cond (decide (atv < 64))
    (cond (decide (w ≥ 1))
      (some ((.bool (decide (w ≤ IntKind.wrap IntKind.i64 (64 - atv)))), []))
      (some ((.bool false), [])))
    (some ((.bool false), [])))
  (some ((.bool false), []))) := by kernel_rfl

/-! ### copse/bits.mask -/
def E_bits_mask (N : Nat) : Env := mkE [] [] 7 N

theorem nf_bits_mask (N : Nat) (w : Int) : evFun (E_bits_mask N) c_bits_mask [.tmp 2] [[.int .u64]] [(.int .i64 w)] =
  (cond (decide (IntKind.wrap IntKind.u64 (IntKind.wrap IntKind.i64 (64 - w)) < 0))
  none
  (some ((.int .u64 (Int.fdiv 18446744073709551615 (2 ^ min (Int.toNat (IntKind.wrap IntKind.u64 (IntKind.wrap IntKind.i64 (64 - w)))) (IntKind.bits IntKind.u64)))), []))) := by kernel_rfl

/-! ### copse/bits.Put -/
def E_bits_Put (N : Nat) : Env := mkE [(79, S_bits_field), (80, S_bits_mask)] [] 30 N

theorem nf_bits_Put (N : Nat) (x : Int) (atv : Int) (w : Int) (y : Int) : evFun (E_bits_Put N) c_bits_Put [.tmp 8] [[.int .u64]] [(.int .u64 x), (.int .i64 atv), (.int .i64 w), (.int .u64 y)] =
  (cond (decide (0 ≤ atv) && decide (atv < 64))
  (cond (!(decide (1 ≤ w) && decide (w ≤ 64 - atv)))
    (some ((.int .u64 x), []))
    (cond (decide (1 ≤ w) && decide (w ≤ 64))
      (cond (decide (IntKind.wrap IntKind.u64 atv < 0))
        none
        (cond (decide (IntKind.wrap IntKind.u64 atv < 0))
          none
          (some ((.int .u64 (IntKind.wrap IntKind.u64 (ic (BitVec.toNat (BitVec.ofInt (IntKind.bits IntKind.u64) (IntKind.wrap IntKind.u64 (ic (BitVec.toNat (BitVec.ofInt (IntKind.bits IntKind.u64) x &&& ~~~BitVec.ofInt (IntKind.bits IntKind.u64) (IntKind.wrap IntKind.u64 (maskZ w * 2 ^ min (Int.toNat (IntKind.wrap IntKind.u64 atv)) (IntKind.bits IntKind.u64))))))) ||| BitVec.ofInt (IntKind.bits IntKind.u64) (IntKind.wrap IntKind.u64 (ic (BitVec.toNat (BitVec.ofInt (IntKind.bits IntKind.u64) (IntKind.wrap IntKind.u64 (y * 2 ^ min (Int.toNat (IntKind.wrap IntKind.u64 atv)) (IntKind.bits IntKind.u64))) &&& BitVec.ofInt (IntKind.bits IntKind.u64) (IntKind.wrap IntKind.u64 (maskZ w * 2 ^ min (Int.toNat (IntKind.wrap IntKind.u64 atv)) (IntKind.bits IntKind.u64)))))))))))), []))))
      none))
  none) := by kernel_rfl

/-! ### copse/bits.Get -/
def E_bits_Get (N : Nat) : Env := mkE [(79, S_bits_field), (80, S_bits_mask)] [] 18 N

theorem nf_bits_Get (N : Nat) (x : Int) (atv : Int) (w : Int) : evFun (E_bits_Get N) c_bits_Get [.tmp 6] [[.int .u64]] [(.int .u64 x), (.int .i64 atv), (.int .i64 w)] =
  (cond (decide (0 ≤ atv) && decide (atv < 64))
  (cond (!(decide (1 ≤ w) && decide (w ≤ 64 - atv)))
    (some ((.int .u64 0), []))
    (cond (decide (IntKind.wrap IntKind.u64 atv < 0))
      none
      (cond (decide (1 ≤ w) && decide (w ≤ 64))
        (some ((.int .u64 (IntKind.wrap IntKind.u64 (ic (BitVec.toNat (BitVec.ofInt (IntKind.bits IntKind.u64) (Int.fdiv x (2 ^ min (Int.toNat (IntKind.wrap IntKind.u64 atv)) (IntKind.bits IntKind.u64))) &&& BitVec.ofInt (IntKind.bits IntKind.u64) (maskZ w)))))), []))
        none)))
  none) := by kernel_rfl

/-! ### copse/bits.Signed -/
def E_bits_Signed (N : Nat) : Env := mkE [(73, S_bits_Get), (78, S_bits_Wrap)] [] 14 N

theorem nf_bits_Signed (N : Nat) (x : Int) (atv : Int) (w : Int) : evFun (E_bits_Signed N) c_bits_Signed [.tmp 6] [[.int .i64]] [(.int .u64 x), (.int .i64 atv), (.int .i64 w)] =
  (cond (decide (0 ≤ atv) && (decide (atv < 64) && (decide (1 ≤ w) && decide (w ≤ 64 - atv))))
  (cond (decide (w = 32))
    (some ((.int .i64 (wrap32 (IntKind.wrap IntKind.i64 (getZ x atv w)))), []))
    none)
  none) := by kernel_rfl

/-! ### copse/node.child -/
def E_node_child (N : Nat) : Env := mkE [] [] 9 N

theorem nf_node_child (N : Nat) (n : Int) : evFun (E_node_child N) c_node_child [.tmp 2] [[.bool]] [(.int .i64 n)] =
  (cond (decide (n ≥ 1))
  (some ((.bool (decide (n < 31))), []))
  (some ((.bool false), []))) := by kernel_rfl

/-! ### copse/node.Right -/
def E_node_Right (N : Nat) : Env := mkE [(49, S_bits_Fits), (94, S_node_child)] [] 43 N

theorem nf_node_Right (N : Nat) (n_Leaf : Bool) (n_Value : Int) (n_Feature : Int) (n_At : Int) (n_Left : Int) (n_Right : Int) : evFun (E_node_Right N) c_node_Right [.tmp 2] [[.bool]] [(.agg [(.bool n_Leaf), (.int .i64 n_Value), (.int .i64 n_Feature), (.int .i64 n_At), (.int .i64 n_Left), (.int .i64 n_Right)])] =
  (cond n_Leaf
  (cond (n_Leaf == true && (n_Value == n_Value && (n_Feature == 0 && (n_At == 0 && (n_Left == 0 && (n_Right == 0 && true))))))
    (some ((.bool (fits32 n_Value)), []))
    (some ((.bool false), [])))
  (cond (n_Value == 0)
    (cond (decide (n_Feature ≥ 0))
      (cond (decide (n_Feature < 4))
        (cond (fits32 n_At)
          (cond (childB n_Left)
            (some ((.bool (childB n_Right)), []))
            (some ((.bool false), [])))
          (some ((.bool false), [])))
        (some ((.bool false), [])))
      (some ((.bool false), [])))
    (some ((.bool false), [])))) := by kernel_rfl

/-! ### copse/node.Pack -/
def E_node_Pack (N : Nat) : Env := mkE [(82, S_bits_Put), (81, S_node_Right)] [] 32 N

theorem nf_node_Pack (N : Nat) (n_Leaf : Bool) (n_Value : Int) (n_Feature : Int) (n_At : Int) (n_Left : Int) (n_Right : Int) : evFun (E_node_Pack N) c_node_Pack [.tmp 2] [[.int .u64]] [(.agg [(.bool n_Leaf), (.int .i64 n_Value), (.int .i64 n_Feature), (.int .i64 n_At), (.int .i64 n_Left), (.int .i64 n_Right)])] =
  (cond (!rightNd { lf := n_Leaf, v := n_Value, f := n_Feature, a := n_At, l := n_Left, r := n_Right })
  (some ((.int .u64 0), []))
  (cond n_Leaf
    (some ((.int .u64 (putZ 9223372036854775808 0 32 (IntKind.wrap IntKind.u64 n_Value))), []))
    (some ((.int .u64 (putZ (putZ (putZ (putZ 0 0 32 (IntKind.wrap IntKind.u64 n_At)) 32 4 (IntKind.wrap IntKind.u64 n_Feature)) 40 8 (IntKind.wrap IntKind.u64 n_Left)) 48 8 (IntKind.wrap IntKind.u64 n_Right))), [])))) := by kernel_rfl

/-! ### copse/node.Unpack$1 -/
def E_node_Unpack_1 (N : Nat) : Env := mkE [(73, S_bits_Get)] [] 11 N

theorem nf_node_Unpack_1 (N : Nat) (a : Int) (w : Int) (x : Int) : evFun (E_node_Unpack_1 N) c_node_Unpack_1 [.tmp 5] [[.int .i64]] [(.int .i64 a), (.int .i64 w), (.bor [.int .u64 x])] =
  (cond (decide (0 ≤ a) && (decide (a < 64) && (decide (1 ≤ w) && decide (w ≤ 64 - a))))
  (some ((.int .i64 (IntKind.wrap IntKind.i64 (getZ x a w))), [[(.int .u64 x)]]))
  none) := by kernel_rfl

/-! ### copse/node.Unpack -/
def E_node_Unpack (N : Nat) : Env := mkE [(73, S_bits_Get), (72, S_bits_Signed), (75, S_node_Pack), (74, S_node_Unpack_1)] [] 33 N

theorem nf_node_Unpack (N : Nat) (w : Int) : evFun (E_node_Unpack N) c_node_Unpack [.cell 2 25, .tmp 3] [[.bool, .int .i64, .int .i64, .int .i64, .int .i64, .int .i64], [.bool]] [(.int .u64 w)] =
  (cond (getZ w 63 1 == 0)
  (cond (w == 0)
    (some ((.tup [(.agg [(.bool false), (.int .i64 0), (.int .i64 0), (.int .i64 0), (.int .i64 0), (.int .i64 0)]), (.bool false)]), []))
    (cond (packNd { lf := false, v := 0, f := i64w (getZ w 32 4), a := signZ w, l := i64w (getZ w 40 8), r := i64w (getZ w 48 8) } != w)
      (some ((.tup [(.agg [(.bool false), (.int .i64 0), (.int .i64 0), (.int .i64 0), (.int .i64 0), (.int .i64 0)]), (.bool false)]), []))
      (some ((.tup [(.agg [(.bool false), (.int .i64 0), (.int .i64 (i64w (getZ w 32 4))), (.int .i64 (signZ w)), (.int .i64 (i64w (getZ w 40 8))), (.int .i64 (i64w (getZ w 48 8)))]), (.bool true)]), []))))
  (cond (w == 0)
    (some ((.tup [(.agg [(.bool false), (.int .i64 0), (.int .i64 0), (.int .i64 0), (.int .i64 0), (.int .i64 0)]), (.bool false)]), []))
    (cond (packNd { lf := true, v := signZ w, f := 0, a := 0, l := 0, r := 0 } != w)
      (some ((.tup [(.agg [(.bool false), (.int .i64 0), (.int .i64 0), (.int .i64 0), (.int .i64 0), (.int .i64 0)]), (.bool false)]), []))
      (some ((.tup [(.agg [(.bool true), (.int .i64 (signZ w)), (.int .i64 0), (.int .i64 0), (.int .i64 0), (.int .i64 0)]), (.bool true)]), []))))) := by kernel_rfl

end Go.FM

/-
  bits' AND node's FUNCTIONS COME TO WHAT IS SAID.
-/
namespace Go.FM
open Go Go.Proofs

theorem u64_id {n : Int} (h0 : 0 ≤ n) (h1 : n < 18446744073709551616) : IntKind.wrap IntKind.u64 n = n := by
  rw [u64_wrap]
  omega

set_option maxRecDepth 100000 in
theorem snd_bits_Fits : SndR PR B0 49 S_bits_Fits := by
  refine snd_mk [] [] S_bits_Fits [[.bool]] Try.func49 h_bits_Fits trivial ?_
  intro vs r hwf h
  unfold S_bits_Fits at h
  split at h
  · rename_i n w
    cases hc : decide (w = 32) with
    | false => rw [hc] at h; simp [R.get] at h
    | true =>
      rw [hc, R.get_br, condT, R.get_ok] at h
      have hc := of_decide_eq_true hc
      subst hc
      refine ⟨0, ?_⟩
      rw [← h]
      refine (nf_bits_Fits 0 n 32).trans ?_
      have e3 : decide (IntKind.wrap IntKind.u64 (IntKind.wrap IntKind.i64 ((32 : Int) - 1)) < 0) = false := by kernel_rfl
      have e4 : (2 : Int) ^ min (Int.toNat (IntKind.wrap IntKind.u64 (IntKind.wrap IntKind.i64 ((32 : Int) - 1)))) (IntKind.bits IntKind.i64) = 2147483648 := by kernel_rfl
      rw [e3, e4, decide_eq_false (show ¬ (32 : Int) < 1 by omega), decide_eq_false (show ¬ (32 : Int) > 64 by omega), condF, condF, condF, condF]
      have h0 := Int.fdiv_mul_add_fmod n 2147483648
      have h1 := Int.fmod_nonneg_of_pos n (show (0 : Int) < 2147483648 by omega)
      have h2 := Int.fmod_lt_of_pos n (show (0 : Int) < 2147483648 by omega)
      generalize Int.fdiv n 2147483648 = q at h0 ⊢
      generalize Int.fmod n 2147483648 = m at h0 h1 h2
      unfold fits32
      rw [beq_dec, beq_dec]
      cases hq : decide (q = 0) with
      | true =>
        have hq := of_decide_eq_true hq
        rw [decide_eq_true (show -2147483648 ≤ n by omega), decide_eq_true (show n ≤ 2147483647 by omega)]
        rfl
      | false =>
        have hq := of_decide_eq_false hq
        cases hp : decide (q = -1) with
        | true =>
          have hp := of_decide_eq_true hp
          rw [decide_eq_true (show -2147483648 ≤ n by omega), decide_eq_true (show n ≤ 2147483647 by omega)]
          rfl
        | false =>
          have hp := of_decide_eq_false hp
          rw [condF]
          congr 3
          symm
          rw [Bool.and_eq_false_iff, decide_eq_false_iff_not, decide_eq_false_iff_not]
          omega
  · simp [R.get] at h

set_option maxRecDepth 100000 in
theorem snd_bits_Wrap : SndR PR B0 78 S_bits_Wrap := by
  refine snd_mk [] [] S_bits_Wrap [[.int .i64]] Try.func78 h_bits_Wrap trivial ?_
  intro vs r hwf h
  unfold S_bits_Wrap at h
  split at h
  · rename_i n w
    cases hc : decide (w = 32) with
    | false => rw [hc] at h; simp [R.get] at h
    | true =>
      rw [hc, R.get_br, condT, R.get_ok] at h
      have hc := of_decide_eq_true hc
      subst hc
      refine ⟨0, ?_⟩
      rw [← h]
      refine (nf_bits_Wrap 0 n 32).trans ?_
      have e3 : decide (IntKind.wrap IntKind.u64 (IntKind.wrap IntKind.i64 ((64 : Int) - 32)) < 0) = false := by kernel_rfl
      have e4 : min (Int.toNat (IntKind.wrap IntKind.u64 (IntKind.wrap IntKind.i64 ((64 : Int) - 32)))) (IntKind.bits IntKind.i64) = 32 := by kernel_rfl
      rw [e3, e4, decide_eq_false (show ¬ (32 : Int) < 1 by omega), decide_eq_false (show ¬ (32 : Int) ≥ 64 by omega), condF, condF, condF, condF]
      rfl
  · simp [R.get] at h

set_option maxRecDepth 100000 in
theorem snd_bits_field : SndR PR B0 79 S_bits_field := by
  refine snd_mk [] [] S_bits_field [[.bool]] Try.func79 h_bits_field trivial ?_
  intro vs r hwf h
  unfold S_bits_field at h
  split at h
  · rename_i a w
    cases hc : (decide (0 ≤ a) && decide (a < 64)) with
    | false => rw [hc] at h; simp [R.get] at h
    | true =>
      rw [hc, R.get_br, condT, R.get_ok] at h
      rw [Bool.and_eq_true, decide_eq_true_eq, decide_eq_true_eq] at hc
      refine ⟨0, ?_⟩
      rw [← h]
      refine (nf_bits_field 0 a w).trans ?_
      have e : IntKind.wrap IntKind.i64 (64 - a) = 64 - a := wrap_id (by omega) (by omega)
      have e1 : decide (w ≥ 1) = decide (1 ≤ w) := rfl
      rw [decide_eq_true (show a ≥ 0 by omega), decide_eq_true hc.2, condT, condT, e, e1]
      cases decide (1 ≤ w) <;> rfl
  · simp [R.get] at h

set_option maxRecDepth 100000 in
theorem snd_bits_mask : SndR PR B0 80 S_bits_mask := by
  refine snd_mk [] [] S_bits_mask [[.int .u64]] Try.func80 h_bits_mask trivial ?_
  intro vs r hwf h
  unfold S_bits_mask at h
  split at h
  · rename_i w
    cases hc : (decide (1 ≤ w) && decide (w ≤ 64)) with
    | false => rw [hc] at h; simp [R.get] at h
    | true =>
      rw [hc, R.get_br, condT, R.get_ok] at h
      rw [Bool.and_eq_true, decide_eq_true_eq, decide_eq_true_eq] at hc
      refine ⟨0, ?_⟩
      rw [← h]
      refine (nf_bits_mask 0 w).trans ?_
      have e : IntKind.wrap IntKind.i64 (64 - w) = 64 - w := wrap_id (by omega) (by omega)
      have e2 : IntKind.wrap IntKind.u64 (64 - w) = 64 - w := u64_id (by omega) (by omega)
      have e3 : min (64 - w).toNat (IntKind.bits IntKind.u64) = (64 - w).toNat := by
        have : IntKind.bits IntKind.u64 = 64 := rfl
        omega
      rw [e, e2, e3, decide_eq_false (show ¬ (64 - w < 0) by omega), condF]
      rfl
  · simp [R.get] at h

theorem field_get {a w : Int} (hc : (decide (0 ≤ a) && (decide (a < 64) && (decide (1 ≤ w) && decide (w ≤ 64 - a)))) = true) : 0 ≤ a ∧ a < 64 ∧ 1 ≤ w ∧ w ≤ 64 - a := by
  simpa only [Bool.and_eq_true, decide_eq_true_eq] using hc

set_option maxRecDepth 100000 in
theorem snd_bits_Put : SndR PR B0 82 S_bits_Put := by
  refine snd_mk [(79, S_bits_field), (80, S_bits_mask)] [] S_bits_Put [[.int .u64]] Try.func82 h_bits_Put ⟨snd_bits_field, snd_bits_mask, trivial⟩ ?_
  intro vs r hwf h
  unfold S_bits_Put at h
  split at h
  · rename_i x a w y
    cases hc : (decide (0 ≤ a) && (decide (a < 64) && (decide (1 ≤ w) && decide (w ≤ 64 - a)))) with
    | false => rw [hc] at h; simp [R.get] at h
    | true =>
      rw [hc, R.get_br, condT, R.get_ok] at h
      obtain ⟨h1, h2, h3, h4⟩ := field_get hc
      refine ⟨0, ?_⟩
      rw [← h]
      refine (nf_bits_Put 0 x a w y).trans ?_
      have e2 : IntKind.wrap IntKind.u64 a = a := u64_id (by omega) (by omega)
      have e3 : min a.toNat (IntKind.bits IntKind.u64) = a.toNat := by
        have : IntKind.bits IntKind.u64 = 64 := rfl
        omega
      rw [e2, e3, decide_eq_true h1, decide_eq_true h2, decide_eq_true h3, decide_eq_true h4, decide_eq_true (show w ≤ 64 by omega), decide_eq_false (show ¬ a < 0 by omega)]
      simp only [Bool.and_self, Bool.not_true, condT, condF]
      rfl
  · simp [R.get] at h

set_option maxRecDepth 100000 in
theorem snd_bits_Get : SndR PR B0 73 S_bits_Get := by
  refine snd_mk [(79, S_bits_field), (80, S_bits_mask)] [] S_bits_Get [[.int .u64]] Try.func73 h_bits_Get ⟨snd_bits_field, snd_bits_mask, trivial⟩ ?_
  intro vs r hwf h
  unfold S_bits_Get at h
  split at h
  · rename_i x a w
    cases hc : (decide (0 ≤ a) && (decide (a < 64) && (decide (1 ≤ w) && decide (w ≤ 64 - a)))) with
    | false => rw [hc] at h; simp [R.get] at h
    | true =>
      rw [hc, R.get_br, condT, R.get_ok] at h
      obtain ⟨h1, h2, h3, h4⟩ := field_get hc
      refine ⟨0, ?_⟩
      rw [← h]
      refine (nf_bits_Get 0 x a w).trans ?_
      have e2 : IntKind.wrap IntKind.u64 a = a := u64_id (by omega) (by omega)
      have e3 : min a.toNat (IntKind.bits IntKind.u64) = a.toNat := by
        have : IntKind.bits IntKind.u64 = 64 := rfl
        omega
      rw [e2, e3, decide_eq_true h1, decide_eq_true h2, decide_eq_true h3, decide_eq_true h4, decide_eq_true (show w ≤ 64 by omega), decide_eq_false (show ¬ a < 0 by omega)]
      simp only [Bool.and_self, Bool.not_true, condT, condF]
      rfl
  · simp [R.get] at h

set_option maxRecDepth 100000 in
theorem snd_bits_Signed : SndR PR B0 72 S_bits_Signed := by
  refine snd_mk [(73, S_bits_Get), (78, S_bits_Wrap)] [] S_bits_Signed [[.int .i64]] Try.func72 h_bits_Signed ⟨snd_bits_Get, snd_bits_Wrap, trivial⟩ ?_
  intro vs r hwf h
  unfold S_bits_Signed at h
  split at h
  · rename_i x a w
    cases hc : (decide (a = 0) && decide (w = 32)) with
    | false => rw [hc] at h; simp [R.get] at h
    | true =>
      rw [hc, R.get_br, condT, R.get_ok] at h
      rw [Bool.and_eq_true, decide_eq_true_eq, decide_eq_true_eq] at hc
      obtain ⟨rfl, rfl⟩ := hc
      refine ⟨0, ?_⟩
      rw [← h]
      refine (nf_bits_Signed 0 x 0 32).trans ?_
      rfl
  · simp [R.get] at h

set_option maxRecDepth 100000 in
theorem snd_node_child : SndR PR B0 94 S_node_child := by
  refine snd_mk [] [] S_node_child [[.bool]] Try.func94 h_node_child trivial ?_
  intro vs r hwf h
  unfold S_node_child at h
  split at h
  · rename_i n
    refine ⟨0, ?_⟩
    rw [R.get_ok] at h
    rw [← h]
    refine (nf_node_child 0 n).trans ?_
    unfold childB
    have e1 : decide (n ≥ 1) = decide (1 ≤ n) := rfl
    rw [e1]
    cases decide (1 ≤ n) <;> rfl
  · simp [R.get] at h

set_option maxRecDepth 100000 in
theorem snd_node_Right : SndR PR B0 81 S_node_Right := by
  refine snd_mk [(49, S_bits_Fits), (94, S_node_child)] [] S_node_Right [[.bool]] Try.func81 h_node_Right ⟨snd_bits_Fits, snd_node_child, trivial⟩ ?_
  intro vs r hwf h
  unfold S_node_Right at h
  split at h
  · rename_i lf v f a l r'
    refine ⟨0, ?_⟩
    rw [← h]
    refine (nf_node_Right 0 lf v f a l r').trans ?_
    simp only [R.get_ok, cond_andb]
    unfold rightNd
    cases lf with
    | true => rfl
    | false => rfl
  · simp [R.get] at h

set_option maxRecDepth 100000 in
theorem snd_node_Pack : SndR PR B0 75 S_node_Pack := by
  refine snd_mk [(82, S_bits_Put), (81, S_node_Right)] [] S_node_Pack [[.int .u64]] Try.func75 h_node_Pack ⟨snd_bits_Put, snd_node_Right, trivial⟩ ?_
  intro vs r hwf h
  unfold S_node_Pack at h
  split at h
  · rename_i lf v f a l r'
    refine ⟨0, ?_⟩
    rw [← h]
    refine (nf_node_Pack 0 lf v f a l r').trans ?_
    unfold packNd
    cases rightNd ⟨lf, v, f, a, l, r'⟩ with
    | false => rfl
    | true => cases lf <;> rfl
  · simp [R.get] at h

set_option maxRecDepth 100000 in
theorem snd_node_Unpack_1 : SndR PR B0 74 S_node_Unpack_1 := by
  refine snd_mk [(73, S_bits_Get)] [] S_node_Unpack_1 [[.int .i64]] Try.func74 h_node_Unpack_1 ⟨snd_bits_Get, trivial⟩ ?_
  intro vs r hwf h
  unfold S_node_Unpack_1 at h
  split at h
  · rename_i a w x
    cases hc : (decide (0 ≤ a) && (decide (a < 64) && (decide (1 ≤ w) && decide (w ≤ 64 - a)))) with
    | false => rw [hc] at h; simp [R.get] at h
    | true =>
      rw [hc, R.get_br, condT, R.get_ok] at h
      refine ⟨0, ?_⟩
      rw [← h]
      refine (nf_node_Unpack_1 0 a w x).trans ?_
      rw [hc]
      rfl
  · simp [R.get] at h

set_option maxRecDepth 100000 in
theorem snd_node_Unpack : SndR PR B0 66 S_node_Unpack := by
  refine snd_mk [(73, S_bits_Get), (72, S_bits_Signed), (75, S_node_Pack), (74, S_node_Unpack_1)] [] S_node_Unpack [[.bool, .int .i64, .int .i64, .int .i64, .int .i64, .int .i64], [.bool]] Try.func66 h_node_Unpack ⟨snd_bits_Get, snd_bits_Signed, snd_node_Pack, snd_node_Unpack_1, trivial⟩ ?_
  intro vs r hwf h
  unfold S_node_Unpack at h
  split at h
  · rename_i w
    refine ⟨0, ?_⟩
    rw [← h]
    refine (nf_node_Unpack 0 w).trans ?_
    rw [R.get_ok]
    unfold nodeN nodeB readNd
    cases (getZ w 63 1 == 0) with
    | true =>
      simp only [cond_true]
      cases hw : (w == 0) with
      | true => rfl
      | false =>
        simp only [cond_false, Bool.not_false, Bool.true_and]
        have e : (packNd ⟨false, 0, i64w (getZ w 32 4), signZ w, i64w (getZ w 40 8), i64w (getZ w 48 8)⟩ != w) = !(packNd ⟨false, 0, i64w (getZ w 32 4), signZ w, i64w (getZ w 40 8), i64w (getZ w 48 8)⟩ == w) := rfl
        rw [e]
        cases (packNd ⟨false, 0, i64w (getZ w 32 4), signZ w, i64w (getZ w 40 8), i64w (getZ w 48 8)⟩ == w) <;> rfl
    | false =>
      simp only [cond_false]
      cases hw : (w == 0) with
      | true => rfl
      | false =>
        simp only [cond_false, Bool.not_false, Bool.true_and]
        have e : (packNd ⟨true, signZ w, 0, 0, 0, 0⟩ != w) = !(packNd ⟨true, signZ w, 0, 0, 0, 0⟩ == w) := rfl
        rw [e]
        cases (packNd ⟨true, signZ w, 0, 0, 0, 0⟩ == w) <;> rfl
  · simp [R.get] at h

end Go.FM

/-
  NORMAL FORMS: what the functions' runs come to (written by a program of this claim's own, checked by the kernel).
-/
namespace Go.FM
open Go Go.Proofs

/-! ### copse/tree.Right -/
def E_tree_Right (N : Nat) : Env := mkE [(66, S_node_Unpack)] [(5, ⟨[0, 1, 4, 5, 23, 24, 25], [22], []⟩), (17, ⟨[4, 85, 86, 87], [22], []⟩)] 94 N

theorem nf_tree_Right (N : Nat) (l : List IV) (a1 : Int) : evFun (E_tree_Right N) c_tree_Right [.tmp 4] [[.bool]] [(.list false [.int .u64] l), (.int .i64 a1)] =
  (cond (decide (ic (List.length l) < 1))
  (some ((.bool false), []))
  (cond (decide (ic (List.length l) > 31))
    (some ((.bool false), []))
    (cond (Nat.blt 0 (TI.size (Env.tyd (E_tree_Right N) 3)) && (Nat.blt 3 1000000 && decide (0 ≤ ic (List.length l))) && (decide (ic (List.length l) = ic (List.length l)) && decide (ic (List.length l) * ic (TI.bytes (Env.tyd (E_tree_Right N) 3)) ≤ ic bytesMax)))
      (lpE (E_tree_Right N) (subC c_tree_Right [1, 1, 1, 0, 1, 0, 0]) ⟨[0, 1, 4, 5, 23, 24, 25], [22], []⟩ N ⟨[(0, (.list false [(.int .u64)] l)), (1, (.int .i64 a1)), (4, (.bool false)), (5, (.row 22 0 (Int.toNat (ic (List.length l))))), (23, (.list false [(.int .u64)] l)), (24, (.int .i64 (ic (List.length l)))), (25, (.int .i64 0))], [(22, (some (.row true 3 false [(.int .i64)] (List.replicate (Int.toNat (ic (List.length l))) (IV.int 0)))))]⟩ (kBlock 0 (kSq (E_tree_Right N) (subC c_tree_Right [1, 1, 1, 1]) (outT (E_tree_Right N) none [(ResultVar.tmp 4)] [[.bool]]))))
      none))) := by kernel_rfl

theorem st_tree_Right_1 (N : Nat) (l0 : List IV) (x1 : Int) (b4 : Bool) (n5 : Nat) (l23 : List IV) (x24 : Int) (x25 : Int) (lo22 : List IV) (again : St → Res) (k : Out → St → Res) : rnd (E_tree_Right N) (subC c_tree_Right [1, 1, 1, 0, 1, 0, 0])
    ⟨[(0, (.list false [(.int .u64)] l0)), (1, (.int .i64 x1)), (4, (.bool b4)), (5, (.row 22 0 n5)), (23, (.list false [(.int .u64)] l23)), (24, (.int .i64 x24)), (25, (.int .i64 x25))], [(22, (some (.row true 3 false [(.int .i64)] lo22)))]⟩
    (kLoop again ⟨[0, 1, 4, 5, 23, 24, 25], [22], []⟩ k) =
  (cond (decide (x25 < x24))
  (cond (decide (0 ≤ x25) && decide (x25 < ic (List.length l23)))
    (cond (!nodeB (IV.toInt (List.getD l23 (Int.toNat x25) default)))
      (k .ret ⟨[(0, (.list false [(.int .u64)] l0)), (1, (.int .i64 x1)), (4, (.bool false)), (5, (.row 22 0 n5)), (23, (.list false [(.int .u64)] l23)), (24, (.int .i64 x24)), (25, (.int .i64 x25))], [(22, (some (.row true 3 false [(.int .i64)] lo22)))]⟩)
      (cond (Nd.lf (nodeN (IV.toInt (List.getD l23 (Int.toNat x25) default))))
        (again ⟨[(0, (.list false [(.int .u64)] l0)), (1, (.int .i64 x1)), (4, (.bool b4)), (5, (.row 22 0 n5)), (23, (.list false [(.int .u64)] l23)), (24, (.int .i64 x24)), (25, (.int .i64 (IntKind.wrap IntKind.i64 (x25 + 1))))], [(22, (some (.row true 3 false [(.int .i64)] lo22)))]⟩)
        (cond (decide (Nd.f (nodeN (IV.toInt (List.getD l23 (Int.toNat x25) default))) ≥ x1))
          (k .ret ⟨[(0, (.list false [(.int .u64)] l0)), (1, (.int .i64 x1)), (4, (.bool false)), (5, (.row 22 0 n5)), (23, (.list false [(.int .u64)] l23)), (24, (.int .i64 x24)), (25, (.int .i64 x25))], [(22, (some (.row true 3 false [(.int .i64)] lo22)))]⟩)
          (cond (Nd.l (nodeN (IV.toInt (List.getD l23 (Int.toNat x25) default))) == Nd.r (nodeN (IV.toInt (List.getD l23 (Int.toNat x25) default))))
            (k .ret ⟨[(0, (.list false [(.int .u64)] l0)), (1, (.int .i64 x1)), (4, (.bool false)), (5, (.row 22 0 n5)), (23, (.list false [(.int .u64)] l23)), (24, (.int .i64 x24)), (25, (.int .i64 x25))], [(22, (some (.row true 3 false [(.int .i64)] lo22)))]⟩)
            (cond (decide (min (Nd.l (nodeN (IV.toInt (List.getD l23 (Int.toNat x25) default)))) (Nd.r (nodeN (IV.toInt (List.getD l23 (Int.toNat x25) default)))) ≤ x25))
              (k .ret ⟨[(0, (.list false [(.int .u64)] l0)), (1, (.int .i64 x1)), (4, (.bool false)), (5, (.row 22 0 n5)), (23, (.list false [(.int .u64)] l23)), (24, (.int .i64 x24)), (25, (.int .i64 x25))], [(22, (some (.row true 3 false [(.int .i64)] lo22)))]⟩)
              (cond (decide (max (Nd.l (nodeN (IV.toInt (List.getD l23 (Int.toNat x25) default)))) (Nd.r (nodeN (IV.toInt (List.getD l23 (Int.toNat x25) default)))) ≥ ic (List.length l0)))
                (k .ret ⟨[(0, (.list false [(.int .u64)] l0)), (1, (.int .i64 x1)), (4, (.bool false)), (5, (.row 22 0 n5)), (23, (.list false [(.int .u64)] l23)), (24, (.int .i64 x24)), (25, (.int .i64 x25))], [(22, (some (.row true 3 false [(.int .i64)] lo22)))]⟩)
                (cond (decide (0 ≤ Nd.l (nodeN (IV.toInt (List.getD l23 (Int.toNat x25) default)))) && decide (Nd.l (nodeN (IV.toInt (List.getD l23 (Int.toNat x25) default))) < ic (n5 - 0)))
                  (cond (decide (0 ≤ Nd.l (nodeN (IV.toInt (List.getD l23 (Int.toNat x25) default)))) && decide (Nd.l (nodeN (IV.toInt (List.getD l23 (Int.toNat x25) default))) < ic (n5 - 0)))
                    (cond (decide (0 ≤ Nd.r (nodeN (IV.toInt (List.getD l23 (Int.toNat x25) default)))) && decide (Nd.r (nodeN (IV.toInt (List.getD l23 (Int.toNat x25) default))) < ic (n5 - 0)))
                      (cond (decide (0 ≤ Nd.r (nodeN (IV.toInt (List.getD l23 (Int.toNat x25) default)))) && decide (Nd.r (nodeN (IV.toInt (List.getD l23 (Int.toNat x25) default))) < ic (n5 - 0)))
                        (again ⟨[(0, (.list false [(.int .u64)] l0)), (1, (.int .i64 x1)), (4, (.bool b4)), (5, (.row 22 0 n5)), (23, (.list false [(.int .u64)] l23)), (24, (.int .i64 x24)), (25, (.int .i64 (IntKind.wrap IntKind.i64 (x25 + 1))))], [(22, (some (.row true 3 false [(.int .i64)] (List.set (List.set lo22 (0 + Int.toNat (Nd.l (nodeN (IV.toInt (List.getD l23 (Int.toNat x25) default))))) (putIV false [Kd.int IntKind.i64] (List.getD lo22 (0 + Int.toNat (Nd.l (nodeN (IV.toInt (List.getD l23 (Int.toNat x25) default))))) default) 0 [IV.int (IntKind.wrap IntKind.i64 (IV.toInt (List.getD lo22 (0 + Int.toNat (Nd.l (nodeN (IV.toInt (List.getD l23 (Int.toNat x25) default))))) default) + 1))])) (0 + Int.toNat (Nd.r (nodeN (IV.toInt (List.getD l23 (Int.toNat x25) default))))) (putIV false [Kd.int IntKind.i64] (List.getD (List.set lo22 (0 + Int.toNat (Nd.l (nodeN (IV.toInt (List.getD l23 (Int.toNat x25) default))))) (putIV false [Kd.int IntKind.i64] (List.getD lo22 (0 + Int.toNat (Nd.l (nodeN (IV.toInt (List.getD l23 (Int.toNat x25) default))))) default) 0 [IV.int (IntKind.wrap IntKind.i64 (IV.toInt (List.getD lo22 (0 + Int.toNat (Nd.l (nodeN (IV.toInt (List.getD l23 (Int.toNat x25) default))))) default) + 1))])) (0 + Int.toNat (Nd.r (nodeN (IV.toInt (List.getD l23 (Int.toNat x25) default))))) default) 0 [IV.int (IntKind.wrap IntKind.i64 (IV.toInt (List.getD (List.set lo22 (0 + Int.toNat (Nd.l (nodeN (IV.toInt (List.getD l23 (Int.toNat x25) default))))) (putIV false [Kd.int IntKind.i64] (List.getD lo22 (0 + Int.toNat (Nd.l (nodeN (IV.toInt (List.getD l23 (Int.toNat x25) default))))) default) 0 [IV.int (IntKind.wrap IntKind.i64 (IV.toInt (List.getD lo22 (0 + Int.toNat (Nd.l (nodeN (IV.toInt (List.getD l23 (Int.toNat x25) default))))) default) + 1))])) (0 + Int.toNat (Nd.r (nodeN (IV.toInt (List.getD l23 (Int.toNat x25) default))))) default) + 1))])))))]⟩)
                        none)
                      none)
                    none)
                  none)))))))
    none)
  (k (.exit 0) ⟨[(0, (.list false [(.int .u64)] l0)), (1, (.int .i64 x1)), (4, (.bool b4)), (5, (.row 22 0 n5)), (23, (.list false [(.int .u64)] l23)), (24, (.int .i64 x24)), (25, (.int .i64 x25))], [(22, (some (.row true 3 false [(.int .i64)] lo22)))]⟩)) := by kernel_rfl

theorem ex_tree_Right_1_1 (N : Nat) (l0 : List IV) (x1 : Int) (b4 : Bool) (n5 : Nat) (l23 : List IV) (x24 : Int) (x25 : Int) (lo22 : List IV) : (kBlock 0 (kSq (E_tree_Right N) (subC c_tree_Right [1, 1, 1, 1]) (outT (E_tree_Right N) none [(ResultVar.tmp 4)] [[.bool]]))) (.exit 0)
    ⟨[(0, (.list false [(.int .u64)] l0)), (1, (.int .i64 x1)), (4, (.bool b4)), (5, (.row 22 0 n5)), (23, (.list false [(.int .u64)] l23)), (24, (.int .i64 x24)), (25, (.int .i64 x25))], [(22, (some (.row true 3 false [(.int .i64)] lo22)))]⟩ =
  (cond (decide (0 ≤ 1) && decide (1 ≤ ic (n5 - 0)))
  (lpE (E_tree_Right N) (subC c_tree_Right [1, 1, 1, 1, 0, 1, 0, 0]) ⟨[4, 85, 86, 87], [22], []⟩ N ⟨[(4, (.bool b4)), (85, (.row 22 1 (0 + (n5 - 0)))), (86, (.int .i64 (ic (0 + (n5 - 0) - 1)))), (87, (.int .i64 0))], [(22, (some (.row true 3 false [(.int .i64)] lo22)))]⟩ (kBlock 2 (kSq (E_tree_Right N) (subC c_tree_Right [1, 1, 1, 1, 1]) (outT (E_tree_Right N) none [(ResultVar.tmp 4)] [[.bool]]))))
  none) := by kernel_rfl

theorem ex_tree_Right_1_2 (N : Nat) (l0 : List IV) (x1 : Int) (b4 : Bool) (n5 : Nat) (l23 : List IV) (x24 : Int) (x25 : Int) (lo22 : List IV) : (kBlock 0 (kSq (E_tree_Right N) (subC c_tree_Right [1, 1, 1, 1]) (outT (E_tree_Right N) none [(ResultVar.tmp 4)] [[.bool]]))) .ret
    ⟨[(0, (.list false [(.int .u64)] l0)), (1, (.int .i64 x1)), (4, (.bool b4)), (5, (.row 22 0 n5)), (23, (.list false [(.int .u64)] l23)), (24, (.int .i64 x24)), (25, (.int .i64 x25))], [(22, (some (.row true 3 false [(.int .i64)] lo22)))]⟩ =
  (some ((.bool b4), [])) := by kernel_rfl

theorem st_tree_Right_2 (N : Nat) (b4 : Bool) (n85 : Nat) (x86 : Int) (x87 : Int) (lo22 : List IV) (again : St → Res) (k : Out → St → Res) : rnd (E_tree_Right N) (subC c_tree_Right [1, 1, 1, 1, 0, 1, 0, 0])
    ⟨[(4, (.bool b4)), (85, (.row 22 1 n85)), (86, (.int .i64 x86)), (87, (.int .i64 x87))], [(22, (some (.row true 3 false [(.int .i64)] lo22)))]⟩
    (kLoop again ⟨[4, 85, 86, 87], [22], []⟩ k) =
  (cond (decide (x87 < x86))
  (cond (decide (0 ≤ x87) && decide (x87 < ic (n85 - 1)))
    (cond (IV.toInt (List.getD lo22 (1 + Int.toNat x87) default) != 1)
      (k .ret ⟨[(4, (.bool false)), (85, (.row 22 1 n85)), (86, (.int .i64 x86)), (87, (.int .i64 x87))], [(22, (some (.row true 3 false [(.int .i64)] lo22)))]⟩)
      (again ⟨[(4, (.bool b4)), (85, (.row 22 1 n85)), (86, (.int .i64 x86)), (87, (.int .i64 (IntKind.wrap IntKind.i64 (x87 + 1))))], [(22, (some (.row true 3 false [(.int .i64)] lo22)))]⟩))
    none)
  (k (.exit 2) ⟨[(4, (.bool b4)), (85, (.row 22 1 n85)), (86, (.int .i64 x86)), (87, (.int .i64 x87))], [(22, (some (.row true 3 false [(.int .i64)] lo22)))]⟩)) := by kernel_rfl

theorem ex_tree_Right_2_1 (N : Nat) (b4 : Bool) (n85 : Nat) (x86 : Int) (x87 : Int) (lo22 : List IV) : (kBlock 2 (kSq (E_tree_Right N) (subC c_tree_Right [1, 1, 1, 1, 1]) (outT (E_tree_Right N) none [(ResultVar.tmp 4)] [[.bool]]))) (.exit 2)
    ⟨[(4, (.bool b4)), (85, (.row 22 1 n85)), (86, (.int .i64 x86)), (87, (.int .i64 x87))], [(22, (some (.row true 3 false [(.int .i64)] lo22)))]⟩ =
  (some ((.bool true), [])) := by kernel_rfl

theorem ex_tree_Right_2_2 (N : Nat) (b4 : Bool) (n85 : Nat) (x86 : Int) (x87 : Int) (lo22 : List IV) : (kBlock 2 (kSq (E_tree_Right N) (subC c_tree_Right [1, 1, 1, 1, 1]) (outT (E_tree_Right N) none [(ResultVar.tmp 4)] [[.bool]]))) .ret
    ⟨[(4, (.bool b4)), (85, (.row 22 1 n85)), (86, (.int .i64 x86)), (87, (.int .i64 x87))], [(22, (some (.row true 3 false [(.int .i64)] lo22)))]⟩ =
  (some ((.bool b4), [])) := by kernel_rfl

/-! ### copse/model.Right$1 -/
def E_model_Right_1 (N : Nat) : Env := mkE [(52, S_tree_Right)] [] 22 N

theorem nf_model_Right_1 (N : Nat) (k : Int) (l : List IV) (d : Int) (c : Int) (b0 : Int) (b1 : Int) (b2 : Int) (ts : List IV) : evFun (E_model_Right_1 N) c_model_Right_1 [.tmp 3] [[.bool]] [(.agg [.int .i64 k, .list false [.int .u64] l]), (.bor [.int .i64 d, .int .i64 c, .int .i64 b0, .int .i64 b1, .int .i64 b2, .list true [.int .i64, .list false [.int .u64]] ts])] =
  (cond (decide (k < 0))
  (some ((.bool true), [[(.int .i64 d), (.int .i64 c), (.int .i64 b0), (.int .i64 b1), (.int .i64 b2), (.list true [(.int .i64), (.list false [(.int .u64)])] ts)]]))
  (cond (decide (k ≥ c))
    (some ((.bool true), [[(.int .i64 d), (.int .i64 c), (.int .i64 b0), (.int .i64 b1), (.int .i64 b2), (.list true [(.int .i64), (.list false [(.int .u64)])] ts)]]))
    (some ((.bool (!treeB l d)), [[(.int .i64 d), (.int .i64 c), (.int .i64 b0), (.int .i64 b1), (.int .i64 b2), (.list true [(.int .i64), (.list false [(.int .u64)])] ts)]])))) := by kernel_rfl

/-! ### slices.IndexFunc<<>copse/api.Tree,copse/api.Tree> -/
def E_slices_IndexFunc_apiTreeapiTree (N : Nat) : Env := mkE [(51, S_model_Right_1)] [(2, ⟨[0, 1, 4, 7, 8], [900000], []⟩)] 19 N

theorem nf_slices_IndexFunc_apiTreeapiTree (N : Nat) (l : List IV) (d : Int) (c : Int) (b0 : Int) (b1 : Int) (b2 : Int) (ts : List IV) : evFun (E_slices_IndexFunc_apiTreeapiTree N) c_slices_IndexFunc_apiTreeapiTree [.tmp 4] [[.int .i64]] [(.list true [.int .i64, .list false [.int .u64]] l), (.clo 51 [.bor [.int .i64 d, .int .i64 c, .int .i64 b0, .int .i64 b1, .int .i64 b2, .list true [.int .i64, .list false [.int .u64]] ts]])] =
  (lpE (E_slices_IndexFunc_apiTreeapiTree N) (subC c_slices_IndexFunc_apiTreeapiTree [1, 0, 1, 0, 0]) ⟨[0, 1, 4, 7, 8], [900000], []⟩ N ⟨[(0, (.list true [(.int .i64), (.list false [(.int .u64)])] l)), (1, (.clo 51 [(.ptr 900000 0 0)])), (4, (.int .i64 0)), (7, (.int .i64 (ic (List.length l)))), (8, (.int .i64 0))], [(900000, (some (.box [(.int .i64 d), (.int .i64 c), (.int .i64 b0), (.int .i64 b1), (.int .i64 b2), (.list true [(.int .i64), (.list false [(.int .u64)])] ts)])))]⟩ (kBlock 0 (kSq (E_slices_IndexFunc_apiTreeapiTree N) (subC c_slices_IndexFunc_apiTreeapiTree [1, 1]) (outT (E_slices_IndexFunc_apiTreeapiTree N) (some [(.int .i64 d), (.int .i64 c), (.int .i64 b0), (.int .i64 b1), (.int .i64 b2), (.list true [(.int .i64), (.list false [(.int .u64)])] ts)]) [(ResultVar.tmp 4)] [[(.int .i64)]])))) := by kernel_rfl

theorem st_slices_IndexFunc_apiTreeapiTree_1 (N : Nat) (l0 : List IV) (x4 : Int) (x7 : Int) (x8 : Int) (xo900000_0 : Int) (xo900000_1 : Int) (xo900000_2 : Int) (xo900000_3 : Int) (xo900000_4 : Int) (lo900000_5 : List IV) (again : St → Res) (k : Out → St → Res) : rnd (E_slices_IndexFunc_apiTreeapiTree N) (subC c_slices_IndexFunc_apiTreeapiTree [1, 0, 1, 0, 0])
    ⟨[(0, (.list true [(.int .i64), (.list false [(.int .u64)])] l0)), (1, (.clo 51 [(.ptr 900000 0 0)])), (4, (.int .i64 x4)), (7, (.int .i64 x7)), (8, (.int .i64 x8))], [(900000, (some (.box [(.int .i64 xo900000_0), (.int .i64 xo900000_1), (.int .i64 xo900000_2), (.int .i64 xo900000_3), (.int .i64 xo900000_4), (.list true [(.int .i64), (.list false [(.int .u64)])] lo900000_5)])))]⟩
    (kLoop again ⟨[0, 1, 4, 7, 8], [900000], []⟩ k) =
  (cond (decide (x8 < x7))
  (cond (decide (0 ≤ x8) && decide (x8 < ic (List.length l0)))
    (cond (!treeOK xo900000_0 xo900000_1 (IV.agg [IV.int (IV.toInt (IV.cell (List.getD l0 (Int.toNat x8) default) 0)), IV.list (IV.toList (IV.cell (List.getD l0 (Int.toNat x8) default) 1))]))
      (k .ret ⟨[(0, (.list true [(.int .i64), (.list false [(.int .u64)])] l0)), (1, (.clo 51 [(.ptr 900000 0 0)])), (4, (.int .i64 x8)), (7, (.int .i64 x7)), (8, (.int .i64 x8))], [(900000, (some (.box [(.int .i64 xo900000_0), (.int .i64 xo900000_1), (.int .i64 xo900000_2), (.int .i64 xo900000_3), (.int .i64 xo900000_4), (.list true [(.int .i64), (.list false [(.int .u64)])] lo900000_5)])))]⟩)
      (again ⟨[(0, (.list true [(.int .i64), (.list false [(.int .u64)])] l0)), (1, (.clo 51 [(.ptr 900000 0 0)])), (4, (.int .i64 x4)), (7, (.int .i64 x7)), (8, (.int .i64 (IntKind.wrap IntKind.i64 (x8 + 1))))], [(900000, (some (.box [(.int .i64 xo900000_0), (.int .i64 xo900000_1), (.int .i64 xo900000_2), (.int .i64 xo900000_3), (.int .i64 xo900000_4), (.list true [(.int .i64), (.list false [(.int .u64)])] lo900000_5)])))]⟩))
    none)
  (k (.exit 0) ⟨[(0, (.list true [(.int .i64), (.list false [(.int .u64)])] l0)), (1, (.clo 51 [(.ptr 900000 0 0)])), (4, (.int .i64 x4)), (7, (.int .i64 x7)), (8, (.int .i64 x8))], [(900000, (some (.box [(.int .i64 xo900000_0), (.int .i64 xo900000_1), (.int .i64 xo900000_2), (.int .i64 xo900000_3), (.int .i64 xo900000_4), (.list true [(.int .i64), (.list false [(.int .u64)])] lo900000_5)])))]⟩)) := by kernel_rfl

theorem ex_slices_IndexFunc_apiTreeapiTree_1_1 (N : Nat) (d : Int) (c : Int) (b0 : Int) (b1 : Int) (b2 : Int) (ts : List IV) (l0 : List IV) (x4 : Int) (x7 : Int) (x8 : Int) (xo900000_0 : Int) (xo900000_1 : Int) (xo900000_2 : Int) (xo900000_3 : Int) (xo900000_4 : Int) (lo900000_5 : List IV) : (kBlock 0 (kSq (E_slices_IndexFunc_apiTreeapiTree N) (subC c_slices_IndexFunc_apiTreeapiTree [1, 1]) (outT (E_slices_IndexFunc_apiTreeapiTree N) (some [(.int .i64 d), (.int .i64 c), (.int .i64 b0), (.int .i64 b1), (.int .i64 b2), (.list true [(.int .i64), (.list false [(.int .u64)])] ts)]) [(ResultVar.tmp 4)] [[(.int .i64)]]))) (.exit 0)
    ⟨[(0, (.list true [(.int .i64), (.list false [(.int .u64)])] l0)), (1, (.clo 51 [(.ptr 900000 0 0)])), (4, (.int .i64 x4)), (7, (.int .i64 x7)), (8, (.int .i64 x8))], [(900000, (some (.box [(.int .i64 xo900000_0), (.int .i64 xo900000_1), (.int .i64 xo900000_2), (.int .i64 xo900000_3), (.int .i64 xo900000_4), (.list true [(.int .i64), (.list false [(.int .u64)])] lo900000_5)])))]⟩ =
  (some ((.int .i64 (-1)), [[(.int .i64 xo900000_0), (.int .i64 xo900000_1), (.int .i64 xo900000_2), (.int .i64 xo900000_3), (.int .i64 xo900000_4), (.list true [(.int .i64), (.list false [(.int .u64)])] lo900000_5)]])) := by kernel_rfl

theorem ex_slices_IndexFunc_apiTreeapiTree_1_2 (N : Nat) (d : Int) (c : Int) (b0 : Int) (b1 : Int) (b2 : Int) (ts : List IV) (l0 : List IV) (x4 : Int) (x7 : Int) (x8 : Int) (xo900000_0 : Int) (xo900000_1 : Int) (xo900000_2 : Int) (xo900000_3 : Int) (xo900000_4 : Int) (lo900000_5 : List IV) : (kBlock 0 (kSq (E_slices_IndexFunc_apiTreeapiTree N) (subC c_slices_IndexFunc_apiTreeapiTree [1, 1]) (outT (E_slices_IndexFunc_apiTreeapiTree N) (some [(.int .i64 d), (.int .i64 c), (.int .i64 b0), (.int .i64 b1), (.int .i64 b2), (.list true [(.int .i64), (.list false [(.int .u64)])] ts)]) [(ResultVar.tmp 4)] [[(.int .i64)]]))) .ret
    ⟨[(0, (.list true [(.int .i64), (.list false [(.int .u64)])] l0)), (1, (.clo 51 [(.ptr 900000 0 0)])), (4, (.int .i64 x4)), (7, (.int .i64 x7)), (8, (.int .i64 x8))], [(900000, (some (.box [(.int .i64 xo900000_0), (.int .i64 xo900000_1), (.int .i64 xo900000_2), (.int .i64 xo900000_3), (.int .i64 xo900000_4), (.list true [(.int .i64), (.list false [(.int .u64)])] lo900000_5)])))]⟩ =
  (some ((.int .i64 x4), [[(.int .i64 xo900000_0), (.int .i64 xo900000_1), (.int .i64 xo900000_2), (.int .i64 xo900000_3), (.int .i64 xo900000_4), (.list true [(.int .i64), (.list false [(.int .u64)])] lo900000_5)]])) := by kernel_rfl

/-! ### slices.ContainsFunc<<>copse/api.Tree,copse/api.Tree> -/
def E_slices_ContainsFunc_apiTreeapiTree (N : Nat) : Env := mkE [(65, S_slices_IndexFunc_apiTreeapiTree)] [] 9 N

theorem nf_slices_ContainsFunc_apiTreeapiTree (N : Nat) (l : List IV) (d : Int) (c : Int) (b0 : Int) (b1 : Int) (b2 : Int) (ts : List IV) : evFun (E_slices_ContainsFunc_apiTreeapiTree N) c_slices_ContainsFunc_apiTreeapiTree [.tmp 4] [[.bool]] [(.list true [.int .i64, .list false [.int .u64]] l), (.clo 51 [.bor [.int .i64 d, .int .i64 c, .int .i64 b0, .int .i64 b1, .int .i64 b2, .list true [.int .i64, .list false [.int .u64]] ts]])] =
  (some ((.bool (decide (idxBad d c l 0 ≥ 0))), [[(.int .i64 d), (.int .i64 c), (.int .i64 b0), (.int .i64 b1), (.int .i64 b2), (.list true [(.int .i64), (.list false [(.int .u64)])] ts)]])) := by kernel_rfl

/-! ### copse/model.Right -/
def E_model_Right (N : Nat) : Env := mkE [(49, S_bits_Fits), (51, S_model_Right_1), (50, S_slices_ContainsFunc_apiTreeapiTree)] [(4, ⟨[1, 2, 30, 31], [1, 53005], []⟩)] 54 N

theorem nf_model_Right (N : Nat) (m_Dim : Int) (m_Classes : Int) (m_Bias_0 : Int) (m_Bias_1 : Int) (m_Bias_2 : Int) (m_Trees : List IV) : evFun (E_model_Right N) c_model_Right [.tmp 2] [[.bool]] [(.agg [(.int .i64 m_Dim), (.int .i64 m_Classes), (.int .i64 m_Bias_0), (.int .i64 m_Bias_1), (.int .i64 m_Bias_2), (.list true [.int .i64, .list false [.int .u64]] m_Trees)])] =
  (cond (decide (m_Dim < 1))
  (some ((.bool false), []))
  (cond (decide (m_Dim > 4))
    (some ((.bool false), []))
    (cond (decide (m_Classes < 1))
      (some ((.bool false), []))
      (cond (decide (m_Classes > 3))
        (some ((.bool false), []))
        (cond (decide (ic (List.length m_Trees) > 8))
          (some ((.bool false), []))
          (lpE (E_model_Right N) (subC c_model_Right [1, 1, 0, 1, 0, 0]) ⟨[1, 2, 30, 31], [1, 53005], []⟩ N ⟨[(1, (.ptr 1 0 0)), (2, (.bool false)), (30, (.agg [(.int .i64 m_Bias_0), (.int .i64 m_Bias_1), (.int .i64 m_Bias_2)])), (31, (.int .i64 0))], [(1, (some (.box [(.int .i64 m_Dim), (.int .i64 m_Classes), (.int .i64 m_Bias_0), (.int .i64 m_Bias_1), (.int .i64 m_Bias_2), (.list true [(.int .i64), (.list false [(.int .u64)])] m_Trees)]))), (53005, none)]⟩ (kBlock 0 (kSq (E_model_Right N) (subC c_model_Right [1, 1, 1]) (outT (E_model_Right N) none [(ResultVar.tmp 2)] [[.bool]]))))))))) := by kernel_rfl

theorem st_model_Right_1 (N : Nat) (b2 : Bool) (x30_0 : Int) (x30_1 : Int) (x30_2 : Int) (x31 : Int) (xo1_0 : Int) (xo1_1 : Int) (xo1_2 : Int) (xo1_3 : Int) (xo1_4 : Int) (lo1_5 : List IV) (again : St → Res) (k : Out → St → Res) : rnd (E_model_Right N) (subC c_model_Right [1, 1, 0, 1, 0, 0])
    ⟨[(1, (.ptr 1 0 0)), (2, (.bool b2)), (30, (.agg [(.int .i64 x30_0), (.int .i64 x30_1), (.int .i64 x30_2)])), (31, (.int .i64 x31))], [(1, (some (.box [(.int .i64 xo1_0), (.int .i64 xo1_1), (.int .i64 xo1_2), (.int .i64 xo1_3), (.int .i64 xo1_4), (.list true [(.int .i64), (.list false [(.int .u64)])] lo1_5)]))), (53005, none)]⟩
    (kLoop again ⟨[1, 2, 30, 31], [1, 53005], []⟩ k) =
  (cond (decide (x31 < 3))
  (cond (decide (x31 = ic 0))
    (cond (!fits32 x30_0)
      (k .ret ⟨[(1, (.ptr 1 0 0)), (2, (.bool false)), (30, (.agg [(.int .i64 x30_0), (.int .i64 x30_1), (.int .i64 x30_2)])), (31, (.int .i64 x31))], [(1, (some (.box [(.int .i64 xo1_0), (.int .i64 xo1_1), (.int .i64 xo1_2), (.int .i64 xo1_3), (.int .i64 xo1_4), (.list true [(.int .i64), (.list false [(.int .u64)])] lo1_5)]))), (53005, none)]⟩)
      (cond (decide (x31 ≥ xo1_1))
        (cond (x30_0 != 0)
          (k .ret ⟨[(1, (.ptr 1 0 0)), (2, (.bool false)), (30, (.agg [(.int .i64 x30_0), (.int .i64 x30_1), (.int .i64 x30_2)])), (31, (.int .i64 x31))], [(1, (some (.box [(.int .i64 xo1_0), (.int .i64 xo1_1), (.int .i64 xo1_2), (.int .i64 xo1_3), (.int .i64 xo1_4), (.list true [(.int .i64), (.list false [(.int .u64)])] lo1_5)]))), (53005, none)]⟩)
          (again ⟨[(1, (.ptr 1 0 0)), (2, (.bool b2)), (30, (.agg [(.int .i64 x30_0), (.int .i64 x30_1), (.int .i64 x30_2)])), (31, (.int .i64 (IntKind.wrap IntKind.i64 (x31 + 1))))], [(1, (some (.box [(.int .i64 xo1_0), (.int .i64 xo1_1), (.int .i64 xo1_2), (.int .i64 xo1_3), (.int .i64 xo1_4), (.list true [(.int .i64), (.list false [(.int .u64)])] lo1_5)]))), (53005, none)]⟩))
        (again ⟨[(1, (.ptr 1 0 0)), (2, (.bool b2)), (30, (.agg [(.int .i64 x30_0), (.int .i64 x30_1), (.int .i64 x30_2)])), (31, (.int .i64 (IntKind.wrap IntKind.i64 (x31 + 1))))], [(1, (some (.box [(.int .i64 xo1_0), (.int .i64 xo1_1), (.int .i64 xo1_2), (.int .i64 xo1_3), (.int .i64 xo1_4), (.list true [(.int .i64), (.list false [(.int .u64)])] lo1_5)]))), (53005, none)]⟩)))
    (cond (decide (x31 = ic 1))
      (cond (!fits32 x30_1)
        (k .ret ⟨[(1, (.ptr 1 0 0)), (2, (.bool false)), (30, (.agg [(.int .i64 x30_0), (.int .i64 x30_1), (.int .i64 x30_2)])), (31, (.int .i64 x31))], [(1, (some (.box [(.int .i64 xo1_0), (.int .i64 xo1_1), (.int .i64 xo1_2), (.int .i64 xo1_3), (.int .i64 xo1_4), (.list true [(.int .i64), (.list false [(.int .u64)])] lo1_5)]))), (53005, none)]⟩)
        (cond (decide (x31 ≥ xo1_1))
          (cond (x30_1 != 0)
            (k .ret ⟨[(1, (.ptr 1 0 0)), (2, (.bool false)), (30, (.agg [(.int .i64 x30_0), (.int .i64 x30_1), (.int .i64 x30_2)])), (31, (.int .i64 x31))], [(1, (some (.box [(.int .i64 xo1_0), (.int .i64 xo1_1), (.int .i64 xo1_2), (.int .i64 xo1_3), (.int .i64 xo1_4), (.list true [(.int .i64), (.list false [(.int .u64)])] lo1_5)]))), (53005, none)]⟩)
            (again ⟨[(1, (.ptr 1 0 0)), (2, (.bool b2)), (30, (.agg [(.int .i64 x30_0), (.int .i64 x30_1), (.int .i64 x30_2)])), (31, (.int .i64 (IntKind.wrap IntKind.i64 (x31 + 1))))], [(1, (some (.box [(.int .i64 xo1_0), (.int .i64 xo1_1), (.int .i64 xo1_2), (.int .i64 xo1_3), (.int .i64 xo1_4), (.list true [(.int .i64), (.list false [(.int .u64)])] lo1_5)]))), (53005, none)]⟩))
          (again ⟨[(1, (.ptr 1 0 0)), (2, (.bool b2)), (30, (.agg [(.int .i64 x30_0), (.int .i64 x30_1), (.int .i64 x30_2)])), (31, (.int .i64 (IntKind.wrap IntKind.i64 (x31 + 1))))], [(1, (some (.box [(.int .i64 xo1_0), (.int .i64 xo1_1), (.int .i64 xo1_2), (.int .i64 xo1_3), (.int .i64 xo1_4), (.list true [(.int .i64), (.list false [(.int .u64)])] lo1_5)]))), (53005, none)]⟩)))
      (cond (decide (x31 = ic 2))
        (cond (!fits32 x30_2)
          (k .ret ⟨[(1, (.ptr 1 0 0)), (2, (.bool false)), (30, (.agg [(.int .i64 x30_0), (.int .i64 x30_1), (.int .i64 x30_2)])), (31, (.int .i64 x31))], [(1, (some (.box [(.int .i64 xo1_0), (.int .i64 xo1_1), (.int .i64 xo1_2), (.int .i64 xo1_3), (.int .i64 xo1_4), (.list true [(.int .i64), (.list false [(.int .u64)])] lo1_5)]))), (53005, none)]⟩)
          (cond (decide (x31 ≥ xo1_1))
            (cond (x30_2 != 0)
              (k .ret ⟨[(1, (.ptr 1 0 0)), (2, (.bool false)), (30, (.agg [(.int .i64 x30_0), (.int .i64 x30_1), (.int .i64 x30_2)])), (31, (.int .i64 x31))], [(1, (some (.box [(.int .i64 xo1_0), (.int .i64 xo1_1), (.int .i64 xo1_2), (.int .i64 xo1_3), (.int .i64 xo1_4), (.list true [(.int .i64), (.list false [(.int .u64)])] lo1_5)]))), (53005, none)]⟩)
              (again ⟨[(1, (.ptr 1 0 0)), (2, (.bool b2)), (30, (.agg [(.int .i64 x30_0), (.int .i64 x30_1), (.int .i64 x30_2)])), (31, (.int .i64 (IntKind.wrap IntKind.i64 (x31 + 1))))], [(1, (some (.box [(.int .i64 xo1_0), (.int .i64 xo1_1), (.int .i64 xo1_2), (.int .i64 xo1_3), (.int .i64 xo1_4), (.list true [(.int .i64), (.list false [(.int .u64)])] lo1_5)]))), (53005, none)]⟩))
            (again ⟨[(1, (.ptr 1 0 0)), (2, (.bool b2)), (30, (.agg [(.int .i64 x30_0), (.int .i64 x30_1), (.int .i64 x30_2)])), (31, (.int .i64 (IntKind.wrap IntKind.i64 (x31 + 1))))], [(1, (some (.box [(.int .i64 xo1_0), (.int .i64 xo1_1), (.int .i64 xo1_2), (.int .i64 xo1_3), (.int .i64 xo1_4), (.list true [(.int .i64), (.list false [(.int .u64)])] lo1_5)]))), (53005, none)]⟩)))
        none)))
  (k (.exit 0) ⟨[(1, (.ptr 1 0 0)), (2, (.bool b2)), (30, (.agg [(.int .i64 x30_0), (.int .i64 x30_1), (.int .i64 x30_2)])), (31, (.int .i64 x31))], [(1, (some (.box [(.int .i64 xo1_0), (.int .i64 xo1_1), (.int .i64 xo1_2), (.int .i64 xo1_3), (.int .i64 xo1_4), (.list true [(.int .i64), (.list false [(.int .u64)])] lo1_5)]))), (53005, none)]⟩)) := by kernel_rfl

theorem ex_model_Right_1_1 (N : Nat) (b2 : Bool) (x30_0 : Int) (x30_1 : Int) (x30_2 : Int) (x31 : Int) (xo1_0 : Int) (xo1_1 : Int) (xo1_2 : Int) (xo1_3 : Int) (xo1_4 : Int) (lo1_5 : List IV) : (kBlock 0 (kSq (E_model_Right N) (subC c_model_Right [1, 1, 1]) (outT (E_model_Right N) none [(ResultVar.tmp 2)] [[.bool]]))) (.exit 0)
    ⟨[(1, (.ptr 1 0 0)), (2, (.bool b2)), (30, (.agg [(.int .i64 x30_0), (.int .i64 x30_1), (.int .i64 x30_2)])), (31, (.int .i64 x31))], [(1, (some (.box [(.int .i64 xo1_0), (.int .i64 xo1_1), (.int .i64 xo1_2), (.int .i64 xo1_3), (.int .i64 xo1_4), (.list true [(.int .i64), (.list false [(.int .u64)])] lo1_5)]))), (53005, none)]⟩ =
  (some ((.bool (!!List.all lo1_5 (treeOK xo1_0 xo1_1))), [])) := by kernel_rfl

theorem ex_model_Right_1_2 (N : Nat) (b2 : Bool) (x30_0 : Int) (x30_1 : Int) (x30_2 : Int) (x31 : Int) (xo1_0 : Int) (xo1_1 : Int) (xo1_2 : Int) (xo1_3 : Int) (xo1_4 : Int) (lo1_5 : List IV) : (kBlock 0 (kSq (E_model_Right N) (subC c_model_Right [1, 1, 1]) (outT (E_model_Right N) none [(ResultVar.tmp 2)] [[.bool]]))) .ret
    ⟨[(1, (.ptr 1 0 0)), (2, (.bool b2)), (30, (.agg [(.int .i64 x30_0), (.int .i64 x30_1), (.int .i64 x30_2)])), (31, (.int .i64 x31))], [(1, (some (.box [(.int .i64 xo1_0), (.int .i64 xo1_1), (.int .i64 xo1_2), (.int .i64 xo1_3), (.int .i64 xo1_4), (.list true [(.int .i64), (.list false [(.int .u64)])] lo1_5)]))), (53005, none)]⟩ =
  (some ((.bool b2), [])) := by kernel_rfl

end Go.FM
