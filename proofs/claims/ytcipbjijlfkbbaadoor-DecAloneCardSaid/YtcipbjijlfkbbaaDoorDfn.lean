/-
  What the functions of package dec, and the document's own beside them, come to: each proved of the program by the small machine; under each specification's own bounds on sizes.
-/
import Derived.Test.YtcipbjijlfkbbaaDoorLib

/-
  NUMERALS, in plain Lean: bytes, digits, words; of no program.
-/
namespace Go.FM
open Go

/-! ### bytes -/
theorem bytes_ext {s t : ByteArray} (h : s.data.toList = t.data.toList) : s = t := ByteArray.ext (Array.ext' h)
theorem bytes_beq (s t : ByteArray) : (s.toList == t.toList) = decide (s = t) := by
  rw [Lib.toList_data, Lib.toList_data]
  by_cases h : s = t
  · subst h; simp
  · rw [decide_eq_false h, beq_eq_false_iff_ne]
    exact fun e => h (bytes_ext e)
theorem size_len (s : ByteArray) : s.size = s.data.toList.length := by rw [Array.length_toList]; rfl

/-! ### numerals -/
theorem decDigits_ch (u : Nat) : ∀ c ∈ Lib.decDigits u, 48 ≤ c.toNat ∧ c.toNat ≤ 57 := by
  induction u using Nat.strongRecOn with
  | _ u ih =>
    intro c hc
    rw [Lib.decDigits] at hc
    split at hc
    · rename_i h
      simp only [List.mem_singleton] at hc
      subst hc
      rw [UInt8.toNat_ofNat_of_lt' (by simp [UInt8.size]; omega)]
      omega
    · rename_i h
      rw [List.mem_append, List.mem_singleton] at hc
      rcases hc with hc | hc
      · exact ih (u / 10) (by omega) c hc
      · subst hc
        rw [UInt8.toNat_ofNat_of_lt' (by simp [UInt8.size]; omega)]
        omega
theorem decDigits_ne (u : Nat) : Lib.decDigits u ≠ [] := by
  rw [Lib.decDigits]
  split <;> simp
theorem itoa_ch (n : Int) : ∀ c ∈ Lib.itoa n, c.toNat = 45 ∨ (48 ≤ c.toNat ∧ c.toNat ≤ 57) := by
  intro c hc
  unfold Lib.itoa at hc
  split at hc
  · rcases List.mem_cons.1 hc with h | h
    · subst h; exact .inl rfl
    · exact .inr (decDigits_ch _ c h)
  · exact .inr (decDigits_ch _ c hc)
theorem itoa_no (n : Int) (c : UInt8) (hc : c.toNat < 45) : c ∉ Lib.itoa n := by
  intro h
  rcases itoa_ch n c h with h1 | h1 <;> omega

theorem parse_dec (u : Nat) : ∀ (acc : Nat) (r : List UInt8), acc * 10 ^ (Lib.decDigits u).length + u < 18446744073709551616 →
    Lib.parseUint10 acc (Lib.decDigits u ++ r) = Lib.parseUint10 (acc * 10 ^ (Lib.decDigits u).length + u) r := by
  induction u using Nat.strongRecOn with
  | _ u ih =>
    intro acc r hlt
    rw [Lib.decDigits] at hlt ⊢
    split at hlt
    · rename_i h
      rw [dif_pos h]
      simp only [List.length_singleton, Nat.pow_one, List.singleton_append] at hlt ⊢
      have hc : (UInt8.ofNat (48 + u)).toNat = 48 + u := UInt8.toNat_ofNat_of_lt' (by simp [UInt8.size]; omega)
      rw [Lib.parseUint10, hc, if_pos (by omega), if_neg (by omega), if_neg (by omega)]
      congr 1
      omega
    · rename_i h
      rw [dif_neg h]
      simp only [List.length_append, List.length_singleton, Nat.pow_succ, List.append_assoc, List.singleton_append] at hlt ⊢
      have ea : acc * (10 ^ (Lib.decDigits (u / 10)).length * 10) = acc * 10 ^ (Lib.decDigits (u / 10)).length * 10 := by rw [Nat.mul_assoc]
      rw [ea] at hlt ⊢
      rw [ih (u / 10) (by omega) acc _ (by omega)]
      have hc : (UInt8.ofNat (48 + u % 10)).toNat = 48 + u % 10 := UInt8.toNat_ofNat_of_lt' (by simp [UInt8.size]; omega)
      rw [Lib.parseUint10, hc, if_pos (by omega), if_neg (by omega), if_neg (by omega)]
      congr 1
      omega
theorem parse_mag (u : Nat) (h : u < 18446744073709551616) : Lib.parseMag (Lib.decDigits u) = .ok u := by
  unfold Lib.parseMag
  rw [if_neg (decDigits_ne u)]
  have := parse_dec u 0 [] (by omega)
  rw [List.append_nil] at this
  rw [this, Nat.zero_mul, Nat.zero_add]
  rfl
theorem atoi_itoa (n : Int) (h0 : -9223372036854775808 ≤ n) (h1 : n ≤ 9223372036854775807) : Lib.atoiAll (Lib.itoa n) = .ok n := by
  unfold Lib.itoa
  split
  · rename_i hn
    unfold Lib.atoiAll
    have e : (45 : UInt8).toNat = 45 := rfl
    simp only [e, or_true, if_true, parse_mag n.natAbs (by omega), not_true_eq_false, false_and, if_false, true_and]
    rw [if_neg (by omega)]
    congr 1
    omega
  · rename_i hn
    obtain ⟨c, r, hl⟩ : ∃ c r, Lib.decDigits n.toNat = c :: r := by
      cases h : Lib.decDigits n.toNat with
      | nil => exact absurd h (decDigits_ne _)
      | cons c r => exact ⟨c, r, rfl⟩
    have hc := decDigits_ch n.toNat c (by rw [hl]; exact List.mem_cons_self ..)
    have hm := parse_mag n.toNat (by omega)
    rw [hl] at hm ⊢
    unfold Lib.atoiAll
    have e1 : ¬ c.toNat = 43 := by omega
    have e2 : ¬ c.toNat = 45 := by omega
    simp only [e1, e2, or_self, if_false, hm, false_and, not_false_eq_true, true_and]
    rw [if_neg (by omega)]
    congr 1
    omega
theorem atoiV_of {s : ByteArray} {n : Int} (h : s.data.toList = Lib.itoa n) (h0 : -9223372036854775808 ≤ n) (h1 : n ≤ 9223372036854775807) : atoiV s = n := by
  unfold atoiV
  rw [h, atoi_itoa n h0 h1]

/-! ### words -/
theorem indexByte_at : ∀ (w r : List UInt8) (c : UInt8), c ∉ w → Lib.indexByte (w ++ c :: r) c = w.length
  | [], r, c, _ => by simp [Lib.indexByte]
  | b :: w, r, c, h => by
    simp only [List.mem_cons, not_or] at h
    have e : (b == c) = false := beq_eq_false_iff_ne.2 (fun e => h.1 e.symm)
    have e2 : ((w.length : Int) == -1) = false := by rw [beq_eq_false_iff_ne]; omega
    simp only [List.cons_append, Lib.indexByte, e, indexByte_at w r c h.2, e2, List.length_cons]
    simp
theorem indexByte_no : ∀ (w : List UInt8) (c : UInt8), c ∉ w → Lib.indexByte w c = -1
  | [], c, _ => rfl
  | b :: w, c, h => by
    simp only [List.mem_cons, not_or] at h
    have e : (b == c) = false := beq_eq_false_iff_ne.2 (fun e => h.1 e.symm)
    simp [Lib.indexByte, e, indexByte_no w c h.2]

theorem cut_at (w r : List UInt8) (c : UInt8) (h : c ∉ w) : Lib.cut (w ++ c :: r) [c] = (w, r, true) := by
  unfold Lib.cut
  rw [Lib.index_one, indexByte_at w r c h, if_pos (by omega)]
  simp

theorem split_at (w r : List UInt8) (c : UInt8) (h : c ∉ w) : Lib.split (w ++ c :: r) [c] = w :: Lib.split r [c] := by
  unfold Lib.split
  have ec : Lib.count (w ++ c :: r) [c] = Lib.count r [c] + 1 := by
    rw [Lib.count_one, Lib.count_one, List.count_append, List.count_eq_zero_of_not_mem h, List.count_cons_self, Nat.zero_add]
  rw [ec, Lib.splitK, Lib.index_one, indexByte_at w r c h]
  have e2 : ((w.length : Int) == -1) = false := by rw [beq_eq_false_iff_ne]; omega
  rw [e2]
  simp
theorem split_no (w : List UInt8) (c : UInt8) (h : c ∉ w) : Lib.split w [c] = [w] := by
  unfold Lib.split
  rw [Lib.count_one, List.count_eq_zero_of_not_mem h]
  rfl

end Go.FM

/-
  WHAT dec's FUNCTIONS COME TO, and the document's own beside them: specifications; of no program.
-/
namespace Go.FM
open Go

def i64w (n : Int) : Int := IntKind.wrap .i64 n
def u64w (n : Int) : Int := IntKind.wrap .u64 n
def withinM (lo hi : Int) : Int := i64w (i64w (hi - lo) + 1)
def withinZ (n lo hi : Int) : Int := cond (decide (n.tmod (withinM lo hi) < 0)) (i64w (lo + i64w (i64w (i64w (n.tmod (withinM lo hi) + hi) - lo) + 1))) (i64w (lo + n.tmod (withinM lo hi)))
def S_copsebook_Within : RSpec
  | [.int .i64 n, .int .i64 lo, .int .i64 hi] => .br (decide (withinM lo hi = 0)) .no (.ok (.int .i64 (withinZ n lo hi)) [])
  | _ => .no

/-! ### a number's text -/
abbrev w_minus : ByteArray := ⟨#[45]⟩
abbrev w_point : ByteArray := ⟨#[46]⟩
abbrev w_nought : ByteArray := ⟨#[48]⟩
abbrev w_none : ByteArray := ⟨#[]⟩
def S_dec_part : RSpec
  | [] => .ok (.int .u64 390625) []
  | _ => .no
/-- The decimals of so many parts, of eight places. -/
def decsL (r : Nat) : List UInt8 := Lib.trimRightB (Lib.repeatL [48] (8 - (Lib.decDigits (r * 390625)).length) ++ Lib.decDigits (r * 390625)) 48
def sizeL (u : Nat) : List UInt8 := Lib.decDigits (u / 256) ++ (if u % 256 = 0 then [] else 46 :: decsL (u % 256))
def printL (n : Int) : List UInt8 := if n < 0 then 45 :: sizeL n.natAbs else sizeL n.natAbs
def printB (n : Int) : ByteArray := ⟨(printL n).toArray⟩
def S_dec_Print : RSpec
  | [.int .i64 n] => .ok (.str (printB n)) []
  | _ => .no
def S_dec_digits : RSpec
  | [.str s] => .ok (.tup [.int .u64 (puV s), .bool (puN s)]) []
  | _ => .no

/-! ### a text, scanned -/
def decWhole (s : ByteArray) : ByteArray := cutL (trimPreB s w_minus) w_point
def decPart (s : ByteArray) : ByteArray := cutR (trimPreB s w_minus) w_point
def decFull (s : ByteArray) : ByteArray := decPart s ++ repB w_nought (8 - (decPart s).size)
def decSize (s : ByteArray) : Int := u64w (u64w (puV (decWhole s) * 256) + puV (decFull s) / 390625)
def decNum (s : ByteArray) : Int := i64w (cond (hasPreB s w_minus) (u64w (0 - decSize s)) (decSize s))
def decIs (s : ByteArray) : Bool :=
  decide ((decPart s).size ≤ 8) && (puN (decWhole s) && (puN (decFull s) && (decide (puV (decWhole s) ≤ 36028797018963968) && (decide (puV (decFull s) % 390625 = 0) && decide (printB (decNum s) = s)))))
def decV (s : ByteArray) : Int := cond (decIs s) (decNum s) 0
def S_dec_Scan : RSpec
  | [.str s] => .br (decide (s.size < 4294967281)) (.ok (.tup [.int .i64 (decV s), .bool (decIs s)]) []) .no
  | _ => .no

/-! ### the document's own answer -/
def numL (u : Nat) : List UInt8 := if u = 0 then [] else Lib.decDigits u
def digL (u k : Nat) : List UInt8 := List.replicate (k - (numL u).length) 48 ++ numL u
def S_copseref1_digits : RSpec
  | [.int .u64 u, .int .i64 k] => .br (decide (0 ≤ k) && decide (k ≤ 100)) (.ok (.str ⟨(digL u.toNat k.toNat).toArray⟩) []) .no
  | _ => .no
def S_copseref1_Print : RSpec
  | [.int .i64 n] => .ok (.str (printB n)) []
  | _ => .no

structure Cst where
  w : Int
  p : Int
  n : Int
  pt : Bool
def u8w (n : Int) : Int := IntKind.wrap .u8 n
def dig (c : UInt8) : Int := i64w (u8w (ic c.toNat - 48))
def cStep (first : Bool) (c : UInt8) (s : Cst) : Option Cst :=
  cond (ic c.toNat == 45 && first) (some s)
  (cond (ic c.toNat == 46 && !s.pt) (some ⟨s.w, s.p, s.n, true⟩)
  (cond (decide (ic c.toNat < 48) || decide (ic c.toNat > 57)) none
  (cond s.pt
    (cond (s.n == 8) none (some ⟨s.w, i64w (i64w (10 * s.p) + dig c), i64w (s.n + 1), s.pt⟩))
    (cond (decide (s.w > 36028797018963968)) none (some ⟨i64w (i64w (10 * s.w) + dig c), s.p, s.n, s.pt⟩)))))
def cRun : Bool → List UInt8 → Cst → Option Cst
  | _, [], s => some s
  | b, c :: r, s => match cStep b c s with
    | some s' => cRun false r s'
    | none => none
def cPad : Nat → Int → Int
  | 0, p => p
  | n + 1, p => cPad n (i64w (10 * p))
def cFin (minus : Bool) (w p : Int) : List IV :=
  cond (decide (w > 36028797018963968)) []
  (cond (p.tmod 390625 != 0) []
  (cond (minus && (w == 36028797018963968 && p == 0)) [.int (-9223372036854775808)]
  (cond (w == 36028797018963968) []
    [.int (cond minus (i64w (0 - i64w (i64w (w * 256) + i64w (p.tdiv 390625)))) (i64w (i64w (w * 256) + i64w (p.tdiv 390625))))])))
def minusB (s : ByteArray) : Bool := match s.data.toList with | [] => false | c :: _ => ic c.toNat == 45
def candL (s : ByteArray) : List IV := match cRun true s.data.toList ⟨0, 0, 0, false⟩ with
  | none => []
  | some st => cFin (minusB s) st.w (cPad (8 - st.n).toNat st.p)
def S_copseref1_candidates : RSpec
  | [.str s] => .ok (.list false [.int .i64] (candL s)) []
  | _ => .no
def refIs (s : ByteArray) : Bool := (candL s).any fun x => decide (printB x.toInt = s)
def refV (s : ByteArray) : Int := (((candL s).find? fun x => decide (printB x.toInt = s)).getD (.int 0)).toInt
def S_copseref1_Scan : RSpec
  | [.str s] => .ok (.tup [.int .i64 (refV s), .bool (refIs s)]) []
  | _ => .no

/-! ### the laws -/
def S_copselaw3_DecRuns : RSpec
  | [] => .ok (.bool true) []
  | _ => .no
def fromPoint (s : ByteArray) : ByteArray := ⟨(s.data.toList.dropWhile (fun c => !(c == 46))).toArray⟩
def S_copselaw3_DecAlone_1 : RSpec
  | [.str s] => .ok (.str (fromPoint s)) []
  | _ => .no

end Go.FM

/-
  NORMAL FORMS: what the functions' runs come to (written by a program of this claim's own, checked by the kernel).
-/
namespace Go.FM
open Go Go.Proofs

/-! ### copse/copsebook.Within -/
def E_copsebook_Within (N : Nat) : Env := mkE [] [] 24 N

theorem nf_copsebook_Within (N : Nat) (n : Int) (lo : Int) (hi : Int) : evFun (E_copsebook_Within N) c_copsebook_Within [.tmp 6] [[.int .i64]] [(.int .i64 n), (.int .i64 lo), (.int .i64 hi)] =
  (cond (decide (IntKind.wrap IntKind.i64 (IntKind.wrap IntKind.i64 (hi - lo) + 1) = 0))
  none
  (cond (decide (Int.tmod n (IntKind.wrap IntKind.i64 (IntKind.wrap IntKind.i64 (hi - lo) + 1)) < 0))
    (some ((.int .i64 (IntKind.wrap IntKind.i64 (lo + IntKind.wrap IntKind.i64 (IntKind.wrap IntKind.i64 (IntKind.wrap IntKind.i64 (Int.tmod n (IntKind.wrap IntKind.i64 (IntKind.wrap IntKind.i64 (hi - lo) + 1)) + hi) - lo) + 1)))), []))
    (some ((.int .i64 (IntKind.wrap IntKind.i64 (lo + Int.tmod n (IntKind.wrap IntKind.i64 (IntKind.wrap IntKind.i64 (hi - lo) + 1))))), [])))) := by kernel_rfl

/-! ### copse/dec.part -/
def E_dec_part (N : Nat) : Env := mkE [] [(3, ⟨[0, 1, 2], [], []⟩)] 8 N

theorem nf_dec_part (N : Nat) : evFun (E_dec_part N) c_dec_part [.tmp 0] [[.int .u64]] [] =
  (lpE (E_dec_part N) (subC c_dec_part [1, 1, 0, 1, 0, 0]) ⟨[0, 1, 2], [], []⟩ N ⟨[(0, (.int .u64 0)), (1, (.int .u64 1)), (2, (.int .i64 0))], []⟩ (kBlock 0 (kSq (E_dec_part N) (subC c_dec_part [1, 1, 1]) (outT (E_dec_part N) none [(ResultVar.tmp 0)] [[(.int .u64)]])))) := by kernel_rfl

theorem st_dec_part_1 (N : Nat) (x0 : Int) (x1 : Int) (x2 : Int) (again : St → Res) (k : Out → St → Res) : rnd (E_dec_part N) (subC c_dec_part [1, 1, 0, 1, 0, 0])
    ⟨[(0, (.int .u64 x0)), (1, (.int .u64 x1)), (2, (.int .i64 x2))], []⟩
    (kLoop again ⟨[0, 1, 2], [], []⟩ k) =
  (cond (decide (x2 < 8))
  (again ⟨[(0, (.int .u64 x0)), (1, (.int .u64 (IntKind.wrap IntKind.u64 (x1 * 5)))), (2, (.int .i64 (IntKind.wrap IntKind.i64 (x2 + 1))))], []⟩)
  (k (.exit 0) ⟨[(0, (.int .u64 x0)), (1, (.int .u64 x1)), (2, (.int .i64 x2))], []⟩)) := by kernel_rfl

theorem ex_dec_part_1_1 (N : Nat) (x0 : Int) (x1 : Int) (x2 : Int) : (kBlock 0 (kSq (E_dec_part N) (subC c_dec_part [1, 1, 1]) (outT (E_dec_part N) none [(ResultVar.tmp 0)] [[(.int .u64)]]))) (.exit 0)
    ⟨[(0, (.int .u64 x0)), (1, (.int .u64 x1)), (2, (.int .i64 x2))], []⟩ =
  (some ((.int .u64 x1), [])) := by kernel_rfl

/-! ### copse/dec.digits -/
def E_dec_digits (N : Nat) : Env := mkE [(25, S_strconv_ParseUint)] [] 19 N

theorem nf_dec_digits (N : Nat) (s : ByteArray) : evFun (E_dec_digits N) c_dec_digits [.tmp 2, .tmp 3] [[.int .u64], [.bool]] [(.str s)] =
  (cond (puN s)
  (cond (decide (0 ≤ 0) && decide (0 < ic (ByteArray.size s)))
    (some ((.tup [(.int .u64 (puV s)), (.bool (ic (UInt8.toNat (List.getD (Array.toList (ByteArray.data s)) (Int.toNat 0) 0)) != 43))]), []))
    none)
  (some ((.tup [(.int .u64 (puV s)), (.bool false)]), []))) := by kernel_rfl

/-! ### copse/dec.Print -/
def E_dec_Print (N : Nat) : Env := mkE [(17, S_strings_Repeat), (18, S_dec_part), (19, S_strconv_FormatUint), (20, S_strings_TrimRight)] [] 38 N

theorem nf_dec_Print (N : Nat) (n : Int) : evFun (E_dec_Print N) c_dec_Print [.tmp 2] [[.str]] [(.int .i64 n)] =
  (cond (decide (n < 0))
  (cond (decide (ByteArray.size { data := #[45] } + ByteArray.size (numB (Int.fdiv (IntKind.wrap IntKind.u64 (0 - IntKind.wrap IntKind.u64 n)) (2 ^ min (Int.toNat 8) (IntKind.bits IntKind.u64)))) ≤ strMax))
    (cond (IntKind.wrap IntKind.u64 (ic (BitVec.toNat (BitVec.ofInt (IntKind.bits IntKind.u64) (IntKind.wrap IntKind.u64 (0 - IntKind.wrap IntKind.u64 n)) &&& BitVec.ofInt (IntKind.bits IntKind.u64) 255))) == 0)
      (some ((.str ({ data := #[45] } ++ numB (Int.fdiv (IntKind.wrap IntKind.u64 (0 - IntKind.wrap IntKind.u64 n)) (2 ^ min (Int.toNat 8) (IntKind.bits IntKind.u64))))), []))
      (cond (decide (ByteArray.size ({ data := #[45] } ++ numB (Int.fdiv (IntKind.wrap IntKind.u64 (0 - IntKind.wrap IntKind.u64 n)) (2 ^ min (Int.toNat 8) (IntKind.bits IntKind.u64)))) + ByteArray.size { data := #[46] } ≤ strMax))
        (cond (decide (0 ≤ IntKind.wrap IntKind.i64 (8 - ic (ByteArray.size (numB (IntKind.wrap IntKind.u64 (IntKind.wrap IntKind.u64 (ic (BitVec.toNat (BitVec.ofInt (IntKind.bits IntKind.u64) (IntKind.wrap IntKind.u64 (0 - IntKind.wrap IntKind.u64 n)) &&& BitVec.ofInt (IntKind.bits IntKind.u64) 255))) * 390625)))))) && decide (ByteArray.size { data := #[48] } * Int.toNat (IntKind.wrap IntKind.i64 (8 - ic (ByteArray.size (numB (IntKind.wrap IntKind.u64 (IntKind.wrap IntKind.u64 (ic (BitVec.toNat (BitVec.ofInt (IntKind.bits IntKind.u64) (IntKind.wrap IntKind.u64 (0 - IntKind.wrap IntKind.u64 n)) &&& BitVec.ofInt (IntKind.bits IntKind.u64) 255))) * 390625)))))) ≤ strMax))
          (cond (decide (ByteArray.size (repB { data := #[48] } (Int.toNat (IntKind.wrap IntKind.i64 (8 - ic (ByteArray.size (numB (IntKind.wrap IntKind.u64 (IntKind.wrap IntKind.u64 (ic (BitVec.toNat (BitVec.ofInt (IntKind.bits IntKind.u64) (IntKind.wrap IntKind.u64 (0 - IntKind.wrap IntKind.u64 n)) &&& BitVec.ofInt (IntKind.bits IntKind.u64) 255))) * 390625)))))))) + ByteArray.size (numB (IntKind.wrap IntKind.u64 (IntKind.wrap IntKind.u64 (ic (BitVec.toNat (BitVec.ofInt (IntKind.bits IntKind.u64) (IntKind.wrap IntKind.u64 (0 - IntKind.wrap IntKind.u64 n)) &&& BitVec.ofInt (IntKind.bits IntKind.u64) 255))) * 390625))) ≤ strMax))
            (cond (decide (ByteArray.size ({ data := #[45] } ++ numB (Int.fdiv (IntKind.wrap IntKind.u64 (0 - IntKind.wrap IntKind.u64 n)) (2 ^ min (Int.toNat 8) (IntKind.bits IntKind.u64))) ++ { data := #[46] }) + ByteArray.size (trimRB (repB { data := #[48] } (Int.toNat (IntKind.wrap IntKind.i64 (8 - ic (ByteArray.size (numB (IntKind.wrap IntKind.u64 (IntKind.wrap IntKind.u64 (ic (BitVec.toNat (BitVec.ofInt (IntKind.bits IntKind.u64) (IntKind.wrap IntKind.u64 (0 - IntKind.wrap IntKind.u64 n)) &&& BitVec.ofInt (IntKind.bits IntKind.u64) 255))) * 390625))))))) ++ numB (IntKind.wrap IntKind.u64 (IntKind.wrap IntKind.u64 (ic (BitVec.toNat (BitVec.ofInt (IntKind.bits IntKind.u64) (IntKind.wrap IntKind.u64 (0 - IntKind.wrap IntKind.u64 n)) &&& BitVec.ofInt (IntKind.bits IntKind.u64) 255))) * 390625))) { data := #[48] }) ≤ strMax))
              (some ((.str ({ data := #[45] } ++ numB (Int.fdiv (IntKind.wrap IntKind.u64 (0 - IntKind.wrap IntKind.u64 n)) (2 ^ min (Int.toNat 8) (IntKind.bits IntKind.u64))) ++ { data := #[46] } ++ trimRB (repB { data := #[48] } (Int.toNat (IntKind.wrap IntKind.i64 (8 - ic (ByteArray.size (numB (IntKind.wrap IntKind.u64 (IntKind.wrap IntKind.u64 (ic (BitVec.toNat (BitVec.ofInt (IntKind.bits IntKind.u64) (IntKind.wrap IntKind.u64 (0 - IntKind.wrap IntKind.u64 n)) &&& BitVec.ofInt (IntKind.bits IntKind.u64) 255))) * 390625))))))) ++ numB (IntKind.wrap IntKind.u64 (IntKind.wrap IntKind.u64 (ic (BitVec.toNat (BitVec.ofInt (IntKind.bits IntKind.u64) (IntKind.wrap IntKind.u64 (0 - IntKind.wrap IntKind.u64 n)) &&& BitVec.ofInt (IntKind.bits IntKind.u64) 255))) * 390625))) { data := #[48] })), []))
              none)
            none)
          none)
        none))
    none)
  (cond (decide (ByteArray.size { data := #[] } + ByteArray.size (numB (Int.fdiv (IntKind.wrap IntKind.u64 n) (2 ^ min (Int.toNat 8) (IntKind.bits IntKind.u64)))) ≤ strMax))
    (cond (IntKind.wrap IntKind.u64 (ic (BitVec.toNat (BitVec.ofInt (IntKind.bits IntKind.u64) (IntKind.wrap IntKind.u64 n) &&& BitVec.ofInt (IntKind.bits IntKind.u64) 255))) == 0)
      (some ((.str ({ data := #[] } ++ numB (Int.fdiv (IntKind.wrap IntKind.u64 n) (2 ^ min (Int.toNat 8) (IntKind.bits IntKind.u64))))), []))
      (cond (decide (ByteArray.size ({ data := #[] } ++ numB (Int.fdiv (IntKind.wrap IntKind.u64 n) (2 ^ min (Int.toNat 8) (IntKind.bits IntKind.u64)))) + ByteArray.size { data := #[46] } ≤ strMax))
        (cond (decide (0 ≤ IntKind.wrap IntKind.i64 (8 - ic (ByteArray.size (numB (IntKind.wrap IntKind.u64 (IntKind.wrap IntKind.u64 (ic (BitVec.toNat (BitVec.ofInt (IntKind.bits IntKind.u64) (IntKind.wrap IntKind.u64 n) &&& BitVec.ofInt (IntKind.bits IntKind.u64) 255))) * 390625)))))) && decide (ByteArray.size { data := #[48] } * Int.toNat (IntKind.wrap IntKind.i64 (8 - ic (ByteArray.size (numB (IntKind.wrap IntKind.u64 (IntKind.wrap IntKind.u64 (ic (BitVec.toNat (BitVec.ofInt (IntKind.bits IntKind.u64) (IntKind.wrap IntKind.u64 n) &&& BitVec.ofInt (IntKind.bits IntKind.u64) 255))) * 390625)))))) ≤ strMax))
          (cond (decide (ByteArray.size (repB { data := #[48] } (Int.toNat (IntKind.wrap IntKind.i64 (8 - ic (ByteArray.size (numB (IntKind.wrap IntKind.u64 (IntKind.wrap IntKind.u64 (ic (BitVec.toNat (BitVec.ofInt (IntKind.bits IntKind.u64) (IntKind.wrap IntKind.u64 n) &&& BitVec.ofInt (IntKind.bits IntKind.u64) 255))) * 390625)))))))) + ByteArray.size (numB (IntKind.wrap IntKind.u64 (IntKind.wrap IntKind.u64 (ic (BitVec.toNat (BitVec.ofInt (IntKind.bits IntKind.u64) (IntKind.wrap IntKind.u64 n) &&& BitVec.ofInt (IntKind.bits IntKind.u64) 255))) * 390625))) ≤ strMax))
            (cond (decide (ByteArray.size ({ data := #[] } ++ numB (Int.fdiv (IntKind.wrap IntKind.u64 n) (2 ^ min (Int.toNat 8) (IntKind.bits IntKind.u64))) ++ { data := #[46] }) + ByteArray.size (trimRB (repB { data := #[48] } (Int.toNat (IntKind.wrap IntKind.i64 (8 - ic (ByteArray.size (numB (IntKind.wrap IntKind.u64 (IntKind.wrap IntKind.u64 (ic (BitVec.toNat (BitVec.ofInt (IntKind.bits IntKind.u64) (IntKind.wrap IntKind.u64 n) &&& BitVec.ofInt (IntKind.bits IntKind.u64) 255))) * 390625))))))) ++ numB (IntKind.wrap IntKind.u64 (IntKind.wrap IntKind.u64 (ic (BitVec.toNat (BitVec.ofInt (IntKind.bits IntKind.u64) (IntKind.wrap IntKind.u64 n) &&& BitVec.ofInt (IntKind.bits IntKind.u64) 255))) * 390625))) { data := #[48] }) ≤ strMax))
              (some ((.str ({ data := #[] } ++ numB (Int.fdiv (IntKind.wrap IntKind.u64 n) (2 ^ min (Int.toNat 8) (IntKind.bits IntKind.u64))) ++ { data := #[46] } ++ trimRB (repB { data := #[48] } (Int.toNat (IntKind.wrap IntKind.i64 (8 - ic (ByteArray.size (numB (IntKind.wrap IntKind.u64 (IntKind.wrap IntKind.u64 (ic (BitVec.toNat (BitVec.ofInt (IntKind.bits IntKind.u64) (IntKind.wrap IntKind.u64 n) &&& BitVec.ofInt (IntKind.bits IntKind.u64) 255))) * 390625))))))) ++ numB (IntKind.wrap IntKind.u64 (IntKind.wrap IntKind.u64 (ic (BitVec.toNat (BitVec.ofInt (IntKind.bits IntKind.u64) (IntKind.wrap IntKind.u64 n) &&& BitVec.ofInt (IntKind.bits IntKind.u64) 255))) * 390625))) { data := #[48] })), []))
              none)
            none)
          none)
        none))
    none)) := by kernel_rfl

end Go.FM

/-
  NORMAL FORMS: what the functions' runs come to (written by a program of this claim's own, checked by the kernel).
-/
namespace Go.FM
open Go Go.Proofs

/-! ### copse/dec.Scan -/
def E_dec_Scan (N : Nat) : Env := mkE [(9, S_dec_Print), (14, S_strings_CutPrefix), (15, S_strings_Cut), (16, S_dec_digits), (17, S_strings_Repeat), (18, S_dec_part)] [] 76 N

theorem nf_dec_Scan (N : Nat) (s : ByteArray) : evFun (E_dec_Scan N) c_dec_Scan [.tmp 2, .tmp 3] [[.int .i64], [.bool]] [(.str s)] =
  (cond (decide (ByteArray.size (trimPreB s { data := #[45] }) < 4294967281))
  (cond (decide (ic (ByteArray.size (cutR (trimPreB s { data := #[45] }) { data := #[46] })) > 8))
    (some ((.tup [(.int .i64 0), (.bool false)]), []))
    (cond (decide (0 ≤ IntKind.wrap IntKind.i64 (8 - ic (ByteArray.size (cutR (trimPreB s { data := #[45] }) { data := #[46] })))) && decide (ByteArray.size { data := #[48] } * Int.toNat (IntKind.wrap IntKind.i64 (8 - ic (ByteArray.size (cutR (trimPreB s { data := #[45] }) { data := #[46] })))) ≤ strMax))
      (cond (decide (ByteArray.size (cutR (trimPreB s { data := #[45] }) { data := #[46] }) + ByteArray.size (repB { data := #[48] } (Int.toNat (IntKind.wrap IntKind.i64 (8 - ic (ByteArray.size (cutR (trimPreB s { data := #[45] }) { data := #[46] })))))) ≤ strMax))
        (cond (!puN (cutL (trimPreB s { data := #[45] }) { data := #[46] }))
          (some ((.tup [(.int .i64 0), (.bool false)]), []))
          (cond (!puN (cutR (trimPreB s { data := #[45] }) { data := #[46] } ++ repB { data := #[48] } (Int.toNat (IntKind.wrap IntKind.i64 (8 - ic (ByteArray.size (cutR (trimPreB s { data := #[45] }) { data := #[46] })))))))
            (some ((.tup [(.int .i64 0), (.bool false)]), []))
            (cond (decide (puV (cutL (trimPreB s { data := #[45] }) { data := #[46] }) > 36028797018963968))
              (some ((.tup [(.int .i64 0), (.bool false)]), []))
              (cond (Int.tmod (puV (cutR (trimPreB s { data := #[45] }) { data := #[46] } ++ repB { data := #[48] } (Int.toNat (IntKind.wrap IntKind.i64 (8 - ic (ByteArray.size (cutR (trimPreB s { data := #[45] }) { data := #[46] }))))))) 390625 != 0)
                (some ((.tup [(.int .i64 0), (.bool false)]), []))
                (cond (hasPreB s { data := #[45] })
                  (cond (ByteArray.toList (printB (IntKind.wrap IntKind.i64 (IntKind.wrap IntKind.u64 (0 - IntKind.wrap IntKind.u64 (IntKind.wrap IntKind.u64 (puV (cutL (trimPreB s { data := #[45] }) { data := #[46] }) * 2 ^ min (Int.toNat 8) (IntKind.bits IntKind.u64)) + IntKind.wrap IntKind.u64 (Int.tdiv (puV (cutR (trimPreB s { data := #[45] }) { data := #[46] } ++ repB { data := #[48] } (Int.toNat (IntKind.wrap IntKind.i64 (8 - ic (ByteArray.size (cutR (trimPreB s { data := #[45] }) { data := #[46] }))))))) 390625)))))) == ByteArray.toList s)
                    (some ((.tup [(.int .i64 (IntKind.wrap IntKind.i64 (IntKind.wrap IntKind.u64 (0 - IntKind.wrap IntKind.u64 (IntKind.wrap IntKind.u64 (puV (cutL (trimPreB s { data := #[45] }) { data := #[46] }) * 2 ^ min (Int.toNat 8) (IntKind.bits IntKind.u64)) + IntKind.wrap IntKind.u64 (Int.tdiv (puV (cutR (trimPreB s { data := #[45] }) { data := #[46] } ++ repB { data := #[48] } (Int.toNat (IntKind.wrap IntKind.i64 (8 - ic (ByteArray.size (cutR (trimPreB s { data := #[45] }) { data := #[46] }))))))) 390625)))))), (.bool true)]), []))
                    (some ((.tup [(.int .i64 0), (.bool false)]), [])))
                  (cond (ByteArray.toList (printB (IntKind.wrap IntKind.i64 (IntKind.wrap IntKind.u64 (IntKind.wrap IntKind.u64 (puV (cutL (trimPreB s { data := #[45] }) { data := #[46] }) * 2 ^ min (Int.toNat 8) (IntKind.bits IntKind.u64)) + IntKind.wrap IntKind.u64 (Int.tdiv (puV (cutR (trimPreB s { data := #[45] }) { data := #[46] } ++ repB { data := #[48] } (Int.toNat (IntKind.wrap IntKind.i64 (8 - ic (ByteArray.size (cutR (trimPreB s { data := #[45] }) { data := #[46] }))))))) 390625))))) == ByteArray.toList s)
                    (some ((.tup [(.int .i64 (IntKind.wrap IntKind.i64 (IntKind.wrap IntKind.u64 (IntKind.wrap IntKind.u64 (puV (cutL (trimPreB s { data := #[45] }) { data := #[46] }) * 2 ^ min (Int.toNat 8) (IntKind.bits IntKind.u64)) + IntKind.wrap IntKind.u64 (Int.tdiv (puV (cutR (trimPreB s { data := #[45] }) { data := #[46] } ++ repB { data := #[48] } (Int.toNat (IntKind.wrap IntKind.i64 (8 - ic (ByteArray.size (cutR (trimPreB s { data := #[45] }) { data := #[46] }))))))) 390625))))), (.bool true)]), []))
                    (some ((.tup [(.int .i64 0), (.bool false)]), []))))))))
        none)
      none))
  none) := by kernel_rfl

/-! ### copse/copselaw3.DecRuns -/
def E_copselaw3_DecRuns (N : Nat) : Env := mkE [(8, S_dec_Scan), (9, S_dec_Print)] [] 54 N

theorem nf_copselaw3_DecRuns (N : Nat) : evFun (E_copselaw3_DecRuns N) c_copselaw3_DecRuns [.tmp 0] [[.bool]] [] =
  (some ((.bool true), [])) := by kernel_rfl

end Go.FM

/-
  NORMAL FORMS: what the functions' runs come to (written by a program of this claim's own, checked by the kernel).
-/
namespace Go.FM
open Go Go.Proofs

/-! ### copse/copseref1.digits -/
def E_copseref1_digits (N : Nat) : Env := mkE [] [(2, ⟨[0, 1, 4, 5], [], []⟩)] 25 N

theorem nf_copseref1_digits (N : Nat) (u : Int) (least : Int) : evFun (E_copseref1_digits N) c_copseref1_digits [.tmp 4] [[.str]] [(.int .u64 u), (.int .i64 least)] =
  (lpE (E_copseref1_digits N) (subC c_copseref1_digits [1, 1, 0, 0, 0]) ⟨[0, 1, 4, 5], [], []⟩ N ⟨[(0, (.int .u64 u)), (1, (.int .i64 least)), (4, (.str ({ data := #[] }))), (5, (.str ({ data := #[] })))], []⟩ (kBlock 0 (kSq (E_copseref1_digits N) (subC c_copseref1_digits [1, 1, 1]) (outT (E_copseref1_digits N) none [(ResultVar.tmp 4)] [[.str]])))) := by kernel_rfl

theorem st_copseref1_digits_1 (N : Nat) (x0 : Int) (x1 : Int) (s4 : ByteArray) (s5 : ByteArray) (again : St → Res) (k : Out → St → Res) : rnd (E_copseref1_digits N) (subC c_copseref1_digits [1, 1, 0, 0, 0])
    ⟨[(0, (.int .u64 x0)), (1, (.int .i64 x1)), (4, (.str s4)), (5, (.str s5))], []⟩
    (kLoop again ⟨[0, 1, 4, 5], [], []⟩ k) =
  (cond (decide (x0 > 0))
  (cond (decide (ByteArray.size (strOfNums (List.map IV.toInt (List.drop 0 (List.take 1 [IV.int (IntKind.wrap IntKind.u8 (IntKind.wrap IntKind.u64 (48 + Int.tmod x0 10)))])))) + ByteArray.size s5 ≤ strMax))
    (again ⟨[(0, (.int .u64 (IntKind.wrap IntKind.u64 (Int.tdiv x0 10)))), (1, (.int .i64 (IntKind.wrap IntKind.i64 (x1 - 1)))), (4, (.str s4)), (5, (.str (strOfNums (List.map IV.toInt (List.drop 0 (List.take 1 [IV.int (IntKind.wrap IntKind.u8 (IntKind.wrap IntKind.u64 (48 + Int.tmod x0 10)))]))) ++ s5)))], []⟩)
    none)
  (cond (decide (x1 > 0))
    (cond (decide (ByteArray.size (strOfNums (List.map IV.toInt (List.drop 0 (List.take 1 [IV.int (IntKind.wrap IntKind.u8 (IntKind.wrap IntKind.u64 (48 + Int.tmod x0 10)))])))) + ByteArray.size s5 ≤ strMax))
      (again ⟨[(0, (.int .u64 (IntKind.wrap IntKind.u64 (Int.tdiv x0 10)))), (1, (.int .i64 (IntKind.wrap IntKind.i64 (x1 - 1)))), (4, (.str s4)), (5, (.str (strOfNums (List.map IV.toInt (List.drop 0 (List.take 1 [IV.int (IntKind.wrap IntKind.u8 (IntKind.wrap IntKind.u64 (48 + Int.tmod x0 10)))]))) ++ s5)))], []⟩)
      none)
    (k (.exit 0) ⟨[(0, (.int .u64 x0)), (1, (.int .i64 x1)), (4, (.str s4)), (5, (.str s5))], []⟩))) := by kernel_rfl

theorem ex_copseref1_digits_1_1 (N : Nat) (x0 : Int) (x1 : Int) (s4 : ByteArray) (s5 : ByteArray) : (kBlock 0 (kSq (E_copseref1_digits N) (subC c_copseref1_digits [1, 1, 1]) (outT (E_copseref1_digits N) none [(ResultVar.tmp 4)] [[.str]]))) (.exit 0)
    ⟨[(0, (.int .u64 x0)), (1, (.int .i64 x1)), (4, (.str s4)), (5, (.str s5))], []⟩ =
  (some ((.str s5), [])) := by kernel_rfl

/-! ### copse/copseref1.candidates -/
def E_copseref1_candidates (N : Nat) : Env := mkE [] [(4, ⟨[0, 2, 3, 4, 5, 6, 7, 8], [], []⟩), (19, ⟨[2, 3, 4, 5, 7], [], []⟩)] 104 N

theorem nf_copseref1_candidates (N : Nat) (s : ByteArray) : evFun (E_copseref1_candidates N) c_copseref1_candidates [.tmp 2] [[.list false [.int .i64]]] [(.str s)] =
  (cond (decide (ic (ByteArray.size s) > 0))
  (cond (decide (0 ≤ 0) && decide (0 < ic (ByteArray.size s)))
    (lpE (E_copseref1_candidates N) (subC c_copseref1_candidates [1, 1, 1, 0, 1, 0, 0]) ⟨[0, 2, 3, 4, 5, 6, 7, 8], [], []⟩ N ⟨[(0, (.str s)), (2, .zs), (3, (.int .i64 0)), (4, (.int .i64 0)), (5, (.int .i64 0)), (6, (.bool false)), (7, (.bool (ic (UInt8.toNat (List.getD (Array.toList (ByteArray.data s)) (Int.toNat 0) 0)) == 45))), (8, (.int .i64 0))], []⟩ (kBlock 0 (kSq (E_copseref1_candidates N) (subC c_copseref1_candidates [1, 1, 1, 1]) (outT (E_copseref1_candidates N) none [(ResultVar.tmp 2)] [[(.list false [(.int .i64)])]]))))
    none)
  (lpE (E_copseref1_candidates N) (subC c_copseref1_candidates [1, 1, 1, 0, 1, 0, 0]) ⟨[0, 2, 3, 4, 5, 6, 7, 8], [], []⟩ N ⟨[(0, (.str s)), (2, .zs), (3, (.int .i64 0)), (4, (.int .i64 0)), (5, (.int .i64 0)), (6, (.bool false)), (7, (.bool false)), (8, (.int .i64 0))], []⟩ (kBlock 0 (kSq (E_copseref1_candidates N) (subC c_copseref1_candidates [1, 1, 1, 1]) (outT (E_copseref1_candidates N) none [(ResultVar.tmp 2)] [[(.list false [(.int .i64)])]]))))) := by kernel_rfl

theorem st_copseref1_candidates_1 (N : Nat) (s0 : ByteArray) (x3 : Int) (x4 : Int) (x5 : Int) (b6 : Bool) (b7 : Bool) (x8 : Int) (again : St → Res) (k : Out → St → Res) : rnd (E_copseref1_candidates N) (subC c_copseref1_candidates [1, 1, 1, 0, 1, 0, 0])
    ⟨[(0, (.str s0)), (2, .zs), (3, (.int .i64 x3)), (4, (.int .i64 x4)), (5, (.int .i64 x5)), (6, (.bool b6)), (7, (.bool b7)), (8, (.int .i64 x8))], []⟩
    (kLoop again ⟨[0, 2, 3, 4, 5, 6, 7, 8], [], []⟩ k) =
  (cond (decide (x8 < ic (ByteArray.size s0)))
  (cond (decide (0 ≤ x8) && decide (x8 < ic (ByteArray.size s0)))
    (cond (ic (UInt8.toNat (List.getD (Array.toList (ByteArray.data s0)) (Int.toNat x8) 0)) == 45)
      (cond (x8 == 0)
        (again ⟨[(0, (.str s0)), (2, .zs), (3, (.int .i64 x3)), (4, (.int .i64 x4)), (5, (.int .i64 x5)), (6, (.bool b6)), (7, (.bool b7)), (8, (.int .i64 (IntKind.wrap IntKind.i64 (x8 + 1))))], []⟩)
        (cond (ic (UInt8.toNat (List.getD (Array.toList (ByteArray.data s0)) (Int.toNat x8) 0)) == 46)
          (cond (!b6)
            (again ⟨[(0, (.str s0)), (2, .zs), (3, (.int .i64 x3)), (4, (.int .i64 x4)), (5, (.int .i64 x5)), (6, (.bool true)), (7, (.bool b7)), (8, (.int .i64 (IntKind.wrap IntKind.i64 (x8 + 1))))], []⟩)
            (cond (decide (ic (UInt8.toNat (List.getD (Array.toList (ByteArray.data s0)) (Int.toNat x8) 0)) < 48))
              (k .ret ⟨[(0, (.str s0)), (2, .zs), (3, (.int .i64 x3)), (4, (.int .i64 x4)), (5, (.int .i64 x5)), (6, (.bool b6)), (7, (.bool b7)), (8, (.int .i64 x8))], []⟩)
              (cond (decide (ic (UInt8.toNat (List.getD (Array.toList (ByteArray.data s0)) (Int.toNat x8) 0)) > 57))
                (k .ret ⟨[(0, (.str s0)), (2, .zs), (3, (.int .i64 x3)), (4, (.int .i64 x4)), (5, (.int .i64 x5)), (6, (.bool b6)), (7, (.bool b7)), (8, (.int .i64 x8))], []⟩)
                (cond b6
                  (cond (x5 == 8)
                    (k .ret ⟨[(0, (.str s0)), (2, .zs), (3, (.int .i64 x3)), (4, (.int .i64 x4)), (5, (.int .i64 x5)), (6, (.bool b6)), (7, (.bool b7)), (8, (.int .i64 x8))], []⟩)
                    (again ⟨[(0, (.str s0)), (2, .zs), (3, (.int .i64 x3)), (4, (.int .i64 (IntKind.wrap IntKind.i64 (IntKind.wrap IntKind.i64 (10 * x4) + IntKind.wrap IntKind.i64 (IntKind.wrap IntKind.u8 (ic (UInt8.toNat (List.getD (Array.toList (ByteArray.data s0)) (Int.toNat x8) 0)) - 48)))))), (5, (.int .i64 (IntKind.wrap IntKind.i64 (x5 + 1)))), (6, (.bool b6)), (7, (.bool b7)), (8, (.int .i64 (IntKind.wrap IntKind.i64 (x8 + 1))))], []⟩))
                  (cond (decide (x3 > 36028797018963968))
                    (k .ret ⟨[(0, (.str s0)), (2, .zs), (3, (.int .i64 x3)), (4, (.int .i64 x4)), (5, (.int .i64 x5)), (6, (.bool b6)), (7, (.bool b7)), (8, (.int .i64 x8))], []⟩)
                    (again ⟨[(0, (.str s0)), (2, .zs), (3, (.int .i64 (IntKind.wrap IntKind.i64 (IntKind.wrap IntKind.i64 (10 * x3) + IntKind.wrap IntKind.i64 (IntKind.wrap IntKind.u8 (ic (UInt8.toNat (List.getD (Array.toList (ByteArray.data s0)) (Int.toNat x8) 0)) - 48)))))), (4, (.int .i64 x4)), (5, (.int .i64 x5)), (6, (.bool b6)), (7, (.bool b7)), (8, (.int .i64 (IntKind.wrap IntKind.i64 (x8 + 1))))], []⟩))))))
          (cond (decide (ic (UInt8.toNat (List.getD (Array.toList (ByteArray.data s0)) (Int.toNat x8) 0)) < 48))
            (k .ret ⟨[(0, (.str s0)), (2, .zs), (3, (.int .i64 x3)), (4, (.int .i64 x4)), (5, (.int .i64 x5)), (6, (.bool b6)), (7, (.bool b7)), (8, (.int .i64 x8))], []⟩)
            (cond (decide (ic (UInt8.toNat (List.getD (Array.toList (ByteArray.data s0)) (Int.toNat x8) 0)) > 57))
              (k .ret ⟨[(0, (.str s0)), (2, .zs), (3, (.int .i64 x3)), (4, (.int .i64 x4)), (5, (.int .i64 x5)), (6, (.bool b6)), (7, (.bool b7)), (8, (.int .i64 x8))], []⟩)
              (cond b6
                (cond (x5 == 8)
                  (k .ret ⟨[(0, (.str s0)), (2, .zs), (3, (.int .i64 x3)), (4, (.int .i64 x4)), (5, (.int .i64 x5)), (6, (.bool b6)), (7, (.bool b7)), (8, (.int .i64 x8))], []⟩)
                  (again ⟨[(0, (.str s0)), (2, .zs), (3, (.int .i64 x3)), (4, (.int .i64 (IntKind.wrap IntKind.i64 (IntKind.wrap IntKind.i64 (10 * x4) + IntKind.wrap IntKind.i64 (IntKind.wrap IntKind.u8 (ic (UInt8.toNat (List.getD (Array.toList (ByteArray.data s0)) (Int.toNat x8) 0)) - 48)))))), (5, (.int .i64 (IntKind.wrap IntKind.i64 (x5 + 1)))), (6, (.bool b6)), (7, (.bool b7)), (8, (.int .i64 (IntKind.wrap IntKind.i64 (x8 + 1))))], []⟩))
                (cond (decide (x3 > 36028797018963968))
                  (k .ret ⟨[(0, (.str s0)), (2, .zs), (3, (.int .i64 x3)), (4, (.int .i64 x4)), (5, (.int .i64 x5)), (6, (.bool b6)), (7, (.bool b7)), (8, (.int .i64 x8))], []⟩)
                  (again ⟨[(0, (.str s0)), (2, .zs), (3, (.int .i64 (IntKind.wrap IntKind.i64 (IntKind.wrap IntKind.i64 (10 * x3) + IntKind.wrap IntKind.i64 (IntKind.wrap IntKind.u8 (ic (UInt8.toNat (List.getD (Array.toList (ByteArray.data s0)) (Int.toNat x8) 0)) - 48)))))), (4, (.int .i64 x4)), (5, (.int .i64 x5)), (6, (.bool b6)), (7, (.bool b7)), (8, (.int .i64 (IntKind.wrap IntKind.i64 (x8 + 1))))], []⟩)))))))
      (cond (ic (UInt8.toNat (List.getD (Array.toList (ByteArray.data s0)) (Int.toNat x8) 0)) == 46)
        (cond (!b6)
          (again ⟨[(0, (.str s0)), (2, .zs), (3, (.int .i64 x3)), (4, (.int .i64 x4)), (5, (.int .i64 x5)), (6, (.bool true)), (7, (.bool b7)), (8, (.int .i64 (IntKind.wrap IntKind.i64 (x8 + 1))))], []⟩)
          (cond (decide (ic (UInt8.toNat (List.getD (Array.toList (ByteArray.data s0)) (Int.toNat x8) 0)) < 48))
            (k .ret ⟨[(0, (.str s0)), (2, .zs), (3, (.int .i64 x3)), (4, (.int .i64 x4)), (5, (.int .i64 x5)), (6, (.bool b6)), (7, (.bool b7)), (8, (.int .i64 x8))], []⟩)
            (cond (decide (ic (UInt8.toNat (List.getD (Array.toList (ByteArray.data s0)) (Int.toNat x8) 0)) > 57))
              (k .ret ⟨[(0, (.str s0)), (2, .zs), (3, (.int .i64 x3)), (4, (.int .i64 x4)), (5, (.int .i64 x5)), (6, (.bool b6)), (7, (.bool b7)), (8, (.int .i64 x8))], []⟩)
              (cond b6
                (cond (x5 == 8)
                  (k .ret ⟨[(0, (.str s0)), (2, .zs), (3, (.int .i64 x3)), (4, (.int .i64 x4)), (5, (.int .i64 x5)), (6, (.bool b6)), (7, (.bool b7)), (8, (.int .i64 x8))], []⟩)
                  (again ⟨[(0, (.str s0)), (2, .zs), (3, (.int .i64 x3)), (4, (.int .i64 (IntKind.wrap IntKind.i64 (IntKind.wrap IntKind.i64 (10 * x4) + IntKind.wrap IntKind.i64 (IntKind.wrap IntKind.u8 (ic (UInt8.toNat (List.getD (Array.toList (ByteArray.data s0)) (Int.toNat x8) 0)) - 48)))))), (5, (.int .i64 (IntKind.wrap IntKind.i64 (x5 + 1)))), (6, (.bool b6)), (7, (.bool b7)), (8, (.int .i64 (IntKind.wrap IntKind.i64 (x8 + 1))))], []⟩))
                (cond (decide (x3 > 36028797018963968))
                  (k .ret ⟨[(0, (.str s0)), (2, .zs), (3, (.int .i64 x3)), (4, (.int .i64 x4)), (5, (.int .i64 x5)), (6, (.bool b6)), (7, (.bool b7)), (8, (.int .i64 x8))], []⟩)
                  (again ⟨[(0, (.str s0)), (2, .zs), (3, (.int .i64 (IntKind.wrap IntKind.i64 (IntKind.wrap IntKind.i64 (10 * x3) + IntKind.wrap IntKind.i64 (IntKind.wrap IntKind.u8 (ic (UInt8.toNat (List.getD (Array.toList (ByteArray.data s0)) (Int.toNat x8) 0)) - 48)))))), (4, (.int .i64 x4)), (5, (.int .i64 x5)), (6, (.bool b6)), (7, (.bool b7)), (8, (.int .i64 (IntKind.wrap IntKind.i64 (x8 + 1))))], []⟩))))))
        (cond (decide (ic (UInt8.toNat (List.getD (Array.toList (ByteArray.data s0)) (Int.toNat x8) 0)) < 48))
          (k .ret ⟨[(0, (.str s0)), (2, .zs), (3, (.int .i64 x3)), (4, (.int .i64 x4)), (5, (.int .i64 x5)), (6, (.bool b6)), (7, (.bool b7)), (8, (.int .i64 x8))], []⟩)
          (cond (decide (ic (UInt8.toNat (List.getD (Array.toList (ByteArray.data s0)) (Int.toNat x8) 0)) > 57))
            (k .ret ⟨[(0, (.str s0)), (2, .zs), (3, (.int .i64 x3)), (4, (.int .i64 x4)), (5, (.int .i64 x5)), (6, (.bool b6)), (7, (.bool b7)), (8, (.int .i64 x8))], []⟩)
            (cond b6
              (cond (x5 == 8)
                (k .ret ⟨[(0, (.str s0)), (2, .zs), (3, (.int .i64 x3)), (4, (.int .i64 x4)), (5, (.int .i64 x5)), (6, (.bool b6)), (7, (.bool b7)), (8, (.int .i64 x8))], []⟩)
                (again ⟨[(0, (.str s0)), (2, .zs), (3, (.int .i64 x3)), (4, (.int .i64 (IntKind.wrap IntKind.i64 (IntKind.wrap IntKind.i64 (10 * x4) + IntKind.wrap IntKind.i64 (IntKind.wrap IntKind.u8 (ic (UInt8.toNat (List.getD (Array.toList (ByteArray.data s0)) (Int.toNat x8) 0)) - 48)))))), (5, (.int .i64 (IntKind.wrap IntKind.i64 (x5 + 1)))), (6, (.bool b6)), (7, (.bool b7)), (8, (.int .i64 (IntKind.wrap IntKind.i64 (x8 + 1))))], []⟩))
              (cond (decide (x3 > 36028797018963968))
                (k .ret ⟨[(0, (.str s0)), (2, .zs), (3, (.int .i64 x3)), (4, (.int .i64 x4)), (5, (.int .i64 x5)), (6, (.bool b6)), (7, (.bool b7)), (8, (.int .i64 x8))], []⟩)
                (again ⟨[(0, (.str s0)), (2, .zs), (3, (.int .i64 (IntKind.wrap IntKind.i64 (IntKind.wrap IntKind.i64 (10 * x3) + IntKind.wrap IntKind.i64 (IntKind.wrap IntKind.u8 (ic (UInt8.toNat (List.getD (Array.toList (ByteArray.data s0)) (Int.toNat x8) 0)) - 48)))))), (4, (.int .i64 x4)), (5, (.int .i64 x5)), (6, (.bool b6)), (7, (.bool b7)), (8, (.int .i64 (IntKind.wrap IntKind.i64 (x8 + 1))))], []⟩)))))))
    none)
  (k (.exit 0) ⟨[(0, (.str s0)), (2, .zs), (3, (.int .i64 x3)), (4, (.int .i64 x4)), (5, (.int .i64 x5)), (6, (.bool b6)), (7, (.bool b7)), (8, (.int .i64 x8))], []⟩)) := by kernel_rfl

theorem ex_copseref1_candidates_1_1 (N : Nat) (s0 : ByteArray) (x3 : Int) (x4 : Int) (x5 : Int) (b6 : Bool) (b7 : Bool) (x8 : Int) : (kBlock 0 (kSq (E_copseref1_candidates N) (subC c_copseref1_candidates [1, 1, 1, 1]) (outT (E_copseref1_candidates N) none [(ResultVar.tmp 2)] [[(.list false [(.int .i64)])]]))) (.exit 0)
    ⟨[(0, (.str s0)), (2, .zs), (3, (.int .i64 x3)), (4, (.int .i64 x4)), (5, (.int .i64 x5)), (6, (.bool b6)), (7, (.bool b7)), (8, (.int .i64 x8))], []⟩ =
  (lpE (E_copseref1_candidates N) (subC c_copseref1_candidates [1, 1, 1, 1, 0, 0, 0]) ⟨[2, 3, 4, 5, 7], [], []⟩ N ⟨[(2, .zs), (3, (.int .i64 x3)), (4, (.int .i64 x4)), (5, (.int .i64 x5)), (7, (.bool b7))], []⟩ (kBlock 3 (kSq (E_copseref1_candidates N) (subC c_copseref1_candidates [1, 1, 1, 1, 1]) (outT (E_copseref1_candidates N) none [(ResultVar.tmp 2)] [[(.list false [(.int .i64)])]])))) := by kernel_rfl

theorem ex_copseref1_candidates_1_2 (N : Nat) (s0 : ByteArray) (x3 : Int) (x4 : Int) (x5 : Int) (b6 : Bool) (b7 : Bool) (x8 : Int) : (kBlock 0 (kSq (E_copseref1_candidates N) (subC c_copseref1_candidates [1, 1, 1, 1]) (outT (E_copseref1_candidates N) none [(ResultVar.tmp 2)] [[(.list false [(.int .i64)])]]))) .ret
    ⟨[(0, (.str s0)), (2, .zs), (3, (.int .i64 x3)), (4, (.int .i64 x4)), (5, (.int .i64 x5)), (6, (.bool b6)), (7, (.bool b7)), (8, (.int .i64 x8))], []⟩ =
  (some ((.list false [(.int .i64)] []), [])) := by kernel_rfl

theorem st_copseref1_candidates_2 (N : Nat) (x3 : Int) (x4 : Int) (x5 : Int) (b7 : Bool) (again : St → Res) (k : Out → St → Res) : rnd (E_copseref1_candidates N) (subC c_copseref1_candidates [1, 1, 1, 1, 0, 0, 0])
    ⟨[(2, .zs), (3, (.int .i64 x3)), (4, (.int .i64 x4)), (5, (.int .i64 x5)), (7, (.bool b7))], []⟩
    (kLoop again ⟨[2, 3, 4, 5, 7], [], []⟩ k) =
  (cond (decide (x5 < 8))
  (again ⟨[(2, .zs), (3, (.int .i64 x3)), (4, (.int .i64 (IntKind.wrap IntKind.i64 (10 * x4)))), (5, (.int .i64 (IntKind.wrap IntKind.i64 (x5 + 1)))), (7, (.bool b7))], []⟩)
  (k (.exit 3) ⟨[(2, .zs), (3, (.int .i64 x3)), (4, (.int .i64 x4)), (5, (.int .i64 x5)), (7, (.bool b7))], []⟩)) := by kernel_rfl

theorem ex_copseref1_candidates_2_1 (N : Nat) (x3 : Int) (x4 : Int) (x5 : Int) (b7 : Bool) : (kBlock 3 (kSq (E_copseref1_candidates N) (subC c_copseref1_candidates [1, 1, 1, 1, 1]) (outT (E_copseref1_candidates N) none [(ResultVar.tmp 2)] [[(.list false [(.int .i64)])]]))) (.exit 3)
    ⟨[(2, .zs), (3, (.int .i64 x3)), (4, (.int .i64 x4)), (5, (.int .i64 x5)), (7, (.bool b7))], []⟩ =
  (cond (decide (x3 > 36028797018963968))
  (some ((.list false [(.int .i64)] []), []))
  (cond (Int.tmod x4 390625 != 0)
    (some ((.list false [(.int .i64)] []), []))
    (cond b7
      (cond (x3 == 36028797018963968)
        (cond (x4 == 0)
          (some ((.list false [(.int .i64)] [(IV.int (-9223372036854775808))]), []))
          (cond (x3 == 36028797018963968)
            (some ((.list false [(.int .i64)] []), []))
            (cond b7
              (some ((.list false [(.int .i64)] [(IV.int (IntKind.wrap IntKind.i64 (0 - IntKind.wrap IntKind.i64 (IntKind.wrap IntKind.i64 (x3 * 2 ^ min (Int.toNat 8) (IntKind.bits IntKind.i64)) + IntKind.wrap IntKind.i64 (Int.tdiv x4 390625)))))]), []))
              (some ((.list false [(.int .i64)] [(IV.int (IntKind.wrap IntKind.i64 (IntKind.wrap IntKind.i64 (x3 * 2 ^ min (Int.toNat 8) (IntKind.bits IntKind.i64)) + IntKind.wrap IntKind.i64 (Int.tdiv x4 390625))))]), [])))))
        (cond (x3 == 36028797018963968)
          (some ((.list false [(.int .i64)] []), []))
          (cond b7
            (some ((.list false [(.int .i64)] [(IV.int (IntKind.wrap IntKind.i64 (0 - IntKind.wrap IntKind.i64 (IntKind.wrap IntKind.i64 (x3 * 2 ^ min (Int.toNat 8) (IntKind.bits IntKind.i64)) + IntKind.wrap IntKind.i64 (Int.tdiv x4 390625)))))]), []))
            (some ((.list false [(.int .i64)] [(IV.int (IntKind.wrap IntKind.i64 (IntKind.wrap IntKind.i64 (x3 * 2 ^ min (Int.toNat 8) (IntKind.bits IntKind.i64)) + IntKind.wrap IntKind.i64 (Int.tdiv x4 390625))))]), [])))))
      (cond (x3 == 36028797018963968)
        (some ((.list false [(.int .i64)] []), []))
        (cond b7
          (some ((.list false [(.int .i64)] [(IV.int (IntKind.wrap IntKind.i64 (0 - IntKind.wrap IntKind.i64 (IntKind.wrap IntKind.i64 (x3 * 2 ^ min (Int.toNat 8) (IntKind.bits IntKind.i64)) + IntKind.wrap IntKind.i64 (Int.tdiv x4 390625)))))]), []))
          (some ((.list false [(.int .i64)] [(IV.int (IntKind.wrap IntKind.i64 (IntKind.wrap IntKind.i64 (x3 * 2 ^ min (Int.toNat 8) (IntKind.bits IntKind.i64)) + IntKind.wrap IntKind.i64 (Int.tdiv x4 390625))))]), []))))))) := by kernel_rfl

end Go.FM

/-
  NORMAL FORMS: what the functions' runs come to (written by a program of this claim's own, checked by the kernel).
-/
namespace Go.FM
open Go Go.Proofs

/-! ### copse/copseref1.Print -/
def E_copseref1_Print (N : Nat) : Env := mkE [(22, S_copseref1_digits)] [(10, ⟨[2, 3, 7, 8], [], []⟩)] 46 N

theorem nf_copseref1_Print (N : Nat) (n : Int) : evFun (E_copseref1_Print N) c_copseref1_Print [.tmp 2] [[.str]] [(.int .i64 n)] =
  (cond (decide (n < 0))
  (cond (IntKind.wrap IntKind.u64 (ic (BitVec.toNat (BitVec.ofInt (IntKind.bits IntKind.u64) (IntKind.wrap IntKind.u64 (0 - IntKind.wrap IntKind.u64 n)) &&& BitVec.ofInt (IntKind.bits IntKind.u64) 255))) == 0)
    (cond (decide (ByteArray.size { data := #[45] } + ByteArray.size { data := List.toArray (digL (Int.toNat (Int.fdiv (IntKind.wrap IntKind.u64 (0 - IntKind.wrap IntKind.u64 n)) (2 ^ min (Int.toNat 8) (IntKind.bits IntKind.u64)))) (Int.toNat 1)) } ≤ strMax))
      (some ((.str ({ data := #[45] } ++ { data := List.toArray (digL (Int.toNat (Int.fdiv (IntKind.wrap IntKind.u64 (0 - IntKind.wrap IntKind.u64 n)) (2 ^ min (Int.toNat 8) (IntKind.bits IntKind.u64)))) (Int.toNat 1)) })), []))
      none)
    (lpE (E_copseref1_Print N) (subC c_copseref1_Print [1, 1, 1, 1, 1, 1, 1, 1, 0, 0, 0]) ⟨[2, 3, 7, 8], [], []⟩ N ⟨[(2, (.str ({ data := #[] }))), (3, (.str ({ data := #[45] }))), (7, (.str ({ data := List.toArray (digL (Int.toNat (Int.fdiv (IntKind.wrap IntKind.u64 (0 - IntKind.wrap IntKind.u64 n)) (2 ^ min (Int.toNat 8) (IntKind.bits IntKind.u64)))) (Int.toNat 1)) }))), (8, (.str ({ data := List.toArray (digL (Int.toNat (IntKind.wrap IntKind.u64 (IntKind.wrap IntKind.u64 (ic (BitVec.toNat (BitVec.ofInt (IntKind.bits IntKind.u64) (IntKind.wrap IntKind.u64 (0 - IntKind.wrap IntKind.u64 n)) &&& BitVec.ofInt (IntKind.bits IntKind.u64) 255))) * 390625))) (Int.toNat 8)) })))], []⟩ (kBlock 0 (kSq (E_copseref1_Print N) (subC c_copseref1_Print [1, 1, 1, 1, 1, 1, 1, 1, 1]) (outT (E_copseref1_Print N) none [(ResultVar.tmp 2)] [[.str]])))))
  (cond (IntKind.wrap IntKind.u64 (ic (BitVec.toNat (BitVec.ofInt (IntKind.bits IntKind.u64) (IntKind.wrap IntKind.u64 n) &&& BitVec.ofInt (IntKind.bits IntKind.u64) 255))) == 0)
    (cond (decide (ByteArray.size { data := #[] } + ByteArray.size { data := List.toArray (digL (Int.toNat (Int.fdiv (IntKind.wrap IntKind.u64 n) (2 ^ min (Int.toNat 8) (IntKind.bits IntKind.u64)))) (Int.toNat 1)) } ≤ strMax))
      (some ((.str ({ data := #[] } ++ { data := List.toArray (digL (Int.toNat (Int.fdiv (IntKind.wrap IntKind.u64 n) (2 ^ min (Int.toNat 8) (IntKind.bits IntKind.u64)))) (Int.toNat 1)) })), []))
      none)
    (lpE (E_copseref1_Print N) (subC c_copseref1_Print [1, 1, 1, 1, 1, 1, 1, 1, 0, 0, 0]) ⟨[2, 3, 7, 8], [], []⟩ N ⟨[(2, (.str ({ data := #[] }))), (3, (.str ({ data := #[] }))), (7, (.str ({ data := List.toArray (digL (Int.toNat (Int.fdiv (IntKind.wrap IntKind.u64 n) (2 ^ min (Int.toNat 8) (IntKind.bits IntKind.u64)))) (Int.toNat 1)) }))), (8, (.str ({ data := List.toArray (digL (Int.toNat (IntKind.wrap IntKind.u64 (IntKind.wrap IntKind.u64 (ic (BitVec.toNat (BitVec.ofInt (IntKind.bits IntKind.u64) (IntKind.wrap IntKind.u64 n) &&& BitVec.ofInt (IntKind.bits IntKind.u64) 255))) * 390625))) (Int.toNat 8)) })))], []⟩ (kBlock 0 (kSq (E_copseref1_Print N) (subC c_copseref1_Print [1, 1, 1, 1, 1, 1, 1, 1, 1]) (outT (E_copseref1_Print N) none [(ResultVar.tmp 2)] [[.str]])))))) := by kernel_rfl

theorem st_copseref1_Print_1 (N : Nat) (s2 : ByteArray) (s3 : ByteArray) (s7 : ByteArray) (s8 : ByteArray) (again : St → Res) (k : Out → St → Res) : rnd (E_copseref1_Print N) (subC c_copseref1_Print [1, 1, 1, 1, 1, 1, 1, 1, 0, 0, 0])
    ⟨[(2, (.str s2)), (3, (.str s3)), (7, (.str s7)), (8, (.str s8))], []⟩
    (kLoop again ⟨[2, 3, 7, 8], [], []⟩ k) =
  (cond (decide (0 ≤ IntKind.wrap IntKind.i64 (ic (ByteArray.size s8) - 1)) && decide (IntKind.wrap IntKind.i64 (ic (ByteArray.size s8) - 1) < ic (ByteArray.size s8)))
  (cond (ic (UInt8.toNat (List.getD (Array.toList (ByteArray.data s8)) (Int.toNat (IntKind.wrap IntKind.i64 (ic (ByteArray.size s8) - 1))) 0)) == 48)
    (cond (decide (0 ≤ IntKind.wrap IntKind.i64 (ic (ByteArray.size s8) - 1)) && decide (IntKind.wrap IntKind.i64 (ic (ByteArray.size s8) - 1) ≤ ic (ByteArray.size s8)))
      (again ⟨[(2, (.str s2)), (3, (.str s3)), (7, (.str s7)), (8, (.str (ByteArray.extract s8 0 (Int.toNat (IntKind.wrap IntKind.i64 (ic (ByteArray.size s8) - 1))))))], []⟩)
      none)
    (k (.exit 0) ⟨[(2, (.str s2)), (3, (.str s3)), (7, (.str s7)), (8, (.str s8))], []⟩))
  none) := by kernel_rfl

theorem ex_copseref1_Print_1_1 (N : Nat) (s2 : ByteArray) (s3 : ByteArray) (s7 : ByteArray) (s8 : ByteArray) : (kBlock 0 (kSq (E_copseref1_Print N) (subC c_copseref1_Print [1, 1, 1, 1, 1, 1, 1, 1, 1]) (outT (E_copseref1_Print N) none [(ResultVar.tmp 2)] [[.str]]))) (.exit 0)
    ⟨[(2, (.str s2)), (3, (.str s3)), (7, (.str s7)), (8, (.str s8))], []⟩ =
  (cond (decide (ByteArray.size s3 + ByteArray.size s7 ≤ strMax))
  (cond (decide (ByteArray.size (s3 ++ s7) + ByteArray.size { data := #[46] } ≤ strMax))
    (cond (decide (ByteArray.size (s3 ++ s7 ++ { data := #[46] }) + ByteArray.size s8 ≤ strMax))
      (some ((.str (s3 ++ s7 ++ { data := #[46] } ++ s8)), []))
      none)
    none)
  none) := by kernel_rfl

/-! ### copse/copseref1.Scan -/
def E_copseref1_Scan (N : Nat) : Env := mkE [(11, S_copseref1_Print), (21, S_copseref1_candidates)] [(2, ⟨[0, 2, 3, 7, 8, 9], [], []⟩)] 19 N

theorem nf_copseref1_Scan (N : Nat) (s : ByteArray) : evFun (E_copseref1_Scan N) c_copseref1_Scan [.tmp 2, .tmp 3] [[.int .i64], [.bool]] [(.str s)] =
  (lpE (E_copseref1_Scan N) (subC c_copseref1_Scan [1, 0, 1, 0, 0]) ⟨[0, 2, 3, 7, 8, 9], [], []⟩ N ⟨[(0, (.str s)), (2, (.int .i64 0)), (3, (.bool false)), (7, (.list false [(.int .i64)] (candL s))), (8, (.int .i64 (ic (List.length (candL s))))), (9, (.int .i64 0))], []⟩ (kBlock 0 (kSq (E_copseref1_Scan N) (subC c_copseref1_Scan [1, 1]) (outT (E_copseref1_Scan N) none [(ResultVar.tmp 2), (ResultVar.tmp 3)] [[(.int .i64)], [.bool]])))) := by kernel_rfl

theorem st_copseref1_Scan_1 (N : Nat) (s0 : ByteArray) (x2 : Int) (b3 : Bool) (l7 : List IV) (x8 : Int) (x9 : Int) (again : St → Res) (k : Out → St → Res) : rnd (E_copseref1_Scan N) (subC c_copseref1_Scan [1, 0, 1, 0, 0])
    ⟨[(0, (.str s0)), (2, (.int .i64 x2)), (3, (.bool b3)), (7, (.list false [(.int .i64)] l7)), (8, (.int .i64 x8)), (9, (.int .i64 x9))], []⟩
    (kLoop again ⟨[0, 2, 3, 7, 8, 9], [], []⟩ k) =
  (cond (decide (x9 < x8))
  (cond (decide (0 ≤ x9) && decide (x9 < ic (List.length l7)))
    (cond (ByteArray.toList (printB (IV.toInt (List.getD l7 (Int.toNat x9) default))) == ByteArray.toList s0)
      (k .ret ⟨[(0, (.str s0)), (2, (.int .i64 (IV.toInt (List.getD l7 (Int.toNat x9) default)))), (3, (.bool true)), (7, (.list false [(.int .i64)] l7)), (8, (.int .i64 x8)), (9, (.int .i64 x9))], []⟩)
      (again ⟨[(0, (.str s0)), (2, (.int .i64 x2)), (3, (.bool b3)), (7, (.list false [(.int .i64)] l7)), (8, (.int .i64 x8)), (9, (.int .i64 (IntKind.wrap IntKind.i64 (x9 + 1))))], []⟩))
    none)
  (k (.exit 0) ⟨[(0, (.str s0)), (2, (.int .i64 x2)), (3, (.bool b3)), (7, (.list false [(.int .i64)] l7)), (8, (.int .i64 x8)), (9, (.int .i64 x9))], []⟩)) := by kernel_rfl

theorem ex_copseref1_Scan_1_1 (N : Nat) (s0 : ByteArray) (x2 : Int) (b3 : Bool) (l7 : List IV) (x8 : Int) (x9 : Int) : (kBlock 0 (kSq (E_copseref1_Scan N) (subC c_copseref1_Scan [1, 1]) (outT (E_copseref1_Scan N) none [(ResultVar.tmp 2), (ResultVar.tmp 3)] [[(.int .i64)], [.bool]]))) (.exit 0)
    ⟨[(0, (.str s0)), (2, (.int .i64 x2)), (3, (.bool b3)), (7, (.list false [(.int .i64)] l7)), (8, (.int .i64 x8)), (9, (.int .i64 x9))], []⟩ =
  (some ((.tup [(.int .i64 0), (.bool false)]), [])) := by kernel_rfl

theorem ex_copseref1_Scan_1_2 (N : Nat) (s0 : ByteArray) (x2 : Int) (b3 : Bool) (l7 : List IV) (x8 : Int) (x9 : Int) : (kBlock 0 (kSq (E_copseref1_Scan N) (subC c_copseref1_Scan [1, 1]) (outT (E_copseref1_Scan N) none [(ResultVar.tmp 2), (ResultVar.tmp 3)] [[(.int .i64)], [.bool]]))) .ret
    ⟨[(0, (.str s0)), (2, (.int .i64 x2)), (3, (.bool b3)), (7, (.list false [(.int .i64)] l7)), (8, (.int .i64 x8)), (9, (.int .i64 x9))], []⟩ =
  (some ((.tup [(.int .i64 x2), (.bool b3)]), [])) := by kernel_rfl

/-! ### copse/copselaw3.DecAlone$1 -/
def E_copselaw3_DecAlone_1 (N : Nat) : Env := mkE [] [(2, ⟨[0, 2, 5, 6], [], []⟩)] 17 N

theorem nf_copselaw3_DecAlone_1 (N : Nat) (s : ByteArray) : evFun (E_copselaw3_DecAlone_1 N) c_copselaw3_DecAlone_1 [.tmp 2] [[.str]] [(.str s)] =
  (lpE (E_copselaw3_DecAlone_1 N) (subC c_copselaw3_DecAlone_1 [1, 0, 1, 0, 0]) ⟨[0, 2, 5, 6], [], []⟩ N ⟨[(0, (.str s)), (2, (.str ({ data := #[] }))), (5, (.int .i64 (ic (ByteArray.size s)))), (6, (.int .i64 0))], []⟩ (kBlock 0 (kSq (E_copselaw3_DecAlone_1 N) (subC c_copselaw3_DecAlone_1 [1, 1]) (outT (E_copselaw3_DecAlone_1 N) none [(ResultVar.tmp 2)] [[.str]])))) := by kernel_rfl

theorem st_copselaw3_DecAlone_1_1 (N : Nat) (s0 : ByteArray) (s2 : ByteArray) (x5 : Int) (x6 : Int) (again : St → Res) (k : Out → St → Res) : rnd (E_copselaw3_DecAlone_1 N) (subC c_copselaw3_DecAlone_1 [1, 0, 1, 0, 0])
    ⟨[(0, (.str s0)), (2, (.str s2)), (5, (.int .i64 x5)), (6, (.int .i64 x6))], []⟩
    (kLoop again ⟨[0, 2, 5, 6], [], []⟩ k) =
  (cond (decide (x6 < x5))
  (cond (decide (0 ≤ x6) && decide (x6 < ic (ByteArray.size s0)))
    (cond (ic (UInt8.toNat (List.getD (Array.toList (ByteArray.data s0)) (Int.toNat x6) 0)) == 46)
      (cond (decide (0 ≤ x6) && decide (x6 ≤ ic (ByteArray.size s0)))
        (k .ret ⟨[(0, (.str s0)), (2, (.str (ByteArray.extract s0 (Int.toNat x6) (ByteArray.size s0)))), (5, (.int .i64 x5)), (6, (.int .i64 x6))], []⟩)
        none)
      (again ⟨[(0, (.str s0)), (2, (.str s2)), (5, (.int .i64 x5)), (6, (.int .i64 (IntKind.wrap IntKind.i64 (x6 + 1))))], []⟩))
    none)
  (k (.exit 0) ⟨[(0, (.str s0)), (2, (.str s2)), (5, (.int .i64 x5)), (6, (.int .i64 x6))], []⟩)) := by kernel_rfl

theorem ex_copselaw3_DecAlone_1_1_1 (N : Nat) (s0 : ByteArray) (s2 : ByteArray) (x5 : Int) (x6 : Int) : (kBlock 0 (kSq (E_copselaw3_DecAlone_1 N) (subC c_copselaw3_DecAlone_1 [1, 1]) (outT (E_copselaw3_DecAlone_1 N) none [(ResultVar.tmp 2)] [[.str]]))) (.exit 0)
    ⟨[(0, (.str s0)), (2, (.str s2)), (5, (.int .i64 x5)), (6, (.int .i64 x6))], []⟩ =
  (some ((.str ({ data := #[] })), [])) := by kernel_rfl

theorem ex_copselaw3_DecAlone_1_1_2 (N : Nat) (s0 : ByteArray) (s2 : ByteArray) (x5 : Int) (x6 : Int) : (kBlock 0 (kSq (E_copselaw3_DecAlone_1 N) (subC c_copselaw3_DecAlone_1 [1, 1]) (outT (E_copselaw3_DecAlone_1 N) none [(ResultVar.tmp 2)] [[.str]]))) .ret
    ⟨[(0, (.str s0)), (2, (.str s2)), (5, (.int .i64 x5)), (6, (.int .i64 x6))], []⟩ =
  (some ((.str s2), [])) := by kernel_rfl

end Go.FM

/-
  NORMAL FORMS: what the functions' runs come to (written by a program of this claim's own, checked by the kernel).
-/
namespace Go.FM
open Go Go.Proofs

/-! ### copse/copselaw3.DecTells -/
def E_copselaw3_DecTells (N : Nat) : Env := mkE [(3, S_copselaw3_DecRuns), (8, S_dec_Scan), (9, S_dec_Print), (10, S_copseref1_Scan), (11, S_copseref1_Print)] [] 42 N

theorem nf_copselaw3_DecTells (N : Nat) (n : Int) (s : ByteArray) : evFun (E_copselaw3_DecTells N) c_copselaw3_DecTells [.tmp 4] [[.bool]] [(.int .i64 n), (.str s)] =
  (cond (decide (0 ≤ min (ic (ByteArray.size s)) 40) && decide (min (ic (ByteArray.size s)) 40 ≤ ic (ByteArray.size s)))
  (cond (decide (ByteArray.size (ByteArray.extract s 0 (Int.toNat (min (ic (ByteArray.size s)) 40))) < 4294967281))
    (cond (ByteArray.toList (printB n) == ByteArray.toList (printB n))
      (cond (decV (ByteArray.extract s 0 (Int.toNat (min (ic (ByteArray.size s)) 40))) == refV (ByteArray.extract s 0 (Int.toNat (min (ic (ByteArray.size s)) 40))))
        (cond (decIs (ByteArray.extract s 0 (Int.toNat (min (ic (ByteArray.size s)) 40))) == refIs (ByteArray.extract s 0 (Int.toNat (min (ic (ByteArray.size s)) 40))))
          (some ((.bool true), []))
          (some ((.bool false), [])))
        (some ((.bool false), [])))
      (some ((.bool false), [])))
    none)
  none) := by kernel_rfl

/-! ### copse/copselaw3.DecBack -/
def E_copselaw3_DecBack (N : Nat) : Env := mkE [(3, S_copselaw3_DecRuns), (8, S_dec_Scan), (9, S_dec_Print), (12, S_copsebook_Within)] [] 113 N

theorem nf_copselaw3_DecBack (N : Nat) (n : Int) (a1 : Int) (a2 : Int) (a3 : Int) : evFun (E_copselaw3_DecBack N) c_copselaw3_DecBack [.tmp 8] [[.bool]] [(.int .i64 n), (.int .i64 a1), (.int .i64 a2), (.int .u8 a3)] =
  (cond (decide (ByteArray.size (printB n) < 4294967281))
  (cond (!decIs (printB n))
    (some ((.bool false), []))
    (cond (decV (printB n) != n)
      (some ((.bool false), []))
      (cond (decide (ic (ByteArray.size (printB n)) < 1))
        (some ((.bool false), []))
        (cond (!(ByteArray.toList (printB n) == ByteArray.toList (printB a1)) == (n == a1))
          (some ((.bool false), []))
          (cond (decide (withinM 0 (IntKind.wrap IntKind.i64 (ic (ByteArray.size (printB n) - 0) - 1)) = 0))
            none
            (cond (decide (0 ≤ withinZ a2 0 (IntKind.wrap IntKind.i64 (ic (ByteArray.size (printB n) - 0) - 1))) && decide (withinZ a2 0 (IntKind.wrap IntKind.i64 (ic (ByteArray.size (printB n) - 0) - 1)) < ic (ByteArray.size (printB n) - 0)))
              (cond (decide (ByteArray.size (strOfNums (List.map IV.toInt (List.drop 0 (List.take (ByteArray.size (printB n)) (List.set (List.map (fun b => IV.int (ic (UInt8.toNat b))) (Array.toList (ByteArray.data (printB n)))) (0 + Int.toNat (withinZ a2 0 (IntKind.wrap IntKind.i64 (ic (ByteArray.size (printB n) - 0) - 1)))) (putIV false [Kd.int IntKind.u8] (List.getD (List.map (fun b => IV.int (ic (UInt8.toNat b))) (Array.toList (ByteArray.data (printB n)))) (0 + Int.toNat (withinZ a2 0 (IntKind.wrap IntKind.i64 (ic (ByteArray.size (printB n) - 0) - 1)))) default) 0 [IV.int a3])))))) < 4294967281))
                (cond (decIs (strOfNums (List.map IV.toInt (List.drop 0 (List.take (ByteArray.size (printB n)) (List.set (List.map (fun b => IV.int (ic (UInt8.toNat b))) (Array.toList (ByteArray.data (printB n)))) (0 + Int.toNat (withinZ a2 0 (IntKind.wrap IntKind.i64 (ic (ByteArray.size (printB n) - 0) - 1)))) (putIV false [Kd.int IntKind.u8] (List.getD (List.map (fun b => IV.int (ic (UInt8.toNat b))) (Array.toList (ByteArray.data (printB n)))) (0 + Int.toNat (withinZ a2 0 (IntKind.wrap IntKind.i64 (ic (ByteArray.size (printB n) - 0) - 1)))) default) 0 [IV.int a3])))))))
                  (cond (!ByteArray.toList (printB (decV (strOfNums (List.map IV.toInt (List.drop 0 (List.take (ByteArray.size (printB n)) (List.set (List.map (fun b => IV.int (ic (UInt8.toNat b))) (Array.toList (ByteArray.data (printB n)))) (0 + Int.toNat (withinZ a2 0 (IntKind.wrap IntKind.i64 (ic (ByteArray.size (printB n) - 0) - 1)))) (putIV false [Kd.int IntKind.u8] (List.getD (List.map (fun b => IV.int (ic (UInt8.toNat b))) (Array.toList (ByteArray.data (printB n)))) (0 + Int.toNat (withinZ a2 0 (IntKind.wrap IntKind.i64 (ic (ByteArray.size (printB n) - 0) - 1)))) default) 0 [IV.int a3])))))))) == ByteArray.toList (strOfNums (List.map IV.toInt (List.drop 0 (List.take (ByteArray.size (printB n)) (List.set (List.map (fun b => IV.int (ic (UInt8.toNat b))) (Array.toList (ByteArray.data (printB n)))) (0 + Int.toNat (withinZ a2 0 (IntKind.wrap IntKind.i64 (ic (ByteArray.size (printB n) - 0) - 1)))) (putIV false [Kd.int IntKind.u8] (List.getD (List.map (fun b => IV.int (ic (UInt8.toNat b))) (Array.toList (ByteArray.data (printB n)))) (0 + Int.toNat (withinZ a2 0 (IntKind.wrap IntKind.i64 (ic (ByteArray.size (printB n) - 0) - 1)))) default) 0 [IV.int a3])))))))
                    (some ((.bool false), []))
                    (cond (!decIs (strOfNums (List.map IV.toInt (List.drop 0 (List.take (ByteArray.size (printB n)) (List.set (List.map (fun b => IV.int (ic (UInt8.toNat b))) (Array.toList (ByteArray.data (printB n)))) (0 + Int.toNat (withinZ a2 0 (IntKind.wrap IntKind.i64 (ic (ByteArray.size (printB n) - 0) - 1)))) (putIV false [Kd.int IntKind.u8] (List.getD (List.map (fun b => IV.int (ic (UInt8.toNat b))) (Array.toList (ByteArray.data (printB n)))) (0 + Int.toNat (withinZ a2 0 (IntKind.wrap IntKind.i64 (ic (ByteArray.size (printB n) - 0) - 1)))) default) 0 [IV.int a3])))))))
                      (cond (decV (strOfNums (List.map IV.toInt (List.drop 0 (List.take (ByteArray.size (printB n)) (List.set (List.map (fun b => IV.int (ic (UInt8.toNat b))) (Array.toList (ByteArray.data (printB n)))) (0 + Int.toNat (withinZ a2 0 (IntKind.wrap IntKind.i64 (ic (ByteArray.size (printB n) - 0) - 1)))) (putIV false [Kd.int IntKind.u8] (List.getD (List.map (fun b => IV.int (ic (UInt8.toNat b))) (Array.toList (ByteArray.data (printB n)))) (0 + Int.toNat (withinZ a2 0 (IntKind.wrap IntKind.i64 (ic (ByteArray.size (printB n) - 0) - 1)))) default) 0 [IV.int a3])))))) != 0)
                        (some ((.bool false), []))
                        (cond (decide (ByteArray.size (printB n) + ByteArray.size { data := #[46] } ≤ strMax))
                          (cond (decide (ByteArray.size (printB n ++ { data := #[46] }) < 4294967281))
                            (cond (decide (ByteArray.size { data := #[43] } + ByteArray.size (printB n) ≤ strMax))
                              (cond (decide (ByteArray.size ({ data := #[43] } ++ printB n) < 4294967281))
                                (cond (!decIs (printB n ++ { data := #[46] }))
                                  (cond (!decIs ({ data := #[43] } ++ printB n))
                                    (some ((.bool true), []))
                                    (some ((.bool false), [])))
                                  (some ((.bool false), [])))
                                none)
                              none)
                            none)
                          none))
                      (cond (decide (ByteArray.size (printB n) + ByteArray.size { data := #[46] } ≤ strMax))
                        (cond (decide (ByteArray.size (printB n ++ { data := #[46] }) < 4294967281))
                          (cond (decide (ByteArray.size { data := #[43] } + ByteArray.size (printB n) ≤ strMax))
                            (cond (decide (ByteArray.size ({ data := #[43] } ++ printB n) < 4294967281))
                              (cond (!decIs (printB n ++ { data := #[46] }))
                                (cond (!decIs ({ data := #[43] } ++ printB n))
                                  (some ((.bool true), []))
                                  (some ((.bool false), [])))
                                (some ((.bool false), [])))
                              none)
                            none)
                          none)
                        none)))
                  (cond (!decIs (strOfNums (List.map IV.toInt (List.drop 0 (List.take (ByteArray.size (printB n)) (List.set (List.map (fun b => IV.int (ic (UInt8.toNat b))) (Array.toList (ByteArray.data (printB n)))) (0 + Int.toNat (withinZ a2 0 (IntKind.wrap IntKind.i64 (ic (ByteArray.size (printB n) - 0) - 1)))) (putIV false [Kd.int IntKind.u8] (List.getD (List.map (fun b => IV.int (ic (UInt8.toNat b))) (Array.toList (ByteArray.data (printB n)))) (0 + Int.toNat (withinZ a2 0 (IntKind.wrap IntKind.i64 (ic (ByteArray.size (printB n) - 0) - 1)))) default) 0 [IV.int a3])))))))
                    (cond (decV (strOfNums (List.map IV.toInt (List.drop 0 (List.take (ByteArray.size (printB n)) (List.set (List.map (fun b => IV.int (ic (UInt8.toNat b))) (Array.toList (ByteArray.data (printB n)))) (0 + Int.toNat (withinZ a2 0 (IntKind.wrap IntKind.i64 (ic (ByteArray.size (printB n) - 0) - 1)))) (putIV false [Kd.int IntKind.u8] (List.getD (List.map (fun b => IV.int (ic (UInt8.toNat b))) (Array.toList (ByteArray.data (printB n)))) (0 + Int.toNat (withinZ a2 0 (IntKind.wrap IntKind.i64 (ic (ByteArray.size (printB n) - 0) - 1)))) default) 0 [IV.int a3])))))) != 0)
                      (some ((.bool false), []))
                      (cond (decide (ByteArray.size (printB n) + ByteArray.size { data := #[46] } ≤ strMax))
                        (cond (decide (ByteArray.size (printB n ++ { data := #[46] }) < 4294967281))
                          (cond (decide (ByteArray.size { data := #[43] } + ByteArray.size (printB n) ≤ strMax))
                            (cond (decide (ByteArray.size ({ data := #[43] } ++ printB n) < 4294967281))
                              (cond (!decIs (printB n ++ { data := #[46] }))
                                (cond (!decIs ({ data := #[43] } ++ printB n))
                                  (some ((.bool true), []))
                                  (some ((.bool false), [])))
                                (some ((.bool false), [])))
                              none)
                            none)
                          none)
                        none))
                    (cond (decide (ByteArray.size (printB n) + ByteArray.size { data := #[46] } ≤ strMax))
                      (cond (decide (ByteArray.size (printB n ++ { data := #[46] }) < 4294967281))
                        (cond (decide (ByteArray.size { data := #[43] } + ByteArray.size (printB n) ≤ strMax))
                          (cond (decide (ByteArray.size ({ data := #[43] } ++ printB n) < 4294967281))
                            (cond (!decIs (printB n ++ { data := #[46] }))
                              (cond (!decIs ({ data := #[43] } ++ printB n))
                                (some ((.bool true), []))
                                (some ((.bool false), [])))
                              (some ((.bool false), [])))
                            none)
                          none)
                        none)
                      none)))
                none)
              none))))))
  none) := by kernel_rfl

/-! ### copse/copselaw3.DecParts -/
def E_copselaw3_DecParts (N : Nat) : Env := mkE [(3, S_copselaw3_DecRuns), (9, S_dec_Print), (12, S_copsebook_Within)] [(5, ⟨[2, 3, 4, 5, 6, 7], [], []⟩)] 79 N

theorem nf_copselaw3_DecParts (N : Nat) (n : Int) : evFun (E_copselaw3_DecParts N) c_copselaw3_DecParts [.tmp 2] [[.bool]] [(.int .i64 n)] =
  (lpE (E_copselaw3_DecParts N) (subC c_copselaw3_DecParts [1, 1, 1, 1, 1, 0, 0, 0]) ⟨[2, 3, 4, 5, 6, 7], [], []⟩ N ⟨[(2, (.bool false)), (3, (.int .i64 (withinZ n 1 1152921504606846976))), (4, (.str (printB (withinZ n 1 1152921504606846976)))), (5, (.str (printB (IntKind.wrap IntKind.i64 (0 - withinZ n 1 1152921504606846976))))), (6, (.int .i64 0)), (7, (.int .i64 0))], []⟩ (kBlock 0 (kSq (E_copselaw3_DecParts N) (subC c_copselaw3_DecParts [1, 1, 1, 1, 1, 1]) (outT (E_copselaw3_DecParts N) none [(ResultVar.tmp 2)] [[.bool]])))) := by kernel_rfl

theorem st_copselaw3_DecParts_1 (N : Nat) (b2 : Bool) (x3 : Int) (s4 : ByteArray) (s5 : ByteArray) (x6 : Int) (x7 : Int) (again : St → Res) (k : Out → St → Res) : rnd (E_copselaw3_DecParts N) (subC c_copselaw3_DecParts [1, 1, 1, 1, 1, 0, 0, 0])
    ⟨[(2, (.bool b2)), (3, (.int .i64 x3)), (4, (.str s4)), (5, (.str s5)), (6, (.int .i64 x6)), (7, (.int .i64 x7))], []⟩
    (kLoop again ⟨[2, 3, 4, 5, 6, 7], [], []⟩ k) =
  (cond (decide (x7 < ic (ByteArray.size s4)))
  (cond (decide (0 ≤ x7) && decide (x7 < ic (ByteArray.size s4)))
    (cond (ic (UInt8.toNat (List.getD (Array.toList (ByteArray.data s4)) (Int.toNat x7) 0)) != 46)
      (cond (decide (0 ≤ x7) && decide (x7 < ic (ByteArray.size s4)))
        (again ⟨[(2, (.bool b2)), (3, (.int .i64 x3)), (4, (.str s4)), (5, (.str s5)), (6, (.int .i64 (IntKind.wrap IntKind.i64 (IntKind.wrap IntKind.i64 (10 * x6) + IntKind.wrap IntKind.i64 (IntKind.wrap IntKind.u8 (ic (UInt8.toNat (List.getD (Array.toList (ByteArray.data s4)) (Int.toNat x7) 0)) - 48)))))), (7, (.int .i64 (IntKind.wrap IntKind.i64 (x7 + 1))))], []⟩)
        none)
      (k (.exit 0) ⟨[(2, (.bool b2)), (3, (.int .i64 x3)), (4, (.str s4)), (5, (.str s5)), (6, (.int .i64 x6)), (7, (.int .i64 x7))], []⟩))
    none)
  (k (.exit 0) ⟨[(2, (.bool b2)), (3, (.int .i64 x3)), (4, (.str s4)), (5, (.str s5)), (6, (.int .i64 x6)), (7, (.int .i64 x7))], []⟩)) := by kernel_rfl

theorem ex_copselaw3_DecParts_1_1 (N : Nat) (b2 : Bool) (x3 : Int) (s4 : ByteArray) (s5 : ByteArray) (x6 : Int) (x7 : Int) : (kBlock 0 (kSq (E_copselaw3_DecParts N) (subC c_copselaw3_DecParts [1, 1, 1, 1, 1, 1]) (outT (E_copselaw3_DecParts N) none [(ResultVar.tmp 2)] [[.bool]]))) (.exit 0)
    ⟨[(2, (.bool b2)), (3, (.int .i64 x3)), (4, (.str s4)), (5, (.str s5)), (6, (.int .i64 x6)), (7, (.int .i64 x7))], []⟩ =
  (cond (decide (ByteArray.size { data := #[45] } + ByteArray.size s4 ≤ strMax))
  (cond (ByteArray.toList s5 == ByteArray.toList ({ data := #[45] } ++ s4))
    (cond (x6 == Int.fdiv x3 (2 ^ min (Int.toNat 8) (IntKind.bits IntKind.i64)))
      (cond (decide (max (IntKind.wrap IntKind.i64 (IntKind.wrap IntKind.i64 (ic (ByteArray.size s4) - x7) - 1)) 0 ≤ 8))
        (cond ((max (IntKind.wrap IntKind.i64 (IntKind.wrap IntKind.i64 (ic (ByteArray.size s4) - x7) - 1)) 0 == 0) == (IntKind.wrap IntKind.i64 (ic (BitVec.toNat (BitVec.ofInt (IntKind.bits IntKind.i64) x3 &&& BitVec.ofInt (IntKind.bits IntKind.i64) 255))) == 0))
          (cond (max (IntKind.wrap IntKind.i64 (IntKind.wrap IntKind.i64 (ic (ByteArray.size s4) - x7) - 1)) 0 == 0)
            (some ((.bool true), []))
            (cond (decide (0 ≤ IntKind.wrap IntKind.i64 (ic (ByteArray.size s4) - 1)) && decide (IntKind.wrap IntKind.i64 (ic (ByteArray.size s4) - 1) < ic (ByteArray.size s4)))
              (cond (ic (UInt8.toNat (List.getD (Array.toList (ByteArray.data s4)) (Int.toNat (IntKind.wrap IntKind.i64 (ic (ByteArray.size s4) - 1))) 0)) != 48)
                (some ((.bool true), []))
                (some ((.bool false), [])))
              none))
          (some ((.bool false), [])))
        (some ((.bool false), [])))
      (some ((.bool false), [])))
    (some ((.bool false), [])))
  none) := by kernel_rfl

/-! ### copse/copselaw3.DecAlone -/
def E_copselaw3_DecAlone (N : Nat) : Env := mkE [(3, S_copselaw3_DecRuns), (9, S_dec_Print), (12, S_copsebook_Within), (13, S_copselaw3_DecAlone_1)] [] 53 N

theorem nf_copselaw3_DecAlone (N : Nat) (n : Int) (byv : Int) : evFun (E_copselaw3_DecAlone N) c_copselaw3_DecAlone [.tmp 4] [[.bool]] [(.int .i64 n), (.int .i64 byv)] =
  (cond (ByteArray.toList (fromPoint (printB (withinZ n 0 1125899906842624))) == ByteArray.toList (fromPoint (printB (IntKind.wrap IntKind.i64 (withinZ n 0 1125899906842624 + IntKind.wrap IntKind.i64 (withinZ byv 0 1099511627776 * 2 ^ min (Int.toNat 8) (IntKind.bits IntKind.i64)))))))
  (cond (decide (ic (ByteArray.size (fromPoint (printB (IntKind.wrap IntKind.i64 (withinZ n 0 1125899906842624 * 2 ^ min (Int.toNat 1) (IntKind.bits IntKind.i64)))))) ≤ ic (ByteArray.size (fromPoint (printB (withinZ n 0 1125899906842624))))))
    (cond (decide (ic (ByteArray.size (fromPoint (printB (withinZ n 0 1125899906842624)))) ≤ 9))
      (some ((.bool true), []))
      (some ((.bool false), [])))
    (some ((.bool false), [])))
  (some ((.bool false), []))) := by kernel_rfl

end Go.FM

/-
  dec's FUNCTIONS COME TO WHAT IS SAID (1).
-/
namespace Go.FM
open Go Go.Proofs

theorem snd_copsebook_Within : SndR PR B0 12 S_copsebook_Within := by
  refine snd_mk [] [] S_copsebook_Within [[.int .i64]] Tryd.func12 h_copsebook_Within trivial ?_
  intro vs r hwf h
  unfold S_copsebook_Within at h
  split at h
  · rename_i n lo hi
    refine ⟨0, ?_⟩
    rw [← h]
    refine (nf_copsebook_Within 0 n lo hi).trans ?_
    simp only [R.get_br, R.get_ok, R.get_no]
    unfold withinZ withinM i64w
    cases decide (IntKind.wrap IntKind.i64 (IntKind.wrap IntKind.i64 (hi - lo) + 1) = 0) <;> cases decide (Int.tmod n (IntKind.wrap IntKind.i64 (IntKind.wrap IntKind.i64 (hi - lo) + 1)) < 0) <;> rfl
  · simp [R.get] at h

theorem snd_dec_part : SndR PR B0 18 S_dec_part := by
  refine snd_mk [] [(3, ⟨[0, 1, 2], [], []⟩)] S_dec_part [[.int .u64]] Tryd.func18 h_dec_part trivial ?_
  intro vs r hwf h
  unfold S_dec_part at h
  split at h
  · refine ⟨9, ?_⟩
    rw [← h]
    show evFun (E_dec_part 9) c_dec_part [.tmp 0] [[.int .u64]] [] = _
    kernel_rfl
  · simp [R.get] at h

theorem puN_pos {s : ByteArray} (h : puN s = true) : 0 < s.size := by
  unfold puN at h
  split at h
  · rename_i v hv
    have : s.data.toList ≠ [] := fun e => by rw [e] at hv; cases hv
    rw [size_len]
    exact List.length_pos_iff.2 this
  · cases h
theorem puN_first {s : ByteArray} (h : puN s = true) : (List.getD s.data.toList 0 0).toNat ≠ 43 := by
  unfold puN at h
  split at h
  · rename_i v hv
    revert hv
    cases s.data.toList with
    | nil => intro _; decide
    | cons c r =>
      intro hv he
      have he : c.toNat = 43 := he
      unfold Lib.parseMag at hv
      rw [if_neg (by simp), Lib.parseUint10, if_neg (by omega)] at hv
      cases hv
  · cases h

theorem snd_dec_digits : SndR PR B0 16 S_dec_digits := by
  refine snd_mk [(25, S_strconv_ParseUint)] [] S_dec_digits [[.int .u64], [.bool]] Tryd.func16 h_dec_digits ⟨snd_strconv_ParseUint, trivial⟩ ?_
  intro vs r hwf h
  unfold S_dec_digits at h
  split at h
  · rename_i s
    refine ⟨0, ?_⟩
    rw [← h]
    refine (nf_dec_digits 0 s).trans ?_
    simp only [R.get_ok]
    cases hp : puN s with
    | false => simp only [condF]
    | true =>
      have h1 : (decide (0 ≤ 0) && decide (0 < ic (ByteArray.size s))) = true := by
        have := puN_pos hp
        simp [ic]; omega
      have h2 : (ic (UInt8.toNat (List.getD (Array.toList (ByteArray.data s)) (Int.toNat 0) 0)) != 43) = true := by
        have := puN_first hp
        rw [bne_dec]
        simp only [ic, Int.toNat_zero]
        simp only [Bool.not_eq_true', decide_eq_false_iff_not]
        omega
      rw [h1, h2]
      simp only [condT]
  · simp [R.get] at h

/-! ### numbers -/
theorem wrap_u {n : Int} (h0 : 0 ≤ n) (h1 : n < 18446744073709551616) : IntKind.wrap .u64 n = n := by rw [IntKind.wrap_u64]; omega
theorem wrap_neg {n : Int} (h0 : n < 0) (h1 : -9223372036854775808 ≤ n) : IntKind.wrap .u64 (0 - IntKind.wrap .u64 n) = (n.natAbs : Int) := by rw [IntKind.wrap_u64, IntKind.wrap_u64]; omega
theorem wrap_pos {n : Int} (h0 : ¬ n < 0) (h1 : n ≤ 9223372036854775807) : IntKind.wrap .u64 n = (n.natAbs : Int) := by rw [IntKind.wrap_u64]; omega
theorem and_255 (u : Nat) (h : u < 18446744073709551616) : IntKind.wrap .u64 (ic (BitVec.toNat (BitVec.ofInt (IntKind.bits IntKind.u64) (u : Int) &&& BitVec.ofInt (IntKind.bits IntKind.u64) 255))) = ((u % 256 : Nat) : Int) := by
  have e : BitVec.toNat (BitVec.ofInt (IntKind.bits IntKind.u64) (u : Int) &&& BitVec.ofInt (IntKind.bits IntKind.u64) 255) = u % 256 := by
    have h1 : (BitVec.ofInt (IntKind.bits IntKind.u64) (u : Int)).toNat = u := by
      show (BitVec.ofInt 64 (u : Int)).toNat = u
      rw [BitVec.toNat_ofInt]
      omega
    have h2 : (BitVec.ofInt (IntKind.bits IntKind.u64) 255).toNat = 2 ^ 8 - 1 := by rfl
    rw [BitVec.toNat_and, h1, h2, Nat.and_two_pow_sub_one_eq_mod]
  rw [e]
  exact wrap_u (by simp [ic]; omega) (by simp [ic]; omega)
theorem shr_8 (u : Nat) : Int.fdiv (u : Int) (2 ^ min (Int.toNat 8) (IntKind.bits IntKind.u64)) = ((u / 256 : Nat) : Int) := by
  have e : (2 : Int) ^ min (Int.toNat 8) (IntKind.bits IntKind.u64) = ((256 : Nat) : Int) := rfl
  rw [e, Int.fdiv_eq_ediv_of_nonneg _ (by omega)]
  rfl
theorem mul_part {r : Nat} (h : r < 256) : IntKind.wrap .u64 ((r : Int) * 390625) = ((r * 390625 : Nat) : Int) := by
  rw [wrap_u (by omega) (by omega)]
  omega
theorem numB_nat (u : Nat) : numB (u : Int) = ⟨(Lib.decDigits u).toArray⟩ := rfl

theorem decs_len8 : (List.range 256).all (fun r => Nat.ble (Lib.decDigits (r * 390625)).length 8) = true := by kernel_rfl
theorem decs_len {r : Nat} (h : r < 256) : (Lib.decDigits (r * 390625)).length ≤ 8 := by
  have := List.all_eq_true.1 decs_len8 r (List.mem_range.2 h)
  exact Nat.le_of_ble_eq_true this

theorem data_mk (l : List UInt8) : (⟨l.toArray⟩ : ByteArray).data.toList = l := rfl
theorem data_app (s t : ByteArray) : (s ++ t).data.toList = s.data.toList ++ t.data.toList := by simp
theorem size_mk (l : List UInt8) : (⟨l.toArray⟩ : ByteArray).size = l.length := by rw [size_len]

/-- What stands in the normal form, for the number's size u. -/
theorem print_tail {u : Nat} (hu : u < 18446744073709551616) (sg : ByteArray) (hsg : sg.size ≤ 1) (K : ByteArray) (hK : K = sg ++ ⟨(sizeL u).toArray⟩) :
    (cond (decide (ByteArray.size sg + ByteArray.size (numB ((u / 256 : Nat) : Int)) ≤ strMax))
      (cond (((u % 256 : Nat) : Int) == 0)
        (some ((.str (sg ++ numB ((u / 256 : Nat) : Int))), []))
        (cond (decide (ByteArray.size (sg ++ numB ((u / 256 : Nat) : Int)) + ByteArray.size { data := #[46] } ≤ strMax))
          (cond (decide (0 ≤ IntKind.wrap IntKind.i64 (8 - ic (ByteArray.size (numB ((u % 256 * 390625 : Nat) : Int))))) && decide (ByteArray.size { data := #[48] } * Int.toNat (IntKind.wrap IntKind.i64 (8 - ic (ByteArray.size (numB ((u % 256 * 390625 : Nat) : Int))))) ≤ strMax))
            (cond (decide (ByteArray.size (repB { data := #[48] } (Int.toNat (IntKind.wrap IntKind.i64 (8 - ic (ByteArray.size (numB ((u % 256 * 390625 : Nat) : Int))))))) + ByteArray.size (numB ((u % 256 * 390625 : Nat) : Int)) ≤ strMax))
              (cond (decide (ByteArray.size (sg ++ numB ((u / 256 : Nat) : Int) ++ { data := #[46] }) + ByteArray.size (trimRB (repB { data := #[48] } (Int.toNat (IntKind.wrap IntKind.i64 (8 - ic (ByteArray.size (numB ((u % 256 * 390625 : Nat) : Int)))))) ++ numB ((u % 256 * 390625 : Nat) : Int)) { data := #[48] }) ≤ strMax))
                (some ((.str (sg ++ numB ((u / 256 : Nat) : Int) ++ { data := #[46] } ++ trimRB (repB { data := #[48] } (Int.toNat (IntKind.wrap IntKind.i64 (8 - ic (ByteArray.size (numB ((u % 256 * 390625 : Nat) : Int)))))) ++ numB ((u % 256 * 390625 : Nat) : Int)) { data := #[48] })), []))
                none)
              none)
            none)
          none))
      none) = (some (V.str K, []) : Res) := by
  have hr : u % 256 < 256 := by omega
  have l1 : (numB ((u / 256 : Nat) : Int)).size ≤ 20 := numB_size (by omega) (by omega)
  have l2 : (numB ((u % 256 * 390625 : Nat) : Int)).size = (Lib.decDigits (u % 256 * 390625)).length := by rw [numB_nat, size_mk]
  have l3 := decs_len hr
  generalize hD : Lib.decDigits (u % 256 * 390625) = D at l2 l3
  have e8 : IntKind.wrap IntKind.i64 (8 - ic (ByteArray.size (numB ((u % 256 * 390625 : Nat) : Int)))) = ((8 - D.length : Nat) : Int) := by
    rw [l2, wrap_id (by simp [ic]; omega) (by simp [ic]; omega)]
    simp only [ic]
    omega
  rw [e8]
  simp only [Int.toNat_natCast]
  have s46 : ByteArray.size { data := #[46] } = 1 := rfl
  have s48 : ByteArray.size { data := #[48] } = 1 := rfl
  have l4 : (repB { data := #[48] } (8 - D.length)).size = 8 - D.length := by rw [repB_size, s48]; omega
  have l5 := trimRB_size (repB { data := #[48] } (8 - D.length) ++ numB ((u % 256 * 390625 : Nat) : Int)) { data := #[48] }
  rw [ByteArray.size_append, l4, l2] at l5
  rw [decide_eq_true (show ByteArray.size sg + ByteArray.size (numB ((u / 256 : Nat) : Int)) ≤ strMax by unfold strMax; omega),
    decide_eq_true (show ByteArray.size (sg ++ numB ((u / 256 : Nat) : Int)) + ByteArray.size { data := #[46] } ≤ strMax by rw [ByteArray.size_append, s46]; unfold strMax; omega),
    decide_eq_true (show (0 : Int) ≤ ((8 - D.length : Nat) : Int) by omega),
    decide_eq_true (show ByteArray.size { data := #[48] } * (8 - D.length) ≤ strMax by rw [s48]; unfold strMax; omega),
    decide_eq_true (show ByteArray.size (repB { data := #[48] } (8 - D.length)) + ByteArray.size (numB ((u % 256 * 390625 : Nat) : Int)) ≤ strMax by rw [l4, l2]; unfold strMax; omega),
    decide_eq_true (show ByteArray.size (sg ++ numB ((u / 256 : Nat) : Int) ++ { data := #[46] }) + ByteArray.size (trimRB (repB { data := #[48] } (8 - D.length) ++ numB ((u % 256 * 390625 : Nat) : Int)) { data := #[48] }) ≤ strMax by rw [ByteArray.size_append, ByteArray.size_append, s46]; unfold strMax; omega)]
  simp only [condT, Bool.and_true]
  subst hK
  by_cases h0 : u % 256 = 0
  · have e0 : (((u % 256 : Nat) : Int) == 0) = true := by rw [beq_dec]; exact decide_eq_true (by omega)
    rw [e0, condT]
    have : sg ++ numB ((u / 256 : Nat) : Int) = sg ++ ⟨(sizeL u).toArray⟩ := by
      apply bytes_ext
      rw [data_app, data_app, numB_nat, data_mk, data_mk, sizeL, if_pos h0, List.append_nil]
    rw [this]
  · have e0 : (((u % 256 : Nat) : Int) == 0) = false := by rw [beq_dec]; exact decide_eq_false (by omega)
    rw [e0, condF]
    have : sg ++ numB ((u / 256 : Nat) : Int) ++ { data := #[46] } ++ trimRB (repB { data := #[48] } (8 - D.length) ++ numB ((u % 256 * 390625 : Nat) : Int)) { data := #[48] } = sg ++ ⟨(sizeL u).toArray⟩ := by
      apply bytes_ext
      simp only [data_app, numB_nat, sizeL, if_neg h0, trimRB, repB, decsL, hD, List.append_assoc]
      rfl
    rw [this]

theorem snd_dec_Print : SndR PR B0 9 S_dec_Print := by
  refine snd_mk [(17, S_strings_Repeat), (18, S_dec_part), (19, S_strconv_FormatUint), (20, S_strings_TrimRight)] [] S_dec_Print [[.str]] Tryd.func9 h_dec_Print ⟨snd_strings_Repeat, snd_dec_part, snd_strconv_FormatUint, snd_strings_TrimRight, trivial⟩ ?_
  intro vs r hwf h
  unfold S_dec_Print at h
  split at h
  · rename_i n
    refine ⟨0, ?_⟩
    rw [← h]
    refine (nf_dec_Print 0 n).trans ?_
    simp only [R.get_ok]
    have hb := (hwf (by simp [oneBor])).1
    simp only [wfV, wfL] at hb
    obtain ⟨h0, h1⟩ := hb
    have e0 : IntKind.i64.min = -9223372036854775808 := rfl
    have e1 : IntKind.i64.max = 9223372036854775807 := rfl
    rw [e0] at h0
    rw [e1] at h1
    have hu : n.natAbs < 18446744073709551616 := by omega
    by_cases hn : n < 0
    · rw [decide_eq_true hn, condT, wrap_neg hn h0, shr_8, and_255 _ hu, mul_part (by omega)]
      exact print_tail hu ⟨#[45]⟩ (by decide) _ (by apply bytes_ext; rw [data_app]; unfold printB printL; rw [if_pos hn]; rfl)
    · rw [decide_eq_false hn, condF, wrap_pos hn h1, shr_8, and_255 _ hu, mul_part (by omega)]
      exact print_tail hu ⟨#[]⟩ (by decide) _ (by apply bytes_ext; rw [data_app]; unfold printB printL; rw [if_neg hn]; rfl)
  · simp [R.get] at h

end Go.FM

/-
  dec's FUNCTIONS COME TO WHAT IS SAID (2): Scan; the runs.
-/
namespace Go.FM
open Go Go.Proofs

theorem snd_dec_Scan : SndR PR B0 8 S_dec_Scan := by
  refine snd_mk [(9, S_dec_Print), (14, S_strings_CutPrefix), (15, S_strings_Cut), (16, S_dec_digits), (17, S_strings_Repeat), (18, S_dec_part)] [] S_dec_Scan [[.int .i64], [.bool]] Tryd.func8 h_dec_Scan
    ⟨snd_dec_Print, snd_strings_CutPrefix, snd_strings_Cut, snd_dec_digits, snd_strings_Repeat, snd_dec_part, trivial⟩ ?_
  intro vs r hwf h
  unfold S_dec_Scan at h
  split at h
  · rename_i s
    refine ⟨0, ?_⟩
    cases hs : decide (s.size < 4294967281) with
    | false => rw [hs] at h; simp [R.get] at h
    | true =>
      rw [hs, R.get_br, condT, R.get_ok] at h
      have hs := of_decide_eq_true hs
      rw [← h]
      refine (nf_dec_Scan 0 s).trans ?_
      have hz := trimPreB_size s { data := #[45] }
      rw [decide_eq_true (show ByteArray.size (trimPreB s { data := #[45] }) < 4294967281 by omega), condT]
      have eW : cutL (trimPreB s { data := #[45] }) { data := #[46] } = decWhole s := rfl
      have eP : cutR (trimPreB s { data := #[45] }) { data := #[46] } = decPart s := rfl
      have eM : hasPreB s { data := #[45] } = hasPreB s w_minus := rfl
      rw [eW, eP, eM]
      unfold decV
      by_cases h8 : (decPart s).size ≤ 8
      · have c1 : decide (ic (ByteArray.size (decPart s)) > 8) = false := decide_eq_false (by simp only [ic]; omega)
        have e8 : IntKind.wrap IntKind.i64 (8 - ic (ByteArray.size (decPart s))) = ((8 - (decPart s).size : Nat) : Int) := by
          rw [wrap_id (by simp only [ic]; omega) (by simp only [ic]; omega)]
          simp only [ic]
          omega
        rw [c1, condF, e8]
        simp only [Int.toNat_natCast]
        have s48 : ByteArray.size { data := #[48] } = 1 := rfl
        have eF : decPart s ++ repB { data := #[48] } (8 - (decPart s).size) = decFull s := rfl
        have l4 : (repB { data := #[48] } (8 - (decPart s).size)).size = 8 - (decPart s).size := by rw [repB_size, s48]; omega
        rw [decide_eq_true (show (0 : Int) ≤ ((8 - (decPart s).size : Nat) : Int) by omega), decide_eq_true (show ByteArray.size { data := #[48] } * (8 - (decPart s).size) ≤ strMax by rw [s48]; unfold strMax; omega), Bool.and_true, condT,
          decide_eq_true (show ByteArray.size (decPart s) + ByteArray.size (repB { data := #[48] } (8 - (decPart s).size)) ≤ strMax by rw [l4]; unfold strMax; omega), condT, eF]
        have hw := puV_bound (decWhole s)
        have hf := puV_bound (decFull s)
        have b0 : IntKind.u64.min = 0 := rfl
        have b1 : IntKind.u64.max = 18446744073709551615 := rfl
        rw [b0, b1] at hw hf
        have em : Int.tmod (puV (decFull s)) 390625 = puV (decFull s) % 390625 := Int.tmod_eq_emod_of_nonneg hf.1
        have ed : IntKind.wrap IntKind.u64 (Int.tdiv (puV (decFull s)) 390625) = puV (decFull s) / 390625 := by
          rw [Int.tdiv_eq_ediv_of_nonneg hf.1, wrap_u (by omega) (by omega)]
        have e2 : (2 : Int) ^ min (Int.toNat 8) (IntKind.bits IntKind.u64) = 256 := rfl
        rw [em, ed, e2]
        have eS : IntKind.wrap IntKind.u64 (IntKind.wrap IntKind.u64 (puV (decWhole s) * 256) + puV (decFull s) / 390625) = decSize s := rfl
        rw [eS]
        unfold decIs
        rw [decide_eq_true h8, dec_gt, dec_le_not, bne_dec]
        cases hp1 : puN (decWhole s) with
        | false => simp only [Bool.not_false, condT, condF, Bool.false_and, Bool.and_false]
        | true =>
          cases hp2 : puN (decFull s) with
          | false => simp only [Bool.not_false, Bool.not_true, condT, condF, Bool.false_and, Bool.and_false]
          | true =>
            simp only [Bool.not_true, condF, Bool.true_and]
            cases hc : decide (36028797018963968 < puV (decWhole s)) with
            | true => simp only [Bool.not_true, condT, condF, Bool.false_and]
            | false =>
              cases hd : decide (puV (decFull s) % 390625 = 0) with
              | false => simp only [Bool.not_false, condT, condF, Bool.false_and, Bool.true_and]
              | true =>
                simp only [Bool.not_false, Bool.not_true, condF, Bool.true_and]
                unfold decNum
                cases hm : hasPreB s w_minus with
                | false =>
                  simp only [condF]
                  rw [show IntKind.wrap IntKind.i64 (decSize s) = i64w (decSize s) from rfl, bytes_beq]
                  cases decide (printB (i64w (decSize s)) = s) <;> simp only [condT, condF]
                | true =>
                  simp only [condT]
                  rw [show IntKind.wrap IntKind.i64 (IntKind.wrap IntKind.u64 (0 - decSize s)) = i64w (u64w (0 - decSize s)) from rfl, bytes_beq]
                  cases decide (printB (i64w (u64w (0 - decSize s))) = s) <;> simp only [condT, condF]
      · have c1 : decide (ic (ByteArray.size (decPart s)) > 8) = true := decide_eq_true (by simp only [ic]; omega)
        rw [c1, condT]
        unfold decIs
        rw [decide_eq_false h8, Bool.false_and, condF]
  · simp [R.get] at h

theorem snd_copselaw3_DecRuns : SndR PR B0 3 S_copselaw3_DecRuns := by
  refine snd_mk [(8, S_dec_Scan), (9, S_dec_Print)] [] S_copselaw3_DecRuns [[.bool]] Tryd.func3 h_copselaw3_DecRuns ⟨snd_dec_Scan, snd_dec_Print, trivial⟩ ?_
  intro vs r hwf h
  unfold S_copselaw3_DecRuns at h
  split at h
  · refine ⟨0, ?_⟩
    rw [← h]
    exact nf_copselaw3_DecRuns 0
  · simp [R.get] at h

end Go.FM

/-
  THE DOCUMENT's OWN ANSWER COMES TO WHAT IS SAID (1): digits, Print.
-/
namespace Go.FM
open Go Go.Proofs

/-! ### digits -/
theorem numL_step {u : Nat} (h : 0 < u) : numL u = numL (u / 10) ++ [UInt8.ofNat (48 + u % 10)] := by
  unfold numL
  rw [if_neg (by omega), Lib.decDigits]
  by_cases h10 : u < 10
  · rw [dif_pos h10, if_pos (by omega), Nat.mod_eq_of_lt h10]; rfl
  · rw [dif_neg h10, if_neg (by omega)]
theorem digL_step {u k : Nat} (h : 0 < u ∨ 0 < k) : digL u k = digL (u / 10) (k - 1) ++ [UInt8.ofNat (48 + u % 10)] := by
  unfold digL
  by_cases hu : 0 < u
  · rw [numL_step hu, List.length_append, List.length_singleton, ← List.append_assoc]
    congr 3
    omega
  · have hu0 : u = 0 := by omega
    subst hu0
    have hk : 0 < k := by omega
    have e : numL 0 = [] := rfl
    rw [e, List.append_nil, List.append_nil, List.length_nil, Nat.sub_zero, Nat.sub_zero]
    rw [show k = (k - 1) + 1 by omega, List.replicate_succ', Nat.add_sub_cancel]
    rfl
theorem digL_end : digL 0 0 = [] := rfl
theorem digL_len {u k : Nat} (hu : u < 18446744073709551616) (hk : k ≤ 100) : (digL u k).length ≤ 120 := by
  unfold digL
  rw [List.length_append, List.length_replicate]
  have : (numL u).length ≤ 20 := by
    unfold numL
    split
    · simp
    · have := numB_size (n := (u : Int)) (by omega) (by omega)
      rw [size_len] at this
      exact this
  omega

theorem one_num (x : Int) : strOfNums (List.map IV.toInt (List.drop 0 (List.take 1 [IV.int x]))) = ⟨#[UInt8.ofNat x.toNat]⟩ := rfl
theorem one_dig (u : Nat) (h : u < 18446744073709551616) : IntKind.wrap IntKind.u8 (IntKind.wrap IntKind.u64 (48 + Int.tmod (u : Int) 10)) = ((48 + u % 10 : Nat) : Int) := by
  rw [Int.tmod_eq_emod_of_nonneg (by omega), IntKind.wrap_u64, IntKind.wrap_u8]
  omega

theorem dig_run (N : Nat) (K : Out → St → Res) (s4 : ByteArray) (hx : ∀ x0 x1 s4 s5, K (.exit 0) ⟨[(0, (.int .u64 x0)), (1, (.int .i64 x1)), (4, (.str s4)), (5, (.str s5))], []⟩ = some (.str s5, [])) :
    ∀ (d n u : Nat) (k : Int) (acc : List UInt8), (digL u k.toNat).length = d → d < n → u < 18446744073709551616 → -1000 + d < k → k ≤ 100 → acc.length + d ≤ 1000 →
      lpE (E_copseref1_digits N) (subC c_copseref1_digits [1, 1, 0, 0, 0]) ⟨[0, 1, 4, 5], [], []⟩ n ⟨[(0, (.int .u64 (u : Int))), (1, (.int .i64 k)), (4, (.str s4)), (5, (.str ⟨acc.toArray⟩))], []⟩ K = some (.str ⟨(digL u k.toNat ++ acc).toArray⟩, [])
  | d, n + 1, u, k, acc, hd, hn, hu, hk0, hk1, hl => by
    rw [lpE_succ, st_copseref1_digits_1]
    by_cases hst : 0 < u ∨ 0 < k.toNat
    · have hs := digL_step hst
      have hd' : (digL (u / 10) (k.toNat - 1)).length + 1 = d := by rw [← hd, hs]; simp
      have ek : (k - 1).toNat = k.toNat - 1 := by omega
      have ih := dig_run N K s4 hx (d - 1) n (u / 10) (k - 1) (UInt8.ofNat (48 + u % 10) :: acc) (by rw [ek]; omega) (by omega) (by omega) (by omega) (by omega) (by simp only [List.length_cons]; omega)
      rw [one_dig u hu, one_num, Int.toNat_natCast]
      have eA : (⟨#[UInt8.ofNat (48 + u % 10)]⟩ : ByteArray) ++ ⟨acc.toArray⟩ = ⟨(UInt8.ofNat (48 + u % 10) :: acc).toArray⟩ := by
        apply bytes_ext
        rw [data_app]
        rfl
      have eU : IntKind.wrap IntKind.u64 (Int.tdiv (u : Int) 10) = ((u / 10 : Nat) : Int) := by
        rw [Int.tdiv_eq_ediv_of_nonneg (by omega), wrap_u (by omega) (by omega)]
        omega
      have eK : IntKind.wrap IntKind.i64 (k - 1) = k - 1 := wrap_id (by omega) (by omega)
      have s1 : ByteArray.size ⟨#[UInt8.ofNat (48 + u % 10)]⟩ = 1 := rfl
      have s2 : ByteArray.size (⟨acc.toArray⟩ : ByteArray) = acc.length := size_mk _
      rw [eA, eU, eK, decide_eq_true (show ByteArray.size ⟨#[UInt8.ofNat (48 + u % 10)]⟩ + ByteArray.size ⟨acc.toArray⟩ ≤ strMax by rw [s1, s2]; unfold strMax; omega)]
      have e3 : digL u k.toNat ++ acc = digL (u / 10) (k - 1).toNat ++ UInt8.ofNat (48 + u % 10) :: acc := by
        rw [hs, ek, List.append_assoc]; rfl
      rw [e3]
      by_cases hu0 : 0 < u
      · rw [decide_eq_true (show (u : Int) > 0 by omega), condT, condT]
        exact ih
      · rw [decide_eq_false (show ¬ (u : Int) > 0 by omega), condF, decide_eq_true (show k > 0 by omega), condT, condT]
        exact ih
    · rw [decide_eq_false (show ¬ (u : Int) > 0 by omega), condF, decide_eq_false (show ¬ k > 0 by omega), condF, hx]
      have e0 : u = 0 := by omega
      have e1 : k.toNat = 0 := by omega
      rw [e0, e1, digL_end]
      rfl
  | _, 0, _, _, _, _, h, _, _, _, _ => by omega

theorem snd_copseref1_digits : SndR PR B0 22 S_copseref1_digits := by
  refine snd_mk [] [(2, ⟨[0, 1, 4, 5], [], []⟩)] S_copseref1_digits [[.str]] Tryd.func22 h_copseref1_digits trivial ?_
  intro vs r hwf h
  unfold S_copseref1_digits at h
  split at h
  · rename_i u k
    cases hc : (decide (0 ≤ k) && decide (k ≤ 100)) with
    | false => rw [hc] at h; simp [R.get] at h
    | true =>
      rw [hc, R.get_br, condT, R.get_ok] at h
      simp only [Bool.and_eq_true, decide_eq_true_eq] at hc
      refine ⟨200, ?_⟩
      rw [← h]
      refine (nf_copseref1_digits 200 u k).trans ?_
      have hb := (hwf (by simp [oneBor])).1
      simp only [wfV, wfL] at hb
      obtain ⟨h0, h1⟩ := hb
      have e0 : IntKind.u64.min = 0 := rfl
      have e1 : IntKind.u64.max = 18446744073709551615 := rfl
      rw [e0] at h0
      rw [e1] at h1
      obtain ⟨u, rfl⟩ : ∃ v : Nat, u = v := ⟨u.toNat, by omega⟩
      have hl := digL_len (u := u) (k := k.toNat) (by omega) (by omega)
      have := dig_run 200 _ ⟨#[]⟩ (fun x0 x1 s4 s5 => ex_copseref1_digits_1_1 200 x0 x1 s4 s5) _ 200 u k [] rfl (by omega) (by omega) (by omega) (by omega) (by simp only [List.length_nil]; omega)
      rw [List.append_nil] at this
      exact this
  · simp [R.get] at h

/-! ### Print -/
theorem digL_1 (w : Nat) : digL w 1 = Lib.decDigits w := by
  unfold digL numL
  split
  · rename_i h
    subst h
    rw [Lib.decDigits]
    rfl
  · have : 1 ≤ (Lib.decDigits w).length := List.length_pos_iff.2 (decDigits_ne w)
    rw [show 1 - (Lib.decDigits w).length = 0 by omega]
    rfl
theorem rep_48 (k : Nat) : Lib.repeatL [48] k = List.replicate k (48 : UInt8) := by
  have := Lib.repeatL_replicate (48 : UInt8) 1 k
  rw [Nat.mul_one] at this
  exact this
theorem digL_8 {r : Nat} (h : r ≠ 0) : Lib.trimRightB (digL (r * 390625) 8) 48 = decsL r := by
  unfold digL numL decsL
  rw [if_neg (by omega), rep_48]
theorem digL_some8 : (List.range 256).all (fun r => Nat.beq r 0 || (digL (r * 390625) 8).any (fun c => !(c == 48))) = true := by kernel_rfl
theorem digL_some {r : Nat} (h0 : r ≠ 0) (h : r < 256) : ∃ c ∈ digL (r * 390625) 8, c ≠ 48 := by
  have := List.all_eq_true.1 digL_some8 r (List.mem_range.2 h)
  rw [Bool.or_eq_true] at this
  rcases this with h1 | h1
  · exact absurd (Nat.eq_of_beq_eq_true h1) h0
  · obtain ⟨c, hc, hc2⟩ := List.any_eq_true.1 h1
    exact ⟨c, hc, by simpa using hc2⟩
theorem trim_end (q : List UInt8) : Lib.trimRightB (q ++ [48]) 48 = Lib.trimRightB q 48 := by simp [Lib.trimRightB]
theorem trim_keep (q : List UInt8) {c : UInt8} (h : c ≠ 48) : Lib.trimRightB (q ++ [c]) 48 = q ++ [c] := by simp [Lib.trimRightB, h]

theorem pr_run (N : Nat) (K : Out → St → Res) (s2 s3 s7 : ByteArray) :
    ∀ (d n : Nat) (p : List UInt8), p.length = d → d ≤ n → (∃ c ∈ p, c ≠ 48) → p.length ≤ 1000 →
      lpE (E_copseref1_Print N) (subC c_copseref1_Print [1, 1, 1, 1, 1, 1, 1, 1, 0, 0, 0]) ⟨[2, 3, 7, 8], [], []⟩ n ⟨[(2, (.str s2)), (3, (.str s3)), (7, (.str s7)), (8, (.str ⟨p.toArray⟩))], []⟩ K = K (.exit 0) ⟨[(2, (.str s2)), (3, (.str s3)), (7, (.str s7)), (8, (.str ⟨(Lib.trimRightB p 48).toArray⟩))], []⟩
  | d + 1, n + 1, p, hd, hn, hp, hl => by
    obtain ⟨q, c, rfl⟩ : ∃ q c, p = q ++ [c] := ⟨p.dropLast, p.getLast (by intro e; subst e; simp at hd), (List.dropLast_concat_getLast _).symm⟩
    rw [List.length_append, List.length_singleton] at hd hl
    rw [lpE_succ, st_copseref1_Print_1]
    have ez : ic (ByteArray.size ⟨(q ++ [c]).toArray⟩) = ((q.length + 1 : Nat) : Int) := by rw [size_mk, List.length_append, List.length_singleton]
    rw [ez]
    have ew : IntKind.wrap IntKind.i64 (((q.length + 1 : Nat) : Int) - 1) = ((q.length : Nat) : Int) := by rw [wrap_id (by omega) (by omega)]; omega
    rw [ew, Int.toNat_natCast, decide_eq_true (show (0 : Int) ≤ ((q.length : Nat) : Int) by omega), decide_eq_true (show ((q.length : Nat) : Int) < ((q.length + 1 : Nat) : Int) by omega), decide_eq_true (show ((q.length : Nat) : Int) ≤ ((q.length + 1 : Nat) : Int) by omega), Bool.and_true, condT]
    have eg : List.getD (Array.toList (ByteArray.data ⟨(q ++ [c]).toArray⟩)) q.length 0 = c := by
      show List.getD (q ++ [c]) q.length 0 = c
      simp
    rw [eg]
    have ex : ByteArray.extract ⟨(q ++ [c]).toArray⟩ 0 q.length = ⟨q.toArray⟩ := by
      rw [Lib.extract_mk]
      simp
    rw [ex, condT]
    by_cases hc : c = 48
    · subst hc
      have e1 : (ic (UInt8.toNat (48 : UInt8)) == 48) = true := rfl
      rw [e1, condT, trim_end]
      obtain ⟨b, hb, hb2⟩ := hp
      have hb3 : b ∈ q := by
        rcases List.mem_append.1 hb with h | h
        · exact h
        · exact absurd (List.mem_singleton.1 h) hb2
      exact pr_run N K s2 s3 s7 d n q (by omega) (by omega) ⟨b, hb3, hb2⟩ (by omega)
    · have e1 : (ic (UInt8.toNat c) == 48) = false := by
        rw [beq_dec]
        refine decide_eq_false (fun e => hc ?_)
        have : c.toNat = (48 : UInt8).toNat := by
          have h48 : (48 : UInt8).toNat = 48 := rfl
          simp only [ic] at e
          omega
        exact UInt8.toNat_inj.1 this
      rw [e1, condF, trim_keep q hc]
  | 0, _, p, hd, _, hp, _ => by
    obtain ⟨c, hc, _⟩ := hp
    rw [List.eq_nil_of_length_eq_zero hd] at hc
    cases hc
  | _ + 1, 0, _, _, h, _, _ => by omega

theorem decs_size8 : (List.range 256).all (fun r => Nat.ble (decsL r).length 8) = true := by kernel_rfl
theorem decs_size {r : Nat} (h : r < 256) : (decsL r).length ≤ 8 := Nat.le_of_ble_eq_true (List.all_eq_true.1 decs_size8 r (List.mem_range.2 h))

theorem ref_tail (N : Nat) (hN : 200 ≤ N) {u : Nat} (hu : u < 18446744073709551616) (sg : ByteArray) (hsg : sg.size ≤ 1) (B : ByteArray) (hB : B = sg ++ ⟨(sizeL u).toArray⟩) :
    (cond (((u % 256 : Nat) : Int) == 0)
      (cond (decide (ByteArray.size sg + ByteArray.size { data := List.toArray (digL (u / 256) 1) } ≤ strMax))
        (some ((.str (sg ++ { data := List.toArray (digL (u / 256) 1) })), []))
        none)
      (lpE (E_copseref1_Print N) (subC c_copseref1_Print [1, 1, 1, 1, 1, 1, 1, 1, 0, 0, 0]) ⟨[2, 3, 7, 8], [], []⟩ N ⟨[(2, (.str ({ data := #[] }))), (3, (.str sg)), (7, (.str ({ data := List.toArray (digL (u / 256) 1) }))), (8, (.str ({ data := List.toArray (digL (u % 256 * 390625) 8) })))], []⟩ (kBlock 0 (kSq (E_copseref1_Print N) (subC c_copseref1_Print [1, 1, 1, 1, 1, 1, 1, 1, 1]) (outT (E_copseref1_Print N) none [(ResultVar.tmp 2)] [[.str]]))))) = (some (V.str B, []) : Res) := by
  subst hB
  have l1 := digL_len (u := u / 256) (k := 1) (by omega) (by omega)
  have z1 : ByteArray.size { data := List.toArray (digL (u / 256) 1) } = (digL (u / 256) 1).length := size_mk _
  by_cases h0 : u % 256 = 0
  · have e0 : (((u % 256 : Nat) : Int) == 0) = true := by rw [beq_dec]; exact decide_eq_true (by omega)
    rw [e0, condT, decide_eq_true (show ByteArray.size sg + ByteArray.size { data := List.toArray (digL (u / 256) 1) } ≤ strMax by rw [z1]; unfold strMax; omega), condT, digL_1]
    unfold sizeL
    rw [if_pos h0, List.append_nil]
  · have e0 : (((u % 256 : Nat) : Int) == 0) = false := by rw [beq_dec]; exact decide_eq_false (by omega)
    have hr : u % 256 < 256 := by omega
    have l2 := digL_len (u := u % 256 * 390625) (k := 8) (by omega) (by omega)
    have l3 := decs_size hr
    rw [e0, condF, pr_run N _ _ _ _ _ N _ rfl (by omega) (digL_some h0 hr) (by omega), ex_copseref1_Print_1_1, digL_8 h0]
    have z2 : ByteArray.size { data := List.toArray (decsL (u % 256)) } = (decsL (u % 256)).length := size_mk _
    have z3 : ByteArray.size { data := #[46] } = 1 := rfl
    rw [decide_eq_true (show ByteArray.size sg + ByteArray.size { data := List.toArray (digL (u / 256) 1) } ≤ strMax by rw [z1]; unfold strMax; omega),
      decide_eq_true (show ByteArray.size (sg ++ { data := List.toArray (digL (u / 256) 1) }) + ByteArray.size { data := #[46] } ≤ strMax by rw [ByteArray.size_append, z1, z3]; unfold strMax; omega),
      decide_eq_true (show ByteArray.size (sg ++ { data := List.toArray (digL (u / 256) 1) } ++ { data := #[46] }) + ByteArray.size { data := List.toArray (decsL (u % 256)) } ≤ strMax by rw [ByteArray.size_append, ByteArray.size_append, z1, z2, z3]; unfold strMax; omega),
      condT, condT, condT, digL_1]
    have : sg ++ { data := List.toArray (Lib.decDigits (u / 256)) } ++ { data := #[46] } ++ { data := List.toArray (decsL (u % 256)) } = sg ++ (⟨(sizeL u).toArray⟩ : ByteArray) := by
      apply bytes_ext
      simp only [data_app, sizeL, if_neg h0, List.append_assoc]
      rfl
    rw [this]

theorem snd_copseref1_Print : SndR PR B0 11 S_copseref1_Print := by
  refine snd_mk [(22, S_copseref1_digits)] [(10, ⟨[2, 3, 7, 8], [], []⟩)] S_copseref1_Print [[.str]] Tryd.func11 h_copseref1_Print ⟨snd_copseref1_digits, trivial⟩ ?_
  intro vs r hwf h
  unfold S_copseref1_Print at h
  split at h
  · rename_i n
    refine ⟨200, ?_⟩
    rw [← h]
    refine (nf_copseref1_Print 200 n).trans ?_
    simp only [R.get_ok]
    have hb := (hwf (by simp [oneBor])).1
    simp only [wfV, wfL] at hb
    obtain ⟨h0, h1⟩ := hb
    have e0 : IntKind.i64.min = -9223372036854775808 := rfl
    have e1 : IntKind.i64.max = 9223372036854775807 := rfl
    rw [e0] at h0
    rw [e1] at h1
    have hu : n.natAbs < 18446744073709551616 := by omega
    by_cases hn : n < 0
    · rw [decide_eq_true hn, condT, wrap_neg hn h0, shr_8, and_255 _ hu, mul_part (by omega), Int.toNat_natCast, Int.toNat_natCast]
      exact ref_tail 200 (by omega) hu ⟨#[45]⟩ (by decide) _ (by apply bytes_ext; rw [data_app]; unfold printB printL; rw [if_pos hn]; rfl)
    · rw [decide_eq_false hn, condF, wrap_pos hn h1, shr_8, and_255 _ hu, mul_part (by omega), Int.toNat_natCast, Int.toNat_natCast]
      exact ref_tail 200 (by omega) hu ⟨#[]⟩ (by decide) _ (by apply bytes_ext; rw [data_app]; unfold printB printL; rw [if_neg hn]; rfl)
  · simp [R.get] at h

end Go.FM

/-
  THE DOCUMENT's OWN ANSWER COMES TO WHAT IS SAID (2): candidates, Scan; what stands from the point on.
-/
namespace Go.FM
open Go Go.Proofs

/-! ### candidates -/
abbrev stC (s : ByteArray) (c : Cst) (m : Bool) (i : Int) : St := ⟨[(0, (.str s)), (2, .zs), (3, (.int .i64 c.w)), (4, (.int .i64 c.p)), (5, (.int .i64 c.n)), (6, (.bool c.pt)), (7, (.bool m)), (8, (.int .i64 i))], []⟩
abbrev stD (c : Cst) (m : Bool) : St := ⟨[(2, .zs), (3, (.int .i64 c.w)), (4, (.int .i64 c.p)), (5, (.int .i64 c.n)), (7, (.bool m))], []⟩

set_option maxHeartbeats 4000000 in
theorem cand_st (N : Nat) (s : ByteArray) (st : Cst) (m : Bool) (i : Nat) (c : UInt8) (again : St → Res) (k : Out → St → Res) (hi : i < s.size) (hsz : s.size ≤ strMax) (hc : List.getD (Array.toList (ByteArray.data s)) i 0 = c) :
    rnd (E_copseref1_candidates N) (subC c_copseref1_candidates [1, 1, 1, 0, 1, 0, 0]) (stC s st m (i : Int)) (kLoop again ⟨[0, 2, 3, 4, 5, 6, 7, 8], [], []⟩ k) =
      match cStep (Nat.beq i 0) c st with
      | some st' => again (stC s st' m ((i + 1 : Nat) : Int))
      | none => k .ret (stC s st m (i : Int)) := by
  obtain ⟨w, p, n, pt⟩ := st
  unfold strMax at hsz
  rw [st_copseref1_candidates_1]
  rw [decide_eq_true (show (i : Int) < ic (ByteArray.size s) by simp only [ic]; omega), decide_eq_true (show 0 ≤ (i : Int) by omega), Bool.and_true, condT, condT, Int.toNat_natCast, hc, wrap_id (n := (i : Int) + 1) (by omega) (by omega)]
  have ei : ((i : Int) == 0) = Nat.beq i 0 := by
    cases i with
    | zero => rfl
    | succ i => rw [beq_dec]; exact decide_eq_false (by omega)
  rw [ei]
  have e1 : ((i : Int) + 1) = ((i + 1 : Nat) : Int) := rfl
  rw [e1]
  unfold cStep dig u8w i64w
  generalize (ic c.toNat == 45) = b1
  generalize (ic c.toNat == 46) = b3
  generalize decide (ic c.toNat < 48) = b4
  generalize decide (ic c.toNat > 57) = b5
  generalize Nat.beq i 0 = b2
  simp only
  generalize (n == 8) = b7
  generalize decide (w > 36028797018963968) = b8
  cases b1 <;> cases b2 <;> cases b3 <;> cases pt <;> first
    | rfl
    | (cases b4 <;> first
        | rfl
        | (cases b5 <;> first
            | rfl
            | (cases b7 <;> cases b8 <;> rfl)))

theorem cand_run (N : Nat) (s : ByteArray) (m : Bool) (hsz : s.size ≤ strMax) (K : Out → St → Res) (F : Cst → Res)
    (hr : ∀ st i, K .ret (stC s st m i) = some (.list false [.int .i64] [], [])) (hx : ∀ st i, 0 ≤ st.n → st.n ≤ 8 → K (.exit 0) (stC s st m i) = F st) :
    ∀ (l : List UInt8) (i n : Nat) (st : Cst), s.data.toList.drop i = l → i ≤ s.size → s.size < i + n → 0 ≤ st.n → st.n ≤ 8 →
      lpE (E_copseref1_candidates N) (subC c_copseref1_candidates [1, 1, 1, 0, 1, 0, 0]) ⟨[0, 2, 3, 4, 5, 6, 7, 8], [], []⟩ n (stC s st m (i : Int)) K = match cRun (Nat.beq i 0) l st with
        | none => some (.list false [.int .i64] [], [])
        | some st' => F st'
  | [], i, n + 1, st, hl, hi, hn, h0, h8 => by
    have hz : s.size ≤ i := by
      rw [size_len]
      exact List.drop_eq_nil_iff.1 hl
    obtain ⟨w, p, n', pt⟩ := st
    rw [lpE_succ, st_copseref1_candidates_1, decide_eq_false (show ¬ (i : Int) < ic (ByteArray.size s) by simp only [ic]; omega), condF]
    exact hx ⟨w, p, n', pt⟩ _ h0 h8
  | c :: l, i, n + 1, st, hl, hi, hn, h0, h8 => by
    have hlt : i < s.data.toList.length := by
      rcases Nat.lt_or_ge i s.data.toList.length with h | h
      · exact h
      · rw [List.drop_of_length_le h] at hl; cases hl
    have hz : i < s.size := by rw [size_len]; exact hlt
    have hd := List.drop_eq_getElem_cons hlt
    rw [hl] at hd
    injection hd with hc ht
    have hg : List.getD (Array.toList (ByteArray.data s)) i 0 = c := by
      rw [hc]
      simp [List.getD, List.getElem?_eq_getElem hlt]
    rw [lpE_succ, cand_st N s st m i c _ _ hz hsz hg]
    unfold cRun
    cases hs : cStep (Nat.beq i 0) c st with
    | none => exact hr st i
    | some st' =>
      have hn' : 0 ≤ st'.n ∧ st'.n ≤ 8 := by
        revert hs
        unfold cStep i64w
        cases (ic c.toNat == 45 && Nat.beq i 0)
        · cases (ic c.toNat == 46 && !st.pt)
          · cases (decide (ic c.toNat < 48) || decide (ic c.toNat > 57))
            · cases st.pt
              · cases decide (st.w > 36028797018963968)
                · intro hs; simp only [cond_false, Option.some.injEq] at hs; subst hs; exact ⟨h0, h8⟩
                · intro hs; simp only [cond_true, cond_false] at hs; cases hs
              · cases h7 : (st.n == 8)
                · intro hs
                  simp only [cond_true, cond_false, Option.some.injEq] at hs
                  subst hs
                  rw [beq_dec] at h7
                  have := of_decide_eq_false h7
                  simp only
                  rw [wrap_id (by omega) (by omega)]
                  omega
                · intro hs; simp only [cond_true, cond_false] at hs; cases hs
            · intro hs; simp only [cond_true, cond_false] at hs; cases hs
          · intro hs; simp only [cond_true, cond_false, Option.some.injEq] at hs; subst hs; exact ⟨h0, h8⟩
        · intro hs; simp only [cond_true, Option.some.injEq] at hs; subst hs; exact ⟨h0, h8⟩
      have ih := cand_run N s m hsz K F hr hx l (i + 1) n st' ht.symm (by omega) (by omega) hn'.1 hn'.2
      exact ih
  | _, _, 0, _, _, hi, hn, _, _ => by omega

theorem pad_run (N : Nat) (m : Bool) (K : Out → St → Res) : ∀ (d n : Nat) (w p q : Int) (pt : Bool), q + d = 8 → d < n → 0 ≤ q →
    ∃ q', lpE (E_copseref1_candidates N) (subC c_copseref1_candidates [1, 1, 1, 1, 0, 0, 0]) ⟨[2, 3, 4, 5, 7], [], []⟩ n (stD ⟨w, p, q, pt⟩ m) K = K (.exit 3) (stD ⟨w, cPad d p, q', pt⟩ m)
  | 0, n + 1, w, p, q, pt, hq, hn, h0 => by
    refine ⟨q, ?_⟩
    rw [lpE_succ, st_copseref1_candidates_2, decide_eq_false (show ¬ q < 8 by omega), condF]
    rfl
  | d + 1, n + 1, w, p, q, pt, hq, hn, h0 => by
    obtain ⟨q', ih⟩ := pad_run N m K d n w (i64w (10 * p)) (q + 1) pt (by omega) (by omega) (by omega)
    refine ⟨q', ?_⟩
    rw [lpE_succ, st_copseref1_candidates_2, decide_eq_true (show q < 8 by omega), condT, wrap_id (n := q + 1) (by omega) (by omega)]
    exact ih
  | _, 0, _, _, _, _, _, h, _ => by omega

theorem fin_eq (N : Nat) (w p q : Int) (pt m : Bool) : (kBlock 3 (kSq (E_copseref1_candidates N) (subC c_copseref1_candidates [1, 1, 1, 1, 1]) (outT (E_copseref1_candidates N) none [(ResultVar.tmp 2)] [[(.list false [(.int .i64)])]]))) (.exit 3) (stD ⟨w, p, q, pt⟩ m) = some (.list false [.int .i64] (cFin m w p), []) := by
  refine (ex_copseref1_candidates_2_1 N w p q m).trans ?_
  have e2 : (2 : Int) ^ min (Int.toNat 8) (IntKind.bits IntKind.i64) = 256 := rfl
  rw [e2]
  unfold cFin i64w
  generalize decide (w > 36028797018963968) = b1
  generalize (p.tmod 390625 != 0) = b2
  generalize (w == 36028797018963968) = b3
  generalize (p == 0) = b4
  cases b1 <;> cases b2 <;> cases m <;> cases b3 <;> cases b4 <;> rfl

theorem snd_copseref1_candidates : SndR PR B0 21 S_copseref1_candidates := by
  refine snd_mk [] [(4, ⟨[0, 2, 3, 4, 5, 6, 7, 8], [], []⟩), (19, ⟨[2, 3, 4, 5, 7], [], []⟩)] S_copseref1_candidates [[.list false [.int .i64]]] Tryd.func21 h_copseref1_candidates trivial ?_
  intro vs r hwf h
  unfold S_copseref1_candidates at h
  split at h
  · rename_i s
    refine ⟨s.size + 10, ?_⟩
    rw [← h]
    refine (nf_copseref1_candidates (s.size + 10) s).trans ?_
    simp only [R.get_ok]
    have hsz := (hwf (by simp [oneBor])).1
    simp only [wfV, wfL] at hsz
    have run : ∀ m, lpE (E_copseref1_candidates (s.size + 10)) (subC c_copseref1_candidates [1, 1, 1, 0, 1, 0, 0]) ⟨[0, 2, 3, 4, 5, 6, 7, 8], [], []⟩ (s.size + 10) (stC s ⟨0, 0, 0, false⟩ m ((0 : Nat) : Int)) (kBlock 0 (kSq (E_copseref1_candidates (s.size + 10)) (subC c_copseref1_candidates [1, 1, 1, 1]) (outT (E_copseref1_candidates (s.size + 10)) none [(ResultVar.tmp 2)] [[(.list false [(.int .i64)])]]))) =
        some (.list false [.int .i64] (match cRun true s.data.toList ⟨0, 0, 0, false⟩ with | none => [] | some st => cFin m st.w (cPad (8 - st.n).toNat st.p)), []) := fun m => by
      refine (cand_run (s.size + 10) s m hsz _ (fun st => some (.list false [.int .i64] (cFin m st.w (cPad (8 - st.n).toNat st.p)), [])) (fun st i => ex_copseref1_candidates_1_2 (s.size + 10) s st.w st.p st.n st.pt m i) (fun st i h0 h8 => ?_) s.data.toList 0 (s.size + 10) ⟨0, 0, 0, false⟩ rfl (by omega) (by omega) (by simp only; omega) (by simp only; omega)).trans ?_
      · refine (ex_copseref1_candidates_1_1 (s.size + 10) s st.w st.p st.n st.pt m i).trans ?_
        obtain ⟨q', hq⟩ := pad_run (s.size + 10) m (kBlock 3 (kSq (E_copseref1_candidates (s.size + 10)) (subC c_copseref1_candidates [1, 1, 1, 1, 1]) (outT (E_copseref1_candidates (s.size + 10)) none [(ResultVar.tmp 2)] [[(.list false [(.int .i64)])]]))) (8 - st.n).toNat (s.size + 10) st.w st.p st.n st.pt (by omega) (by omega) h0
        exact hq.trans (fin_eq _ _ _ _ _ _)
      · have eb : Nat.beq 0 0 = true := rfl
        rw [eb]
        cases cRun true s.data.toList ⟨0, 0, 0, false⟩ <;> rfl
    unfold candL minusB
    cases hl : s.data.toList with
    | nil =>
      have hz : s.size = 0 := by rw [size_len, hl]; rfl
      rw [decide_eq_false (show ¬ ic (ByteArray.size s) > 0 by simp only [ic]; omega), condF]
      have := run false
      rw [hl] at this
      exact this
    | cons c l =>
      have hz : 0 < s.size := by rw [size_len, hl]; simp
      rw [decide_eq_true (show ic (ByteArray.size s) > 0 by simp only [ic]; omega), condT, decide_eq_true (show 0 ≤ 0 from Nat.le_refl 0), Bool.and_true, condT]
      have := run (ic c.toNat == 45)
      rw [hl] at this
      have eg : List.getD (c :: l) (Int.toNat 0) 0 = c := rfl
      rw [eg]
      exact this
  · simp [R.get] at h

/-! ### Scan -/
theorem scan_run (N : Nat) (s : ByteArray) (L : List IV) (hL : L.length ≤ strMax) (K : Out → St → Res)
    (hx : ∀ x2 b3 l7 x8 x9, K (.exit 0) ⟨[(0, (.str s)), (2, (.int .i64 x2)), (3, (.bool b3)), (7, (.list false [(.int .i64)] l7)), (8, (.int .i64 x8)), (9, (.int .i64 x9))], []⟩ = some (.tup [.int .i64 0, .bool false], []))
    (hr : ∀ x2 b3 l7 x8 x9, K .ret ⟨[(0, (.str s)), (2, (.int .i64 x2)), (3, (.bool b3)), (7, (.list false [(.int .i64)] l7)), (8, (.int .i64 x8)), (9, (.int .i64 x9))], []⟩ = some (.tup [.int .i64 x2, .bool b3], [])) :
    ∀ (d i n : Nat), i + d = L.length → d < n →
      lpE (E_copseref1_Scan N) (subC c_copseref1_Scan [1, 0, 1, 0, 0]) ⟨[0, 2, 3, 7, 8, 9], [], []⟩ n ⟨[(0, (.str s)), (2, (.int .i64 0)), (3, (.bool false)), (7, (.list false [(.int .i64)] L)), (8, (.int .i64 (ic L.length))), (9, (.int .i64 (i : Int)))], []⟩ K =
        some (.tup [.int .i64 ((((L.drop i).find? fun x => decide (printB x.toInt = s)).getD (.int 0)).toInt), .bool ((L.drop i).any fun x => decide (printB x.toInt = s))], [])
  | 0, i, n + 1, hd, hn => by
    rw [lpE_succ, st_copseref1_Scan_1, idx_ge (by omega), condF, hx, List.drop_of_length_le (by omega)]
    rfl
  | d + 1, i, n + 1, hd, hn => by
    have hi : i < L.length := by omega
    unfold strMax at hL
    rw [lpE_succ, st_copseref1_Scan_1, idx_lt hi, idx_0, Bool.and_true, condT, condT, getD_i hi, succ_w (by omega), bytes_beq]
    rw [List.drop_eq_getElem_cons hi, List.find?_cons, List.any_cons]
    have ih := scan_run N s L (by unfold strMax; omega) K hx hr d (i + 1) n (by omega) (by omega)
    cases hc : decide (printB (IV.toInt L[i]) = s) with
    | true => simp only [condT, hr, Option.getD_some, Bool.true_or]
    | false => simp only [condF, Bool.false_or]; exact ih
  | _, _, 0, _, h => by omega

theorem candL_len (s : ByteArray) : (candL s).length ≤ 1 := by
  unfold candL
  split
  · simp
  · unfold cFin
    rename_i st _
    cases decide (st.w > 36028797018963968) <;> cases (Int.tmod (cPad (8 - st.n).toNat st.p) 390625 != 0) <;> cases (minusB s && (st.w == 36028797018963968 && cPad (8 - st.n).toNat st.p == 0)) <;> cases (st.w == 36028797018963968) <;> simp

theorem snd_copseref1_Scan : SndR PR B0 10 S_copseref1_Scan := by
  refine snd_mk [(11, S_copseref1_Print), (21, S_copseref1_candidates)] [(2, ⟨[0, 2, 3, 7, 8, 9], [], []⟩)] S_copseref1_Scan [[.int .i64], [.bool]] Tryd.func10 h_copseref1_Scan ⟨snd_copseref1_Print, snd_copseref1_candidates, trivial⟩ ?_
  intro vs r hwf h
  unfold S_copseref1_Scan at h
  split at h
  · rename_i s
    refine ⟨10, ?_⟩
    rw [← h]
    refine (nf_copseref1_Scan 10 s).trans ?_
    simp only [R.get_ok]
    have hl := candL_len s
    have := scan_run 10 s (candL s) (by unfold strMax; omega) _ (fun x2 b3 l7 x8 x9 => ex_copseref1_Scan_1_1 10 s x2 b3 l7 x8 x9) (fun x2 b3 l7 x8 x9 => ex_copseref1_Scan_1_2 10 s x2 b3 l7 x8 x9) (candL s).length 0 10 (by omega) (by omega)
    rw [List.drop_zero] at this
    exact this
  · simp [R.get] at h

/-! ### from the point on -/
theorem point_run (N : Nat) (s s2 : ByteArray) (hsz : s.size ≤ strMax) (K : Out → St → Res)
    (hx : ∀ s2 x5 x6, K (.exit 0) ⟨[(0, (.str s)), (2, (.str s2)), (5, (.int .i64 x5)), (6, (.int .i64 x6))], []⟩ = some (.str ⟨#[]⟩, []))
    (hr : ∀ s2 x5 x6, K .ret ⟨[(0, (.str s)), (2, (.str s2)), (5, (.int .i64 x5)), (6, (.int .i64 x6))], []⟩ = some (.str s2, [])) :
    ∀ (d i n : Nat), i + d = s.size → d < n →
      lpE (E_copselaw3_DecAlone_1 N) (subC c_copselaw3_DecAlone_1 [1, 0, 1, 0, 0]) ⟨[0, 2, 5, 6], [], []⟩ n ⟨[(0, (.str s)), (2, (.str s2)), (5, (.int .i64 (ic s.size))), (6, (.int .i64 (i : Int)))], []⟩ K =
        some (.str ⟨((s.data.toList.drop i).dropWhile (fun c => !(c == 46))).toArray⟩, [])
  | 0, i, n + 1, hd, hn => by
    rw [lpE_succ, st_copselaw3_DecAlone_1_1, decide_eq_false (show ¬ (i : Int) < ic (ByteArray.size s) by simp only [ic]; omega), condF, hx, List.drop_of_length_le (by rw [← size_len]; omega)]
    rfl
  | d + 1, i, n + 1, hd, hn => by
    have hi : i < s.size := by omega
    have hi2 : i < s.data.toList.length := by rw [← size_len]; exact hi
    unfold strMax at hsz
    rw [lpE_succ, st_copselaw3_DecAlone_1_1, decide_eq_true (show (i : Int) < ic (ByteArray.size s) by simp only [ic]; omega), decide_eq_true (show 0 ≤ (i : Int) by omega), decide_eq_true (show (i : Int) ≤ ic (ByteArray.size s) by simp only [ic]; omega), Bool.and_true, condT, condT, condT, succ_w (by omega), Int.toNat_natCast]
    have ih := point_run N s s2 (by unfold strMax; omega) K hx hr d (i + 1) n (by omega) (by omega)
    rw [ih, List.drop_eq_getElem_cons hi2]
    have hg : List.getD (Array.toList (ByteArray.data s)) i 0 = s.data.toList[i] := by simp [List.getD, List.getElem?_eq_getElem hi2]
    rw [hg, List.dropWhile_cons]
    have eb : (ic (UInt8.toNat s.data.toList[i]) == 46) = (s.data.toList[i] == 46) := by
      rw [beq_dec, Bool.eq_iff_iff, decide_eq_true_iff, beq_iff_eq]
      constructor
      · intro e
        apply UInt8.toNat_inj.1
        have h46 : (46 : UInt8).toNat = 46 := rfl
        simp only [ic] at e
        omega
      · intro e
        rw [e]; rfl
    rw [eb]
    cases (s.data.toList[i] == 46) with
    | true =>
      rw [condT, hr, Lib.extract_from, List.drop_eq_getElem_cons hi2]
      rfl
    | false => rw [condF]; rfl
  | _, _, 0, _, h => by omega

theorem snd_copselaw3_DecAlone_1 : SndR PR B0 13 S_copselaw3_DecAlone_1 := by
  refine snd_mk [] [(2, ⟨[0, 2, 5, 6], [], []⟩)] S_copselaw3_DecAlone_1 [[.str]] Tryd.func13 h_copselaw3_DecAlone_1 trivial ?_
  intro vs r hwf h
  unfold S_copselaw3_DecAlone_1 at h
  split at h
  · rename_i s
    refine ⟨s.size + 1, ?_⟩
    rw [← h]
    refine (nf_copselaw3_DecAlone_1 (s.size + 1) s).trans ?_
    simp only [R.get_ok]
    have hsz := (hwf (by simp [oneBor])).1
    simp only [wfV, wfL] at hsz
    have := point_run (s.size + 1) s ⟨#[]⟩ hsz _ (fun s2 x5 x6 => ex_copselaw3_DecAlone_1_1_1 (s.size + 1) s s2 x5 x6) (fun s2 x5 x6 => ex_copselaw3_DecAlone_1_1_2 (s.size + 1) s s2 x5 x6) s.size 0 (s.size + 1) (by omega) (by omega)
    rw [List.drop_zero] at this
    exact this
  · simp [R.get] at h

end Go.FM
