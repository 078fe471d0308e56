/-
  What the functions of package dec, and the document's own beside them, come to: each proved of the program by the small machine; under each specification's own bounds on sizes.
-/
import Derived.Test.YtbhpdofmcbhbfaaGreatDoorLic
import Derived.Test.YtbhpdofmcbhbfaaGreatDoorLib

/-
  NUMERALS, in plain Lean: bytes, digits, words; of no program.
-/
namespace Go.FM
open Go

/-! ### bytes -/
theorem bytes_ext {s t : ByteArray} (h : s.data.toList = t.data.toList) : s = t := ByteArray.ext (Array.ext' h)
theorem bytes_beq (s t : ByteArray) : (s.toList == t.toList) = decide (s = t) := by
  rw [Lib.toList_data, Lib.toList_data]
  by_cases h : s = t
  · subst h; simp
  · rw [decide_eq_false h, beq_eq_false_iff_ne]
    exact fun e => h (bytes_ext e)
theorem size_len (s : ByteArray) : s.size = s.data.toList.length := by rw [Array.length_toList]; rfl

/-! ### numerals -/
theorem decDigits_ch (u : Nat) : ∀ c ∈ Lib.decDigits u, 48 ≤ c.toNat ∧ c.toNat ≤ 57 := by
  induction u using Nat.strongRecOn with
  | _ u ih =>
    intro c hc
    rw [Lib.decDigits] at hc
    split at hc
    · rename_i h
      simp only [List.mem_singleton] at hc
      subst hc
      rw [UInt8.toNat_ofNat_of_lt' (by simp [UInt8.size]; omega)]
      omega
    · rename_i h
      rw [List.mem_append, List.mem_singleton] at hc
      rcases hc with hc | hc
      · exact ih (u / 10) (by omega) c hc
      · subst hc
        rw [UInt8.toNat_ofNat_of_lt' (by simp [UInt8.size]; omega)]
        omega
theorem decDigits_ne (u : Nat) : Lib.decDigits u ≠ [] := by
  rw [Lib.decDigits]
  split <;> simp
theorem itoa_ch (n : Int) : ∀ c ∈ Lib.itoa n, c.toNat = 45 ∨ (48 ≤ c.toNat ∧ c.toNat ≤ 57) := by
  intro c hc
  unfold Lib.itoa at hc
  split at hc
  · rcases List.mem_cons.1 hc with h | h
    · subst h; exact .inl rfl
    · exact .inr (decDigits_ch _ c h)
  · exact .inr (decDigits_ch _ c hc)
theorem itoa_no (n : Int) (c : UInt8) (hc : c.toNat < 45) : c ∉ Lib.itoa n := by
  intro h
  rcases itoa_ch n c h with h1 | h1 <;> omega

theorem parse_dec (u : Nat) : ∀ (acc : Nat) (r : List UInt8), acc * 10 ^ (Lib.decDigits u).length + u < 18446744073709551616 →
    Lib.parseUint10 acc (Lib.decDigits u ++ r) = Lib.parseUint10 (acc * 10 ^ (Lib.decDigits u).length + u) r := by
  induction u using Nat.strongRecOn with
  | _ u ih =>
    intro acc r hlt
    rw [Lib.decDigits] at hlt ⊢
    split at hlt
    · rename_i h
      rw [dif_pos h]
      simp only [List.length_singleton, Nat.pow_one, List.singleton_append] at hlt ⊢
      have hc : (UInt8.ofNat (48 + u)).toNat = 48 + u := UInt8.toNat_ofNat_of_lt' (by simp [UInt8.size]; omega)
      rw [Lib.parseUint10, hc, if_pos (by omega), if_neg (by omega), if_neg (by omega)]
      congr 1
      omega
    · rename_i h
      rw [dif_neg h]
      simp only [List.length_append, List.length_singleton, Nat.pow_succ, List.append_assoc, List.singleton_append] at hlt ⊢
      have ea : acc * (10 ^ (Lib.decDigits (u / 10)).length * 10) = acc * 10 ^ (Lib.decDigits (u / 10)).length * 10 := by rw [Nat.mul_assoc]
      rw [ea] at hlt ⊢
      rw [ih (u / 10) (by omega) acc _ (by omega)]
      have hc : (UInt8.ofNat (48 + u % 10)).toNat = 48 + u % 10 := UInt8.toNat_ofNat_of_lt' (by simp [UInt8.size]; omega)
      rw [Lib.parseUint10, hc, if_pos (by omega), if_neg (by omega), if_neg (by omega)]
      congr 1
      omega
theorem parse_mag (u : Nat) (h : u < 18446744073709551616) : Lib.parseMag (Lib.decDigits u) = .ok u := by
  unfold Lib.parseMag
  rw [if_neg (decDigits_ne u)]
  have := parse_dec u 0 [] (by omega)
  rw [List.append_nil] at this
  rw [this, Nat.zero_mul, Nat.zero_add]
  rfl
theorem atoi_itoa (n : Int) (h0 : -9223372036854775808 ≤ n) (h1 : n ≤ 9223372036854775807) : Lib.atoiAll (Lib.itoa n) = .ok n := by
  unfold Lib.itoa
  split
  · rename_i hn
    unfold Lib.atoiAll
    have e : (45 : UInt8).toNat = 45 := rfl
    simp only [e, or_true, if_true, parse_mag n.natAbs (by omega), not_true_eq_false, false_and, if_false, true_and]
    rw [if_neg (by omega)]
    congr 1
    omega
  · rename_i hn
    obtain ⟨c, r, hl⟩ : ∃ c r, Lib.decDigits n.toNat = c :: r := by
      cases h : Lib.decDigits n.toNat with
      | nil => exact absurd h (decDigits_ne _)
      | cons c r => exact ⟨c, r, rfl⟩
    have hc := decDigits_ch n.toNat c (by rw [hl]; exact List.mem_cons_self ..)
    have hm := parse_mag n.toNat (by omega)
    rw [hl] at hm ⊢
    unfold Lib.atoiAll
    have e1 : ¬ c.toNat = 43 := by omega
    have e2 : ¬ c.toNat = 45 := by omega
    simp only [e1, e2, or_self, if_false, hm, false_and, not_false_eq_true, true_and]
    rw [if_neg (by omega)]
    congr 1
    omega
theorem atoiV_of {s : ByteArray} {n : Int} (h : s.data.toList = Lib.itoa n) (h0 : -9223372036854775808 ≤ n) (h1 : n ≤ 9223372036854775807) : atoiV s = n := by
  unfold atoiV
  rw [h, atoi_itoa n h0 h1]

/-! ### words -/
theorem indexByte_at : ∀ (w r : List UInt8) (c : UInt8), c ∉ w → Lib.indexByte (w ++ c :: r) c = w.length
  | [], r, c, _ => by simp [Lib.indexByte]
  | b :: w, r, c, h => by
    simp only [List.mem_cons, not_or] at h
    have e : (b == c) = false := beq_eq_false_iff_ne.2 (fun e => h.1 e.symm)
    have e2 : ((w.length : Int) == -1) = false := by rw [beq_eq_false_iff_ne]; omega
    simp only [List.cons_append, Lib.indexByte, e, indexByte_at w r c h.2, e2, List.length_cons]
    simp
theorem indexByte_no : ∀ (w : List UInt8) (c : UInt8), c ∉ w → Lib.indexByte w c = -1
  | [], c, _ => rfl
  | b :: w, c, h => by
    simp only [List.mem_cons, not_or] at h
    have e : (b == c) = false := beq_eq_false_iff_ne.2 (fun e => h.1 e.symm)
    simp [Lib.indexByte, e, indexByte_no w c h.2]

theorem cut_at (w r : List UInt8) (c : UInt8) (h : c ∉ w) : Lib.cut (w ++ c :: r) [c] = (w, r, true) := by
  unfold Lib.cut
  rw [Lib.index_one, indexByte_at w r c h, if_pos (by omega)]
  simp

theorem split_at (w r : List UInt8) (c : UInt8) (h : c ∉ w) : Lib.split (w ++ c :: r) [c] = w :: Lib.split r [c] := by
  unfold Lib.split
  have ec : Lib.count (w ++ c :: r) [c] = Lib.count r [c] + 1 := by
    rw [Lib.count_one, Lib.count_one, List.count_append, List.count_eq_zero_of_not_mem h, List.count_cons_self, Nat.zero_add]
  rw [ec, Lib.splitK, Lib.index_one, indexByte_at w r c h]
  have e2 : ((w.length : Int) == -1) = false := by rw [beq_eq_false_iff_ne]; omega
  rw [e2]
  simp
theorem split_no (w : List UInt8) (c : UInt8) (h : c ∉ w) : Lib.split w [c] = [w] := by
  unfold Lib.split
  rw [Lib.count_one, List.count_eq_zero_of_not_mem h]
  rfl

theorem splitL_data (s sep : ByteArray) : (splitL s sep).map (·.data.toList) = Lib.split s.data.toList sep.data.toList := by
  unfold splitL Lib.split
  rw [Lib.splitB_data]

end Go.FM

/-
  WHAT dec's FUNCTIONS COME TO, and the document's own beside them: specifications; of no program.
-/
namespace Go.FM
open Go

def i64w (n : Int) : Int := IntKind.wrap .i64 n
def u64w (n : Int) : Int := IntKind.wrap .u64 n
def withinM (lo hi : Int) : Int := i64w (i64w (hi - lo) + 1)
def withinZ (n lo hi : Int) : Int := cond (decide (n.tmod (withinM lo hi) < 0)) (i64w (lo + i64w (i64w (i64w (n.tmod (withinM lo hi) + hi) - lo) + 1))) (i64w (lo + n.tmod (withinM lo hi)))
def S_copsebook_Within : RSpec
  | [.int .i64 n, .int .i64 lo, .int .i64 hi] => .br (decide (withinM lo hi = 0)) .no (.ok (.int .i64 (withinZ n lo hi)) [])
  | _ => .no

/-! ### a number's text -/
abbrev w_minus : ByteArray := ⟨#[45]⟩
abbrev w_point : ByteArray := ⟨#[46]⟩
abbrev w_nought : ByteArray := ⟨#[48]⟩
abbrev w_none : ByteArray := ⟨#[]⟩
def S_dec_part : RSpec
  | [] => .ok (.int .u64 390625) []
  | _ => .no
/-- The decimals of so many parts, of eight places. -/
def decsL (r : Nat) : List UInt8 := Lib.trimRightB (Lib.repeatL [48] (8 - (Lib.decDigits (r * 390625)).length) ++ Lib.decDigits (r * 390625)) 48
def sizeL (u : Nat) : List UInt8 := Lib.decDigits (u / 256) ++ (if u % 256 = 0 then [] else 46 :: decsL (u % 256))
def printL (n : Int) : List UInt8 := if n < 0 then 45 :: sizeL n.natAbs else sizeL n.natAbs
def printB (n : Int) : ByteArray := ⟨(printL n).toArray⟩
def S_dec_Print : RSpec
  | [.int .i64 n] => .ok (.str (printB n)) []
  | _ => .no
def S_dec_digits : RSpec
  | [.str s] => .ok (.tup [.int .u64 (puV s), .bool (puN s)]) []
  | _ => .no

/-! ### a text, scanned -/
def decWhole (s : ByteArray) : ByteArray := cutL (trimPreB s w_minus) w_point
def decPart (s : ByteArray) : ByteArray := cutR (trimPreB s w_minus) w_point
def decFull (s : ByteArray) : ByteArray := decPart s ++ repB w_nought (8 - (decPart s).size)
def decSize (s : ByteArray) : Int := u64w (u64w (puV (decWhole s) * 256) + puV (decFull s) / 390625)
def decNum (s : ByteArray) : Int := i64w (cond (hasPreB s w_minus) (u64w (0 - decSize s)) (decSize s))
def decIs (s : ByteArray) : Bool :=
  decide ((decPart s).size ≤ 8) && (puN (decWhole s) && (puN (decFull s) && (decide (puV (decWhole s) ≤ 36028797018963968) && (decide (puV (decFull s) % 390625 = 0) && decide (printB (decNum s) = s)))))
def decV (s : ByteArray) : Int := cond (decIs s) (decNum s) 0
def S_dec_Scan : RSpec
  | [.str s] => .br (decide (s.size < 4294967281)) (.ok (.tup [.int .i64 (decV s), .bool (decIs s)]) []) .no
  | _ => .no

/-! ### the document's own answer -/
def numL (u : Nat) : List UInt8 := if u = 0 then [] else Lib.decDigits u
def digL (u k : Nat) : List UInt8 := List.replicate (k - (numL u).length) 48 ++ numL u
def S_copseref1_digits : RSpec
  | [.int .u64 u, .int .i64 k] => .br (decide (0 ≤ k) && decide (k ≤ 100)) (.ok (.str ⟨(digL u.toNat k.toNat).toArray⟩) []) .no
  | _ => .no
def S_copseref1_Print : RSpec
  | [.int .i64 n] => .ok (.str (printB n)) []
  | _ => .no

structure Cst where
  w : Int
  p : Int
  n : Int
  pt : Bool
def u8w (n : Int) : Int := IntKind.wrap .u8 n
def dig (c : UInt8) : Int := i64w (u8w (ic c.toNat - 48))
def cStep (first : Bool) (c : UInt8) (s : Cst) : Option Cst :=
  cond (ic c.toNat == 45 && first) (some s)
  (cond (ic c.toNat == 46 && !s.pt) (some ⟨s.w, s.p, s.n, true⟩)
  (cond (decide (ic c.toNat < 48) || decide (ic c.toNat > 57)) none
  (cond s.pt
    (cond (s.n == 8) none (some ⟨s.w, i64w (i64w (10 * s.p) + dig c), i64w (s.n + 1), s.pt⟩))
    (cond (decide (s.w > 36028797018963968)) none (some ⟨i64w (i64w (10 * s.w) + dig c), s.p, s.n, s.pt⟩)))))
def cRun : Bool → List UInt8 → Cst → Option Cst
  | _, [], s => some s
  | b, c :: r, s => match cStep b c s with
    | some s' => cRun false r s'
    | none => none
def cPad : Nat → Int → Int
  | 0, p => p
  | n + 1, p => cPad n (i64w (10 * p))
def cFin (minus : Bool) (w p : Int) : List IV :=
  cond (decide (w > 36028797018963968)) []
  (cond (p.tmod 390625 != 0) []
  (cond (minus && (w == 36028797018963968 && p == 0)) [.int (-9223372036854775808)]
  (cond (w == 36028797018963968) []
    [.int (cond minus (i64w (0 - i64w (i64w (w * 256) + i64w (p.tdiv 390625)))) (i64w (i64w (w * 256) + i64w (p.tdiv 390625))))])))
def minusB (s : ByteArray) : Bool := match s.data.toList with | [] => false | c :: _ => ic c.toNat == 45
def candL (s : ByteArray) : List IV := match cRun true s.data.toList ⟨0, 0, 0, false⟩ with
  | none => []
  | some st => cFin (minusB s) st.w (cPad (8 - st.n).toNat st.p)
def S_copseref1_candidates : RSpec
  | [.str s] => .ok (.list false [.int .i64] (candL s)) []
  | _ => .no
def refIs (s : ByteArray) : Bool := (candL s).any fun x => decide (printB x.toInt = s)
def refV (s : ByteArray) : Int := (((candL s).find? fun x => decide (printB x.toInt = s)).getD (.int 0)).toInt
def S_copseref1_Scan : RSpec
  | [.str s] => .ok (.tup [.int .i64 (refV s), .bool (refIs s)]) []
  | _ => .no

/-! ### the laws -/
def S_copselaw3_DecRuns : RSpec
  | [] => .ok (.bool true) []
  | _ => .no
def fromPoint (s : ByteArray) : ByteArray := ⟨(s.data.toList.dropWhile (fun c => !(c == 46))).toArray⟩
def S_copselaw3_DecAlone_1 : RSpec
  | [.str s] => .ok (.str (fromPoint s)) []
  | _ => .no

end Go.FM

/-
  WHAT ask's FUNCTIONS COME TO: specifications.
-/
namespace Go.FM
open Go

/-! ### queries -/
structure Qy where
  k : Int
  c : Int
  a0 : Int
  b0 : Int
  a1 : Int
  b1 : Int
  a2 : Int
  b2 : Int
  a3 : Int
  b3 : Int
  a4 : Int
  b4 : Int
  lo : Int
  hi : Int
  ft : Int
  fl : Bool
  bu : Int
def Qy.V (q : Qy) : V := .agg [.int .i64 q.k, .int .i64 q.c, .int .i64 q.a0, .int .i64 q.b0, .int .i64 q.a1, .int .i64 q.b1, .int .i64 q.a2, .int .i64 q.b2, .int .i64 q.a3, .int .i64 q.b3, .int .i64 q.a4, .int .i64 q.b4, .int .i64 q.lo, .int .i64 q.hi, .int .i64 q.ft, .bool q.fl, .int .i64 q.bu]
def Qy.none : Qy := ⟨0, 0, 0, 0, 0, 0, 0, 0, 0, 0, 0, 0, 0, 0, 0, false, 0⟩
def Qy.eq (p q : Qy) : Bool :=
  (p.k == q.k) && ((p.c == q.c) && ((p.a0 == q.a0) && ((p.b0 == q.b0) && ((p.a1 == q.a1) && ((p.b1 == q.b1) && ((p.a2 == q.a2) && ((p.b2 == q.b2) && ((p.a3 == q.a3) && ((p.b3 == q.b3) && ((p.a4 == q.a4) && ((p.b4 == q.b4) && ((p.lo == q.lo) && ((p.hi == q.hi) && ((p.ft == q.ft) && ((p.fl == q.fl) && ((p.bu == q.bu) && true))))))))))))))))
/-- What so many features tell. -/
def told (q : Qy) (d : Int) : Qy :=
  ⟨q.k, q.c, cond (decide (0 < d)) q.a0 0, cond (decide (0 < d)) q.b0 0, cond (decide (1 < d)) q.a1 0, cond (decide (1 < d)) q.b1 0, cond (decide (2 < d)) q.a2 0, cond (decide (2 < d)) q.b2 0, cond (decide (3 < d)) q.a3 0, cond (decide (3 < d)) q.b3 0, cond (decide (4 < d)) q.a4 0, cond (decide (4 < d)) q.b4 0,
    cond (q.k == 1) q.lo 0, cond (q.k == 1) q.hi 0, cond (q.k == 3) q.ft 0, cond (q.k == 3) q.fl false, q.bu⟩
def S_ask_told : RSpec
  | [.agg [.int .i64 k, .int .i64 c, .int .i64 a0, .int .i64 b0, .int .i64 a1, .int .i64 b1, .int .i64 a2, .int .i64 b2, .int .i64 a3, .int .i64 b3, .int .i64 a4, .int .i64 b4, .int .i64 lo, .int .i64 hi, .int .i64 ft, .bool fl, .int .i64 bu], .int .i64 d] =>
    .br (decide (0 ≤ d) && decide (d ≤ 5)) (.ok (.agg [.int .i64 (told ⟨k, c, a0, b0, a1, b1, a2, b2, a3, b3, a4, b4, lo, hi, ft, fl, bu⟩ d).k, .int .i64 (told ⟨k, c, a0, b0, a1, b1, a2, b2, a3, b3, a4, b4, lo, hi, ft, fl, bu⟩ d).c,
      .int .i64 (told ⟨k, c, a0, b0, a1, b1, a2, b2, a3, b3, a4, b4, lo, hi, ft, fl, bu⟩ d).a0, .int .i64 (told ⟨k, c, a0, b0, a1, b1, a2, b2, a3, b3, a4, b4, lo, hi, ft, fl, bu⟩ d).b0,
      .int .i64 (told ⟨k, c, a0, b0, a1, b1, a2, b2, a3, b3, a4, b4, lo, hi, ft, fl, bu⟩ d).a1, .int .i64 (told ⟨k, c, a0, b0, a1, b1, a2, b2, a3, b3, a4, b4, lo, hi, ft, fl, bu⟩ d).b1,
      .int .i64 (told ⟨k, c, a0, b0, a1, b1, a2, b2, a3, b3, a4, b4, lo, hi, ft, fl, bu⟩ d).a2, .int .i64 (told ⟨k, c, a0, b0, a1, b1, a2, b2, a3, b3, a4, b4, lo, hi, ft, fl, bu⟩ d).b2,
      .int .i64 (told ⟨k, c, a0, b0, a1, b1, a2, b2, a3, b3, a4, b4, lo, hi, ft, fl, bu⟩ d).a3, .int .i64 (told ⟨k, c, a0, b0, a1, b1, a2, b2, a3, b3, a4, b4, lo, hi, ft, fl, bu⟩ d).b3,
      .int .i64 (told ⟨k, c, a0, b0, a1, b1, a2, b2, a3, b3, a4, b4, lo, hi, ft, fl, bu⟩ d).a4, .int .i64 (told ⟨k, c, a0, b0, a1, b1, a2, b2, a3, b3, a4, b4, lo, hi, ft, fl, bu⟩ d).b4,
      .int .i64 (told ⟨k, c, a0, b0, a1, b1, a2, b2, a3, b3, a4, b4, lo, hi, ft, fl, bu⟩ d).lo, .int .i64 (told ⟨k, c, a0, b0, a1, b1, a2, b2, a3, b3, a4, b4, lo, hi, ft, fl, bu⟩ d).hi,
      .int .i64 (told ⟨k, c, a0, b0, a1, b1, a2, b2, a3, b3, a4, b4, lo, hi, ft, fl, bu⟩ d).ft, .bool (told ⟨k, c, a0, b0, a1, b1, a2, b2, a3, b3, a4, b4, lo, hi, ft, fl, bu⟩ d).fl,
      .int .i64 (told ⟨k, c, a0, b0, a1, b1, a2, b2, a3, b3, a4, b4, lo, hi, ft, fl, bu⟩ d).bu]) []) .no
  | _ => .no
def smallB (n : Int) : Bool := decide (0 ≤ n) && decide (n ≤ 1073741824)
def S_ask_small : RSpec
  | [.int .i64 n] => .ok (.bool (smallB n)) []
  | _ => .no
def S_ask_count : RSpec
  | [.str s] => .ok (.int .i64 (atoiV s)) []
  | _ => .no
def S_ask_scan : RSpec
  | [.str s] => .br (decide (s.size < 4294967281)) (.ok (.int .i64 (decV s)) []) .no
  | _ => .no

/-! ### words -/
abbrev w_range : ByteArray := ⟨#[114, 97, 110, 103, 101]⟩
abbrev w_best : ByteArray := ⟨#[98, 101, 115, 116]⟩
abbrev w_rises : ByteArray := ⟨#[114, 105, 115, 101, 115]⟩
abbrev w_falls : ByteArray := ⟨#[102, 97, 108, 108, 115]⟩
abbrev w_from : ByteArray := ⟨#[102, 114, 111, 109]⟩
abbrev w_to : ByteArray := ⟨#[116, 111]⟩
abbrev w_by : ByteArray := ⟨#[98, 121]⟩
abbrev w_in : ByteArray := ⟨#[105, 110]⟩
abbrev w_budget : ByteArray := ⟨#[98, 117, 100, 103, 101, 116]⟩
abbrev w_dots : ByteArray := ⟨#[46, 46]⟩
abbrev w_space : ByteArray := ⟨#[32]⟩
def spanW (a b : Int) : ByteArray := printB a ++ w_dots ++ printB b
def headW (q : Qy) : List ByteArray :=
  cond (q.k == 1) [w_range, itoaB q.c, w_from, printB q.lo, w_to, printB q.hi]
  (cond (q.k == 2) [w_best, itoaB q.c] [cond q.fl w_falls w_rises, itoaB q.c, w_by, itoaB q.ft])
def Qy.spans (q : Qy) : List (Int × Int) := [(q.a0, q.b0), (q.a1, q.b1), (q.a2, q.b2), (q.a3, q.b3), (q.a4, q.b4)]
def wordsQ (q : Qy) (d : Nat) : List ByteArray := headW q ++ w_in :: ((q.spans.take d).map fun s => spanW s.1 s.2) ++ [w_budget, itoaB q.bu]
def okQ (q : Qy) (d : Int) : Bool :=
  (!(decide (d < 1)) && !(decide (d > 4))) && (q.eq (told q d) && (smallB q.c && (smallB q.ft && (smallB q.bu && ((q.k == 1) || ((q.k == 2) || (q.k == 3)))))))
def printQ (q : Qy) (d : Int) : ByteArray := cond (okQ q d) (joinB (wordsQ q d.toNat) w_space) w_none
def S_ask_Print : RSpec
  | [.agg [.int .i64 k, .int .i64 c, .int .i64 a0, .int .i64 b0, .int .i64 a1, .int .i64 b1, .int .i64 a2, .int .i64 b2, .int .i64 a3, .int .i64 b3, .int .i64 a4, .int .i64 b4, .int .i64 lo, .int .i64 hi, .int .i64 ft, .bool fl, .int .i64 bu], .int .i64 d] =>
    .ok (.str (printQ ⟨k, c, a0, b0, a1, b1, a2, b2, a3, b3, a4, b4, lo, hi, ft, fl, bu⟩ d)) []
  | _ => .no

/-! ### a query, read -/
def wAt (l : List IV) (i : Nat) : ByteArray := (l.getD i default).toStr
def headQ (l : List IV) : Qy :=
  cond ((wAt l 0).toList == w_range.toList) ⟨1, atoiV (wAt l 1), 0, 0, 0, 0, 0, 0, 0, 0, 0, 0, decV (wAt l 3), decV (wAt l 5), 0, false, 0⟩
  (cond ((wAt l 0).toList == w_best.toList) ⟨2, atoiV (wAt l 1), 0, 0, 0, 0, 0, 0, 0, 0, 0, 0, 0, 0, 0, false, 0⟩
  (cond ((wAt l 0).toList == w_rises.toList || (wAt l 0).toList == w_falls.toList) ⟨3, atoiV (wAt l 1), 0, 0, 0, 0, 0, 0, 0, 0, 0, 0, 0, 0, atoiV (wAt l 3), (wAt l 0).toList == w_falls.toList, 0⟩
  ⟨0, atoiV (wAt l 1), 0, 0, 0, 0, 0, 0, 0, 0, 0, 0, 0, 0, 0, false, 0⟩))
def S_ask_head : RSpec
  | [.list false [.str] l] => .br (decide (l.length ≤ 4294967290) && l.all (fun x => decide (x.toStr.size < 4294967281)))
    (.ok (.agg [.int .i64 (headQ l).k, .int .i64 (headQ l).c, .int .i64 (headQ l).a0, .int .i64 (headQ l).b0, .int .i64 (headQ l).a1, .int .i64 (headQ l).b1, .int .i64 (headQ l).a2, .int .i64 (headQ l).b2, .int .i64 (headQ l).a3, .int .i64 (headQ l).b3, .int .i64 (headQ l).a4, .int .i64 (headQ l).b4,
      .int .i64 (headQ l).lo, .int .i64 (headQ l).hi, .int .i64 (headQ l).ft, .bool (headQ l).fl, .int .i64 (headQ l).bu]) []) .no
  | _ => .no
def spA (l : List IV) (i : Nat) : Int := decV (cutL (wAt l i) w_dots)
def spB (l : List IV) (i : Nat) : Int := decV (cutR (wAt l i) w_dots)
/-- The query of a line's words, 'in' being at place i, with d spans. -/
def rawQ (l : List IV) (i d : Nat) : Qy :=
  ⟨(headQ (l.take i)).k, (headQ (l.take i)).c,
    cond (Nat.blt 0 d) (spA l (i + 1)) 0, cond (Nat.blt 0 d) (spB l (i + 1)) 0, cond (Nat.blt 1 d) (spA l (i + 2)) 0, cond (Nat.blt 1 d) (spB l (i + 2)) 0, cond (Nat.blt 2 d) (spA l (i + 3)) 0, cond (Nat.blt 2 d) (spB l (i + 3)) 0, cond (Nat.blt 3 d) (spA l (i + 4)) 0, cond (Nat.blt 3 d) (spB l (i + 4)) 0, 0, 0,
    (headQ (l.take i)).lo, (headQ (l.take i)).hi, (headQ (l.take i)).ft, (headQ (l.take i)).fl, atoiV (wAt l (l.length - 1))⟩
def lineW (s : ByteArray) : List IV := (splitL s w_space).map IV.str
def lineI (s : ByteArray) : Int := idxS (lineW s) w_in 0
def lineD (s : ByteArray) : Int := ic (lineW s).length - 2 - lineI s - 1
def lineQ (s : ByteArray) : Qy := rawQ (lineW s) (lineI s).toNat (lineD s).toNat
def askOK (s : ByteArray) : Bool := (!(decide (lineI s < 0)) && (!(decide (lineD s < 1)) && !(decide (lineD s > 4)))) && (printQ (lineQ s) (lineD s)).toList == s.toList
def askQ (s : ByteArray) : Qy := cond (askOK s) (lineQ s) Qy.none
def askD (s : ByteArray) : Int := cond (askOK s) (lineD s) 0
def S_ask_Parse : RSpec
  | [.str s] => .br (decide (s.size < 4294967281))
    (.ok (.tup [.agg [.int .i64 (askQ s).k, .int .i64 (askQ s).c, .int .i64 (askQ s).a0, .int .i64 (askQ s).b0, .int .i64 (askQ s).a1, .int .i64 (askQ s).b1, .int .i64 (askQ s).a2, .int .i64 (askQ s).b2, .int .i64 (askQ s).a3, .int .i64 (askQ s).b3, .int .i64 (askQ s).a4, .int .i64 (askQ s).b4,
      .int .i64 (askQ s).lo, .int .i64 (askQ s).hi, .int .i64 (askQ s).ft, .bool (askQ s).fl, .int .i64 (askQ s).bu], .int .i64 (askD s), .bool (askOK s)]) []) .no
  | _ => .no
def S_copselaw11_AskRuns : RSpec
  | [] => .ok (.bool true) []
  | _ => .no

end Go.FM

/-
  WHAT copsekeep's FUNCTIONS COME TO, and packing beside them: specifications. Of no program.
-/
namespace Go.FM
open Go

def pickZ (l : List IV) (i : Int) : Int := cond (ic l.length == 0) 0 (l.getD (i.tmod (ic l.length)).toNat default).toInt
def S_copsekeep_pick : RSpec
  | [.list false [.int .i64] l, .int .i64 i] => .br (decide (0 ≤ i)) (.ok (.int .i64 (pickZ l i)) []) .no
  | _ => .no

/-! ### nodes -/
def fits32 (n : Int) : Bool := decide (-2147483648 ≤ n) && decide (n ≤ 2147483647)
def S_copseref1_Fits : RSpec
  | [.int .i64 n, .int .i64 w] => .br (decide (w = 32)) (.ok (.bool (fits32 n)) []) .no
  | _ => .no
def rightN (lf : Bool) (v f a l r : Int) : Bool :=
  cond lf (fits32 v && ((f == 0) && ((a == 0) && ((l == 0) && (r == 0)))))
    ((v == 0) && (decide (0 ≤ f) && (decide (f < 4) && (fits32 a && (decide (1 ≤ l) && (decide (l < 31) && (decide (1 ≤ r) && decide (r < 31))))))))
def S_copseref6_RightNode : RSpec
  | [.agg [.bool lf, .int .i64 v, .int .i64 f, .int .i64 a, .int .i64 l, .int .i64 r]] => .ok (.bool (rightN lf v f a l r)) []
  | _ => .no
def andU (a b : Int) : Int := u64w (ic (BitVec.toNat (BitVec.ofInt (IntKind.bits IntKind.u64) a &&& BitVec.ofInt (IntKind.bits IntKind.u64) b)))
def orU (a b : Int) : Int := u64w (ic (BitVec.toNat (BitVec.ofInt (IntKind.bits IntKind.u64) a ||| BitVec.ofInt (IntKind.bits IntKind.u64) b)))
def shlU (a : Int) (k : Nat) : Int := u64w (a * 2 ^ k)
def packW (lf : Bool) (v f a l r : Int) : Int :=
  cond (rightN lf v f a l r)
    (cond lf (orU 9223372036854775808 (andU (u64w v) 4294967295))
      (orU (orU (orU (andU (u64w a) 4294967295) (shlU (u64w f) 32)) (shlU (u64w l) 40)) (shlU (u64w r) 48)))
    0
def S_copseref6_Pack : RSpec
  | [.agg [.bool lf, .int .i64 v, .int .i64 f, .int .i64 a, .int .i64 l, .int .i64 r]] => .ok (.int .u64 (packW lf v f a l r)) []
  | _ => .no

/-! ### trees -/
def mkN (lf : Bool) (v f a l r : Int) : IV := .agg [.bool lf, .int v, .int f, .int a, .int l, .int r]
def leafN (v : Int) : IV := mkN true v 0 0 0 0
def packN (x : IV) : IV := .int (packW (x.cell 0).toBool (x.cell 1).toInt (x.cell 2).toInt (x.cell 3).toInt (x.cell 4).toInt (x.cell 5).toInt)
structure Ns where
  nodes : List IV
  leaves : List IV
def nsK (part : List IV) (i : Nat) (s : Ns) : Int := withinZ (part.getD i default).toInt 0 (ic s.leaves.length - 1)
def nsAt (part : List IV) (i : Nat) (s : Ns) : Int := (s.leaves.getD (nsK part i s).toNat default).toInt
def nsStep (part byl atl val : List IV) (dim : Int) (i : Nat) (s : Ns) : Ns :=
  ⟨s.nodes.set (nsAt part i s).toNat (mkN false 0 (withinZ (pickZ byl (i : Int)) 0 (dim - 1)) (withinZ (pickZ atl (i : Int)) 0 9) (ic s.nodes.length) (ic s.nodes.length + 1)) ++
      [leafN (withinZ (pickZ val (2 * (i : Int) + 1)) (-3000) 3000), leafN (withinZ (pickZ val (2 * (i : Int) + 2)) (-3000) 3000)],
    s.leaves.take (nsK part i s).toNat ++ s.leaves.drop ((nsK part i s).toNat + 1) ++ [.int (ic s.nodes.length), .int (ic s.nodes.length + 1)]⟩
def nsRun (part byl atl val : List IV) (dim : Int) : Nat → Nat → Ns → Ns
  | 0, _, s => s
  | d + 1, i, s => nsRun part byl atl val dim d (i + 1) (nsStep part byl atl val dim i s)
def nsTree (part byl atl val : List IV) (dim : Int) : Ns := nsRun part byl atl val dim (min part.length 7) 0 ⟨[leafN (withinZ (pickZ val 0) (-3000) 3000)], [.int 0]⟩
def nodesL (part byl atl val : List IV) (dim : Int) : List IV := (nsTree part byl atl val dim).nodes.map packN
def S_copsekeep_Tree_Nodes : RSpec
  | [.agg [.int .i64 _, .list false [.int .i64] part, .list false [.int .i64] byl, .list false [.int .i64] atl, .list false [.int .i64] val], .int .i64 dim] =>
    .br (decide (1 ≤ dim) && decide (dim ≤ 4)) (.ok (.list false [.int .u64] (nodesL part byl atl val dim)) []) .no
  | _ => .no

/-! ### models -/
def dimF (d : Int) : Int := withinZ d 1 3
def clsF (c : Int) : Int := withinZ c 1 3
def biasF (c : Int) (bias : List IV) (j : Int) : Int := cond (decide (j < clsF c)) (withinZ (pickZ bias j) (-500) 500) 0
def treeF (d c : Int) (t : IV) : IV := .agg [.int (withinZ (t.cell 0).toInt 0 (clsF c - 1)), .list (nodesL (t.cell 1).toList (t.cell 2).toList (t.cell 3).toList (t.cell 4).toList (dimF d))]
def treesF (d c : Int) (ts : List IV) : List IV := (ts.take 4).map (treeF d c)
def S_copsekeep_Forest_Model : RSpec
  | [.agg [.int .i64 d, .int .i64 c, .list false [.int .i64] bias, .list true [.int .i64, .list false [.int .i64], .list false [.int .i64], .list false [.int .i64], .list false [.int .i64]] ts]] =>
    .ok (.agg [.int .i64 (dimF d), .int .i64 (clsF c), .int .i64 (biasF c bias 0), .int .i64 (biasF c bias 1), .int .i64 (biasF c bias 2), .list true [.int .i64, .list false [.int .u64]] (treesF d c ts)]) []
  | _ => .no

/-! ### queries of numbers -/
def regA (d : Int) (l : List IV) (i : Int) : Int := cond (decide (i < d)) (withinZ (pickZ l (2 * i)) (-2) 9) 0
def regB (d : Int) (l : List IV) (i : Int) : Int := cond (decide (i < d)) (withinZ (pickZ l (2 * i)) (-2) 9 + withinZ (pickZ l (2 * i + 1)) 0 11) 0
def S_copsekeep_Region : RSpec
  | [.agg [.int .i64 d, .int .i64 _, .int .i64 _, .int .i64 _, .int .i64 _, .list true [.int .i64, .list false [.int .u64]] _], .list false [.int .i64] l] =>
    .br (decide (0 ≤ d) && decide (d ≤ 4)) (.ok (.agg [.int .i64 (regA d l 0), .int .i64 (regB d l 0), .int .i64 (regA d l 1), .int .i64 (regB d l 1), .int .i64 (regA d l 2), .int .i64 (regB d l 2), .int .i64 (regA d l 3), .int .i64 (regB d l 3), .int .i64 0, .int .i64 0]) []) .no
  | _ => .no
structure Ak where
  k : Int
  c : Int
  lo : Int
  size : Int
  ft : Int
  bu : Int
  fl : Bool
  sp : List IV
def kindA (a : Ak) (cls : Int) : Int := cond (withinZ a.k 1 3 == 2 && decide (cls < 2)) 1 (withinZ a.k 1 3)
def loA (a : Ak) : Int := withinZ a.lo (-9000) 9000
def queryA (a : Ak) (dim cls : Int) : Qy :=
  ⟨kindA a cls, withinZ a.c 0 (cls - 1), regA dim a.sp 0, regB dim a.sp 0, regA dim a.sp 1, regB dim a.sp 1, regA dim a.sp 2, regB dim a.sp 2, regA dim a.sp 3, regB dim a.sp 3, 0, 0,
    cond (kindA a cls == 1) (loA a) 0, cond (kindA a cls == 1) (loA a + withinZ a.size 0 18000) 0, cond (kindA a cls == 3) (withinZ a.ft 0 (dim - 1)) 0, cond (kindA a cls == 3) a.fl false, withinZ a.bu 0 65536⟩
def S_copsekeep_Ask_Query : RSpec
  | [.agg [.int .i64 k, .int .i64 c, .int .i64 lo, .int .i64 size, .int .i64 ft, .int .i64 bu, .bool fl, .list false [.int .i64] sp], .agg [.int .i64 dim, .int .i64 cls, .int .i64 _, .int .i64 _, .int .i64 _, .list true [.int .i64, .list false [.int .u64]] _]] =>
    .br ((decide (1 ≤ dim) && decide (dim ≤ 4)) && (decide (1 ≤ cls) && decide (cls ≤ 3)))
      (.ok (.agg [.int .i64 (queryA ⟨k, c, lo, size, ft, bu, fl, sp⟩ dim cls).k, .int .i64 (queryA ⟨k, c, lo, size, ft, bu, fl, sp⟩ dim cls).c,
        .int .i64 (queryA ⟨k, c, lo, size, ft, bu, fl, sp⟩ dim cls).a0, .int .i64 (queryA ⟨k, c, lo, size, ft, bu, fl, sp⟩ dim cls).b0, .int .i64 (queryA ⟨k, c, lo, size, ft, bu, fl, sp⟩ dim cls).a1, .int .i64 (queryA ⟨k, c, lo, size, ft, bu, fl, sp⟩ dim cls).b1,
        .int .i64 (queryA ⟨k, c, lo, size, ft, bu, fl, sp⟩ dim cls).a2, .int .i64 (queryA ⟨k, c, lo, size, ft, bu, fl, sp⟩ dim cls).b2, .int .i64 (queryA ⟨k, c, lo, size, ft, bu, fl, sp⟩ dim cls).a3, .int .i64 (queryA ⟨k, c, lo, size, ft, bu, fl, sp⟩ dim cls).b3,
        .int .i64 (queryA ⟨k, c, lo, size, ft, bu, fl, sp⟩ dim cls).a4, .int .i64 (queryA ⟨k, c, lo, size, ft, bu, fl, sp⟩ dim cls).b4, .int .i64 (queryA ⟨k, c, lo, size, ft, bu, fl, sp⟩ dim cls).lo, .int .i64 (queryA ⟨k, c, lo, size, ft, bu, fl, sp⟩ dim cls).hi,
        .int .i64 (queryA ⟨k, c, lo, size, ft, bu, fl, sp⟩ dim cls).ft, .bool (queryA ⟨k, c, lo, size, ft, bu, fl, sp⟩ dim cls).fl, .int .i64 (queryA ⟨k, c, lo, size, ft, bu, fl, sp⟩ dim cls).bu]) []) .no
  | _ => .no

end Go.FM

/-
  WHAT text's FUNCTIONS, AND THOSE BENEATH THEM (bits, node, tree, model), COME TO: specifications. Of no program.
-/
namespace Go.FM
open Go

/-! ### bits -/
def S_bits_Fits : RSpec
  | [.int .i64 n, .int .i64 w] => .br (decide (w = 32)) (.ok (.bool (fits32 n)) []) .no
  | _ => .no
def fieldZ (a w : Int) : Bool := decide (0 ≤ a) && (decide (a < 64) && (decide (1 ≤ w) && decide (w ≤ 64 - a)))
def S_bits_field : RSpec
  | [.int .i64 a, .int .i64 w] => .br (decide (0 ≤ a) && decide (a < 64)) (.ok (.bool (decide (1 ≤ w) && decide (w ≤ 64 - a))) []) .no
  | _ => .no
/-- Of so many bits, all. -/
def maskZ (w : Int) : Int := (18446744073709551615 : Int).fdiv (2 ^ (64 - w).toNat)
def S_bits_mask : RSpec
  | [.int .i64 w] => .br (decide (1 ≤ w) && decide (w ≤ 64)) (.ok (.int .u64 (maskZ w)) []) .no
  | _ => .no
def andNotU (a b : Int) : Int := u64w (ic (BitVec.toNat (BitVec.ofInt (IntKind.bits IntKind.u64) a &&& ~~~ (BitVec.ofInt (IntKind.bits IntKind.u64) b))))
def putZ (x a w y : Int) : Int := orU (andNotU x (shlU (maskZ w) a.toNat)) (andU (shlU y a.toNat) (shlU (maskZ w) a.toNat))
def getZ (x a w : Int) : Int := andU (x.fdiv (2 ^ a.toNat)) (maskZ w)
def S_bits_Put : RSpec
  | [.int .u64 x, .int .i64 a, .int .i64 w, .int .u64 y] => .br (decide (0 ≤ a) && (decide (a < 64) && (decide (1 ≤ w) && decide (w ≤ 64 - a)))) (.ok (.int .u64 (putZ x a w y)) []) .no
  | _ => .no
def S_bits_Get : RSpec
  | [.int .u64 x, .int .i64 a, .int .i64 w] => .br (decide (0 ≤ a) && (decide (a < 64) && (decide (1 ≤ w) && decide (w ≤ 64 - a)))) (.ok (.int .u64 (getZ x a w)) []) .no
  | _ => .no
def wrap32 (n : Int) : Int := (i64w (n * 2 ^ 32)).fdiv (2 ^ 32)
def S_bits_Wrap : RSpec
  | [.int .i64 n, .int .i64 w] => .br (decide (w = 32)) (.ok (.int .i64 (wrap32 n)) []) .no
  | _ => .no
def signZ (x : Int) : Int := wrap32 (i64w (getZ x 0 32))
def S_bits_Signed : RSpec
  | [.int .u64 x, .int .i64 a, .int .i64 w] => .br (decide (a = 0) && decide (w = 32)) (.ok (.int .i64 (signZ x)) []) .no
  | _ => .no

/-! ### node -/
structure Nd where
  lf : Bool
  v : Int
  f : Int
  a : Int
  l : Int
  r : Int
def Nd.eq (x y : Nd) : Bool := (x.lf == y.lf) && ((x.v == y.v) && ((x.f == y.f) && ((x.a == y.a) && ((x.l == y.l) && ((x.r == y.r) && true)))))
def Nd.zero : Nd := ⟨false, 0, 0, 0, 0, 0⟩
def childB (n : Int) : Bool := decide (1 ≤ n) && decide (n < 31)
def S_node_child : RSpec
  | [.int .i64 n] => .ok (.bool (childB n)) []
  | _ => .no
def rightNd (x : Nd) : Bool :=
  cond x.lf (x.eq ⟨true, x.v, 0, 0, 0, 0⟩ && fits32 x.v)
    ((x.v == 0) && (decide (0 ≤ x.f) && (decide (x.f < 4) && (fits32 x.a && (childB x.l && childB x.r)))))
def S_node_Right : RSpec
  | [.agg [.bool lf, .int .i64 v, .int .i64 f, .int .i64 a, .int .i64 l, .int .i64 r]] => .ok (.bool (rightNd ⟨lf, v, f, a, l, r⟩)) []
  | _ => .no
def packNd (x : Nd) : Int :=
  cond (rightNd x)
    (cond x.lf (putZ 9223372036854775808 0 32 (u64w x.v))
      (putZ (putZ (putZ (putZ 0 0 32 (u64w x.a)) 32 4 (u64w x.f)) 40 8 (u64w x.l)) 48 8 (u64w x.r)))
    0
def S_node_Pack : RSpec
  | [.agg [.bool lf, .int .i64 v, .int .i64 f, .int .i64 a, .int .i64 l, .int .i64 r]] => .ok (.int .u64 (packNd ⟨lf, v, f, a, l, r⟩)) []
  | _ => .no
def readNd (w : Int) : Nd :=
  cond (getZ w 63 1 == 0) ⟨false, 0, i64w (getZ w 32 4), signZ w, i64w (getZ w 40 8), i64w (getZ w 48 8)⟩ ⟨true, signZ w, 0, 0, 0, 0⟩
def nodeB (w : Int) : Bool := !(w == 0) && (packNd (readNd w) == w)
def nodeN (w : Int) : Nd := cond (nodeB w) (readNd w) Nd.zero
def S_node_Unpack : RSpec
  | [.int .u64 w] => .ok (.tup [.agg [.bool (nodeN w).lf, .int .i64 (nodeN w).v, .int .i64 (nodeN w).f, .int .i64 (nodeN w).a, .int .i64 (nodeN w).l, .int .i64 (nodeN w).r], .bool (nodeB w)]) []
  | _ => .no

def S_node_Unpack_1 : RSpec
  | [.int .i64 a, .int .i64 w, .bor [.int .u64 x]] => .br (decide (0 ≤ a) && (decide (a < 64) && (decide (1 ≤ w) && decide (w ≤ 64 - a)))) (.ok (.int .i64 (i64w (getZ x a w))) [[.int .u64 x]]) .no
  | _ => .no

/-! ### tree -/
def named1 (x : Nd) (j : Nat) : Nat := cond x.lf 0 ((if x.l = (j : Int) then 1 else 0) + (if x.r = (j : Int) then 1 else 0))
def namedBy (l : List IV) (j : Nat) : Nat := (l.map fun w => named1 (nodeN w.toInt) j).sum
def forkB (dim n : Int) (i : Nat) (x : Nd) : Bool :=
  cond x.lf true (!(decide (x.f ≥ dim)) && (!(x.l == x.r) && (!(decide (min x.l x.r ≤ (i : Int))) && !(decide (max x.l x.r ≥ n)))))
def nodesB (dim n : Int) : Nat → List IV → Bool
  | _, [] => true
  | i, w :: r => (nodeB w.toInt && forkB dim n i (nodeN w.toInt)) && nodesB dim n (i + 1) r
def onceB (l : List IV) : Bool := (List.range (l.length - 1)).all fun j => namedBy l (j + 1) == 1
def treeB (l : List IV) (dim : Int) : Bool := (Nat.ble 1 l.length && Nat.ble l.length 31) && (nodesB dim (ic l.length) 0 l && onceB l)
def S_tree_Right : RSpec
  | [.list false [.int .u64] l, .int .i64 dim] => .ok (.bool (treeB l dim)) []
  | _ => .no

/-! ### model -/
structure Md where
  d : Int
  c : Int
  b0 : Int
  b1 : Int
  b2 : Int
  ts : List IV
def treeOK (d c : Int) (t : IV) : Bool := !(decide ((t.cell 0).toInt < 0)) && (!(decide ((t.cell 0).toInt ≥ c)) && treeB (t.cell 1).toList d)
def biasB (c : Int) (j b : Int) : Bool := fits32 b && !(decide (j ≥ c) && !(b == 0))
def modelB (m : Md) : Bool :=
  (!(decide (m.d < 1)) && (!(decide (m.d > 4)) && (!(decide (m.c < 1)) && (!(decide (m.c > 3)) && Nat.ble m.ts.length 8)))) &&
    ((biasB m.c 0 m.b0 && (biasB m.c 1 m.b1 && biasB m.c 2 m.b2)) && m.ts.all (treeOK m.d m.c))

abbrev kTree : List Kd := [.int .i64, .list false [.int .u64]]
def S_model_Right_1 : RSpec
  | [.agg [.int .i64 k, .list false [.int .u64] l], .bor [.int .i64 d, .int .i64 c, .int .i64 b0, .int .i64 b1, .int .i64 b2, .list true [.int .i64, .list false [.int .u64]] ts]] =>
    .ok (.bool (!(treeOK d c (.agg [.int k, .list l])))) [[.int .i64 d, .int .i64 c, .int .i64 b0, .int .i64 b1, .int .i64 b2, .list true kTree ts]]
  | _ => .no
def idxBad (d c : Int) : List IV → Int → Int
  | [], _ => -1
  | t :: r, i => cond (treeOK d c t) (idxBad d c r (i + 1)) i
def S_slices_IndexFunc_apiTreeapiTree : RSpec
  | [.list true [.int .i64, .list false [.int .u64]] l, .clo 48 [.bor [.int .i64 d, .int .i64 c, .int .i64 b0, .int .i64 b1, .int .i64 b2, .list true [.int .i64, .list false [.int .u64]] ts]]] =>
    .ok (.int .i64 (idxBad d c l 0)) [[.int .i64 d, .int .i64 c, .int .i64 b0, .int .i64 b1, .int .i64 b2, .list true kTree ts]]
  | _ => .no
def S_slices_ContainsFunc_apiTreeapiTree : RSpec
  | [.list true [.int .i64, .list false [.int .u64]] l, .clo 48 [.bor [.int .i64 d, .int .i64 c, .int .i64 b0, .int .i64 b1, .int .i64 b2, .list true [.int .i64, .list false [.int .u64]] ts]]] =>
    .ok (.bool (!(l.all (treeOK d c)))) [[.int .i64 d, .int .i64 c, .int .i64 b0, .int .i64 b1, .int .i64 b2, .list true kTree ts]]
  | _ => .no
def S_model_Right : RSpec
  | [.agg [.int .i64 d, .int .i64 c, .int .i64 b0, .int .i64 b1, .int .i64 b2, .list true [.int .i64, .list false [.int .u64]] ts]] => .ok (.bool (modelB ⟨d, c, b0, b1, b2, ts⟩)) []
  | _ => .no

/-! ### text -/
abbrev w_forest : ByteArray := ⟨#[102, 111, 114, 101, 115, 116]⟩
abbrev w_bias : ByteArray := ⟨#[98, 105, 97, 115]⟩
abbrev w_tree : ByteArray := ⟨#[116, 114, 101, 101]⟩
abbrev w_leaf : ByteArray := ⟨#[108, 101, 97, 102]⟩
abbrev w_if : ByteArray := ⟨#[105, 102]⟩
abbrev w_le : ByteArray := ⟨#[60, 61]⟩
abbrev w_then : ByteArray := ⟨#[116, 104, 101, 110]⟩
abbrev w_else : ByteArray := ⟨#[101, 108, 115, 101]⟩
abbrev w_lf : ByteArray := ⟨#[10]⟩
def lineB (ws : List ByteArray) : ByteArray := joinB ws w_space ++ w_lf
def textB : List (List ByteArray) → ByteArray
  | [] => ByteArray.empty
  | l :: r => lineB l ++ textB r
def nodeW (x : Nd) : List ByteArray :=
  cond x.lf [w_leaf, printB x.v] [w_if, itoaB x.f, w_le, printB x.a, w_then, itoaB x.l, w_else, itoaB x.r]
def nodesW (l : List IV) : List (List ByteArray) := l.map fun w => nodeW (nodeN w.toInt)
def treeW (t : IV) : List (List ByteArray) := [w_tree, itoaB (t.cell 0).toInt, itoaB (ic (t.cell 1).toList.length)] :: nodesW (t.cell 1).toList
def treesW : List IV → List (List ByteArray)
  | [] => []
  | t :: r => treeW t ++ treesW r
def headM (m : Md) : List (List ByteArray) := [[w_forest, itoaB m.d, itoaB m.c], w_bias :: ([m.b0, m.b1, m.b2].take m.c.toNat).map printB]
def linesM (m : Md) : List (List ByteArray) := headM m ++ treesW m.ts
def printM (m : Md) : ByteArray := cond (modelB m) (textB (linesM m)) w_none

/-- A count, if it is no more than so many. -/
def cntT (s : ByteArray) (most : Int) : Int := cond (atoiN s && (!(decide (atoiV s < 0)) && !(decide (atoiV s > most)))) (atoiV s) 0
def nextW (ls : List IV) : List IV := match ls with | [] => [] | l :: _ => lineW l.toStr
def rdNd (l : List IV) : Nd :=
  cond ((wAt l 0).toList == w_leaf.toList) ⟨true, decV (wAt l 1), 0, 0, 0, 0⟩ ⟨false, 0, cntT (wAt l 1) 4, decV (wAt l 3), cntT (wAt l 5) 31, cntT (wAt l 7) 31⟩
def rdNodes (ls : List IV) (k : Nat) : List IV := (List.range k).map fun i => .int (packNd (rdNd (nextW (ls.drop i))))
def rdK (ls : List IV) : Nat := (cntT (wAt (nextW ls) 2) 31).toNat
def rdTree (ls : List IV) : IV := .agg [.int (cntT (wAt (nextW ls) 1) 3), .list (rdNodes (ls.drop 1) (rdK ls))]
def rdTrees : Nat → List IV → List IV
  | 0, _ => []
  | n + 1, ls => match ls with
    | [] => []
    | l :: r => rdTree (l :: r) :: rdTrees n (r.drop (rdK (l :: r)))
def rdBias (ls : List IV) (c : Int) (j : Nat) : Int := cond (decide ((j : Int) < c)) (decV (wAt (nextW (ls.drop 1)) (1 + j))) 0
def rdC (ls : List IV) : Int := cntT (wAt (nextW ls) 2) 3
def rdModel (ls : List IV) : Md := ⟨cntT (wAt (nextW ls) 1) 4, rdC ls, rdBias ls (rdC ls) 0, rdBias ls (rdC ls) 1, rdBias ls (rdC ls) 2, rdTrees 9 (ls.drop 2)⟩
def hasSuf (s t : ByteArray) : Bool := decide (t.size ≤ s.size) && (s.extract (s.size - t.size) s.size).toList == t.toList
def trimSuf (s t : ByteArray) : ByteArray := cond (hasSuf s t) (s.extract 0 (s.size - t.size)) s
def trimLF (s : ByteArray) : ByteArray := trimSuf s w_lf
def linesOf (s : ByteArray) : List IV := (splitL (trimLF s) w_lf).map IV.str
def candM (s : ByteArray) : Md := rdModel (linesOf s)
def Md.zero : Md := ⟨0, 0, 0, 0, 0, []⟩
def textOK (s : ByteArray) : Bool := !(s.toList == w_none.toList) && (printM (candM s)).toList == s.toList
def textM (s : ByteArray) : Md := cond (textOK s) (candM s) Md.zero

def okTexts (l : List IV) : Bool := l.all fun x => decide (x.toStr.size < 4294967281)
def S_text_line : RSpec
  | [.bor [.bld s], .list false [.str] ws] => .br (Nat.ble ws.length 1000 && decide (s.size + (lineB (ws.map IV.toStr)).size ≤ 1000000000)) (.ok (.tup []) [[.bld (s ++ lineB (ws.map IV.toStr))]]) .no
  | _ => .no
def S_text_Print : RSpec
  | [.agg [.int .i64 d, .int .i64 c, .int .i64 b0, .int .i64 b1, .int .i64 b2, .list true [.int .i64, .list false [.int .u64]] ts]] => .ok (.str (printM ⟨d, c, b0, b1, b2, ts⟩)) []
  | _ => .no
def S_text_reader_next : RSpec
  | [.bor [.list false [.str] ls]] => .br (okTexts ls) (.ok (.list false [.str] (nextW ls)) [[.list false [.str] (ls.drop 1)]]) .no
  | _ => .no
def S_text_word : RSpec
  | [.list false [.str] l, .int .i64 i] => .br (decide (0 ≤ i)) (.ok (.str (wAt l i.toNat)) []) .no
  | _ => .no
def S_text_count : RSpec
  | [.str s, .int .i64 most] => .ok (.int .i64 (cntT s most)) []
  | _ => .no
def S_text_scan : RSpec
  | [.str s] => .br (decide (s.size < 4294967281)) (.ok (.int .i64 (decV s)) []) .no
  | _ => .no
def S_text_reader_node : RSpec
  | [.bor [.list false [.str] ls]] => .br (okTexts ls) (.ok (.int .u64 (packNd (rdNd (nextW ls)))) [[.list false [.str] (ls.drop 1)]]) .no
  | _ => .no
def S_internal_stringslite_HasSuffix : RSpec
  | [.str s, .str t] => .ok (.bool (hasSuf s t)) []
  | _ => .no
def S_internal_stringslite_TrimSuffix : RSpec
  | [.str s, .str t] => .ok (.str (trimSuf s t)) []
  | _ => .no
def S_strings_TrimSuffix : RSpec
  | [.str s, .str t] => .ok (.str (trimSuf s t)) []
  | _ => .no
def S_text_Parse : RSpec
  | [.str s] => .br (decide (s.size < 4294967281)) (.ok (.tup [.agg [.int .i64 (textM s).d, .int .i64 (textM s).c, .int .i64 (textM s).b0, .int .i64 (textM s).b1, .int .i64 (textM s).b2, .list true kTree (textM s).ts], .bool (textOK s)]) []) .no
  | _ => .no
def sameI : List IV → List IV → Bool
  | [], [] => true
  | x :: r, y :: r' => (x.toInt == y.toInt) && sameI r r'
  | _, _ => false
def S_copsebook_Same_uint64 : RSpec
  | [.list false [.int .u64] a, .list false [.int .u64] b] => .ok (.bool (sameI a b)) []
  | _ => .no
def sameT : List IV → List IV → Bool
  | [], [] => true
  | x :: r, y :: r' => ((x.cell 0).toInt == (y.cell 0).toInt && sameI (x.cell 1).toList (y.cell 1).toList) && sameT r r'
  | _, _ => false
def sameM (m n : Md) : Bool := (m.d == n.d) && ((m.c == n.c) && (((m.b0 == n.b0) && ((m.b1 == n.b1) && (m.b2 == n.b2))) && sameT m.ts n.ts))
def S_copsekeep_Models : RSpec
  | [.agg [.int .i64 d, .int .i64 c, .int .i64 b0, .int .i64 b1, .int .i64 b2, .list true [.int .i64, .list false [.int .u64]] ts], .agg [.int .i64 d', .int .i64 c', .int .i64 b0', .int .i64 b1', .int .i64 b2', .list true [.int .i64, .list false [.int .u64]] ts']] =>
    .ok (.bool (sameM ⟨d, c, b0, b1, b2, ts⟩ ⟨d', c', b0', b1', b2', ts'⟩)) []
  | _ => .no
def S_copselaw9_TextRuns : RSpec
  | [] => .ok (.bool true) []
  | _ => .no

end Go.FM

/-
  NORMAL FORMS: what the functions' runs come to (written by a program of this claim's own, checked by the kernel).
-/
namespace Go.FM
open Go Go.Proofs

/-! ### copse/copsebook.Within -/
def E_copsebook_Within (N : Nat) : Env := mkE [] [] 24 N

theorem nf_copsebook_Within (N : Nat) (n : Int) (lo : Int) (hi : Int) : evFun (E_copsebook_Within N) c_copsebook_Within [.tmp 6] [[.int .i64]] [(.int .i64 n), (.int .i64 lo), (.int .i64 hi)] =
  (cond (decide (IntKind.wrap IntKind.i64 (IntKind.wrap IntKind.i64 (hi - lo) + 1) = 0))
  none
  (cond (decide (Int.tmod n (IntKind.wrap IntKind.i64 (IntKind.wrap IntKind.i64 (hi - lo) + 1)) < 0))
    (some ((.int .i64 (IntKind.wrap IntKind.i64 (lo + IntKind.wrap IntKind.i64 (IntKind.wrap IntKind.i64 (IntKind.wrap IntKind.i64 (Int.tmod n (IntKind.wrap IntKind.i64 (IntKind.wrap IntKind.i64 (hi - lo) + 1)) + hi) - lo) + 1)))), []))
    (some ((.int .i64 (IntKind.wrap IntKind.i64 (lo + Int.tmod n (IntKind.wrap IntKind.i64 (IntKind.wrap IntKind.i64 (hi - lo) + 1))))), [])))) := by kernel_rfl

/-! ### copse/dec.part -/
def E_dec_part (N : Nat) : Env := mkE [] [(3, ⟨[0, 1, 2], [], []⟩)] 8 N

theorem nf_dec_part (N : Nat) : evFun (E_dec_part N) c_dec_part [.tmp 0] [[.int .u64]] [] =
  (lpE (E_dec_part N) (subC c_dec_part [1, 1, 0, 1, 0, 0]) ⟨[0, 1, 2], [], []⟩ N ⟨[(0, (.int .u64 0)), (1, (.int .u64 1)), (2, (.int .i64 0))], []⟩ (kBlock 0 (kSq (E_dec_part N) (subC c_dec_part [1, 1, 1]) (outT (E_dec_part N) none [(ResultVar.tmp 0)] [[(.int .u64)]])))) := by kernel_rfl

theorem st_dec_part_1 (N : Nat) (x0 : Int) (x1 : Int) (x2 : Int) (again : St → Res) (k : Out → St → Res) : rnd (E_dec_part N) (subC c_dec_part [1, 1, 0, 1, 0, 0])
    ⟨[(0, (.int .u64 x0)), (1, (.int .u64 x1)), (2, (.int .i64 x2))], []⟩
    (kLoop again ⟨[0, 1, 2], [], []⟩ k) =
  (cond (decide (x2 < 8))
  (again ⟨[(0, (.int .u64 x0)), (1, (.int .u64 (IntKind.wrap IntKind.u64 (x1 * 5)))), (2, (.int .i64 (IntKind.wrap IntKind.i64 (x2 + 1))))], []⟩)
  (k (.exit 0) ⟨[(0, (.int .u64 x0)), (1, (.int .u64 x1)), (2, (.int .i64 x2))], []⟩)) := by kernel_rfl

theorem ex_dec_part_1_1 (N : Nat) (x0 : Int) (x1 : Int) (x2 : Int) : (kBlock 0 (kSq (E_dec_part N) (subC c_dec_part [1, 1, 1]) (outT (E_dec_part N) none [(ResultVar.tmp 0)] [[(.int .u64)]]))) (.exit 0)
    ⟨[(0, (.int .u64 x0)), (1, (.int .u64 x1)), (2, (.int .i64 x2))], []⟩ =
  (some ((.int .u64 x1), [])) := by kernel_rfl

/-! ### copse/dec.digits -/
def E_dec_digits (N : Nat) : Env := mkE [(102, S_strconv_ParseUint)] [] 19 N

theorem nf_dec_digits (N : Nat) (s : ByteArray) : evFun (E_dec_digits N) c_dec_digits [.tmp 2, .tmp 3] [[.int .u64], [.bool]] [(.str s)] =
  (cond (puN s)
  (cond (decide (0 ≤ 0) && decide (0 < ic (ByteArray.size s)))
    (some ((.tup [(.int .u64 (puV s)), (.bool (ic (UInt8.toNat (List.getD (Array.toList (ByteArray.data s)) (Int.toNat 0) 0)) != 43))]), []))
    none)
  (some ((.tup [(.int .u64 (puV s)), (.bool false)]), []))) := by kernel_rfl

/-! ### copse/dec.Print -/
def E_dec_Print (N : Nat) : Env := mkE [(55, S_dec_part), (54, S_strconv_FormatUint), (57, S_strings_Repeat), (56, S_strings_TrimRight)] [] 38 N

theorem nf_dec_Print (N : Nat) (n : Int) : evFun (E_dec_Print N) c_dec_Print [.tmp 2] [[.str]] [(.int .i64 n)] =
  (cond (decide (n < 0))
  (cond (decide (ByteArray.size { data := #[45] } + ByteArray.size (numB (Int.fdiv (IntKind.wrap IntKind.u64 (0 - IntKind.wrap IntKind.u64 n)) (2 ^ min (Int.toNat 8) (IntKind.bits IntKind.u64)))) ≤ strMax))
    (cond (IntKind.wrap IntKind.u64 (ic (BitVec.toNat (BitVec.ofInt (IntKind.bits IntKind.u64) (IntKind.wrap IntKind.u64 (0 - IntKind.wrap IntKind.u64 n)) &&& BitVec.ofInt (IntKind.bits IntKind.u64) 255))) == 0)
      (some ((.str ({ data := #[45] } ++ numB (Int.fdiv (IntKind.wrap IntKind.u64 (0 - IntKind.wrap IntKind.u64 n)) (2 ^ min (Int.toNat 8) (IntKind.bits IntKind.u64))))), []))
      (cond (decide (ByteArray.size ({ data := #[45] } ++ numB (Int.fdiv (IntKind.wrap IntKind.u64 (0 - IntKind.wrap IntKind.u64 n)) (2 ^ min (Int.toNat 8) (IntKind.bits IntKind.u64)))) + ByteArray.size { data := #[46] } ≤ strMax))
        (cond (decide (0 ≤ IntKind.wrap IntKind.i64 (8 - ic (ByteArray.size (numB (IntKind.wrap IntKind.u64 (IntKind.wrap IntKind.u64 (ic (BitVec.toNat (BitVec.ofInt (IntKind.bits IntKind.u64) (IntKind.wrap IntKind.u64 (0 - IntKind.wrap IntKind.u64 n)) &&& BitVec.ofInt (IntKind.bits IntKind.u64) 255))) * 390625)))))) && decide (ByteArray.size { data := #[48] } * Int.toNat (IntKind.wrap IntKind.i64 (8 - ic (ByteArray.size (numB (IntKind.wrap IntKind.u64 (IntKind.wrap IntKind.u64 (ic (BitVec.toNat (BitVec.ofInt (IntKind.bits IntKind.u64) (IntKind.wrap IntKind.u64 (0 - IntKind.wrap IntKind.u64 n)) &&& BitVec.ofInt (IntKind.bits IntKind.u64) 255))) * 390625)))))) ≤ strMax))
          (cond (decide (ByteArray.size (repB { data := #[48] } (Int.toNat (IntKind.wrap IntKind.i64 (8 - ic (ByteArray.size (numB (IntKind.wrap IntKind.u64 (IntKind.wrap IntKind.u64 (ic (BitVec.toNat (BitVec.ofInt (IntKind.bits IntKind.u64) (IntKind.wrap IntKind.u64 (0 - IntKind.wrap IntKind.u64 n)) &&& BitVec.ofInt (IntKind.bits IntKind.u64) 255))) * 390625)))))))) + ByteArray.size (numB (IntKind.wrap IntKind.u64 (IntKind.wrap IntKind.u64 (ic (BitVec.toNat (BitVec.ofInt (IntKind.bits IntKind.u64) (IntKind.wrap IntKind.u64 (0 - IntKind.wrap IntKind.u64 n)) &&& BitVec.ofInt (IntKind.bits IntKind.u64) 255))) * 390625))) ≤ strMax))
            (cond (decide (ByteArray.size ({ data := #[45] } ++ numB (Int.fdiv (IntKind.wrap IntKind.u64 (0 - IntKind.wrap IntKind.u64 n)) (2 ^ min (Int.toNat 8) (IntKind.bits IntKind.u64))) ++ { data := #[46] }) + ByteArray.size (trimRB (repB { data := #[48] } (Int.toNat (IntKind.wrap IntKind.i64 (8 - ic (ByteArray.size (numB (IntKind.wrap IntKind.u64 (IntKind.wrap IntKind.u64 (ic (BitVec.toNat (BitVec.ofInt (IntKind.bits IntKind.u64) (IntKind.wrap IntKind.u64 (0 - IntKind.wrap IntKind.u64 n)) &&& BitVec.ofInt (IntKind.bits IntKind.u64) 255))) * 390625))))))) ++ numB (IntKind.wrap IntKind.u64 (IntKind.wrap IntKind.u64 (ic (BitVec.toNat (BitVec.ofInt (IntKind.bits IntKind.u64) (IntKind.wrap IntKind.u64 (0 - IntKind.wrap IntKind.u64 n)) &&& BitVec.ofInt (IntKind.bits IntKind.u64) 255))) * 390625))) { data := #[48] }) ≤ strMax))
              (some ((.str ({ data := #[45] } ++ numB (Int.fdiv (IntKind.wrap IntKind.u64 (0 - IntKind.wrap IntKind.u64 n)) (2 ^ min (Int.toNat 8) (IntKind.bits IntKind.u64))) ++ { data := #[46] } ++ trimRB (repB { data := #[48] } (Int.toNat (IntKind.wrap IntKind.i64 (8 - ic (ByteArray.size (numB (IntKind.wrap IntKind.u64 (IntKind.wrap IntKind.u64 (ic (BitVec.toNat (BitVec.ofInt (IntKind.bits IntKind.u64) (IntKind.wrap IntKind.u64 (0 - IntKind.wrap IntKind.u64 n)) &&& BitVec.ofInt (IntKind.bits IntKind.u64) 255))) * 390625))))))) ++ numB (IntKind.wrap IntKind.u64 (IntKind.wrap IntKind.u64 (ic (BitVec.toNat (BitVec.ofInt (IntKind.bits IntKind.u64) (IntKind.wrap IntKind.u64 (0 - IntKind.wrap IntKind.u64 n)) &&& BitVec.ofInt (IntKind.bits IntKind.u64) 255))) * 390625))) { data := #[48] })), []))
              none)
            none)
          none)
        none))
    none)
  (cond (decide (ByteArray.size { data := #[] } + ByteArray.size (numB (Int.fdiv (IntKind.wrap IntKind.u64 n) (2 ^ min (Int.toNat 8) (IntKind.bits IntKind.u64)))) ≤ strMax))
    (cond (IntKind.wrap IntKind.u64 (ic (BitVec.toNat (BitVec.ofInt (IntKind.bits IntKind.u64) (IntKind.wrap IntKind.u64 n) &&& BitVec.ofInt (IntKind.bits IntKind.u64) 255))) == 0)
      (some ((.str ({ data := #[] } ++ numB (Int.fdiv (IntKind.wrap IntKind.u64 n) (2 ^ min (Int.toNat 8) (IntKind.bits IntKind.u64))))), []))
      (cond (decide (ByteArray.size ({ data := #[] } ++ numB (Int.fdiv (IntKind.wrap IntKind.u64 n) (2 ^ min (Int.toNat 8) (IntKind.bits IntKind.u64)))) + ByteArray.size { data := #[46] } ≤ strMax))
        (cond (decide (0 ≤ IntKind.wrap IntKind.i64 (8 - ic (ByteArray.size (numB (IntKind.wrap IntKind.u64 (IntKind.wrap IntKind.u64 (ic (BitVec.toNat (BitVec.ofInt (IntKind.bits IntKind.u64) (IntKind.wrap IntKind.u64 n) &&& BitVec.ofInt (IntKind.bits IntKind.u64) 255))) * 390625)))))) && decide (ByteArray.size { data := #[48] } * Int.toNat (IntKind.wrap IntKind.i64 (8 - ic (ByteArray.size (numB (IntKind.wrap IntKind.u64 (IntKind.wrap IntKind.u64 (ic (BitVec.toNat (BitVec.ofInt (IntKind.bits IntKind.u64) (IntKind.wrap IntKind.u64 n) &&& BitVec.ofInt (IntKind.bits IntKind.u64) 255))) * 390625)))))) ≤ strMax))
          (cond (decide (ByteArray.size (repB { data := #[48] } (Int.toNat (IntKind.wrap IntKind.i64 (8 - ic (ByteArray.size (numB (IntKind.wrap IntKind.u64 (IntKind.wrap IntKind.u64 (ic (BitVec.toNat (BitVec.ofInt (IntKind.bits IntKind.u64) (IntKind.wrap IntKind.u64 n) &&& BitVec.ofInt (IntKind.bits IntKind.u64) 255))) * 390625)))))))) + ByteArray.size (numB (IntKind.wrap IntKind.u64 (IntKind.wrap IntKind.u64 (ic (BitVec.toNat (BitVec.ofInt (IntKind.bits IntKind.u64) (IntKind.wrap IntKind.u64 n) &&& BitVec.ofInt (IntKind.bits IntKind.u64) 255))) * 390625))) ≤ strMax))
            (cond (decide (ByteArray.size ({ data := #[] } ++ numB (Int.fdiv (IntKind.wrap IntKind.u64 n) (2 ^ min (Int.toNat 8) (IntKind.bits IntKind.u64))) ++ { data := #[46] }) + ByteArray.size (trimRB (repB { data := #[48] } (Int.toNat (IntKind.wrap IntKind.i64 (8 - ic (ByteArray.size (numB (IntKind.wrap IntKind.u64 (IntKind.wrap IntKind.u64 (ic (BitVec.toNat (BitVec.ofInt (IntKind.bits IntKind.u64) (IntKind.wrap IntKind.u64 n) &&& BitVec.ofInt (IntKind.bits IntKind.u64) 255))) * 390625))))))) ++ numB (IntKind.wrap IntKind.u64 (IntKind.wrap IntKind.u64 (ic (BitVec.toNat (BitVec.ofInt (IntKind.bits IntKind.u64) (IntKind.wrap IntKind.u64 n) &&& BitVec.ofInt (IntKind.bits IntKind.u64) 255))) * 390625))) { data := #[48] }) ≤ strMax))
              (some ((.str ({ data := #[] } ++ numB (Int.fdiv (IntKind.wrap IntKind.u64 n) (2 ^ min (Int.toNat 8) (IntKind.bits IntKind.u64))) ++ { data := #[46] } ++ trimRB (repB { data := #[48] } (Int.toNat (IntKind.wrap IntKind.i64 (8 - ic (ByteArray.size (numB (IntKind.wrap IntKind.u64 (IntKind.wrap IntKind.u64 (ic (BitVec.toNat (BitVec.ofInt (IntKind.bits IntKind.u64) (IntKind.wrap IntKind.u64 n) &&& BitVec.ofInt (IntKind.bits IntKind.u64) 255))) * 390625))))))) ++ numB (IntKind.wrap IntKind.u64 (IntKind.wrap IntKind.u64 (ic (BitVec.toNat (BitVec.ofInt (IntKind.bits IntKind.u64) (IntKind.wrap IntKind.u64 n) &&& BitVec.ofInt (IntKind.bits IntKind.u64) 255))) * 390625))) { data := #[48] })), []))
              none)
            none)
          none)
        none))
    none)) := by kernel_rfl

end Go.FM

/-
  NORMAL FORMS: what the functions' runs come to (written by a program of this claim's own, checked by the kernel).
-/
namespace Go.FM
open Go Go.Proofs

/-! ### copse/dec.Scan -/
def E_dec_Scan (N : Nat) : Env := mkE [(28, S_dec_Print), (73, S_dec_digits), (55, S_dec_part), (72, S_strings_Cut), (71, S_strings_CutPrefix), (57, S_strings_Repeat)] [] 76 N

theorem nf_dec_Scan (N : Nat) (s : ByteArray) : evFun (E_dec_Scan N) c_dec_Scan [.tmp 2, .tmp 3] [[.int .i64], [.bool]] [(.str s)] =
  (cond (decide (ByteArray.size (trimPreB s { data := #[45] }) < 4294967281))
  (cond (decide (ic (ByteArray.size (cutR (trimPreB s { data := #[45] }) { data := #[46] })) > 8))
    (some ((.tup [(.int .i64 0), (.bool false)]), []))
    (cond (decide (0 ≤ IntKind.wrap IntKind.i64 (8 - ic (ByteArray.size (cutR (trimPreB s { data := #[45] }) { data := #[46] })))) && decide (ByteArray.size { data := #[48] } * Int.toNat (IntKind.wrap IntKind.i64 (8 - ic (ByteArray.size (cutR (trimPreB s { data := #[45] }) { data := #[46] })))) ≤ strMax))
      (cond (decide (ByteArray.size (cutR (trimPreB s { data := #[45] }) { data := #[46] }) + ByteArray.size (repB { data := #[48] } (Int.toNat (IntKind.wrap IntKind.i64 (8 - ic (ByteArray.size (cutR (trimPreB s { data := #[45] }) { data := #[46] })))))) ≤ strMax))
        (cond (!puN (cutL (trimPreB s { data := #[45] }) { data := #[46] }))
          (some ((.tup [(.int .i64 0), (.bool false)]), []))
          (cond (!puN (cutR (trimPreB s { data := #[45] }) { data := #[46] } ++ repB { data := #[48] } (Int.toNat (IntKind.wrap IntKind.i64 (8 - ic (ByteArray.size (cutR (trimPreB s { data := #[45] }) { data := #[46] })))))))
            (some ((.tup [(.int .i64 0), (.bool false)]), []))
            (cond (decide (puV (cutL (trimPreB s { data := #[45] }) { data := #[46] }) > 36028797018963968))
              (some ((.tup [(.int .i64 0), (.bool false)]), []))
              (cond (Int.tmod (puV (cutR (trimPreB s { data := #[45] }) { data := #[46] } ++ repB { data := #[48] } (Int.toNat (IntKind.wrap IntKind.i64 (8 - ic (ByteArray.size (cutR (trimPreB s { data := #[45] }) { data := #[46] }))))))) 390625 != 0)
                (some ((.tup [(.int .i64 0), (.bool false)]), []))
                (cond (hasPreB s { data := #[45] })
                  (cond (ByteArray.toList (printB (IntKind.wrap IntKind.i64 (IntKind.wrap IntKind.u64 (0 - IntKind.wrap IntKind.u64 (IntKind.wrap IntKind.u64 (puV (cutL (trimPreB s { data := #[45] }) { data := #[46] }) * 2 ^ min (Int.toNat 8) (IntKind.bits IntKind.u64)) + IntKind.wrap IntKind.u64 (Int.tdiv (puV (cutR (trimPreB s { data := #[45] }) { data := #[46] } ++ repB { data := #[48] } (Int.toNat (IntKind.wrap IntKind.i64 (8 - ic (ByteArray.size (cutR (trimPreB s { data := #[45] }) { data := #[46] }))))))) 390625)))))) == ByteArray.toList s)
                    (some ((.tup [(.int .i64 (IntKind.wrap IntKind.i64 (IntKind.wrap IntKind.u64 (0 - IntKind.wrap IntKind.u64 (IntKind.wrap IntKind.u64 (puV (cutL (trimPreB s { data := #[45] }) { data := #[46] }) * 2 ^ min (Int.toNat 8) (IntKind.bits IntKind.u64)) + IntKind.wrap IntKind.u64 (Int.tdiv (puV (cutR (trimPreB s { data := #[45] }) { data := #[46] } ++ repB { data := #[48] } (Int.toNat (IntKind.wrap IntKind.i64 (8 - ic (ByteArray.size (cutR (trimPreB s { data := #[45] }) { data := #[46] }))))))) 390625)))))), (.bool true)]), []))
                    (some ((.tup [(.int .i64 0), (.bool false)]), [])))
                  (cond (ByteArray.toList (printB (IntKind.wrap IntKind.i64 (IntKind.wrap IntKind.u64 (IntKind.wrap IntKind.u64 (puV (cutL (trimPreB s { data := #[45] }) { data := #[46] }) * 2 ^ min (Int.toNat 8) (IntKind.bits IntKind.u64)) + IntKind.wrap IntKind.u64 (Int.tdiv (puV (cutR (trimPreB s { data := #[45] }) { data := #[46] } ++ repB { data := #[48] } (Int.toNat (IntKind.wrap IntKind.i64 (8 - ic (ByteArray.size (cutR (trimPreB s { data := #[45] }) { data := #[46] }))))))) 390625))))) == ByteArray.toList s)
                    (some ((.tup [(.int .i64 (IntKind.wrap IntKind.i64 (IntKind.wrap IntKind.u64 (IntKind.wrap IntKind.u64 (puV (cutL (trimPreB s { data := #[45] }) { data := #[46] }) * 2 ^ min (Int.toNat 8) (IntKind.bits IntKind.u64)) + IntKind.wrap IntKind.u64 (Int.tdiv (puV (cutR (trimPreB s { data := #[45] }) { data := #[46] } ++ repB { data := #[48] } (Int.toNat (IntKind.wrap IntKind.i64 (8 - ic (ByteArray.size (cutR (trimPreB s { data := #[45] }) { data := #[46] }))))))) 390625))))), (.bool true)]), []))
                    (some ((.tup [(.int .i64 0), (.bool false)]), []))))))))
        none)
      none))
  none) := by kernel_rfl


end Go.FM

/-
  dec's FUNCTIONS COME TO WHAT IS SAID (1).
-/
namespace Go.FM
open Go Go.Proofs

set_option maxRecDepth 100000 in
theorem snd_copsebook_Within : SndR PR B0 15 S_copsebook_Within := by
  refine snd_mk [] [] S_copsebook_Within [[.int .i64]] Tryz.func15 h_copsebook_Within trivial ?_
  intro vs r hwf h
  unfold S_copsebook_Within at h
  split at h
  · rename_i n lo hi
    refine ⟨0, ?_⟩
    rw [← h]
    refine (nf_copsebook_Within 0 n lo hi).trans ?_
    simp only [R.get_br, R.get_ok, R.get_no]
    unfold withinZ withinM i64w
    cases decide (IntKind.wrap IntKind.i64 (IntKind.wrap IntKind.i64 (hi - lo) + 1) = 0) <;> cases decide (Int.tmod n (IntKind.wrap IntKind.i64 (IntKind.wrap IntKind.i64 (hi - lo) + 1)) < 0) <;> rfl
  · simp [R.get] at h

set_option maxRecDepth 100000 in
theorem snd_dec_part : SndR PR B0 55 S_dec_part := by
  refine snd_mk [] [(3, ⟨[0, 1, 2], [], []⟩)] S_dec_part [[.int .u64]] Tryz.func55 h_dec_part trivial ?_
  intro vs r hwf h
  unfold S_dec_part at h
  split at h
  · refine ⟨9, ?_⟩
    rw [← h]
    show evFun (E_dec_part 9) c_dec_part [.tmp 0] [[.int .u64]] [] = _
    kernel_rfl
  · simp [R.get] at h

theorem puN_pos {s : ByteArray} (h : puN s = true) : 0 < s.size := by
  unfold puN at h
  split at h
  · rename_i v hv
    have : s.data.toList ≠ [] := fun e => by rw [e] at hv; cases hv
    rw [size_len]
    exact List.length_pos_iff.2 this
  · cases h
theorem puN_first {s : ByteArray} (h : puN s = true) : (List.getD s.data.toList 0 0).toNat ≠ 43 := by
  unfold puN at h
  split at h
  · rename_i v hv
    revert hv
    cases s.data.toList with
    | nil => intro _; decide
    | cons c r =>
      intro hv he
      have he : c.toNat = 43 := he
      unfold Lib.parseMag at hv
      rw [if_neg (by simp), Lib.parseUint10, if_neg (by omega)] at hv
      cases hv
  · cases h

set_option maxRecDepth 100000 in
theorem snd_dec_digits : SndR PR B0 73 S_dec_digits := by
  refine snd_mk [(102, S_strconv_ParseUint)] [] S_dec_digits [[.int .u64], [.bool]] Tryz.func73 h_dec_digits ⟨snd_strconv_ParseUint, trivial⟩ ?_
  intro vs r hwf h
  unfold S_dec_digits at h
  split at h
  · rename_i s
    refine ⟨0, ?_⟩
    rw [← h]
    refine (nf_dec_digits 0 s).trans ?_
    simp only [R.get_ok]
    cases hp : puN s with
    | false => simp only [condF]
    | true =>
      have h1 : (decide (0 ≤ 0) && decide (0 < ic (ByteArray.size s))) = true := by
        have := puN_pos hp
        simp [ic]; omega
      have h2 : (ic (UInt8.toNat (List.getD (Array.toList (ByteArray.data s)) (Int.toNat 0) 0)) != 43) = true := by
        have := puN_first hp
        rw [bne_dec]
        simp only [ic, Int.toNat_zero]
        simp only [Bool.not_eq_true', decide_eq_false_iff_not]
        omega
      rw [h1, h2]
      simp only [condT]
  · simp [R.get] at h

/-! ### numbers -/
theorem wrap_u {n : Int} (h0 : 0 ≤ n) (h1 : n < 18446744073709551616) : IntKind.wrap .u64 n = n := by rw [IntKind.wrap_u64]; omega
theorem wrap_neg {n : Int} (h0 : n < 0) (h1 : -9223372036854775808 ≤ n) : IntKind.wrap .u64 (0 - IntKind.wrap .u64 n) = (n.natAbs : Int) := by rw [IntKind.wrap_u64, IntKind.wrap_u64]; omega
theorem wrap_pos {n : Int} (h0 : ¬ n < 0) (h1 : n ≤ 9223372036854775807) : IntKind.wrap .u64 n = (n.natAbs : Int) := by rw [IntKind.wrap_u64]; omega
theorem and_255 (u : Nat) (h : u < 18446744073709551616) : IntKind.wrap .u64 (ic (BitVec.toNat (BitVec.ofInt (IntKind.bits IntKind.u64) (u : Int) &&& BitVec.ofInt (IntKind.bits IntKind.u64) 255))) = ((u % 256 : Nat) : Int) := by
  have e : BitVec.toNat (BitVec.ofInt (IntKind.bits IntKind.u64) (u : Int) &&& BitVec.ofInt (IntKind.bits IntKind.u64) 255) = u % 256 := by
    have h1 : (BitVec.ofInt (IntKind.bits IntKind.u64) (u : Int)).toNat = u := by
      show (BitVec.ofInt 64 (u : Int)).toNat = u
      rw [BitVec.toNat_ofInt]
      omega
    have h2 : (BitVec.ofInt (IntKind.bits IntKind.u64) 255).toNat = 2 ^ 8 - 1 := by rfl
    rw [BitVec.toNat_and, h1, h2, Nat.and_two_pow_sub_one_eq_mod]
  rw [e]
  exact wrap_u (by simp [ic]; omega) (by simp [ic]; omega)
theorem shr_8 (u : Nat) : Int.fdiv (u : Int) (2 ^ min (Int.toNat 8) (IntKind.bits IntKind.u64)) = ((u / 256 : Nat) : Int) := by
  have e : (2 : Int) ^ min (Int.toNat 8) (IntKind.bits IntKind.u64) = ((256 : Nat) : Int) := rfl
  rw [e, Int.fdiv_eq_ediv_of_nonneg _ (by omega)]
  rfl
theorem mul_part {r : Nat} (h : r < 256) : IntKind.wrap .u64 ((r : Int) * 390625) = ((r * 390625 : Nat) : Int) := by
  rw [wrap_u (by omega) (by omega)]
  omega
theorem numB_nat (u : Nat) : numB (u : Int) = ⟨(Lib.decDigits u).toArray⟩ := rfl

theorem decs_len8 : (List.range 256).all (fun r => Nat.ble (Lib.decDigits (r * 390625)).length 8) = true := by kernel_rfl
theorem decs_len {r : Nat} (h : r < 256) : (Lib.decDigits (r * 390625)).length ≤ 8 := by
  have := List.all_eq_true.1 decs_len8 r (List.mem_range.2 h)
  exact Nat.le_of_ble_eq_true this

theorem data_mk (l : List UInt8) : (⟨l.toArray⟩ : ByteArray).data.toList = l := rfl
theorem data_app (s t : ByteArray) : (s ++ t).data.toList = s.data.toList ++ t.data.toList := by simp
theorem size_mk (l : List UInt8) : (⟨l.toArray⟩ : ByteArray).size = l.length := by rw [size_len]

/-- What stands in the normal form, for the number's size u. -/
theorem print_tail {u : Nat} (hu : u < 18446744073709551616) (sg : ByteArray) (hsg : sg.size ≤ 1) (K : ByteArray) (hK : K = sg ++ ⟨(sizeL u).toArray⟩) :
    (cond (decide (ByteArray.size sg + ByteArray.size (numB ((u / 256 : Nat) : Int)) ≤ strMax))
      (cond (((u % 256 : Nat) : Int) == 0)
        (some ((.str (sg ++ numB ((u / 256 : Nat) : Int))), []))
        (cond (decide (ByteArray.size (sg ++ numB ((u / 256 : Nat) : Int)) + ByteArray.size { data := #[46] } ≤ strMax))
          (cond (decide (0 ≤ IntKind.wrap IntKind.i64 (8 - ic (ByteArray.size (numB ((u % 256 * 390625 : Nat) : Int))))) && decide (ByteArray.size { data := #[48] } * Int.toNat (IntKind.wrap IntKind.i64 (8 - ic (ByteArray.size (numB ((u % 256 * 390625 : Nat) : Int))))) ≤ strMax))
            (cond (decide (ByteArray.size (repB { data := #[48] } (Int.toNat (IntKind.wrap IntKind.i64 (8 - ic (ByteArray.size (numB ((u % 256 * 390625 : Nat) : Int))))))) + ByteArray.size (numB ((u % 256 * 390625 : Nat) : Int)) ≤ strMax))
              (cond (decide (ByteArray.size (sg ++ numB ((u / 256 : Nat) : Int) ++ { data := #[46] }) + ByteArray.size (trimRB (repB { data := #[48] } (Int.toNat (IntKind.wrap IntKind.i64 (8 - ic (ByteArray.size (numB ((u % 256 * 390625 : Nat) : Int)))))) ++ numB ((u % 256 * 390625 : Nat) : Int)) { data := #[48] }) ≤ strMax))
                (some ((.str (sg ++ numB ((u / 256 : Nat) : Int) ++ { data := #[46] } ++ trimRB (repB { data := #[48] } (Int.toNat (IntKind.wrap IntKind.i64 (8 - ic (ByteArray.size (numB ((u % 256 * 390625 : Nat) : Int)))))) ++ numB ((u % 256 * 390625 : Nat) : Int)) { data := #[48] })), []))
                none)
              none)
            none)
          none))
      none) = (some (V.str K, []) : Res) := by
  have hr : u % 256 < 256 := by omega
  have l1 : (numB ((u / 256 : Nat) : Int)).size ≤ 20 := numB_size (by omega) (by omega)
  have l2 : (numB ((u % 256 * 390625 : Nat) : Int)).size = (Lib.decDigits (u % 256 * 390625)).length := by rw [numB_nat, size_mk]
  have l3 := decs_len hr
  generalize hD : Lib.decDigits (u % 256 * 390625) = D at l2 l3
  have e8 : IntKind.wrap IntKind.i64 (8 - ic (ByteArray.size (numB ((u % 256 * 390625 : Nat) : Int)))) = ((8 - D.length : Nat) : Int) := by
    rw [l2, wrap_id (by simp [ic]; omega) (by simp [ic]; omega)]
    simp only [ic]
    omega
  rw [e8]
  simp only [Int.toNat_natCast]
  have s46 : ByteArray.size { data := #[46] } = 1 := rfl
  have s48 : ByteArray.size { data := #[48] } = 1 := rfl
  have l4 : (repB { data := #[48] } (8 - D.length)).size = 8 - D.length := by rw [repB_size, s48]; omega
  have l5 := trimRB_size (repB { data := #[48] } (8 - D.length) ++ numB ((u % 256 * 390625 : Nat) : Int)) { data := #[48] }
  rw [ByteArray.size_append, l4, l2] at l5
  rw [decide_eq_true (show ByteArray.size sg + ByteArray.size (numB ((u / 256 : Nat) : Int)) ≤ strMax by unfold strMax; omega),
    decide_eq_true (show ByteArray.size (sg ++ numB ((u / 256 : Nat) : Int)) + ByteArray.size { data := #[46] } ≤ strMax by rw [ByteArray.size_append, s46]; unfold strMax; omega),
    decide_eq_true (show (0 : Int) ≤ ((8 - D.length : Nat) : Int) by omega),
    decide_eq_true (show ByteArray.size { data := #[48] } * (8 - D.length) ≤ strMax by rw [s48]; unfold strMax; omega),
    decide_eq_true (show ByteArray.size (repB { data := #[48] } (8 - D.length)) + ByteArray.size (numB ((u % 256 * 390625 : Nat) : Int)) ≤ strMax by rw [l4, l2]; unfold strMax; omega),
    decide_eq_true (show ByteArray.size (sg ++ numB ((u / 256 : Nat) : Int) ++ { data := #[46] }) + ByteArray.size (trimRB (repB { data := #[48] } (8 - D.length) ++ numB ((u % 256 * 390625 : Nat) : Int)) { data := #[48] }) ≤ strMax by rw [ByteArray.size_append, ByteArray.size_append, s46]; unfold strMax; omega)]
  simp only [condT, Bool.and_true]
  subst hK
  by_cases h0 : u % 256 = 0
  · have e0 : (((u % 256 : Nat) : Int) == 0) = true := by rw [beq_dec]; exact decide_eq_true (by omega)
    rw [e0, condT]
    have : sg ++ numB ((u / 256 : Nat) : Int) = sg ++ ⟨(sizeL u).toArray⟩ := by
      apply bytes_ext
      rw [data_app, data_app, numB_nat, data_mk, data_mk, sizeL, if_pos h0, List.append_nil]
    rw [this]
  · have e0 : (((u % 256 : Nat) : Int) == 0) = false := by rw [beq_dec]; exact decide_eq_false (by omega)
    rw [e0, condF]
    have : sg ++ numB ((u / 256 : Nat) : Int) ++ { data := #[46] } ++ trimRB (repB { data := #[48] } (8 - D.length) ++ numB ((u % 256 * 390625 : Nat) : Int)) { data := #[48] } = sg ++ ⟨(sizeL u).toArray⟩ := by
      apply bytes_ext
      simp only [data_app, numB_nat, sizeL, if_neg h0, trimRB, repB, decsL, hD, List.append_assoc]
      rfl
    rw [this]

set_option maxRecDepth 100000 in
theorem snd_dec_Print : SndR PR B0 28 S_dec_Print := by
  refine snd_mk [(55, S_dec_part), (54, S_strconv_FormatUint), (57, S_strings_Repeat), (56, S_strings_TrimRight)] [] S_dec_Print [[.str]] Tryz.func28 h_dec_Print ⟨snd_dec_part, snd_strconv_FormatUint, snd_strings_Repeat, snd_strings_TrimRight, trivial⟩ ?_
  intro vs r hwf h
  unfold S_dec_Print at h
  split at h
  · rename_i n
    refine ⟨0, ?_⟩
    rw [← h]
    refine (nf_dec_Print 0 n).trans ?_
    simp only [R.get_ok]
    have hb := (hwf (by simp [oneBor])).1
    simp only [wfV, wfL] at hb
    obtain ⟨h0, h1⟩ := hb
    have e0 : IntKind.i64.min = -9223372036854775808 := rfl
    have e1 : IntKind.i64.max = 9223372036854775807 := rfl
    rw [e0] at h0
    rw [e1] at h1
    have hu : n.natAbs < 18446744073709551616 := by omega
    by_cases hn : n < 0
    · rw [decide_eq_true hn, condT, wrap_neg hn h0, shr_8, and_255 _ hu, mul_part (by omega)]
      exact print_tail hu ⟨#[45]⟩ (by decide) _ (by apply bytes_ext; rw [data_app]; unfold printB printL; rw [if_pos hn]; rfl)
    · rw [decide_eq_false hn, condF, wrap_pos hn h1, shr_8, and_255 _ hu, mul_part (by omega)]
      exact print_tail hu ⟨#[]⟩ (by decide) _ (by apply bytes_ext; rw [data_app]; unfold printB printL; rw [if_neg hn]; rfl)
  · simp [R.get] at h

end Go.FM

/-
  dec's FUNCTIONS COME TO WHAT IS SAID (2): Scan; the runs.
-/
namespace Go.FM
open Go Go.Proofs

set_option maxRecDepth 100000 in
theorem snd_dec_Scan : SndR PR B0 44 S_dec_Scan := by
  refine snd_mk [(28, S_dec_Print), (73, S_dec_digits), (55, S_dec_part), (72, S_strings_Cut), (71, S_strings_CutPrefix), (57, S_strings_Repeat)] [] S_dec_Scan [[.int .i64], [.bool]] Tryz.func44 h_dec_Scan
    ⟨snd_dec_Print, snd_dec_digits, snd_dec_part, snd_strings_Cut, snd_strings_CutPrefix, snd_strings_Repeat, trivial⟩ ?_
  intro vs r hwf h
  unfold S_dec_Scan at h
  split at h
  · rename_i s
    refine ⟨0, ?_⟩
    cases hs : decide (s.size < 4294967281) with
    | false => rw [hs] at h; simp [R.get] at h
    | true =>
      rw [hs, R.get_br, condT, R.get_ok] at h
      have hs := of_decide_eq_true hs
      rw [← h]
      refine (nf_dec_Scan 0 s).trans ?_
      have hz := trimPreB_size s { data := #[45] }
      rw [decide_eq_true (show ByteArray.size (trimPreB s { data := #[45] }) < 4294967281 by omega), condT]
      have eW : cutL (trimPreB s { data := #[45] }) { data := #[46] } = decWhole s := rfl
      have eP : cutR (trimPreB s { data := #[45] }) { data := #[46] } = decPart s := rfl
      have eM : hasPreB s { data := #[45] } = hasPreB s w_minus := rfl
      rw [eW, eP, eM]
      unfold decV
      by_cases h8 : (decPart s).size ≤ 8
      · have c1 : decide (ic (ByteArray.size (decPart s)) > 8) = false := decide_eq_false (by simp only [ic]; omega)
        have e8 : IntKind.wrap IntKind.i64 (8 - ic (ByteArray.size (decPart s))) = ((8 - (decPart s).size : Nat) : Int) := by
          rw [wrap_id (by simp only [ic]; omega) (by simp only [ic]; omega)]
          simp only [ic]
          omega
        rw [c1, condF, e8]
        simp only [Int.toNat_natCast]
        have s48 : ByteArray.size { data := #[48] } = 1 := rfl
        have eF : decPart s ++ repB { data := #[48] } (8 - (decPart s).size) = decFull s := rfl
        have l4 : (repB { data := #[48] } (8 - (decPart s).size)).size = 8 - (decPart s).size := by rw [repB_size, s48]; omega
        rw [decide_eq_true (show (0 : Int) ≤ ((8 - (decPart s).size : Nat) : Int) by omega), decide_eq_true (show ByteArray.size { data := #[48] } * (8 - (decPart s).size) ≤ strMax by rw [s48]; unfold strMax; omega), Bool.and_true, condT,
          decide_eq_true (show ByteArray.size (decPart s) + ByteArray.size (repB { data := #[48] } (8 - (decPart s).size)) ≤ strMax by rw [l4]; unfold strMax; omega), condT, eF]
        have hw := puV_bound (decWhole s)
        have hf := puV_bound (decFull s)
        have b0 : IntKind.u64.min = 0 := rfl
        have b1 : IntKind.u64.max = 18446744073709551615 := rfl
        rw [b0, b1] at hw hf
        have em : Int.tmod (puV (decFull s)) 390625 = puV (decFull s) % 390625 := Int.tmod_eq_emod_of_nonneg hf.1
        have ed : IntKind.wrap IntKind.u64 (Int.tdiv (puV (decFull s)) 390625) = puV (decFull s) / 390625 := by
          rw [Int.tdiv_eq_ediv_of_nonneg hf.1, wrap_u (by omega) (by omega)]
        have e2 : (2 : Int) ^ min (Int.toNat 8) (IntKind.bits IntKind.u64) = 256 := rfl
        rw [em, ed, e2]
        have eS : IntKind.wrap IntKind.u64 (IntKind.wrap IntKind.u64 (puV (decWhole s) * 256) + puV (decFull s) / 390625) = decSize s := rfl
        rw [eS]
        unfold decIs
        rw [decide_eq_true h8, dec_gt, dec_le_not, bne_dec]
        cases hp1 : puN (decWhole s) with
        | false => simp only [Bool.not_false, condT, condF, Bool.false_and, Bool.and_false]
        | true =>
          cases hp2 : puN (decFull s) with
          | false => simp only [Bool.not_false, Bool.not_true, condT, condF, Bool.false_and, Bool.and_false]
          | true =>
            simp only [Bool.not_true, condF, Bool.true_and]
            cases hc : decide (36028797018963968 < puV (decWhole s)) with
            | true => simp only [Bool.not_true, condT, condF, Bool.false_and]
            | false =>
              cases hd : decide (puV (decFull s) % 390625 = 0) with
              | false => simp only [Bool.not_false, condT, condF, Bool.false_and, Bool.true_and]
              | true =>
                simp only [Bool.not_false, Bool.not_true, condF, Bool.true_and]
                unfold decNum
                cases hm : hasPreB s w_minus with
                | false =>
                  simp only [condF]
                  rw [show IntKind.wrap IntKind.i64 (decSize s) = i64w (decSize s) from rfl, bytes_beq]
                  cases decide (printB (i64w (decSize s)) = s) <;> simp only [condT, condF]
                | true =>
                  simp only [condT]
                  rw [show IntKind.wrap IntKind.i64 (IntKind.wrap IntKind.u64 (0 - decSize s)) = i64w (u64w (0 - decSize s)) from rfl, bytes_beq]
                  cases decide (printB (i64w (u64w (0 - decSize s))) = s) <;> simp only [condT, condF]
      · have c1 : decide (ic (ByteArray.size (decPart s)) > 8) = true := decide_eq_true (by simp only [ic]; omega)
        rw [c1, condT]
        unfold decIs
        rw [decide_eq_false h8, Bool.false_and, condF]
  · simp [R.get] at h


end Go.FM
