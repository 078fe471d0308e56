/-
  What the functions of package cert, and of the packages beside it, come to: each proved of the program by the small machine; under each specification's own bounds on sizes.
-/
import Derived.Test.YtimlijeiggcgiaaDoorLib

/-
  WHAT cert's FUNCTIONS COME TO: specifications; of no program.
-/
namespace Go.FM
open Go

/-! ### numbers brought into bounds -/
def i64w (n : Int) : Int := IntKind.wrap .i64 n
def withinM (lo hi : Int) : Int := i64w (i64w (hi - lo) + 1)
def withinZ (n lo hi : Int) : Int := cond (decide (n.tmod (withinM lo hi) < 0)) (i64w (lo + i64w (i64w (i64w (n.tmod (withinM lo hi) + hi) - lo) + 1))) (i64w (lo + n.tmod (withinM lo hi)))
def S_copsebook_Within : RSpec
  | [.int .i64 n, .int .i64 lo, .int .i64 hi] => .br (decide (withinM lo hi = 0)) .no (.ok (.int .i64 (withinZ n lo hi)) [])
  | _ => .no

/-! ### steps -/
abbrev kStep : List Kd := [.bool, .int .i64, .int .i64]
def stSum (x : IV) : Bool := (x.cell 0).toBool
def stPlace (x : IV) : Int := (x.cell 1).toInt
def stAt (x : IV) : Int := (x.cell 2).toInt
def stEq (x y : IV) : Bool := stSum x == stSum y && (stPlace x == stPlace y && stAt x == stAt y)
def stepOK (x : IV) : Bool := !(stSum x && !(stPlace x == 0 && stAt x == 0)) && (decide (0 ≤ stPlace x) && decide (stPlace x ≤ 4))
def stepsB (l : List IV) : Bool := decide (1 ≤ l.length) && (decide (l.length ≤ 65536) && l.all stepOK)
def S_cert_steps : RSpec
  | [.list true [.bool, .int .i64, .int .i64] l] => .ok (.bool (stepsB l)) []
  | _ => .no
def sameB : List IV → List IV → Bool
  | [], [] => true
  | x :: l, y :: m => stEq x y && sameB l m
  | _, _ => false
def S_copsebook_Same_apiStep : RSpec
  | [.list true [.bool, .int .i64, .int .i64] l, .list true [.bool, .int .i64, .int .i64] m] => .ok (.bool (sameB l m)) []
  | _ => .no

/-! ### verdicts -/
structure Vd where
  kind : Int
  proof : List IV
  w0 : Int
  w1 : Int
  w2 : Int
  w3 : Int
  twin : Int
  spent : Int
def Vd.none : Vd := ⟨0, [], 0, 0, 0, 0, 0, 0⟩
def Vd.V (v : Vd) : V := .agg [.int .i64 v.kind, .list true kStep v.proof, .int .i64 v.w0, .int .i64 v.w1, .int .i64 v.w2, .int .i64 v.w3, .int .i64 v.twin, .int .i64 v.spent]
def Vd.bare (v : Vd) : Bool := v.w0 == 0 && (v.w1 == 0 && (v.w2 == 0 && (v.w3 == 0 && v.twin == 0)))
def Vd.right (v : Vd) : Bool :=
  decide (0 ≤ v.spent) && (decide (v.spent ≤ 65536) &&
    (v.kind == 1 && (v.bare && stepsB v.proof) || (v.kind == 2 && v.proof.isEmpty || (v.kind == 3 || v.kind == 4) && (v.bare && v.proof.isEmpty))))
def S_cert_Right : RSpec
  | [.agg [.int .i64 k, .list true [.bool, .int .i64, .int .i64] p, .int .i64 a, .int .i64 b, .int .i64 c, .int .i64 d, .int .i64 t, .int .i64 s]] => .ok (.bool (Vd.right ⟨k, p, a, b, c, d, t, s⟩)) []
  | _ => .no

/-! ### lines -/
def numsB : ByteArray → List IV → ByteArray
  | s, [] => s
  | s, x :: l => numsB (s.push 32 ++ itoaB x.toInt) l
def lineB (s w : ByteArray) (l : List IV) : ByteArray := (numsB (s ++ w) l).push 10
def S_cert_line : RSpec
  | [.bor [.bld s], .str w, .list false [.int .i64] l] => .br (decide ((lineB s w l).size ≤ strMax)) (.ok (.tup []) [[.bld (lineB s w l)]]) .no
  | _ => .no

/-! ### words -/
def numberZ (l : List IV) (i : Int) : Int := cond (decide (ic l.length ≤ i)) 0 (atoiV (l.getD i.toNat default).toStr)
def S_cert_number : RSpec
  | [.list false [.str] l, .int .i64 i] => .br (decide (0 ≤ i)) (.ok (.int .i64 (numberZ l i)) []) .no
  | _ => .no

def mkStep (b : Bool) (p a : Int) : IV := .agg [.bool b, .int p, .int a]
abbrev w_holds : ByteArray := ⟨#[104, 111, 108, 100, 115]⟩
abbrev w_fails : ByteArray := ⟨#[102, 97, 105, 108, 115]⟩
abbrev w_unknown : ByteArray := ⟨#[117, 110, 107, 110, 111, 119, 110]⟩
abbrev w_wrong : ByteArray := ⟨#[119, 114, 111, 110, 103]⟩
abbrev w_sum : ByteArray := ⟨#[115, 117, 109]⟩
abbrev w_cut : ByteArray := ⟨#[99, 117, 116]⟩
abbrev w_nl : ByteArray := ⟨#[10]⟩
abbrev w_sp : ByteArray := ⟨#[32]⟩
abbrev w_none : ByteArray := ⟨#[]⟩

/-! ### a verdict, read -/
def firstL (s : ByteArray) : List IV := (splitL (cutL s w_nl) w_sp).map IV.str
def wordOf (l : List IV) : ByteArray := (l.getD 0 default).toStr
def readStep (s : ByteArray) : IV :=
  cond ((wordOf (firstL s)).toList == w_sum.toList) (mkStep true 0 0) (mkStep false (numberZ (firstL s) 1) (numberZ (firstL s) 2))
def readSteps : Nat → ByteArray → List IV → List IV
  | 0, _, p => p
  | n + 1, s, p => cond (!(s.toList == w_none.toList) && decide (p.length ≤ 65536)) (readSteps n (cutR s w_nl) (p ++ [readStep s])) p
def readV (s : ByteArray) : Vd :=
  cond ((wordOf (firstL s)).toList == w_holds.toList) ⟨1, readSteps ((cutR s w_nl).size + 1) (cutR s w_nl) [], 0, 0, 0, 0, 0, numberZ (firstL s) 1⟩
  (cond ((wordOf (firstL s)).toList == w_fails.toList) ⟨2, [], numberZ (firstL s) 2, numberZ (firstL s) 3, numberZ (firstL s) 4, numberZ (firstL s) 5, numberZ (firstL s) 6, numberZ (firstL s) 1⟩
  (cond ((wordOf (firstL s)).toList == w_unknown.toList) ⟨3, [], 0, 0, 0, 0, 0, numberZ (firstL s) 1⟩
  (cond ((wordOf (firstL s)).toList == w_wrong.toList) ⟨4, [], 0, 0, 0, 0, 0, numberZ (firstL s) 1⟩
  ⟨0, [], 0, 0, 0, 0, 0, numberZ (firstL s) 1⟩)))
def S_cert_read : RSpec
  | [.str s] => .br (decide (s.size < 4294967281)) (.ok (.agg [.int .i64 (readV s).kind, .list true [.bool, .int .i64, .int .i64] (readV s).proof, .int .i64 (readV s).w0, .int .i64 (readV s).w1, .int .i64 (readV s).w2, .int .i64 (readV s).w3, .int .i64 (readV s).twin, .int .i64 (readV s).spent]) []) .no
  | _ => .no

/-! ### a verdict, printed -/
def printSteps : ByteArray → List IV → ByteArray
  | s, [] => s
  | s, x :: l => printSteps (cond (stSum x) (lineB s w_sum []) (lineB s w_cut [.int (stPlace x), .int (stAt x)])) l
def printB (v : Vd) : ByteArray :=
  cond v.right
    (cond (v.kind == 1) (printSteps (lineB w_none w_holds [.int v.spent, .int (ic v.proof.length)]) v.proof)
    (cond (v.kind == 2) (lineB w_none w_fails [.int v.spent, .int v.w0, .int v.w1, .int v.w2, .int v.w3, .int v.twin])
    (cond (v.kind == 3) (lineB w_none w_unknown [.int v.spent])
    (lineB w_none w_wrong [.int v.spent]))))
    w_none
def S_cert_Print : RSpec
  | [.agg [.int .i64 k, .list true [.bool, .int .i64, .int .i64] p, .int .i64 a, .int .i64 b, .int .i64 c, .int .i64 d, .int .i64 t, .int .i64 s]] =>
    .br (decide ((printB ⟨k, p, a, b, c, d, t, s⟩).size ≤ strMax)) (.ok (.str (printB ⟨k, p, a, b, c, d, t, s⟩)) []) .no
  | _ => .no

/-! ### a text, parsed -/
def parseOK (s : ByteArray) : Bool := !(s.toList == w_none.toList) && (printB (readV s)).toList == s.toList
def parseV (s : ByteArray) : Vd := cond (parseOK s) (readV s) Vd.none
def S_cert_Parse : RSpec
  | [.str s] => .br (decide (s.size < 4294967281)) (.br (decide ((printB (readV s)).size ≤ strMax)) (.ok (.tup [.agg [.int .i64 (parseV s).kind, .list true [.bool, .int .i64, .int .i64] (parseV s).proof, .int .i64 (parseV s).w0, .int .i64 (parseV s).w1, .int .i64 (parseV s).w2, .int .i64 (parseV s).w3, .int .i64 (parseV s).twin, .int .i64 (parseV s).spent], .bool (parseOK s)]) []) .no) .no
  | _ => .no

/-! ### verdicts, compared; a verdict's first steps -/
def vdEq (a b : Vd) : Bool := a.kind == b.kind && (sameB a.proof b.proof && (a.w0 == b.w0 && (a.w1 == b.w1 && (a.w2 == b.w2 && (a.w3 == b.w3 && (a.twin == b.twin && a.spent == b.spent))))))
def S_copsekeep_Verdicts : RSpec
  | [.agg [.int .i64 k, .list true [.bool, .int .i64, .int .i64] p, .int .i64 a, .int .i64 b, .int .i64 c, .int .i64 d, .int .i64 t, .int .i64 s],
     .agg [.int .i64 k', .list true [.bool, .int .i64, .int .i64] p', .int .i64 a', .int .i64 b', .int .i64 c', .int .i64 d', .int .i64 t', .int .i64 s']] => .ok (.bool (vdEq ⟨k, p, a, b, c, d, t, s⟩ ⟨k', p', a', b', c', d', t', s'⟩)) []
  | _ => .no
def S_copselaw20_few : RSpec
  | [.agg [.int .i64 k, .list true [.bool, .int .i64, .int .i64] p, .int .i64 a, .int .i64 b, .int .i64 c, .int .i64 d, .int .i64 t, .int .i64 s]] => .ok (.agg [.int .i64 k, .list true [.bool, .int .i64, .int .i64] (p.take 40), .int .i64 a, .int .i64 b, .int .i64 c, .int .i64 d, .int .i64 t, .int .i64 s]) []
  | _ => .no

/-! ### the laws -/
def S_copselaw20_CertRuns : RSpec
  | [] => .ok (.bool true) []
  | _ => .no

def S_copselaw20_CertBack : RSpec
  | [.agg [.int .i64 _, .list true [.bool, .int .i64, .int .i64] _, .int .i64 _, .int .i64 _, .int .i64 _, .int .i64 _, .int .i64 _, .int .i64 _], .agg [.int .i64 _, .list true [.bool, .int .i64, .int .i64] _, .int .i64 _, .int .i64 _, .int .i64 _, .int .i64 _, .int .i64 _, .int .i64 _]] => .ok (.bool true) []
  | _ => .no
def S_copselaw20_CertOnly : RSpec
  | [.agg [.int .i64 _, .list true [.bool, .int .i64, .int .i64] _, .int .i64 _, .int .i64 _, .int .i64 _, .int .i64 _, .int .i64 _, .int .i64 _], .str _, .int .i64 _, .int .u8 _, .int .i64 _] => .ok (.bool true) []
  | _ => .no
def S_copselaw20_CertEdges : RSpec
  | [.int .i64 _, .int .i64 _] => .ok (.bool true) []
  | _ => .no
def S_copselaw20_CertLines : RSpec
  | [.agg [.int .i64 _, .list true [.bool, .int .i64, .int .i64] _, .int .i64 _, .int .i64 _, .int .i64 _, .int .i64 _, .int .i64 _, .int .i64 _]] => .ok (.bool true) []
  | _ => .no

end Go.FM

/-
  NORMAL FORMS: what the functions' runs come to (written by a program of this claim's own, checked by the kernel).
-/
namespace Go.FM
open Go Go.Proofs

/-! ### copse/copsebook.Within -/
def E_copsebook_Within (N : Nat) : Env := mkE [] [] 24 N

theorem nf_copsebook_Within (N : Nat) (n : Int) (lo : Int) (hi : Int) : evFun (E_copsebook_Within N) c_copsebook_Within [.tmp 6] [[.int .i64]] [(.int .i64 n), (.int .i64 lo), (.int .i64 hi)] =
  (cond (decide (IntKind.wrap IntKind.i64 (IntKind.wrap IntKind.i64 (hi - lo) + 1) = 0))
  none
  (cond (decide (Int.tmod n (IntKind.wrap IntKind.i64 (IntKind.wrap IntKind.i64 (hi - lo) + 1)) < 0))
    (some ((.int .i64 (IntKind.wrap IntKind.i64 (lo + IntKind.wrap IntKind.i64 (IntKind.wrap IntKind.i64 (IntKind.wrap IntKind.i64 (Int.tmod n (IntKind.wrap IntKind.i64 (IntKind.wrap IntKind.i64 (hi - lo) + 1)) + hi) - lo) + 1)))), []))
    (some ((.int .i64 (IntKind.wrap IntKind.i64 (lo + Int.tmod n (IntKind.wrap IntKind.i64 (IntKind.wrap IntKind.i64 (hi - lo) + 1))))), [])))) := by kernel_rfl

/-! ### copse/cert.steps -/
def E_cert_steps (N : Nat) : Env := mkE [] [(4, ⟨[2, 13, 14, 15], [], []⟩)] 37 N

theorem nf_cert_steps (N : Nat) (l : List IV) : evFun (E_cert_steps N) c_cert_steps [.tmp 2] [[.bool]] [(.list true [.bool, .int .i64, .int .i64] l)] =
  (cond (decide (ic (List.length l) < 1))
  (some ((.bool false), []))
  (cond (decide (ic (List.length l) > 65536))
    (some ((.bool false), []))
    (lpE (E_cert_steps N) (subC c_cert_steps [1, 1, 0, 1, 0, 0]) ⟨[2, 13, 14, 15], [], []⟩ N ⟨[(2, (.bool false)), (13, (.list true [.bool, (.int .i64), (.int .i64)] l)), (14, (.int .i64 (ic (List.length l)))), (15, (.int .i64 0))], []⟩ (kBlock 0 (kSq (E_cert_steps N) (subC c_cert_steps [1, 1, 1]) (outT (E_cert_steps N) none [(ResultVar.tmp 2)] [[.bool]])))))) := by kernel_rfl

theorem st_cert_steps_1 (N : Nat) (b2 : Bool) (l13 : List IV) (x14 : Int) (x15 : Int) (again : St → Res) (k : Out → St → Res) : rnd (E_cert_steps N) (subC c_cert_steps [1, 1, 0, 1, 0, 0])
    ⟨[(2, (.bool b2)), (13, (.list true [.bool, (.int .i64), (.int .i64)] l13)), (14, (.int .i64 x14)), (15, (.int .i64 x15))], []⟩
    (kLoop again ⟨[2, 13, 14, 15], [], []⟩ k) =
  (cond (decide (x15 < x14))
  (cond (decide (0 ≤ x15) && decide (x15 < ic (List.length l13)))
    (cond (IV.toBool (IV.cell (List.getD l13 (Int.toNat x15) default) 0))
      (cond (!(IV.toBool (IV.cell (List.getD l13 (Int.toNat x15) default) 0) == true && (IV.toInt (IV.cell (List.getD l13 (Int.toNat x15) default) 1) == 0 && (IV.toInt (IV.cell (List.getD l13 (Int.toNat x15) default) 2) == 0 && true))))
        (k .ret ⟨[(2, (.bool false)), (13, (.list true [.bool, (.int .i64), (.int .i64)] l13)), (14, (.int .i64 x14)), (15, (.int .i64 x15))], []⟩)
        (cond (decide (IV.toInt (IV.cell (List.getD l13 (Int.toNat x15) default) 1) < 0))
          (k .ret ⟨[(2, (.bool false)), (13, (.list true [.bool, (.int .i64), (.int .i64)] l13)), (14, (.int .i64 x14)), (15, (.int .i64 x15))], []⟩)
          (cond (decide (IV.toInt (IV.cell (List.getD l13 (Int.toNat x15) default) 1) > 4))
            (k .ret ⟨[(2, (.bool false)), (13, (.list true [.bool, (.int .i64), (.int .i64)] l13)), (14, (.int .i64 x14)), (15, (.int .i64 x15))], []⟩)
            (again ⟨[(2, (.bool b2)), (13, (.list true [.bool, (.int .i64), (.int .i64)] l13)), (14, (.int .i64 x14)), (15, (.int .i64 (IntKind.wrap IntKind.i64 (x15 + 1))))], []⟩))))
      (cond (decide (IV.toInt (IV.cell (List.getD l13 (Int.toNat x15) default) 1) < 0))
        (k .ret ⟨[(2, (.bool false)), (13, (.list true [.bool, (.int .i64), (.int .i64)] l13)), (14, (.int .i64 x14)), (15, (.int .i64 x15))], []⟩)
        (cond (decide (IV.toInt (IV.cell (List.getD l13 (Int.toNat x15) default) 1) > 4))
          (k .ret ⟨[(2, (.bool false)), (13, (.list true [.bool, (.int .i64), (.int .i64)] l13)), (14, (.int .i64 x14)), (15, (.int .i64 x15))], []⟩)
          (again ⟨[(2, (.bool b2)), (13, (.list true [.bool, (.int .i64), (.int .i64)] l13)), (14, (.int .i64 x14)), (15, (.int .i64 (IntKind.wrap IntKind.i64 (x15 + 1))))], []⟩))))
    none)
  (k (.exit 0) ⟨[(2, (.bool b2)), (13, (.list true [.bool, (.int .i64), (.int .i64)] l13)), (14, (.int .i64 x14)), (15, (.int .i64 x15))], []⟩)) := by kernel_rfl

theorem ex_cert_steps_1_1 (N : Nat) (b2 : Bool) (l13 : List IV) (x14 : Int) (x15 : Int) : (kBlock 0 (kSq (E_cert_steps N) (subC c_cert_steps [1, 1, 1]) (outT (E_cert_steps N) none [(ResultVar.tmp 2)] [[.bool]]))) (.exit 0)
    ⟨[(2, (.bool b2)), (13, (.list true [.bool, (.int .i64), (.int .i64)] l13)), (14, (.int .i64 x14)), (15, (.int .i64 x15))], []⟩ =
  (some ((.bool true), [])) := by kernel_rfl

theorem ex_cert_steps_1_2 (N : Nat) (b2 : Bool) (l13 : List IV) (x14 : Int) (x15 : Int) : (kBlock 0 (kSq (E_cert_steps N) (subC c_cert_steps [1, 1, 1]) (outT (E_cert_steps N) none [(ResultVar.tmp 2)] [[.bool]]))) .ret
    ⟨[(2, (.bool b2)), (13, (.list true [.bool, (.int .i64), (.int .i64)] l13)), (14, (.int .i64 x14)), (15, (.int .i64 x15))], []⟩ =
  (some ((.bool b2), [])) := by kernel_rfl

/-! ### copse/copsebook.Same<copse/api.Step> -/
def E_copsebook_Same_apiStep (N : Nat) : Env := mkE [] [(4, ⟨[0, 1, 4, 5], [], []⟩)] 26 N

theorem nf_copsebook_Same_apiStep (N : Nat) (a : List IV) (b : List IV) : evFun (E_copsebook_Same_apiStep N) c_copsebook_Same_apiStep [.tmp 4] [[.bool]] [(.list true [.bool, .int .i64, .int .i64] a), (.list true [.bool, .int .i64, .int .i64] b)] =
  (cond (ic (List.length a) != ic (List.length b))
  (some ((.bool false), []))
  (lpE (E_copsebook_Same_apiStep N) (subC c_copsebook_Same_apiStep [1, 1, 0, 1, 0, 0]) ⟨[0, 1, 4, 5], [], []⟩ N ⟨[(0, (.list true [.bool, (.int .i64), (.int .i64)] a)), (1, (.list true [.bool, (.int .i64), (.int .i64)] b)), (4, (.bool false)), (5, (.int .i64 0))], []⟩ (kBlock 0 (kSq (E_copsebook_Same_apiStep N) (subC c_copsebook_Same_apiStep [1, 1, 1]) (outT (E_copsebook_Same_apiStep N) none [(ResultVar.tmp 4)] [[.bool]]))))) := by kernel_rfl

theorem st_copsebook_Same_apiStep_1 (N : Nat) (l0 : List IV) (l1 : List IV) (b4 : Bool) (x5 : Int) (again : St → Res) (k : Out → St → Res) : rnd (E_copsebook_Same_apiStep N) (subC c_copsebook_Same_apiStep [1, 1, 0, 1, 0, 0])
    ⟨[(0, (.list true [.bool, (.int .i64), (.int .i64)] l0)), (1, (.list true [.bool, (.int .i64), (.int .i64)] l1)), (4, (.bool b4)), (5, (.int .i64 x5))], []⟩
    (kLoop again ⟨[0, 1, 4, 5], [], []⟩ k) =
  (cond (decide (x5 < ic (List.length l0)))
  (cond (decide (0 ≤ x5) && decide (x5 < ic (List.length l0)))
    (cond (decide (0 ≤ x5) && decide (x5 < ic (List.length l1)))
      (cond (!(IV.toBool (IV.cell (List.getD l0 (Int.toNat x5) default) 0) == IV.toBool (IV.cell (List.getD l1 (Int.toNat x5) default) 0) && (IV.toInt (IV.cell (List.getD l0 (Int.toNat x5) default) 1) == IV.toInt (IV.cell (List.getD l1 (Int.toNat x5) default) 1) && (IV.toInt (IV.cell (List.getD l0 (Int.toNat x5) default) 2) == IV.toInt (IV.cell (List.getD l1 (Int.toNat x5) default) 2) && true))))
        (k .ret ⟨[(0, (.list true [.bool, (.int .i64), (.int .i64)] l0)), (1, (.list true [.bool, (.int .i64), (.int .i64)] l1)), (4, (.bool false)), (5, (.int .i64 x5))], []⟩)
        (again ⟨[(0, (.list true [.bool, (.int .i64), (.int .i64)] l0)), (1, (.list true [.bool, (.int .i64), (.int .i64)] l1)), (4, (.bool b4)), (5, (.int .i64 (IntKind.wrap IntKind.i64 (x5 + 1))))], []⟩))
      none)
    none)
  (k (.exit 0) ⟨[(0, (.list true [.bool, (.int .i64), (.int .i64)] l0)), (1, (.list true [.bool, (.int .i64), (.int .i64)] l1)), (4, (.bool b4)), (5, (.int .i64 x5))], []⟩)) := by kernel_rfl

theorem ex_copsebook_Same_apiStep_1_1 (N : Nat) (l0 : List IV) (l1 : List IV) (b4 : Bool) (x5 : Int) : (kBlock 0 (kSq (E_copsebook_Same_apiStep N) (subC c_copsebook_Same_apiStep [1, 1, 1]) (outT (E_copsebook_Same_apiStep N) none [(ResultVar.tmp 4)] [[.bool]]))) (.exit 0)
    ⟨[(0, (.list true [.bool, (.int .i64), (.int .i64)] l0)), (1, (.list true [.bool, (.int .i64), (.int .i64)] l1)), (4, (.bool b4)), (5, (.int .i64 x5))], []⟩ =
  (some ((.bool true), [])) := by kernel_rfl

theorem ex_copsebook_Same_apiStep_1_2 (N : Nat) (l0 : List IV) (l1 : List IV) (b4 : Bool) (x5 : Int) : (kBlock 0 (kSq (E_copsebook_Same_apiStep N) (subC c_copsebook_Same_apiStep [1, 1, 1]) (outT (E_copsebook_Same_apiStep N) none [(ResultVar.tmp 4)] [[.bool]]))) .ret
    ⟨[(0, (.list true [.bool, (.int .i64), (.int .i64)] l0)), (1, (.list true [.bool, (.int .i64), (.int .i64)] l1)), (4, (.bool b4)), (5, (.int .i64 x5))], []⟩ =
  (some ((.bool b4), [])) := by kernel_rfl

/-! ### copse/cert.Right -/
def E_cert_Right (N : Nat) : Env := mkE [(18, S_cert_steps)] [] 47 N

theorem nf_cert_Right (N : Nat) (v_Kind : Int) (v_Proof : List IV) (v_Witness_0 : Int) (v_Witness_1 : Int) (v_Witness_2 : Int) (v_Witness_3 : Int) (v_Twin : Int) (v_Spent : Int) : evFun (E_cert_Right N) c_cert_Right [.tmp 2] [[.bool]] [(.agg [(.int .i64 v_Kind), (.list true [.bool, .int .i64, .int .i64] v_Proof), (.int .i64 v_Witness_0), (.int .i64 v_Witness_1), (.int .i64 v_Witness_2), (.int .i64 v_Witness_3), (.int .i64 v_Twin), (.int .i64 v_Spent)])] =
  (cond (decide (v_Spent < 0))
  (some ((.bool false), []))
  (cond (decide (v_Spent > 65536))
    (some ((.bool false), []))
    (cond (v_Witness_0 == 0 && (v_Witness_1 == 0 && (v_Witness_2 == 0 && (v_Witness_3 == 0 && true))))
      (cond (v_Kind == 1)
        (cond (v_Twin == 0)
          (some ((.bool (stepsB v_Proof)), []))
          (some ((.bool false), [])))
        (cond (v_Kind == 2)
          (some ((.bool (ic (List.length v_Proof) == 0)), []))
          (cond (v_Kind == 3)
            (cond (v_Twin == 0)
              (some ((.bool (ic (List.length v_Proof) == 0)), []))
              (some ((.bool false), [])))
            (cond (v_Kind == 4)
              (cond (v_Twin == 0)
                (some ((.bool (ic (List.length v_Proof) == 0)), []))
                (some ((.bool false), [])))
              (some ((.bool false), []))))))
      (cond (v_Kind == 1)
        (some ((.bool false), []))
        (cond (v_Kind == 2)
          (some ((.bool (ic (List.length v_Proof) == 0)), []))
          (cond (v_Kind == 3)
            (some ((.bool false), []))
            (cond (v_Kind == 4)
              (some ((.bool false), []))
              (some ((.bool false), []))))))))) := by kernel_rfl

/-! ### copse/cert.line -/
def E_cert_line (N : Nat) : Env := mkE [(22, S_strings_Builder_WriteString), (23, S_strings_Builder_WriteByte), (24, S_strconv_Itoa)] [(2, ⟨[0, 11, 12, 13], [900000], []⟩)] 26 N

theorem nf_cert_line (N : Nat) (b : ByteArray) (word : ByteArray) (l : List IV) : evFun (E_cert_line N) c_cert_line [] [] [(.bor [.bld b]), (.str word), (.list false [.int .i64] l)] =
  (cond (decide (ByteArray.size b + ByteArray.size word ≤ strMax))
  (lpE (E_cert_line N) (subC c_cert_line [1, 0, 1, 0, 0]) ⟨[0, 11, 12, 13], [900000], []⟩ N ⟨[(0, (.ptr 900000 0 0)), (11, (.list false [(.int .i64)] l)), (12, (.int .i64 (ic (List.length l)))), (13, (.int .i64 0))], [(900000, (some (.bld (b ++ word))))]⟩ (kBlock 0 (kSq (E_cert_line N) (subC c_cert_line [1, 1]) (outT (E_cert_line N) (some [(.bld b)]) [] []))))
  none) := by kernel_rfl

theorem st_cert_line_1 (N : Nat) (l11 : List IV) (x12 : Int) (x13 : Int) (so900000 : ByteArray) (again : St → Res) (k : Out → St → Res) : rnd (E_cert_line N) (subC c_cert_line [1, 0, 1, 0, 0])
    ⟨[(0, (.ptr 900000 0 0)), (11, (.list false [(.int .i64)] l11)), (12, (.int .i64 x12)), (13, (.int .i64 x13))], [(900000, (some (.bld so900000)))]⟩
    (kLoop again ⟨[0, 11, 12, 13], [900000], []⟩ k) =
  (cond (decide (x13 < x12))
  (cond (decide (0 ≤ x13) && decide (x13 < ic (List.length l11)))
    (cond (decide (ByteArray.size so900000 + 1 ≤ strMax))
      (cond (decide (ByteArray.size (ByteArray.push so900000 (byteOf 32)) + ByteArray.size (itoaB (IV.toInt (List.getD l11 (Int.toNat x13) default))) ≤ strMax))
        (again ⟨[(0, (.ptr 900000 0 0)), (11, (.list false [(.int .i64)] l11)), (12, (.int .i64 x12)), (13, (.int .i64 (IntKind.wrap IntKind.i64 (x13 + 1))))], [(900000, (some (.bld (ByteArray.push so900000 (byteOf 32) ++ itoaB (IV.toInt (List.getD l11 (Int.toNat x13) default))))))]⟩)
        none)
      none)
    none)
  (k (.exit 0) ⟨[(0, (.ptr 900000 0 0)), (11, (.list false [(.int .i64)] l11)), (12, (.int .i64 x12)), (13, (.int .i64 x13))], [(900000, (some (.bld so900000)))]⟩)) := by kernel_rfl

theorem ex_cert_line_1_1 (N : Nat) (b : ByteArray) (l11 : List IV) (x12 : Int) (x13 : Int) (so900000 : ByteArray) : (kBlock 0 (kSq (E_cert_line N) (subC c_cert_line [1, 1]) (outT (E_cert_line N) (some [(.bld b)]) [] []))) (.exit 0)
    ⟨[(0, (.ptr 900000 0 0)), (11, (.list false [(.int .i64)] l11)), (12, (.int .i64 x12)), (13, (.int .i64 x13))], [(900000, (some (.bld so900000)))]⟩ =
  (cond (decide (ByteArray.size so900000 + 1 ≤ strMax))
  (some ((.tup []), [[(.bld (ByteArray.push so900000 (byteOf 10)))]]))
  none) := by kernel_rfl

/-! ### copse/cert.number -/
def E_cert_number (N : Nat) : Env := mkE [(27, S_strconv_Atoi)] [] 20 N

theorem nf_cert_number (N : Nat) (l : List IV) (i : Int) : evFun (E_cert_number N) c_cert_number [.tmp 4] [[.int .i64]] [(.list false [.str] l), (.int .i64 i)] =
  (cond (decide (i ≥ ic (List.length l)))
  (some ((.int .i64 0), []))
  (cond (decide (0 ≤ i) && decide (i < ic (List.length l)))
    (some ((.int .i64 (atoiV (IV.toStr (List.getD l (Int.toNat i) default)))), []))
    none)) := by kernel_rfl

end Go.FM

/-
  cert's FUNCTIONS COME TO WHAT IS SAID (1).
-/
namespace Go.FM
open Go Go.Proofs

theorem snd_copsebook_Within : SndR PR B0 13 S_copsebook_Within := by
  refine snd_mk [] [] S_copsebook_Within [[.int .i64]] Tryd.func13 h_copsebook_Within trivial ?_
  intro vs r hwf h
  unfold S_copsebook_Within at h
  split at h
  · rename_i n lo hi
    refine ⟨0, ?_⟩
    rw [← h]
    refine (nf_copsebook_Within 0 n lo hi).trans ?_
    simp only [R.get_br, R.get_ok, R.get_no]
    unfold withinZ withinM i64w
    cases decide (IntKind.wrap IntKind.i64 (IntKind.wrap IntKind.i64 (hi - lo) + 1) = 0) <;> cases decide (Int.tmod n (IntKind.wrap IntKind.i64 (IntKind.wrap IntKind.i64 (hi - lo) + 1)) < 0) <;> rfl
  · simp [R.get] at h

/-! ### steps -/
theorem steps_run (N : Nat) (l : List IV) (K : Out → St → Res) (hl : l.length ≤ 65536)
    (hx : ∀ b2 x14 x15, K (.exit 0) ⟨[(2, (.bool b2)), (13, (.list true [.bool, (.int .i64), (.int .i64)] l)), (14, (.int .i64 x14)), (15, (.int .i64 x15))], []⟩ = some (.bool true, []))
    (hr : ∀ b2 x14 x15, K .ret ⟨[(2, (.bool b2)), (13, (.list true [.bool, (.int .i64), (.int .i64)] l)), (14, (.int .i64 x14)), (15, (.int .i64 x15))], []⟩ = some (.bool b2, [])) :
    ∀ (d i n : Nat), i + d = l.length → d < n → lpE (E_cert_steps N) (subC c_cert_steps [1, 1, 0, 1, 0, 0]) ⟨[2, 13, 14, 15], [], []⟩ n ⟨[(2, (.bool false)), (13, (.list true [.bool, (.int .i64), (.int .i64)] l)), (14, (.int .i64 (ic l.length))), (15, (.int .i64 (i : Int)))], []⟩ K = some (.bool ((l.drop i).all stepOK), [])
  | 0, i, n + 1, hd, _ => by
    rw [lpE_succ, st_cert_steps_1]
    rw [idx_ge (by omega), List.drop_of_length_le (by omega)]
    simp only [cond_false, List.all_nil]
    exact hx ..
  | d + 1, i, n + 1, hd, hn => by
    rw [lpE_succ, st_cert_steps_1]
    have hi : i < l.length := by omega
    rw [idx_lt hi, idx_0, succ_w (by omega), getD_i hi, List.drop_eq_getElem_cons hi, List.all_cons]
    generalize l[i] = x
    have ih := steps_run N l K hl hx hr d (i + 1) n (by omega) (by omega)
    rw [ih]
    generalize (List.drop (i + 1) l).all stepOK = rest
    unfold stepOK stSum stPlace stAt
    simp only [cond_true, Bool.and_true, dec_gt, dec_le_not, beq_dec]
    cases hs : IV.toBool (IV.cell x 0) <;> cases hp0 : decide (IV.toInt (IV.cell x 1) < 0) <;> cases hp4 : decide (4 < IV.toInt (IV.cell x 1)) <;> cases hz : decide (IV.toInt (IV.cell x 1) = 0) <;> cases ha : decide (IV.toInt (IV.cell x 2) = 0) <;>
      (simp only [cond_true, cond_false, Bool.not_true, Bool.not_false, Bool.and_true, Bool.and_false, Bool.true_and, Bool.false_and, beq_self_eq_true, hr]
       try rfl)
  | 0, _, 0, _, h => by omega
  | _ + 1, _, 0, _, h => by omega

theorem snd_cert_steps : SndR PR B0 18 S_cert_steps := by
  refine snd_mk [] [(4, ⟨[2, 13, 14, 15], [], []⟩)] S_cert_steps [[.bool]] Tryd.func18 h_cert_steps trivial ?_
  intro vs r hwf h
  unfold S_cert_steps at h
  split at h
  · rename_i l
    refine ⟨l.length + 1, ?_⟩
    rw [← h]
    refine (nf_cert_steps (l.length + 1) l).trans ?_
    simp only [R.get_ok]
    unfold stepsB
    by_cases h1 : l.length < 1
    · have e1 : decide (ic l.length < 1) = true := decide_eq_true (by show ((l.length : Nat) : Int) < 1; omega)
      have e2 : decide (1 ≤ l.length) = false := decide_eq_false (by omega)
      rw [e1, e2]; rfl
    · have e1 : decide (ic l.length < 1) = false := decide_eq_false (by show ¬ ((l.length : Nat) : Int) < 1; omega)
      have e2 : decide (1 ≤ l.length) = true := decide_eq_true (by omega)
      rw [e1, e2]
      simp only [cond_false, Bool.true_and]
      by_cases h3 : l.length ≤ 65536
      · have e3 : decide (ic l.length > 65536) = false := decide_eq_false (by show ¬ ((l.length : Nat) : Int) > 65536; omega)
        have e4 : decide (l.length ≤ 65536) = true := decide_eq_true h3
        rw [e3, e4]
        simp only [cond_false, Bool.true_and]
        have := steps_run (l.length + 1) l _ h3 (fun b2 x14 x15 => ex_cert_steps_1_1 (l.length + 1) b2 l x14 x15) (fun b2 x14 x15 => ex_cert_steps_1_2 (l.length + 1) b2 l x14 x15) l.length 0 (l.length + 1) (by omega) (by omega)
        rw [List.drop_zero] at this
        exact this
      · have e3 : decide (ic l.length > 65536) = true := decide_eq_true (by show ((l.length : Nat) : Int) > 65536; omega)
        have e4 : decide (l.length ≤ 65536) = false := decide_eq_false h3
        rw [e3, e4]; rfl
  · simp [R.get] at h

/-! ### lists of steps -/
theorem same_run (N : Nat) (l m : List IV) (K : Out → St → Res) (hlm : l.length = m.length) (hl : l.length ≤ strMax)
    (hx : ∀ b4 x5, K (.exit 0) ⟨[(0, (.list true [.bool, (.int .i64), (.int .i64)] l)), (1, (.list true [.bool, (.int .i64), (.int .i64)] m)), (4, (.bool b4)), (5, (.int .i64 x5))], []⟩ = some (.bool true, []))
    (hr : ∀ b4 x5, K .ret ⟨[(0, (.list true [.bool, (.int .i64), (.int .i64)] l)), (1, (.list true [.bool, (.int .i64), (.int .i64)] m)), (4, (.bool b4)), (5, (.int .i64 x5))], []⟩ = some (.bool b4, [])) :
    ∀ (d i n : Nat), i + d = l.length → d < n → lpE (E_copsebook_Same_apiStep N) (subC c_copsebook_Same_apiStep [1, 1, 0, 1, 0, 0]) ⟨[0, 1, 4, 5], [], []⟩ n ⟨[(0, (.list true [.bool, (.int .i64), (.int .i64)] l)), (1, (.list true [.bool, (.int .i64), (.int .i64)] m)), (4, (.bool false)), (5, (.int .i64 (i : Int)))], []⟩ K = some (.bool (sameB (l.drop i) (m.drop i)), [])
  | 0, i, n + 1, hd, _ => by
    rw [lpE_succ, st_copsebook_Same_apiStep_1, idx_ge (by omega), List.drop_of_length_le (by omega), List.drop_of_length_le (by omega)]
    simp only [cond_false, sameB]
    exact hx ..
  | d + 1, i, n + 1, hd, hn => by
    have hi : i < l.length := by omega
    have hm : i < m.length := by omega
    unfold strMax at hl
    rw [lpE_succ, st_copsebook_Same_apiStep_1, idx_lt hi, idx_lt hm, idx_0, succ_w (by omega), getD_i hi, getD_i hm, List.drop_eq_getElem_cons hi, List.drop_eq_getElem_cons hm]
    generalize l[i] = x
    generalize m[i] = y
    have ih := same_run N l m K hlm (by unfold strMax; omega) hx hr d (i + 1) n (by omega) (by omega)
    rw [ih]
    simp only [sameB]
    generalize sameB (List.drop (i + 1) l) (List.drop (i + 1) m) = rest
    unfold stEq stSum stPlace stAt
    simp only [cond_true, Bool.and_true]
    cases IV.toBool (IV.cell x 0) == IV.toBool (IV.cell y 0) <;> cases IV.toInt (IV.cell x 1) == IV.toInt (IV.cell y 1) <;> cases IV.toInt (IV.cell x 2) == IV.toInt (IV.cell y 2) <;>
      (simp only [cond_true, cond_false, Bool.not_true, Bool.not_false, Bool.and_true, Bool.and_false, Bool.true_and, Bool.false_and, hr]
       try rfl)
  | 0, _, 0, _, h => by omega
  | _ + 1, _, 0, _, h => by omega

theorem sameB_length : ∀ {l m : List IV}, sameB l m = true → l.length = m.length
  | [], [], _ => rfl
  | [], _ :: _, h => by simp [sameB] at h
  | _ :: _, [], h => by simp [sameB] at h
  | x :: l, y :: m, h => by
    simp only [sameB, Bool.and_eq_true] at h
    simp [sameB_length h.2]

theorem snd_copsebook_Same_apiStep : SndR PR B0 17 S_copsebook_Same_apiStep := by
  refine snd_mk [] [(4, ⟨[0, 1, 4, 5], [], []⟩)] S_copsebook_Same_apiStep [[.bool]] Tryd.func17 h_copsebook_Same_apiStep trivial ?_
  intro vs r hwf h
  unfold S_copsebook_Same_apiStep at h
  split at h
  · rename_i l m
    refine ⟨l.length + 1, ?_⟩
    rw [← h]
    refine (nf_copsebook_Same_apiStep (l.length + 1) l m).trans ?_
    simp only [R.get_ok]
    have hl := (hwf (by simp [oneBor])).1
    simp only [wfV, wfL] at hl
    by_cases hlm : l.length = m.length
    · have e : (ic l.length != ic m.length) = false := by simp [ic, hlm]
      rw [e]
      simp only [cond_false]
      have := same_run (l.length + 1) l m _ hlm hl.1 (fun b4 x5 => ex_copsebook_Same_apiStep_1_1 (l.length + 1) l m b4 x5) (fun b4 x5 => ex_copsebook_Same_apiStep_1_2 (l.length + 1) l m b4 x5) l.length 0 (l.length + 1) (by omega) (by omega)
      rw [List.drop_zero, List.drop_zero] at this
      exact this
    · have e : (ic l.length != ic m.length) = true := by simp [ic]; omega
      rw [e]
      have : sameB l m = false := by
        cases hs : sameB l m with
        | false => rfl
        | true => exact absurd (sameB_length hs) hlm
      rw [this]
      rfl
  · simp [R.get] at h

end Go.FM

/-
  cert's FUNCTIONS COME TO WHAT IS SAID (2): Right, line, number.
-/
namespace Go.FM
open Go Go.Proofs

theorem len_empty (l : List IV) : (ic l.length == 0) = l.isEmpty := by
  cases l with
  | nil => rfl
  | cons a l =>
    simp only [ic, List.isEmpty_cons, List.length_cons]
    rw [beq_eq_false_iff_ne]
    omega

theorem snd_cert_Right : SndR PR B0 12 S_cert_Right := by
  refine snd_mk [(18, S_cert_steps)] [] S_cert_Right [[.bool]] Tryd.func12 h_cert_Right ⟨snd_cert_steps, trivial⟩ ?_
  intro vs r hwf h
  unfold S_cert_Right at h
  split at h
  · rename_i k p a b c d t s
    refine ⟨0, ?_⟩
    rw [← h]
    refine (nf_cert_Right 0 k p a b c d t s).trans ?_
    simp only [R.get_ok, len_empty]
    unfold Vd.right Vd.bare
    simp only [dec_gt, dec_le_not, Bool.and_true]
    generalize stepsB p = sp
    generalize p.isEmpty = pe
    cases decide (s < 0) <;> cases decide (65536 < s) <;> simp only [cond_true, cond_false, Bool.not_true, Bool.not_false, Bool.true_and, Bool.false_and]
    by_cases k1 : k = 1
    · subst k1
      cases a == 0 <;> cases b == 0 <;> cases c == 0 <;> cases d == 0 <;> cases t == 0 <;> cases sp <;> cases pe <;> rfl
    by_cases k2 : k = 2
    · subst k2
      cases a == 0 <;> cases b == 0 <;> cases c == 0 <;> cases d == 0 <;> cases t == 0 <;> cases sp <;> cases pe <;> rfl
    by_cases k3 : k = 3
    · subst k3
      cases a == 0 <;> cases b == 0 <;> cases c == 0 <;> cases d == 0 <;> cases t == 0 <;> cases sp <;> cases pe <;> rfl
    by_cases k4 : k = 4
    · subst k4
      cases a == 0 <;> cases b == 0 <;> cases c == 0 <;> cases d == 0 <;> cases t == 0 <;> cases sp <;> cases pe <;> rfl
    simp only [beq_eq_false_iff_ne.2 k1, beq_eq_false_iff_ne.2 k2, beq_eq_false_iff_ne.2 k3, beq_eq_false_iff_ne.2 k4, cond_false, Bool.false_and, Bool.or_false, Bool.cond_self]
  · simp [R.get] at h

/-! ### lines -/
theorem numsB_size : ∀ (l : List IV) (s : ByteArray), s.size ≤ (numsB s l).size
  | [], s => Nat.le_refl _
  | x :: l, s => by
    simp only [numsB]
    refine Nat.le_trans ?_ (numsB_size l _)
    simp only [ByteArray.size_append, ByteArray.size_push]
    omega

theorem line_run (N : Nat) (l : List IV) (K : Out → St → Res) (hl : l.length ≤ strMax) (z : Res)
    (hx : ∀ s x12 x13, s = numsB s [] → K (.exit 0) ⟨[(0, (.ptr 900000 0 0)), (11, (.list false [(.int .i64)] l)), (12, (.int .i64 x12)), (13, (.int .i64 x13))], [(900000, (some (.bld s)))]⟩ = cond (decide (s.size + 1 ≤ strMax)) (some (.tup [], [[.bld (s.push (byteOf 10))]])) none) :
    ∀ (d i n : Nat) (s : ByteArray), i + d = l.length → d < n → (numsB s (l.drop i)).size ≤ strMax → lpE (E_cert_line N) (subC c_cert_line [1, 0, 1, 0, 0]) ⟨[0, 11, 12, 13], [900000], []⟩ n ⟨[(0, (.ptr 900000 0 0)), (11, (.list false [(.int .i64)] l)), (12, (.int .i64 (ic l.length))), (13, (.int .i64 (i : Int)))], [(900000, (some (.bld s)))]⟩ K =
      cond (decide ((numsB s (l.drop i)).size + 1 ≤ strMax)) (some (.tup [], [[.bld ((numsB s (l.drop i)).push (byteOf 10))]])) none
  | 0, i, n + 1, s, hd, _, _ => by
    rw [lpE_succ, st_cert_line_1, idx_ge (by omega), List.drop_of_length_le (by omega)]
    simp only [cond_false, numsB]
    exact hx s _ _ rfl
  | d + 1, i, n + 1, s, hd, hn, hs => by
    have hi : i < l.length := by omega
    unfold strMax at hl
    rw [lpE_succ, st_cert_line_1, idx_lt hi, idx_0, succ_w (by omega), getD_i hi]
    rw [List.drop_eq_getElem_cons hi] at hs ⊢
    simp only [numsB] at hs ⊢
    have e32 : byteOf 32 = 32 := rfl
    rw [e32]
    have hsz := numsB_size (l.drop (i + 1)) (s.push 32 ++ itoaB l[i].toInt)
    have h1 : decide (s.size + 1 ≤ strMax) = true := decide_eq_true (by
      simp only [ByteArray.size_append, ByteArray.size_push] at hsz
      omega)
    have h2 : decide ((s.push 32).size + (itoaB l[i].toInt).size ≤ strMax) = true := decide_eq_true (by
      simp only [ByteArray.size_append] at hsz
      omega)
    rw [h1, h2]
    simp only [cond_true, Bool.and_true]
    exact line_run N l K (by unfold strMax; omega) z hx d (i + 1) n _ (by omega) (by omega) hs
  | 0, _, 0, _, _, h, _ => by omega
  | _ + 1, _, 0, _, _, h, _ => by omega

theorem snd_cert_line : SndR PR B0 15 S_cert_line := by
  refine snd_mk [(22, S_strings_Builder_WriteString), (23, S_strings_Builder_WriteByte), (24, S_strconv_Itoa)] [(2, ⟨[0, 11, 12, 13], [900000], []⟩)] S_cert_line [] Tryd.func15 h_cert_line ⟨snd_strings_Builder_WriteString, snd_strings_Builder_WriteByte, snd_strconv_Itoa, trivial⟩ ?_
  intro vs r hwf h
  unfold S_cert_line at h
  split at h
  · rename_i s w l
    refine ⟨l.length + 1, ?_⟩
    rw [← h]
    refine (nf_cert_line (l.length + 1) s w l).trans ?_
    simp only [R.get_br, R.get_ok, R.get_no]
    have hwf := hwf (by simp [oneBor, borOf])
    simp only [wfVs, wfV, wfLs, wfL] at hwf
    rw [R.get_br, R.get_ok, R.get_no] at h
    cases hc : decide ((lineB s w l).size ≤ strMax) with
    | false => rw [hc] at h; cases h
    | true =>
      have hle := of_decide_eq_true hc
      unfold lineB at hle ⊢
      rw [ByteArray.size_push] at hle
      have h1 := numsB_size l (s ++ w)
      have e1 : decide (s.size + w.size ≤ strMax) = true := decide_eq_true (by rw [ByteArray.size_append] at h1; omega)
      rw [e1]
      simp only [cond_true]
      have := line_run (l.length + 1) l _ hwf.2.2.1.1 none (fun s' x12 x13 _ => ex_cert_line_1_1 (l.length + 1) s l x12 x13 s') l.length 0 (l.length + 1) (s ++ w) (by omega) (by omega) (by rw [List.drop_zero]; omega)
      rw [List.drop_zero] at this
      refine this.trans ?_
      rw [decide_eq_true hle]
      rfl
  · simp [R.get] at h

/-! ### words -/
theorem snd_cert_number : SndR PR B0 21 S_cert_number := by
  refine snd_mk [(27, S_strconv_Atoi)] [] S_cert_number [[.int .i64]] Tryd.func21 h_cert_number ⟨snd_strconv_Atoi, trivial⟩ ?_
  intro vs r hwf h
  unfold S_cert_number at h
  split at h
  · rename_i l i
    refine ⟨0, ?_⟩
    rw [← h]
    refine (nf_cert_number 0 l i).trans ?_
    simp only [R.get_br, R.get_ok, R.get_no]
    unfold numberZ
    rw [R.get_br, R.get_ok, R.get_no] at h
    cases hc : decide (0 ≤ i) with
    | false => rw [hc] at h; cases h
    | true =>
      have h0 := of_decide_eq_true hc
      simp only [cond_true, Bool.true_and]
      have e : decide (i ≥ ic l.length) = decide (ic l.length ≤ i) := rfl
      rw [e]
      cases h2 : decide (ic l.length ≤ i) with
      | true => rfl
      | false =>
        have h3 := of_decide_eq_false h2
        rw [decide_eq_true (show i < ic l.length by omega)]
        rfl
  · simp [R.get] at h

end Go.FM

/-
  NORMAL FORMS: what the functions' runs come to (written by a program of this claim's own, checked by the kernel).
-/
namespace Go.FM
open Go Go.Proofs

/-! ### copse/cert.read -/
def E_cert_read (N : Nat) : Env := mkE [(19, S_strings_Cut), (20, S_strings_Split), (21, S_cert_number)] [(7, ⟨[2, 4, 7], [2, 7, 51], [⟨.cell 7 1, 51, 23, true, [.bool, .int .i64, .int .i64]⟩]⟩), (16, ⟨[2, 6, 7, 66], [2, 7], []⟩)] 87 N

theorem nf_cert_read (N : Nat) (s : ByteArray) : evFun (E_cert_read N) c_cert_read [.cell 2 28] [[.int .i64, .list true [.bool, .int .i64, .int .i64], .int .i64, .int .i64, .int .i64, .int .i64, .int .i64, .int .i64]] [(.str s)] =
  (cond (decide (ByteArray.size s < 4294967281))
  (cond (decide (ByteArray.size (cutL s { data := #[10] }) < 4294967281) && decide (1 ≤ ByteArray.size { data := #[32] }))
    (cond (decide (0 ≤ 0) && decide (0 < ic (List.length (List.map IV.str (splitL (cutL s { data := #[10] }) { data := #[32] })))))
      (cond (ByteArray.toList (IV.toStr (List.getD (List.map IV.str (splitL (cutL s { data := #[10] }) { data := #[32] })) (Int.toNat 0) default)) == ByteArray.toList { data := #[104, 111, 108, 100, 115] })
        (lpE (E_cert_read N) (subC c_cert_read [1, 1, 1, 1, 0, 1, 0, 1, 0, 1, 0, 0]) ⟨[2, 4, 7], [2, 7, 51], [⟨(.cell 7 1), 51, 23, true, [.bool, (.int .i64), (.int .i64)]⟩]⟩ N ⟨[(2, (.ptr 2 0 0)), (4, (.str (cutR s { data := #[10] }))), (7, (.ptr 7 0 0))], [(2, (some (.box [(.int .i64 0), .zs, (.int .i64 0), (.int .i64 0), (.int .i64 0), (.int .i64 0), (.int .i64 0), (.int .i64 0)]))), (7, (some (.box [(.int .i64 1), (.row 51 0 0), (.int .i64 0), (.int .i64 0), (.int .i64 0), (.int .i64 0), (.int .i64 0), (.int .i64 (numberZ (List.map IV.str (splitL (cutL s { data := #[10] }) { data := #[32] })) 1))]))), (51, (some (.row true 23 true [.bool, (.int .i64), (.int .i64)] [])))]⟩ (kBlock 1 (kBlock 0 (kSq (E_cert_read N) (subC c_cert_read [1, 1, 1, 1, 1]) (outT (E_cert_read N) none [(ResultVar.cell 2 28)] [[(.int .i64), (.list true [.bool, (.int .i64), (.int .i64)]), (.int .i64), (.int .i64), (.int .i64), (.int .i64), (.int .i64), (.int .i64)]])))))
        (cond (ByteArray.toList (IV.toStr (List.getD (List.map IV.str (splitL (cutL s { data := #[10] }) { data := #[32] })) (Int.toNat 0) default)) == ByteArray.toList { data := #[102, 97, 105, 108, 115] })
          (lpE (E_cert_read N) (subC c_cert_read [1, 1, 1, 1, 0, 1, 0, 1, 1, 1, 0, 1, 0, 1, 0, 0]) ⟨[2, 6, 7, 66], [2, 7], []⟩ N ⟨[(2, (.ptr 2 0 0)), (6, (.list false [.str] (List.map IV.str (splitL (cutL s { data := #[10] }) { data := #[32] })))), (7, (.ptr 7 0 0)), (66, (.int .i64 0))], [(2, (some (.box [(.int .i64 0), .zs, (.int .i64 0), (.int .i64 0), (.int .i64 0), (.int .i64 0), (.int .i64 0), (.int .i64 0)]))), (7, (some (.box [(.int .i64 2), .zs, (.int .i64 0), (.int .i64 0), (.int .i64 0), (.int .i64 0), (.int .i64 0), (.int .i64 (numberZ (List.map IV.str (splitL (cutL s { data := #[10] }) { data := #[32] })) 1))])))]⟩ (kBlock 3 (kSq (E_cert_read N) (subC c_cert_read [1, 1, 1, 1, 0, 1, 0, 1, 1, 1, 0, 1, 1]) (kBlock 0 (kSq (E_cert_read N) (subC c_cert_read [1, 1, 1, 1, 1]) (outT (E_cert_read N) none [(ResultVar.cell 2 28)] [[(.int .i64), (.list true [.bool, (.int .i64), (.int .i64)]), (.int .i64), (.int .i64), (.int .i64), (.int .i64), (.int .i64), (.int .i64)]]))))))
          (cond (ByteArray.toList (IV.toStr (List.getD (List.map IV.str (splitL (cutL s { data := #[10] }) { data := #[32] })) (Int.toNat 0) default)) == ByteArray.toList { data := #[117, 110, 107, 110, 111, 119, 110] })
            (some ((.agg [(.int .i64 3), (.list true [.bool, (.int .i64), (.int .i64)] []), (.int .i64 0), (.int .i64 0), (.int .i64 0), (.int .i64 0), (.int .i64 0), (.int .i64 (numberZ (List.map IV.str (splitL (cutL s { data := #[10] }) { data := #[32] })) 1))]), []))
            (cond (ByteArray.toList (IV.toStr (List.getD (List.map IV.str (splitL (cutL s { data := #[10] }) { data := #[32] })) (Int.toNat 0) default)) == ByteArray.toList { data := #[119, 114, 111, 110, 103] })
              (some ((.agg [(.int .i64 4), (.list true [.bool, (.int .i64), (.int .i64)] []), (.int .i64 0), (.int .i64 0), (.int .i64 0), (.int .i64 0), (.int .i64 0), (.int .i64 (numberZ (List.map IV.str (splitL (cutL s { data := #[10] }) { data := #[32] })) 1))]), []))
              (some ((.agg [(.int .i64 0), (.list true [.bool, (.int .i64), (.int .i64)] []), (.int .i64 0), (.int .i64 0), (.int .i64 0), (.int .i64 0), (.int .i64 0), (.int .i64 (numberZ (List.map IV.str (splitL (cutL s { data := #[10] }) { data := #[32] })) 1))]), []))))))
      none)
    none)
  none) := by kernel_rfl

theorem st_cert_read_1 (N : Nat) (s4 : ByteArray) (xo2_0 : Int) (xo2_2 : Int) (xo2_3 : Int) (xo2_4 : Int) (xo2_5 : Int) (xo2_6 : Int) (xo2_7 : Int) (xo7_0 : Int) (no7_1 : Nat) (xo7_2 : Int) (xo7_3 : Int) (xo7_4 : Int) (xo7_5 : Int) (xo7_6 : Int) (xo7_7 : Int) (lo51 : List IV) (again : St → Res) (k : Out → St → Res) : rnd (E_cert_read N) (subC c_cert_read [1, 1, 1, 1, 0, 1, 0, 1, 0, 1, 0, 0])
    ⟨[(2, (.ptr 2 0 0)), (4, (.str s4)), (7, (.ptr 7 0 0))], [(2, (some (.box [(.int .i64 xo2_0), .zs, (.int .i64 xo2_2), (.int .i64 xo2_3), (.int .i64 xo2_4), (.int .i64 xo2_5), (.int .i64 xo2_6), (.int .i64 xo2_7)]))), (7, (some (.box [(.int .i64 xo7_0), (.row 51 0 no7_1), (.int .i64 xo7_2), (.int .i64 xo7_3), (.int .i64 xo7_4), (.int .i64 xo7_5), (.int .i64 xo7_6), (.int .i64 xo7_7)]))), (51, (some (.row true 23 true [.bool, (.int .i64), (.int .i64)] lo51)))]⟩
    (kLoop again ⟨[2, 4, 7], [2, 7, 51], [⟨(.cell 7 1), 51, 23, true, [.bool, (.int .i64), (.int .i64)]⟩]⟩ k) =
  (cond (!ByteArray.toList s4 == ByteArray.toList { data := #[] })
  (cond (decide (ic (no7_1 - 0) ≤ 65536))
    (cond (decide (ByteArray.size s4 < 4294967281))
      (cond (decide (ByteArray.size (cutL s4 { data := #[10] }) < 4294967281) && decide (1 ≤ ByteArray.size { data := #[32] }))
        (cond (decide (0 ≤ 0) && decide (0 < ic (List.length (List.map IV.str (splitL (cutL s4 { data := #[10] }) { data := #[32] })))))
          (cond (ByteArray.toList (IV.toStr (List.getD (List.map IV.str (splitL (cutL s4 { data := #[10] }) { data := #[32] })) (Int.toNat 0) default)) == ByteArray.toList { data := #[115, 117, 109] })
            (cond (decide ((no7_1 + List.length (List.drop 0 (List.take 1 [IV.agg [IV.bool true, IV.int 0, IV.int 0]]))) * TI.bytes (Env.tyd (E_cert_read N) 23) ≤ bytesMax))
              (again ⟨[(2, (.ptr 2 0 0)), (4, (.str (cutR s4 { data := #[10] }))), (7, (.ptr 7 0 0))], [(2, (some (.box [(.int .i64 xo2_0), .zs, (.int .i64 xo2_2), (.int .i64 xo2_3), (.int .i64 xo2_4), (.int .i64 xo2_5), (.int .i64 xo2_6), (.int .i64 xo2_7)]))), (7, (some (.box [(.int .i64 xo7_0), (.row 51 0 (no7_1 + List.length (List.drop 0 (List.take 1 [IV.agg [IV.bool true, IV.int 0, IV.int 0]])))), (.int .i64 xo7_2), (.int .i64 xo7_3), (.int .i64 xo7_4), (.int .i64 xo7_5), (.int .i64 xo7_6), (.int .i64 xo7_7)]))), (51, (some (.row true 23 true [.bool, (.int .i64), (.int .i64)] (List.take no7_1 lo51 ++ List.drop 0 (List.take 1 [IV.agg [IV.bool true, IV.int 0, IV.int 0]])))))]⟩)
              none)
            (cond (decide ((no7_1 + List.length (List.drop 0 (List.take 1 [IV.agg [IV.bool false, IV.int (numberZ (List.map IV.str (splitL (cutL s4 { data := #[10] }) { data := #[32] })) 1), IV.int (numberZ (List.map IV.str (splitL (cutL s4 { data := #[10] }) { data := #[32] })) 2)]]))) * TI.bytes (Env.tyd (E_cert_read N) 23) ≤ bytesMax))
              (again ⟨[(2, (.ptr 2 0 0)), (4, (.str (cutR s4 { data := #[10] }))), (7, (.ptr 7 0 0))], [(2, (some (.box [(.int .i64 xo2_0), .zs, (.int .i64 xo2_2), (.int .i64 xo2_3), (.int .i64 xo2_4), (.int .i64 xo2_5), (.int .i64 xo2_6), (.int .i64 xo2_7)]))), (7, (some (.box [(.int .i64 xo7_0), (.row 51 0 (no7_1 + List.length (List.drop 0 (List.take 1 [IV.agg [IV.bool false, IV.int (numberZ (List.map IV.str (splitL (cutL s4 { data := #[10] }) { data := #[32] })) 1), IV.int (numberZ (List.map IV.str (splitL (cutL s4 { data := #[10] }) { data := #[32] })) 2)]])))), (.int .i64 xo7_2), (.int .i64 xo7_3), (.int .i64 xo7_4), (.int .i64 xo7_5), (.int .i64 xo7_6), (.int .i64 xo7_7)]))), (51, (some (.row true 23 true [.bool, (.int .i64), (.int .i64)] (List.take no7_1 lo51 ++ List.drop 0 (List.take 1 [IV.agg [IV.bool false, IV.int (numberZ (List.map IV.str (splitL (cutL s4 { data := #[10] }) { data := #[32] })) 1), IV.int (numberZ (List.map IV.str (splitL (cutL s4 { data := #[10] }) { data := #[32] })) 2)]])))))]⟩)
              none))
          none)
        none)
      none)
    (k (.exit 1) ⟨[(2, (.ptr 2 0 0)), (4, (.str s4)), (7, (.ptr 7 0 0))], [(2, (some (.box [(.int .i64 xo2_0), .zs, (.int .i64 xo2_2), (.int .i64 xo2_3), (.int .i64 xo2_4), (.int .i64 xo2_5), (.int .i64 xo2_6), (.int .i64 xo2_7)]))), (7, (some (.box [(.int .i64 xo7_0), (.row 51 0 no7_1), (.int .i64 xo7_2), (.int .i64 xo7_3), (.int .i64 xo7_4), (.int .i64 xo7_5), (.int .i64 xo7_6), (.int .i64 xo7_7)]))), (51, (some (.row true 23 true [.bool, (.int .i64), (.int .i64)] lo51)))]⟩))
  (k (.exit 1) ⟨[(2, (.ptr 2 0 0)), (4, (.str s4)), (7, (.ptr 7 0 0))], [(2, (some (.box [(.int .i64 xo2_0), .zs, (.int .i64 xo2_2), (.int .i64 xo2_3), (.int .i64 xo2_4), (.int .i64 xo2_5), (.int .i64 xo2_6), (.int .i64 xo2_7)]))), (7, (some (.box [(.int .i64 xo7_0), (.row 51 0 no7_1), (.int .i64 xo7_2), (.int .i64 xo7_3), (.int .i64 xo7_4), (.int .i64 xo7_5), (.int .i64 xo7_6), (.int .i64 xo7_7)]))), (51, (some (.row true 23 true [.bool, (.int .i64), (.int .i64)] lo51)))]⟩)) := by kernel_rfl

theorem st_cert_read_2 (N : Nat) (l6 : List IV) (x66 : Int) (xo2_0 : Int) (xo2_2 : Int) (xo2_3 : Int) (xo2_4 : Int) (xo2_5 : Int) (xo2_6 : Int) (xo2_7 : Int) (xo7_0 : Int) (xo7_2 : Int) (xo7_3 : Int) (xo7_4 : Int) (xo7_5 : Int) (xo7_6 : Int) (xo7_7 : Int) (again : St → Res) (k : Out → St → Res) : rnd (E_cert_read N) (subC c_cert_read [1, 1, 1, 1, 0, 1, 0, 1, 1, 1, 0, 1, 0, 1, 0, 0])
    ⟨[(2, (.ptr 2 0 0)), (6, (.list false [.str] l6)), (7, (.ptr 7 0 0)), (66, (.int .i64 x66))], [(2, (some (.box [(.int .i64 xo2_0), .zs, (.int .i64 xo2_2), (.int .i64 xo2_3), (.int .i64 xo2_4), (.int .i64 xo2_5), (.int .i64 xo2_6), (.int .i64 xo2_7)]))), (7, (some (.box [(.int .i64 xo7_0), .zs, (.int .i64 xo7_2), (.int .i64 xo7_3), (.int .i64 xo7_4), (.int .i64 xo7_5), (.int .i64 xo7_6), (.int .i64 xo7_7)])))]⟩
    (kLoop again ⟨[2, 6, 7, 66], [2, 7], []⟩ k) =
  (cond (decide (x66 < 4))
  (cond (decide (0 ≤ IntKind.wrap IntKind.i64 (2 + x66)))
    (cond (decide (x66 = ic 0))
      (again ⟨[(2, (.ptr 2 0 0)), (6, (.list false [.str] l6)), (7, (.ptr 7 0 0)), (66, (.int .i64 (IntKind.wrap IntKind.i64 (x66 + 1))))], [(2, (some (.box [(.int .i64 xo2_0), .zs, (.int .i64 xo2_2), (.int .i64 xo2_3), (.int .i64 xo2_4), (.int .i64 xo2_5), (.int .i64 xo2_6), (.int .i64 xo2_7)]))), (7, (some (.box [(.int .i64 xo7_0), .zs, (.int .i64 (numberZ l6 (IntKind.wrap IntKind.i64 (2 + x66)))), (.int .i64 xo7_3), (.int .i64 xo7_4), (.int .i64 xo7_5), (.int .i64 xo7_6), (.int .i64 xo7_7)])))]⟩)
      (cond (decide (x66 = ic 1))
        (again ⟨[(2, (.ptr 2 0 0)), (6, (.list false [.str] l6)), (7, (.ptr 7 0 0)), (66, (.int .i64 (IntKind.wrap IntKind.i64 (x66 + 1))))], [(2, (some (.box [(.int .i64 xo2_0), .zs, (.int .i64 xo2_2), (.int .i64 xo2_3), (.int .i64 xo2_4), (.int .i64 xo2_5), (.int .i64 xo2_6), (.int .i64 xo2_7)]))), (7, (some (.box [(.int .i64 xo7_0), .zs, (.int .i64 xo7_2), (.int .i64 (numberZ l6 (IntKind.wrap IntKind.i64 (2 + x66)))), (.int .i64 xo7_4), (.int .i64 xo7_5), (.int .i64 xo7_6), (.int .i64 xo7_7)])))]⟩)
        (cond (decide (x66 = ic 2))
          (again ⟨[(2, (.ptr 2 0 0)), (6, (.list false [.str] l6)), (7, (.ptr 7 0 0)), (66, (.int .i64 (IntKind.wrap IntKind.i64 (x66 + 1))))], [(2, (some (.box [(.int .i64 xo2_0), .zs, (.int .i64 xo2_2), (.int .i64 xo2_3), (.int .i64 xo2_4), (.int .i64 xo2_5), (.int .i64 xo2_6), (.int .i64 xo2_7)]))), (7, (some (.box [(.int .i64 xo7_0), .zs, (.int .i64 xo7_2), (.int .i64 xo7_3), (.int .i64 (numberZ l6 (IntKind.wrap IntKind.i64 (2 + x66)))), (.int .i64 xo7_5), (.int .i64 xo7_6), (.int .i64 xo7_7)])))]⟩)
          (cond (decide (x66 = ic 3))
            (again ⟨[(2, (.ptr 2 0 0)), (6, (.list false [.str] l6)), (7, (.ptr 7 0 0)), (66, (.int .i64 (IntKind.wrap IntKind.i64 (x66 + 1))))], [(2, (some (.box [(.int .i64 xo2_0), .zs, (.int .i64 xo2_2), (.int .i64 xo2_3), (.int .i64 xo2_4), (.int .i64 xo2_5), (.int .i64 xo2_6), (.int .i64 xo2_7)]))), (7, (some (.box [(.int .i64 xo7_0), .zs, (.int .i64 xo7_2), (.int .i64 xo7_3), (.int .i64 xo7_4), (.int .i64 (numberZ l6 (IntKind.wrap IntKind.i64 (2 + x66)))), (.int .i64 xo7_6), (.int .i64 xo7_7)])))]⟩)
            none))))
    none)
  (k (.exit 3) ⟨[(2, (.ptr 2 0 0)), (6, (.list false [.str] l6)), (7, (.ptr 7 0 0)), (66, (.int .i64 x66))], [(2, (some (.box [(.int .i64 xo2_0), .zs, (.int .i64 xo2_2), (.int .i64 xo2_3), (.int .i64 xo2_4), (.int .i64 xo2_5), (.int .i64 xo2_6), (.int .i64 xo2_7)]))), (7, (some (.box [(.int .i64 xo7_0), .zs, (.int .i64 xo7_2), (.int .i64 xo7_3), (.int .i64 xo7_4), (.int .i64 xo7_5), (.int .i64 xo7_6), (.int .i64 xo7_7)])))]⟩)) := by kernel_rfl

theorem ex_cert_read_1_1 (N : Nat) (s4 : ByteArray) (xo2_0 : Int) (xo2_2 : Int) (xo2_3 : Int) (xo2_4 : Int) (xo2_5 : Int) (xo2_6 : Int) (xo2_7 : Int) (xo7_0 : Int) (no7_1 : Nat) (xo7_2 : Int) (xo7_3 : Int) (xo7_4 : Int) (xo7_5 : Int) (xo7_6 : Int) (xo7_7 : Int) (lo51 : List IV) : (kBlock 1 (kBlock 0 (kSq (E_cert_read N) (subC c_cert_read [1, 1, 1, 1, 1]) (outT (E_cert_read N) none [(ResultVar.cell 2 28)] [[(.int .i64), (.list true [.bool, (.int .i64), (.int .i64)]), (.int .i64), (.int .i64), (.int .i64), (.int .i64), (.int .i64), (.int .i64)]])))) (.exit 1)
    ⟨[(2, (.ptr 2 0 0)), (4, (.str s4)), (7, (.ptr 7 0 0))], [(2, (some (.box [(.int .i64 xo2_0), .zs, (.int .i64 xo2_2), (.int .i64 xo2_3), (.int .i64 xo2_4), (.int .i64 xo2_5), (.int .i64 xo2_6), (.int .i64 xo2_7)]))), (7, (some (.box [(.int .i64 xo7_0), (.row 51 0 no7_1), (.int .i64 xo7_2), (.int .i64 xo7_3), (.int .i64 xo7_4), (.int .i64 xo7_5), (.int .i64 xo7_6), (.int .i64 xo7_7)]))), (51, (some (.row true 23 true [.bool, (.int .i64), (.int .i64)] lo51)))]⟩ =
  (some ((.agg [(.int .i64 xo7_0), (.list true [.bool, (.int .i64), (.int .i64)] (List.drop 0 (List.take no7_1 lo51))), (.int .i64 xo7_2), (.int .i64 xo7_3), (.int .i64 xo7_4), (.int .i64 xo7_5), (.int .i64 xo7_6), (.int .i64 xo7_7)]), [])) := by kernel_rfl

theorem ex_cert_read_2_1 (N : Nat) (l6 : List IV) (x66 : Int) (xo2_0 : Int) (xo2_2 : Int) (xo2_3 : Int) (xo2_4 : Int) (xo2_5 : Int) (xo2_6 : Int) (xo2_7 : Int) (xo7_0 : Int) (xo7_2 : Int) (xo7_3 : Int) (xo7_4 : Int) (xo7_5 : Int) (xo7_6 : Int) (xo7_7 : Int) : (kBlock 3 (kSq (E_cert_read N) (subC c_cert_read [1, 1, 1, 1, 0, 1, 0, 1, 1, 1, 0, 1, 1]) (kBlock 0 (kSq (E_cert_read N) (subC c_cert_read [1, 1, 1, 1, 1]) (outT (E_cert_read N) none [(ResultVar.cell 2 28)] [[(.int .i64), (.list true [.bool, (.int .i64), (.int .i64)]), (.int .i64), (.int .i64), (.int .i64), (.int .i64), (.int .i64), (.int .i64)]]))))) (.exit 3)
    ⟨[(2, (.ptr 2 0 0)), (6, (.list false [.str] l6)), (7, (.ptr 7 0 0)), (66, (.int .i64 x66))], [(2, (some (.box [(.int .i64 xo2_0), .zs, (.int .i64 xo2_2), (.int .i64 xo2_3), (.int .i64 xo2_4), (.int .i64 xo2_5), (.int .i64 xo2_6), (.int .i64 xo2_7)]))), (7, (some (.box [(.int .i64 xo7_0), .zs, (.int .i64 xo7_2), (.int .i64 xo7_3), (.int .i64 xo7_4), (.int .i64 xo7_5), (.int .i64 xo7_6), (.int .i64 xo7_7)])))]⟩ =
  (some ((.agg [(.int .i64 xo7_0), (.list true [.bool, (.int .i64), (.int .i64)] []), (.int .i64 xo7_2), (.int .i64 xo7_3), (.int .i64 xo7_4), (.int .i64 xo7_5), (.int .i64 (numberZ l6 6)), (.int .i64 xo7_7)]), [])) := by kernel_rfl

/-! ### copse/cert.Print -/
def E_cert_Print (N : Nat) : Env := mkE [(12, S_cert_Right), (15, S_cert_line), (16, S_strings_Builder_String)] [(9, ⟨[2, 3, 25, 26, 27], [3], []⟩)] 61 N

theorem nf_cert_Print (N : Nat) (v_Kind : Int) (v_Proof : List IV) (v_Witness_0 : Int) (v_Witness_1 : Int) (v_Witness_2 : Int) (v_Witness_3 : Int) (v_Twin : Int) (v_Spent : Int) : evFun (E_cert_Print N) c_cert_Print [.tmp 2] [[.str]] [(.agg [(.int .i64 v_Kind), (.list true [.bool, .int .i64, .int .i64] v_Proof), (.int .i64 v_Witness_0), (.int .i64 v_Witness_1), (.int .i64 v_Witness_2), (.int .i64 v_Witness_3), (.int .i64 v_Twin), (.int .i64 v_Spent)])] =
  (cond (!Vd.right { kind := v_Kind, proof := v_Proof, w0 := v_Witness_0, w1 := v_Witness_1, w2 := v_Witness_2, w3 := v_Witness_3, twin := v_Twin, spent := v_Spent })
  (some ((.str ({ data := #[] })), []))
  (cond (v_Kind == 1)
    (cond (decide (ByteArray.size (lineB ByteArray.empty { data := #[104, 111, 108, 100, 115] } (List.drop 0 (List.take 2 [IV.int v_Spent, IV.int (ic (List.length v_Proof))]))) ≤ strMax))
      (lpE (E_cert_Print N) (subC c_cert_Print [1, 1, 1, 0, 1, 0, 1, 0, 1, 1, 0, 0]) ⟨[2, 3, 25, 26, 27], [3], []⟩ N ⟨[(2, (.str ({ data := #[] }))), (3, (.ptr 3 0 0)), (25, (.list true [.bool, (.int .i64), (.int .i64)] v_Proof)), (26, (.int .i64 (ic (List.length v_Proof)))), (27, (.int .i64 0))], [(3, (some (.bld (lineB ByteArray.empty { data := #[104, 111, 108, 100, 115] } (List.drop 0 (List.take 2 [IV.int v_Spent, IV.int (ic (List.length v_Proof))]))))))]⟩ (kBlock 1 (kBlock 0 (kSq (E_cert_Print N) (subC c_cert_Print [1, 1, 1, 1]) (outT (E_cert_Print N) none [(ResultVar.tmp 2)] [[.str]])))))
      none)
    (cond (v_Kind == 2)
      (cond (decide (ByteArray.size (lineB ByteArray.empty { data := #[102, 97, 105, 108, 115] } (List.drop 0 (List.take (1 + List.length [IV.int v_Witness_0, IV.int v_Witness_1, IV.int v_Witness_2, IV.int v_Witness_3] + List.length (List.drop 0 (List.take 1 [IV.int v_Twin]))) (List.take (1 + List.length [IV.int v_Witness_0, IV.int v_Witness_1, IV.int v_Witness_2, IV.int v_Witness_3]) (List.take 1 [IV.int v_Spent] ++ [IV.int v_Witness_0, IV.int v_Witness_1, IV.int v_Witness_2, IV.int v_Witness_3]) ++ List.drop 0 (List.take 1 [IV.int v_Twin]))))) ≤ strMax))
        (some ((.str (lineB ByteArray.empty { data := #[102, 97, 105, 108, 115] } (List.drop 0 (List.take (1 + List.length [IV.int v_Witness_0, IV.int v_Witness_1, IV.int v_Witness_2, IV.int v_Witness_3] + List.length (List.drop 0 (List.take 1 [IV.int v_Twin]))) (List.take (1 + List.length [IV.int v_Witness_0, IV.int v_Witness_1, IV.int v_Witness_2, IV.int v_Witness_3]) (List.take 1 [IV.int v_Spent] ++ [IV.int v_Witness_0, IV.int v_Witness_1, IV.int v_Witness_2, IV.int v_Witness_3]) ++ List.drop 0 (List.take 1 [IV.int v_Twin])))))), []))
        none)
      (cond (v_Kind == 3)
        (cond (decide (ByteArray.size (lineB ByteArray.empty { data := #[117, 110, 107, 110, 111, 119, 110] } (List.drop 0 (List.take 1 [IV.int v_Spent]))) ≤ strMax))
          (some ((.str (lineB ByteArray.empty { data := #[117, 110, 107, 110, 111, 119, 110] } (List.drop 0 (List.take 1 [IV.int v_Spent])))), []))
          none)
        (cond (decide (ByteArray.size (lineB ByteArray.empty { data := #[119, 114, 111, 110, 103] } (List.drop 0 (List.take 1 [IV.int v_Spent]))) ≤ strMax))
          (some ((.str (lineB ByteArray.empty { data := #[119, 114, 111, 110, 103] } (List.drop 0 (List.take 1 [IV.int v_Spent])))), []))
          none))))) := by kernel_rfl

theorem st_cert_Print_1 (N : Nat) (s2 : ByteArray) (l25 : List IV) (x26 : Int) (x27 : Int) (so3 : ByteArray) (again : St → Res) (k : Out → St → Res) : rnd (E_cert_Print N) (subC c_cert_Print [1, 1, 1, 0, 1, 0, 1, 0, 1, 1, 0, 0])
    ⟨[(2, (.str s2)), (3, (.ptr 3 0 0)), (25, (.list true [.bool, (.int .i64), (.int .i64)] l25)), (26, (.int .i64 x26)), (27, (.int .i64 x27))], [(3, (some (.bld so3)))]⟩
    (kLoop again ⟨[2, 3, 25, 26, 27], [3], []⟩ k) =
  (cond (decide (x27 < x26))
  (cond (decide (0 ≤ x27) && decide (x27 < ic (List.length l25)))
    (cond (IV.toBool (IV.cell (List.getD l25 (Int.toNat x27) default) 0))
      (cond (decide (ByteArray.size (lineB so3 { data := #[115, 117, 109] } []) ≤ strMax))
        (again ⟨[(2, (.str s2)), (3, (.ptr 3 0 0)), (25, (.list true [.bool, (.int .i64), (.int .i64)] l25)), (26, (.int .i64 x26)), (27, (.int .i64 (IntKind.wrap IntKind.i64 (x27 + 1))))], [(3, (some (.bld (lineB so3 { data := #[115, 117, 109] } []))))]⟩)
        none)
      (cond (decide (ByteArray.size (lineB so3 { data := #[99, 117, 116] } (List.drop 0 (List.take 2 [IV.int (IV.toInt (IV.cell (List.getD l25 (Int.toNat x27) default) 1)), IV.int (IV.toInt (IV.cell (List.getD l25 (Int.toNat x27) default) 2))]))) ≤ strMax))
        (again ⟨[(2, (.str s2)), (3, (.ptr 3 0 0)), (25, (.list true [.bool, (.int .i64), (.int .i64)] l25)), (26, (.int .i64 x26)), (27, (.int .i64 (IntKind.wrap IntKind.i64 (x27 + 1))))], [(3, (some (.bld (lineB so3 { data := #[99, 117, 116] } (List.drop 0 (List.take 2 [IV.int (IV.toInt (IV.cell (List.getD l25 (Int.toNat x27) default) 1)), IV.int (IV.toInt (IV.cell (List.getD l25 (Int.toNat x27) default) 2))]))))))]⟩)
        none))
    none)
  (k (.exit 1) ⟨[(2, (.str s2)), (3, (.ptr 3 0 0)), (25, (.list true [.bool, (.int .i64), (.int .i64)] l25)), (26, (.int .i64 x26)), (27, (.int .i64 x27))], [(3, (some (.bld so3)))]⟩)) := by kernel_rfl

theorem ex_cert_Print_1_1 (N : Nat) (s2 : ByteArray) (l25 : List IV) (x26 : Int) (x27 : Int) (so3 : ByteArray) : (kBlock 1 (kBlock 0 (kSq (E_cert_Print N) (subC c_cert_Print [1, 1, 1, 1]) (outT (E_cert_Print N) none [(ResultVar.tmp 2)] [[.str]])))) (.exit 1)
    ⟨[(2, (.str s2)), (3, (.ptr 3 0 0)), (25, (.list true [.bool, (.int .i64), (.int .i64)] l25)), (26, (.int .i64 x26)), (27, (.int .i64 x27))], [(3, (some (.bld so3)))]⟩ =
  (some ((.str so3), [])) := by kernel_rfl

/-! ### copse/cert.Parse -/
def E_cert_Parse (N : Nat) : Env := mkE [(9, S_cert_Print), (14, S_cert_read)] [] 17 N

theorem nf_cert_Parse (N : Nat) (s : ByteArray) : evFun (E_cert_Parse N) c_cert_Parse [.cell 2 28, .tmp 3] [[.int .i64, .list true [.bool, .int .i64, .int .i64], .int .i64, .int .i64, .int .i64, .int .i64, .int .i64, .int .i64], [.bool]] [(.str s)] =
  (cond (decide (ByteArray.size s < 4294967281))
  (cond (ByteArray.toList s == ByteArray.toList { data := #[] })
    (some ((.tup [(.agg [(.int .i64 0), (.list true [.bool, (.int .i64), (.int .i64)] []), (.int .i64 0), (.int .i64 0), (.int .i64 0), (.int .i64 0), (.int .i64 0), (.int .i64 0)]), (.bool false)]), []))
    (cond (decide (ByteArray.size (printB { kind := Vd.kind (readV s), proof := Vd.proof (readV s), w0 := Vd.w0 (readV s), w1 := Vd.w1 (readV s), w2 := Vd.w2 (readV s), w3 := Vd.w3 (readV s), twin := Vd.twin (readV s), spent := Vd.spent (readV s) }) ≤ strMax))
      (cond (!ByteArray.toList (printB { kind := Vd.kind (readV s), proof := Vd.proof (readV s), w0 := Vd.w0 (readV s), w1 := Vd.w1 (readV s), w2 := Vd.w2 (readV s), w3 := Vd.w3 (readV s), twin := Vd.twin (readV s), spent := Vd.spent (readV s) }) == ByteArray.toList s)
        (some ((.tup [(.agg [(.int .i64 0), (.list true [.bool, (.int .i64), (.int .i64)] []), (.int .i64 0), (.int .i64 0), (.int .i64 0), (.int .i64 0), (.int .i64 0), (.int .i64 0)]), (.bool false)]), []))
        (some ((.tup [(.agg [(.int .i64 (Vd.kind (readV s))), (.list true [.bool, (.int .i64), (.int .i64)] (Vd.proof (readV s))), (.int .i64 (Vd.w0 (readV s))), (.int .i64 (Vd.w1 (readV s))), (.int .i64 (Vd.w2 (readV s))), (.int .i64 (Vd.w3 (readV s))), (.int .i64 (Vd.twin (readV s))), (.int .i64 (Vd.spent (readV s)))]), (.bool true)]), [])))
      none))
  none) := by kernel_rfl

/-! ### copse/copsekeep.Verdicts -/
def E_copsekeep_Verdicts (N : Nat) : Env := mkE [(17, S_copsebook_Same_apiStep)] [] 38 N

theorem nf_copsekeep_Verdicts (N : Nat) (a_Kind : Int) (a_Proof : List IV) (a_Witness_0 : Int) (a_Witness_1 : Int) (a_Witness_2 : Int) (a_Witness_3 : Int) (a_Twin : Int) (a_Spent : Int) (b_Kind : Int) (b_Proof : List IV) (b_Witness_0 : Int) (b_Witness_1 : Int) (b_Witness_2 : Int) (b_Witness_3 : Int) (b_Twin : Int) (b_Spent : Int) : evFun (E_copsekeep_Verdicts N) c_copsekeep_Verdicts [.tmp 4] [[.bool]] [(.agg [(.int .i64 a_Kind), (.list true [.bool, .int .i64, .int .i64] a_Proof), (.int .i64 a_Witness_0), (.int .i64 a_Witness_1), (.int .i64 a_Witness_2), (.int .i64 a_Witness_3), (.int .i64 a_Twin), (.int .i64 a_Spent)]), (.agg [(.int .i64 b_Kind), (.list true [.bool, .int .i64, .int .i64] b_Proof), (.int .i64 b_Witness_0), (.int .i64 b_Witness_1), (.int .i64 b_Witness_2), (.int .i64 b_Witness_3), (.int .i64 b_Twin), (.int .i64 b_Spent)])] =
  (cond (a_Kind == b_Kind)
  (cond (sameB a_Proof b_Proof)
    (cond (a_Witness_0 == b_Witness_0 && (a_Witness_1 == b_Witness_1 && (a_Witness_2 == b_Witness_2 && (a_Witness_3 == b_Witness_3 && true))))
      (cond (a_Twin == b_Twin)
        (some ((.bool (a_Spent == b_Spent)), []))
        (some ((.bool false), [])))
      (some ((.bool false), [])))
    (some ((.bool false), [])))
  (some ((.bool false), []))) := by kernel_rfl

/-! ### copse/copselaw20.few -/
def E_copselaw20_few (N : Nat) : Env := mkE [] [] 14 N

theorem nf_copselaw20_few (N : Nat) (v_Kind : Int) (v_Proof : List IV) (v_Witness_0 : Int) (v_Witness_1 : Int) (v_Witness_2 : Int) (v_Witness_3 : Int) (v_Twin : Int) (v_Spent : Int) : evFun (E_copselaw20_few N) c_copselaw20_few [.cell 2 28] [[.int .i64, .list true [.bool, .int .i64, .int .i64], .int .i64, .int .i64, .int .i64, .int .i64, .int .i64, .int .i64]] [(.agg [(.int .i64 v_Kind), (.list true [.bool, .int .i64, .int .i64] v_Proof), (.int .i64 v_Witness_0), (.int .i64 v_Witness_1), (.int .i64 v_Witness_2), (.int .i64 v_Witness_3), (.int .i64 v_Twin), (.int .i64 v_Spent)])] =
  (cond (decide (0 ≤ min (ic (List.length v_Proof)) 40) && decide (min (ic (List.length v_Proof)) 40 ≤ ic (List.length v_Proof)))
  (cond (decide ((0 + List.length (List.drop 0 (List.take (Int.toNat (min (ic (List.length v_Proof)) 40)) v_Proof))) * TI.bytes (Env.tyd (E_copselaw20_few N) 23) ≤ bytesMax))
    (some ((.agg [(.int .i64 v_Kind), (.list true [.bool, (.int .i64), (.int .i64)] (List.drop 0 (List.take (0 + List.length (List.drop 0 (List.take (Int.toNat (min (ic (List.length v_Proof)) 40)) v_Proof))) (List.take 0 [] ++ List.drop 0 (List.take (Int.toNat (min (ic (List.length v_Proof)) 40)) v_Proof))))), (.int .i64 v_Witness_0), (.int .i64 v_Witness_1), (.int .i64 v_Witness_2), (.int .i64 v_Witness_3), (.int .i64 v_Twin), (.int .i64 v_Spent)]), []))
    none)
  none) := by kernel_rfl

end Go.FM

/-
  cert's FUNCTIONS COME TO WHAT IS SAID (3): read, Print, Parse; Verdicts, few.
-/
namespace Go.FM
open Go Go.Proofs

theorem split_pos (s sep : ByteArray) (h : 1 ≤ sep.size) : 0 < ((splitL s sep).map IV.str).length := by
  rw [List.length_map]
  unfold splitL
  rw [Lib.splitB_all sep h 0 _ s rfl]
  omega
theorem split_pos' (s : ByteArray) : decide (0 < ic (List.length (List.map IV.str (splitL s w_sp)))) = true := decide_eq_true (by
  have := split_pos s w_sp (by decide)
  simp only [ic]
  omega)
theorem cutL_small {s sep : ByteArray} (h : s.size < 4294967281) : decide (ByteArray.size (cutL s sep) < 4294967281) = true := decide_eq_true (by
  have := (cut_sizes s sep).1
  omega)
theorem cutR_nl {s : ByteArray} (h : (s.toList == w_none.toList) = false) : (cutR s w_nl).size < s.size := by
  have h0 : 0 < s.size := by
    rcases Nat.eq_zero_or_pos s.size with e | e
    · exfalso
      have : s = w_none := ByteArray.ext (Array.eq_empty_of_size_eq_zero e)
      rw [this] at h
      simp at h
    · exact e
  have h0 : 0 < s.data.toList.length := h0
  show (Lib.cut s.data.toList w_nl.data.toList).2.1.toArray.size < s.data.toList.length
  rw [List.size_toArray]
  unfold Lib.cut
  split
  · have e1 : (w_nl.data.toList).length = 1 := rfl
    rw [List.length_drop, e1]
    omega
  · exact h0
theorem dsp : decide (1 ≤ ByteArray.size w_sp) = true := rfl

theorem read_run (N : Nat) (a0 a2 a3 a4 a5 a6 a7 b0 b2 b3 b4 b5 b6 b7 : Int) (K : Out → St → Res)
    (hx : ∀ s (p : List IV), K (.exit 1) ⟨[(2, (.ptr 2 0 0)), (4, (.str s)), (7, (.ptr 7 0 0))], [(2, (some (.box [(.int .i64 a0), .zs, (.int .i64 a2), (.int .i64 a3), (.int .i64 a4), (.int .i64 a5), (.int .i64 a6), (.int .i64 a7)]))), (7, (some (.box [(.int .i64 b0), (.row 51 0 p.length), (.int .i64 b2), (.int .i64 b3), (.int .i64 b4), (.int .i64 b5), (.int .i64 b6), (.int .i64 b7)]))), (51, (some (.row true 23 true [.bool, (.int .i64), (.int .i64)] p)))]⟩ = some ((.agg [(.int .i64 b0), (.list true [.bool, (.int .i64), (.int .i64)] (List.drop 0 (List.take p.length p))), (.int .i64 b2), (.int .i64 b3), (.int .i64 b4), (.int .i64 b5), (.int .i64 b6), (.int .i64 b7)]), [])) :
    ∀ (m n : Nat) (s : ByteArray) (p : List IV), s.size < m → m ≤ n → s.size < 4294967281 →
      lpE (E_cert_read N) (subC c_cert_read [1, 1, 1, 1, 0, 1, 0, 1, 0, 1, 0, 0]) ⟨[2, 4, 7], [2, 7, 51], [⟨(.cell 7 1), 51, 23, true, [.bool, (.int .i64), (.int .i64)]⟩]⟩ n ⟨[(2, (.ptr 2 0 0)), (4, (.str s)), (7, (.ptr 7 0 0))], [(2, (some (.box [(.int .i64 a0), .zs, (.int .i64 a2), (.int .i64 a3), (.int .i64 a4), (.int .i64 a5), (.int .i64 a6), (.int .i64 a7)]))), (7, (some (.box [(.int .i64 b0), (.row 51 0 p.length), (.int .i64 b2), (.int .i64 b3), (.int .i64 b4), (.int .i64 b5), (.int .i64 b6), (.int .i64 b7)]))), (51, (some (.row true 23 true [.bool, (.int .i64), (.int .i64)] p)))]⟩ K =
      some ((.agg [(.int .i64 b0), (.list true [.bool, (.int .i64), (.int .i64)] (readSteps m s p)), (.int .i64 b2), (.int .i64 b3), (.int .i64 b4), (.int .i64 b5), (.int .i64 b6), (.int .i64 b7)]), [])
  | m + 1, n + 1, s, p, hm, hn, hs => by
    rw [lpE_succ, st_cert_read_1]
    have ep : List.drop 0 (List.take p.length p) = p := by rw [List.drop_zero, List.take_length]
    have e65 : decide (ic (p.length - 0) ≤ 65536) = decide (p.length ≤ 65536) := by
      rw [Bool.eq_iff_iff]
      simp only [decide_eq_true_eq, ic]
      omega
    unfold readSteps
    rw [e65]
    cases h1 : (s.toList == w_none.toList) with
    | true =>
      simp only [Bool.not_true, condF, Bool.false_and]
      refine (hx s p).trans ?_
      rw [ep]
    | false =>
      simp only [Bool.not_false, condT, Bool.true_and]
      cases h2 : decide (p.length ≤ 65536) with
      | false =>
        simp only [condF]
        refine (hx s p).trans ?_
        rw [ep]
      | true =>
        have h2 := of_decide_eq_true h2
        simp only [condT]
        have hlt := cutR_nl h1
        rw [decide_eq_true hs, cutL_small hs, dsp, split_pos']
        simp only [Nat.le_refl, decide_true, Bool.and_true, condT]
        have et : TI.bytes (Env.tyd (E_cert_read N) 23) = 24 := rfl
        rw [et]
        have eb : ∀ x : IV, decide ((p.length + List.length (List.drop 0 (List.take 1 [x]))) * 24 ≤ bytesMax) = true := fun x => decide_eq_true (by
          show (p.length + 1) * 24 ≤ 70368744177664
          omega)
        rw [eb, eb]
        simp only [condT]
        have el : ∀ x : IV, p.length + List.length (List.drop 0 (List.take 1 [x])) = (p ++ [x]).length := fun x => by
          rw [List.length_append]; rfl
        have er : ∀ x : IV, List.take p.length p ++ List.drop 0 (List.take 1 [x]) = p ++ [x] := fun x => by
          rw [List.take_length]; rfl
        have ih := fun x : IV => read_run N a0 a2 a3 a4 a5 a6 a7 b0 b2 b3 b4 b5 b6 b7 K hx m n (cutR s w_nl) (p ++ [x]) (by omega) (by omega) (by omega)
        unfold readStep wordOf
        have ez : Int.toNat 0 = 0 := rfl
        rw [ez]
        unfold firstL
        cases h3 : (ByteArray.toList (IV.toStr (List.getD (List.map IV.str (splitL (cutL s w_nl) w_sp)) 0 default)) == ByteArray.toList w_sum) with
        | true =>
          simp only [condT]
          rw [el, er]
          exact ih _
        | false =>
          simp only [condF]
          rw [el, er]
          exact ih _
  | 0, _, _, _, h, _, _ => by omega
  | _ + 1, 0, _, _, _, h, _ => by omega

theorem w_is {a b c : Int} (h : IntKind.wrap .i64 (a + b) = c) : IntKind.wrap .i64 (a + b) = c := h
theorem read_f0 (N n : Nat) (l : List IV) (x w0 w1 w2 w3 : Int) (K : Out → St → Res) : lpE (E_cert_read N) (subC c_cert_read [1, 1, 1, 1, 0, 1, 0, 1, 1, 1, 0, 1, 0, 1, 0, 0]) ⟨[2, 6, 7, 66], [2, 7], []⟩ (n + 1) ⟨[(2, (.ptr 2 0 0)), (6, (.list false [.str] l)), (7, (.ptr 7 0 0)), (66, (.int .i64 0))], [(2, (some (.box [(.int .i64 0), .zs, (.int .i64 0), (.int .i64 0), (.int .i64 0), (.int .i64 0), (.int .i64 0), (.int .i64 0)]))), (7, (some (.box [(.int .i64 2), .zs, (.int .i64 w0), (.int .i64 w1), (.int .i64 w2), (.int .i64 w3), (.int .i64 0), (.int .i64 x)])))]⟩ K =
    lpE (E_cert_read N) (subC c_cert_read [1, 1, 1, 1, 0, 1, 0, 1, 1, 1, 0, 1, 0, 1, 0, 0]) ⟨[2, 6, 7, 66], [2, 7], []⟩ n ⟨[(2, (.ptr 2 0 0)), (6, (.list false [.str] l)), (7, (.ptr 7 0 0)), (66, (.int .i64 1))], [(2, (some (.box [(.int .i64 0), .zs, (.int .i64 0), (.int .i64 0), (.int .i64 0), (.int .i64 0), (.int .i64 0), (.int .i64 0)]))), (7, (some (.box [(.int .i64 2), .zs, (.int .i64 (numberZ l 2)), (.int .i64 w1), (.int .i64 w2), (.int .i64 w3), (.int .i64 0), (.int .i64 x)])))]⟩ K := by
  rw [lpE_succ, st_cert_read_2, w_is (a := 2) (b := 0) (c := 2) rfl, w_is (a := 0) (b := 1) (c := 1) rfl]
  simp only [show decide ((0 : Int) < 4) = true from rfl, show decide ((0 : Int) ≤ 2) = true from rfl, show decide ((0 : Int) = ic 0) = true from rfl, condT]

theorem read_f1 (N n : Nat) (l : List IV) (x w0 w1 w2 w3 : Int) (K : Out → St → Res) : lpE (E_cert_read N) (subC c_cert_read [1, 1, 1, 1, 0, 1, 0, 1, 1, 1, 0, 1, 0, 1, 0, 0]) ⟨[2, 6, 7, 66], [2, 7], []⟩ (n + 1) ⟨[(2, (.ptr 2 0 0)), (6, (.list false [.str] l)), (7, (.ptr 7 0 0)), (66, (.int .i64 1))], [(2, (some (.box [(.int .i64 0), .zs, (.int .i64 0), (.int .i64 0), (.int .i64 0), (.int .i64 0), (.int .i64 0), (.int .i64 0)]))), (7, (some (.box [(.int .i64 2), .zs, (.int .i64 w0), (.int .i64 w1), (.int .i64 w2), (.int .i64 w3), (.int .i64 0), (.int .i64 x)])))]⟩ K =
    lpE (E_cert_read N) (subC c_cert_read [1, 1, 1, 1, 0, 1, 0, 1, 1, 1, 0, 1, 0, 1, 0, 0]) ⟨[2, 6, 7, 66], [2, 7], []⟩ n ⟨[(2, (.ptr 2 0 0)), (6, (.list false [.str] l)), (7, (.ptr 7 0 0)), (66, (.int .i64 2))], [(2, (some (.box [(.int .i64 0), .zs, (.int .i64 0), (.int .i64 0), (.int .i64 0), (.int .i64 0), (.int .i64 0), (.int .i64 0)]))), (7, (some (.box [(.int .i64 2), .zs, (.int .i64 w0), (.int .i64 (numberZ l 3)), (.int .i64 w2), (.int .i64 w3), (.int .i64 0), (.int .i64 x)])))]⟩ K := by
  rw [lpE_succ, st_cert_read_2, w_is (a := 2) (b := 1) (c := 3) rfl, w_is (a := 1) (b := 1) (c := 2) rfl]
  simp only [show decide ((1 : Int) < 4) = true from rfl, show decide ((0 : Int) ≤ 3) = true from rfl, show decide ((1 : Int) = ic 0) = false from rfl, show decide ((1 : Int) = ic 1) = true from rfl, condT, condF]

theorem read_f2 (N n : Nat) (l : List IV) (x w0 w1 w2 w3 : Int) (K : Out → St → Res) : lpE (E_cert_read N) (subC c_cert_read [1, 1, 1, 1, 0, 1, 0, 1, 1, 1, 0, 1, 0, 1, 0, 0]) ⟨[2, 6, 7, 66], [2, 7], []⟩ (n + 1) ⟨[(2, (.ptr 2 0 0)), (6, (.list false [.str] l)), (7, (.ptr 7 0 0)), (66, (.int .i64 2))], [(2, (some (.box [(.int .i64 0), .zs, (.int .i64 0), (.int .i64 0), (.int .i64 0), (.int .i64 0), (.int .i64 0), (.int .i64 0)]))), (7, (some (.box [(.int .i64 2), .zs, (.int .i64 w0), (.int .i64 w1), (.int .i64 w2), (.int .i64 w3), (.int .i64 0), (.int .i64 x)])))]⟩ K =
    lpE (E_cert_read N) (subC c_cert_read [1, 1, 1, 1, 0, 1, 0, 1, 1, 1, 0, 1, 0, 1, 0, 0]) ⟨[2, 6, 7, 66], [2, 7], []⟩ n ⟨[(2, (.ptr 2 0 0)), (6, (.list false [.str] l)), (7, (.ptr 7 0 0)), (66, (.int .i64 3))], [(2, (some (.box [(.int .i64 0), .zs, (.int .i64 0), (.int .i64 0), (.int .i64 0), (.int .i64 0), (.int .i64 0), (.int .i64 0)]))), (7, (some (.box [(.int .i64 2), .zs, (.int .i64 w0), (.int .i64 w1), (.int .i64 (numberZ l 4)), (.int .i64 w3), (.int .i64 0), (.int .i64 x)])))]⟩ K := by
  rw [lpE_succ, st_cert_read_2, w_is (a := 2) (b := 2) (c := 4) rfl, w_is (a := 2) (b := 1) (c := 3) rfl]
  simp only [show decide ((2 : Int) < 4) = true from rfl, show decide ((0 : Int) ≤ 4) = true from rfl, show decide ((2 : Int) = ic 0) = false from rfl, show decide ((2 : Int) = ic 1) = false from rfl, show decide ((2 : Int) = ic 2) = true from rfl, condT, condF]

theorem read_f3 (N n : Nat) (l : List IV) (x w0 w1 w2 w3 : Int) (K : Out → St → Res) : lpE (E_cert_read N) (subC c_cert_read [1, 1, 1, 1, 0, 1, 0, 1, 1, 1, 0, 1, 0, 1, 0, 0]) ⟨[2, 6, 7, 66], [2, 7], []⟩ (n + 1) ⟨[(2, (.ptr 2 0 0)), (6, (.list false [.str] l)), (7, (.ptr 7 0 0)), (66, (.int .i64 3))], [(2, (some (.box [(.int .i64 0), .zs, (.int .i64 0), (.int .i64 0), (.int .i64 0), (.int .i64 0), (.int .i64 0), (.int .i64 0)]))), (7, (some (.box [(.int .i64 2), .zs, (.int .i64 w0), (.int .i64 w1), (.int .i64 w2), (.int .i64 w3), (.int .i64 0), (.int .i64 x)])))]⟩ K =
    lpE (E_cert_read N) (subC c_cert_read [1, 1, 1, 1, 0, 1, 0, 1, 1, 1, 0, 1, 0, 1, 0, 0]) ⟨[2, 6, 7, 66], [2, 7], []⟩ n ⟨[(2, (.ptr 2 0 0)), (6, (.list false [.str] l)), (7, (.ptr 7 0 0)), (66, (.int .i64 4))], [(2, (some (.box [(.int .i64 0), .zs, (.int .i64 0), (.int .i64 0), (.int .i64 0), (.int .i64 0), (.int .i64 0), (.int .i64 0)]))), (7, (some (.box [(.int .i64 2), .zs, (.int .i64 w0), (.int .i64 w1), (.int .i64 w2), (.int .i64 (numberZ l 5)), (.int .i64 0), (.int .i64 x)])))]⟩ K := by
  rw [lpE_succ, st_cert_read_2, w_is (a := 2) (b := 3) (c := 5) rfl, w_is (a := 3) (b := 1) (c := 4) rfl]
  simp only [show decide ((3 : Int) < 4) = true from rfl, show decide ((0 : Int) ≤ 5) = true from rfl, show decide ((3 : Int) = ic 0) = false from rfl, show decide ((3 : Int) = ic 1) = false from rfl, show decide ((3 : Int) = ic 2) = false from rfl, show decide ((3 : Int) = ic 3) = true from rfl, condT, condF]

theorem read_f4 (N n : Nat) (l : List IV) (x w0 w1 w2 w3 : Int) : lpE (E_cert_read N) (subC c_cert_read [1, 1, 1, 1, 0, 1, 0, 1, 1, 1, 0, 1, 0, 1, 0, 0]) ⟨[2, 6, 7, 66], [2, 7], []⟩ (n + 1) ⟨[(2, (.ptr 2 0 0)), (6, (.list false [.str] l)), (7, (.ptr 7 0 0)), (66, (.int .i64 4))], [(2, (some (.box [(.int .i64 0), .zs, (.int .i64 0), (.int .i64 0), (.int .i64 0), (.int .i64 0), (.int .i64 0), (.int .i64 0)]))), (7, (some (.box [(.int .i64 2), .zs, (.int .i64 w0), (.int .i64 w1), (.int .i64 w2), (.int .i64 w3), (.int .i64 0), (.int .i64 x)])))]⟩ (kBlock 3 (kSq (E_cert_read N) (subC c_cert_read [1, 1, 1, 1, 0, 1, 0, 1, 1, 1, 0, 1, 1]) (kBlock 0 (kSq (E_cert_read N) (subC c_cert_read [1, 1, 1, 1, 1]) (outT (E_cert_read N) none [(ResultVar.cell 2 28)] [[(.int .i64), (.list true [.bool, (.int .i64), (.int .i64)]), (.int .i64), (.int .i64), (.int .i64), (.int .i64), (.int .i64), (.int .i64)]]))))) =
    some ((.agg [(.int .i64 2), (.list true [.bool, (.int .i64), (.int .i64)] []), (.int .i64 w0), (.int .i64 w1), (.int .i64 w2), (.int .i64 w3), (.int .i64 (numberZ l 6)), (.int .i64 x)]), []) := by
  rw [lpE_succ, st_cert_read_2]
  simp only [show decide ((4 : Int) < 4) = false from rfl, condF]
  exact ex_cert_read_2_1 N _ _ _ _ _ _ _ _ _ _ _ _ _ _ _ _

theorem read_fails (N n : Nat) (l : List IV) (x : Int) : lpE (E_cert_read N) (subC c_cert_read [1, 1, 1, 1, 0, 1, 0, 1, 1, 1, 0, 1, 0, 1, 0, 0]) ⟨[2, 6, 7, 66], [2, 7], []⟩ (n + 1 + 1 + 1 + 1 + 1) ⟨[(2, (.ptr 2 0 0)), (6, (.list false [.str] l)), (7, (.ptr 7 0 0)), (66, (.int .i64 0))], [(2, (some (.box [(.int .i64 0), .zs, (.int .i64 0), (.int .i64 0), (.int .i64 0), (.int .i64 0), (.int .i64 0), (.int .i64 0)]))), (7, (some (.box [(.int .i64 2), .zs, (.int .i64 0), (.int .i64 0), (.int .i64 0), (.int .i64 0), (.int .i64 0), (.int .i64 x)])))]⟩ (kBlock 3 (kSq (E_cert_read N) (subC c_cert_read [1, 1, 1, 1, 0, 1, 0, 1, 1, 1, 0, 1, 1]) (kBlock 0 (kSq (E_cert_read N) (subC c_cert_read [1, 1, 1, 1, 1]) (outT (E_cert_read N) none [(ResultVar.cell 2 28)] [[(.int .i64), (.list true [.bool, (.int .i64), (.int .i64)]), (.int .i64), (.int .i64), (.int .i64), (.int .i64), (.int .i64), (.int .i64)]]))))) =
    some ((.agg [(.int .i64 2), (.list true [.bool, (.int .i64), (.int .i64)] []), (.int .i64 (numberZ l 2)), (.int .i64 (numberZ l 3)), (.int .i64 (numberZ l 4)), (.int .i64 (numberZ l 5)), (.int .i64 (numberZ l 6)), (.int .i64 x)]), []) :=
  (read_f0 N (n + 1 + 1 + 1 + 1) l x 0 0 0 0 _).trans ((read_f1 N (n + 1 + 1 + 1) l x _ 0 0 0 _).trans ((read_f2 N (n + 1 + 1) l x _ _ 0 0 _).trans ((read_f3 N (n + 1) l x _ _ _ 0 _).trans (read_f4 N n l x _ _ _ _))))

theorem snd_cert_read : SndR PR B0 14 S_cert_read := by
  refine snd_mk [(19, S_strings_Cut), (20, S_strings_Split), (21, S_cert_number)] [(7, ⟨[2, 4, 7], [2, 7, 51], [⟨.cell 7 1, 51, 23, true, [.bool, .int .i64, .int .i64]⟩]⟩), (16, ⟨[2, 6, 7, 66], [2, 7], []⟩)] S_cert_read [[.int .i64, .list true [.bool, .int .i64, .int .i64], .int .i64, .int .i64, .int .i64, .int .i64, .int .i64, .int .i64]] Tryd.func14 h_cert_read ⟨snd_strings_Cut, snd_strings_Split, snd_cert_number, trivial⟩ ?_
  intro vs r hwf h
  unfold S_cert_read at h
  split at h
  · rename_i s
    refine ⟨s.size + 1 + 1 + 1 + 1 + 1 + 1, ?_⟩
    rw [← h]
    refine (nf_cert_read (s.size + 1 + 1 + 1 + 1 + 1 + 1) s).trans ?_
    simp only [R.get_br, R.get_ok, R.get_no]
    cases hs : decide (s.size < 4294967281) with
    | false => rfl
    | true =>
      have hs := of_decide_eq_true hs
      simp only [condT]
      rw [cutL_small hs, dsp, split_pos']
      simp only [Nat.le_refl, decide_true, Bool.and_true, condT]
      have ez : Int.toNat 0 = 0 := rfl
      rw [ez]
      unfold readV wordOf firstL
      have hlt := (cut_sizes s w_nl).2
      generalize List.map IV.str (splitL (cutL s w_nl) w_sp) = l
      generalize (ByteArray.toList (IV.toStr (List.getD l 0 default)) == ByteArray.toList w_holds) = q1
      generalize (ByteArray.toList (IV.toStr (List.getD l 0 default)) == ByteArray.toList w_fails) = q2
      generalize (ByteArray.toList (IV.toStr (List.getD l 0 default)) == ByteArray.toList w_unknown) = q3
      generalize (ByteArray.toList (IV.toStr (List.getD l 0 default)) == ByteArray.toList w_wrong) = q4
      cases q1
      · cases q2
        · cases q3
          · cases q4 <;> simp only [condT, condF]
          · simp only [condT, condF]
        · simp only [condT, condF]
          exact read_fails _ (s.size + 1) _ _
      · simp only [condT]
        exact read_run _ _ _ _ _ _ _ _ _ _ _ _ _ _ _ _ (fun s' p => ex_cert_read_1_1 _ s' _ _ _ _ _ _ _ _ _ _ _ _ _ _ _ p) ((cutR s w_nl).size + 1) _ (cutR s w_nl) [] (by omega) (by omega) (by omega)
  · simp [R.get] at h

/-! ### Print -/
theorem lineB_size (s w : ByteArray) (l : List IV) : s.size ≤ (lineB s w l).size := by
  unfold lineB
  have := numsB_size l (s ++ w)
  rw [ByteArray.size_append] at this
  rw [ByteArray.size_push]
  omega
theorem printSteps_size : ∀ (l : List IV) (s : ByteArray), s.size ≤ (printSteps s l).size
  | [], s => Nat.le_refl _
  | x :: l, s => by
    unfold printSteps
    refine Nat.le_trans ?_ (printSteps_size l _)
    cases stSum x
    · exact lineB_size _ _ _
    · exact lineB_size _ _ _

theorem print_run (N : Nat) (l : List IV) (t : ByteArray) (K : Out → St → Res) (hl : l.length ≤ 65536)
    (hx : ∀ s x26 x27, K (.exit 1) ⟨[(2, (.str t)), (3, (.ptr 3 0 0)), (25, (.list true [.bool, (.int .i64), (.int .i64)] l)), (26, (.int .i64 x26)), (27, (.int .i64 x27))], [(3, (some (.bld s)))]⟩ = some (.str s, [])) :
    ∀ (d i n : Nat) (s : ByteArray), i + d = l.length → d < n → (printSteps s (l.drop i)).size ≤ strMax →
      lpE (E_cert_Print N) (subC c_cert_Print [1, 1, 1, 0, 1, 0, 1, 0, 1, 1, 0, 0]) ⟨[2, 3, 25, 26, 27], [3], []⟩ n ⟨[(2, (.str t)), (3, (.ptr 3 0 0)), (25, (.list true [.bool, (.int .i64), (.int .i64)] l)), (26, (.int .i64 (ic l.length))), (27, (.int .i64 (i : Int)))], [(3, (some (.bld s)))]⟩ K = some (.str (printSteps s (l.drop i)), [])
  | 0, i, n + 1, s, hd, _, _ => by
    rw [lpE_succ, st_cert_Print_1, idx_ge (by omega), List.drop_of_length_le (l := l) (i := i) (by omega)]
    simp only [condF, printSteps]
    exact hx s _ _
  | d + 1, i, n + 1, s, hd, hn, hs => by
    have hi : i < l.length := by omega
    rw [lpE_succ, st_cert_Print_1, idx_lt hi, idx_0, succ_w (by omega), getD_i hi]
    rw [List.drop_eq_getElem_cons hi] at hs ⊢
    simp only [printSteps] at hs ⊢
    simp only [condT, Bool.and_true]
    have hsz := printSteps_size (l.drop (i + 1)) (cond (stSum l[i]) (lineB s w_sum []) (lineB s w_cut [.int (stPlace l[i]), .int (stAt l[i])]))
    have ih := fun s' h' => print_run N l t K hl hx d (i + 1) n s' (by omega) (by omega) h'
    have es : (l[i].cell 0).toBool = stSum l[i] := rfl
    rw [es]
    cases hc : stSum l[i] with
    | true =>
      rw [hc] at hsz hs
      simp only [condT] at hsz hs ⊢
      rw [decide_eq_true (show (lineB s w_sum []).size ≤ strMax by omega)]
      simp only [condT]
      exact ih _ hs
    | false =>
      rw [hc] at hsz hs
      simp only [condF] at hsz hs ⊢
      have e2 : List.drop 0 (List.take 2 [IV.int (IV.toInt (IV.cell l[i] 1)), IV.int (IV.toInt (IV.cell l[i] 2))]) = [.int (stPlace l[i]), .int (stAt l[i])] := rfl
      rw [e2, decide_eq_true (show (lineB s w_cut [.int (stPlace l[i]), .int (stAt l[i])]).size ≤ strMax by omega)]
      simp only [condT]
      exact ih _ hs
  | 0, _, 0, _, _, h, _ => by omega
  | _ + 1, _, 0, _, _, h, _ => by omega

theorem right_len {v : Vd} (h : v.right = true) : v.proof.length ≤ 65536 := by
  unfold Vd.right at h
  simp only [Bool.and_eq_true, Bool.or_eq_true] at h
  rcases h.2.2 with h1 | h1 | h1
  · have := h1.2.2
    unfold stepsB at this
    simp only [Bool.and_eq_true, decide_eq_true_eq] at this
    exact this.2.1
  · have := h1.2
    cases hp : v.proof with
    | nil => simp
    | cons a b => rw [hp] at this; cases this
  · have := h1.2.2
    cases hp : v.proof with
    | nil => simp
    | cons a b => rw [hp] at this; cases this

theorem snd_cert_Print : SndR PR B0 9 S_cert_Print := by
  refine snd_mk [(12, S_cert_Right), (15, S_cert_line), (16, S_strings_Builder_String)] [(9, ⟨[2, 3, 25, 26, 27], [3], []⟩)] S_cert_Print [[.str]] Tryd.func9 h_cert_Print ⟨snd_cert_Right, snd_cert_line, snd_strings_Builder_String, trivial⟩ ?_
  intro vs r hwf h
  unfold S_cert_Print at h
  split at h
  · rename_i k p a b c d t s
    refine ⟨p.length + 1, ?_⟩
    rw [← h]
    refine (nf_cert_Print (p.length + 1) k p a b c d t s).trans ?_
    rw [R.get_br, R.get_ok, R.get_no] at h
    simp only [R.get_br, R.get_ok, R.get_no]
    cases hc : decide ((printB ⟨k, p, a, b, c, d, t, s⟩).size ≤ strMax) with
    | false => rw [hc] at h; cases h
    | true =>
      have hle := of_decide_eq_true hc
      simp only [condT]
      unfold printB at hle ⊢
      cases hr : Vd.right ⟨k, p, a, b, c, d, t, s⟩ with
      | false => rfl
      | true =>
        rw [hr] at hle
        simp only [Bool.not_true, condT, condF] at hle ⊢
        have e2 : ∀ x y : IV, List.drop 0 (List.take 2 [x, y]) = [x, y] := fun _ _ => rfl
        have e1 : ∀ x : IV, List.drop 0 (List.take 1 [x]) = [x] := fun _ => rfl
        have e0 : ByteArray.empty = w_none := rfl
        simp only [e1, e2, e0]
        cases k1 : k == 1 with
        | true =>
          rw [k1] at hle
          simp only [condT] at hle ⊢
          have h1 := printSteps_size p (lineB w_none w_holds [.int s, .int (ic p.length)])
          rw [decide_eq_true (show (lineB w_none w_holds [.int s, .int (ic p.length)]).size ≤ strMax by omega)]
          simp only [condT]
          have := print_run (p.length + 1) p w_none _ (right_len hr) (fun s' x26 x27 => ex_cert_Print_1_1 (p.length + 1) w_none p x26 x27 s') p.length 0 (p.length + 1) (lineB w_none w_holds [.int s, .int (ic p.length)]) (by omega) (by omega) (by rw [List.drop_zero]; exact hle)
          rw [List.drop_zero] at this
          exact this
        | false =>
          rw [k1] at hle
          simp only [condF] at hle ⊢
          cases k2 : k == 2 with
          | true =>
            rw [k2] at hle
            simp only [condT] at hle ⊢
            have ew : (List.drop 0 (List.take (1 + List.length [IV.int a, IV.int b, IV.int c, IV.int d] + List.length (List.drop 0 (List.take 1 [IV.int t]))) (List.take (1 + List.length [IV.int a, IV.int b, IV.int c, IV.int d]) (List.take 1 [IV.int s] ++ [IV.int a, IV.int b, IV.int c, IV.int d]) ++ List.drop 0 (List.take 1 [IV.int t])))) = [.int s, .int a, .int b, .int c, .int d, .int t] := rfl
            simp only [e1] at ew
            rw [ew, decide_eq_true hle]
            rfl
          | false =>
            rw [k2] at hle
            simp only [condF] at hle ⊢
            cases k3 : k == 3 with
            | true =>
              rw [k3] at hle
              simp only [condT] at hle ⊢
              rw [decide_eq_true hle]
              rfl
            | false =>
              rw [k3] at hle
              simp only [condF] at hle ⊢
              rw [decide_eq_true hle]
              rfl
  · simp [R.get] at h

/-! ### Parse -/
theorem snd_cert_Parse : SndR PR B0 8 S_cert_Parse := by
  refine snd_mk [(9, S_cert_Print), (14, S_cert_read)] [] S_cert_Parse [[.int .i64, .list true [.bool, .int .i64, .int .i64], .int .i64, .int .i64, .int .i64, .int .i64, .int .i64, .int .i64], [.bool]] Tryd.func8 h_cert_Parse ⟨snd_cert_Print, snd_cert_read, trivial⟩ ?_
  intro vs r hwf h
  unfold S_cert_Parse at h
  split at h
  · rename_i s
    refine ⟨0, ?_⟩
    rw [← h]
    refine (nf_cert_Parse 0 s).trans ?_
    simp only [R.get_br, R.get_ok, R.get_no] at h ⊢
    cases h1 : decide (s.size < 4294967281) with
    | false => rfl
    | true =>
      rw [h1] at h
      simp only [condT] at h ⊢
      cases h2 : decide ((printB (readV s)).size ≤ strMax) with
      | false => rw [h2] at h; cases h
      | true =>
        simp only [condT]
        unfold parseV parseOK
        cases h3 : (s.toList == w_none.toList) with
        | true => rfl
        | false =>
          cases h4 : ((printB (readV s)).toList == s.toList) with
          | true => rfl
          | false => rfl
  · simp [R.get] at h

/-! ### Verdicts, few -/
theorem snd_copsekeep_Verdicts : SndR PR B0 10 S_copsekeep_Verdicts := by
  refine snd_mk [(17, S_copsebook_Same_apiStep)] [] S_copsekeep_Verdicts [[.bool]] Tryd.func10 h_copsekeep_Verdicts ⟨snd_copsebook_Same_apiStep, trivial⟩ ?_
  intro vs r hwf h
  unfold S_copsekeep_Verdicts at h
  split at h
  · rename_i k p a b c d t s k' p' a' b' c' d' t' s'
    refine ⟨0, ?_⟩
    rw [← h]
    refine (nf_copsekeep_Verdicts 0 k p a b c d t s k' p' a' b' c' d' t' s').trans ?_
    simp only [R.get_ok]
    unfold vdEq
    simp only [Bool.and_true]
    cases k == k'
    · rfl
    cases sameB p p'
    · rfl
    cases a == a' <;> cases b == b' <;> cases c == c' <;> cases d == d' <;> cases t == t' <;> rfl
  · simp [R.get] at h

theorem snd_copselaw20_few : SndR PR B0 11 S_copselaw20_few := by
  refine snd_mk [] [] S_copselaw20_few [[.int .i64, .list true [.bool, .int .i64, .int .i64], .int .i64, .int .i64, .int .i64, .int .i64, .int .i64, .int .i64]] Tryd.func11 h_copselaw20_few trivial ?_
  intro vs r hwf h
  unfold S_copselaw20_few at h
  split at h
  · rename_i k p a b c d t s
    refine ⟨0, ?_⟩
    rw [← h]
    refine (nf_copselaw20_few 0 k p a b c d t s).trans ?_
    simp only [R.get_ok]
    have e0 : (min (ic p.length) 40 : Int) = ((min p.length 40 : Nat) : Int) := by simp only [ic]; omega
    rw [e0]
    have e1 : Int.toNat ((min p.length 40 : Nat) : Int) = min p.length 40 := rfl
    rw [e1]
    have e2 : List.take (min p.length 40) p = List.take 40 p := by rw [List.take_eq_take_iff]; omega
    rw [e2]
    have et : TI.bytes (Env.tyd (E_copselaw20_few 0) 23) = 24 := rfl
    rw [et, List.drop_zero, decide_eq_true (show (0 : Int) ≤ ((min p.length 40 : Nat) : Int) by omega), decide_eq_true (show ((min p.length 40 : Nat) : Int) ≤ ic p.length by simp only [ic]; omega), decide_eq_true (show (0 + (List.take 40 p).length) * 24 ≤ bytesMax by simp only [List.length_take, bytesMax]; omega)]
    simp only [Bool.and_true, condT, List.take_zero, List.nil_append, Nat.zero_add, List.drop_zero, List.take_length]
  · simp [R.get] at h

end Go.FM

/-
  NORMAL FORMS: what the functions' runs come to (written by a program of this claim's own, checked by the kernel).
-/
namespace Go.FM
open Go Go.Proofs

/-! ### copse/copselaw20.CertRuns -/
def E_copselaw20_CertRuns (N : Nat) : Env := mkE [(8, S_cert_Parse), (9, S_cert_Print), (10, S_copsekeep_Verdicts)] [] 33 N

theorem nf_copselaw20_CertRuns (N : Nat) : evFun (E_copselaw20_CertRuns N) c_copselaw20_CertRuns [.tmp 0] [[.bool]] [] =
  (some ((.bool true), [])) := by kernel_rfl

/-! ### copse/copselaw20.CertBack -/
def E_copselaw20_CertBack (N : Nat) : Env := mkE [(3, S_copselaw20_CertRuns), (8, S_cert_Parse), (9, S_cert_Print), (10, S_copsekeep_Verdicts), (11, S_copselaw20_few), (12, S_cert_Right)] [] 81 N

theorem nf_copselaw20_CertBack (N : Nat) (a_Kind : Int) (a_Proof : List IV) (a_Witness_0 : Int) (a_Witness_1 : Int) (a_Witness_2 : Int) (a_Witness_3 : Int) (a_Twin : Int) (a_Spent : Int) (a1_Kind : Int) (a1_Proof : List IV) (a1_Witness_0 : Int) (a1_Witness_1 : Int) (a1_Witness_2 : Int) (a1_Witness_3 : Int) (a1_Twin : Int) (a1_Spent : Int) : evFun (E_copselaw20_CertBack N) c_copselaw20_CertBack [.tmp 4] [[.bool]] [(.agg [(.int .i64 a_Kind), (.list true [.bool, .int .i64, .int .i64] a_Proof), (.int .i64 a_Witness_0), (.int .i64 a_Witness_1), (.int .i64 a_Witness_2), (.int .i64 a_Witness_3), (.int .i64 a_Twin), (.int .i64 a_Spent)]), (.agg [(.int .i64 a1_Kind), (.list true [.bool, .int .i64, .int .i64] a1_Proof), (.int .i64 a1_Witness_0), (.int .i64 a1_Witness_1), (.int .i64 a1_Witness_2), (.int .i64 a1_Witness_3), (.int .i64 a1_Twin), (.int .i64 a1_Spent)])] =
  (cond (decide (ByteArray.size (printB { kind := a_Kind, proof := List.take 40 a_Proof, w0 := a_Witness_0, w1 := a_Witness_1, w2 := a_Witness_2, w3 := a_Witness_3, twin := a_Twin, spent := a_Spent }) ≤ strMax))
  (cond (decide (ByteArray.size (printB { kind := a1_Kind, proof := List.take 40 a1_Proof, w0 := a1_Witness_0, w1 := a1_Witness_1, w2 := a1_Witness_2, w3 := a1_Witness_3, twin := a1_Twin, spent := a1_Spent }) ≤ strMax))
    (cond (decide (ByteArray.size (printB { kind := a_Kind, proof := List.take 40 a_Proof, w0 := a_Witness_0, w1 := a_Witness_1, w2 := a_Witness_2, w3 := a_Witness_3, twin := a_Twin, spent := a_Spent }) < 4294967281))
      (cond (decide (ByteArray.size (printB (readV (printB { kind := a_Kind, proof := List.take 40 a_Proof, w0 := a_Witness_0, w1 := a_Witness_1, w2 := a_Witness_2, w3 := a_Witness_3, twin := a_Twin, spent := a_Spent }))) ≤ strMax))
        (cond (!decide (ic (ByteArray.size (printB { kind := a_Kind, proof := List.take 40 a_Proof, w0 := a_Witness_0, w1 := a_Witness_1, w2 := a_Witness_2, w3 := a_Witness_3, twin := a_Twin, spent := a_Spent })) > 0) == Vd.right { kind := a_Kind, proof := List.take 40 a_Proof, w0 := a_Witness_0, w1 := a_Witness_1, w2 := a_Witness_2, w3 := a_Witness_3, twin := a_Twin, spent := a_Spent })
          (some ((.bool false), []))
          (cond (!decide (ic (ByteArray.size (printB { kind := a1_Kind, proof := List.take 40 a1_Proof, w0 := a1_Witness_0, w1 := a1_Witness_1, w2 := a1_Witness_2, w3 := a1_Witness_3, twin := a1_Twin, spent := a1_Spent })) > 0) == Vd.right { kind := a1_Kind, proof := List.take 40 a1_Proof, w0 := a1_Witness_0, w1 := a1_Witness_1, w2 := a1_Witness_2, w3 := a1_Witness_3, twin := a1_Twin, spent := a1_Spent })
            (some ((.bool false), []))
            (cond (!parseOK (printB { kind := a_Kind, proof := List.take 40 a_Proof, w0 := a_Witness_0, w1 := a_Witness_1, w2 := a_Witness_2, w3 := a_Witness_3, twin := a_Twin, spent := a_Spent }) == Vd.right { kind := a_Kind, proof := List.take 40 a_Proof, w0 := a_Witness_0, w1 := a_Witness_1, w2 := a_Witness_2, w3 := a_Witness_3, twin := a_Twin, spent := a_Spent })
              (some ((.bool false), []))
              (cond (parseOK (printB { kind := a_Kind, proof := List.take 40 a_Proof, w0 := a_Witness_0, w1 := a_Witness_1, w2 := a_Witness_2, w3 := a_Witness_3, twin := a_Twin, spent := a_Spent }))
                (cond (!vdEq { kind := Vd.kind (parseV (printB { kind := a_Kind, proof := List.take 40 a_Proof, w0 := a_Witness_0, w1 := a_Witness_1, w2 := a_Witness_2, w3 := a_Witness_3, twin := a_Twin, spent := a_Spent })), proof := Vd.proof (parseV (printB { kind := a_Kind, proof := List.take 40 a_Proof, w0 := a_Witness_0, w1 := a_Witness_1, w2 := a_Witness_2, w3 := a_Witness_3, twin := a_Twin, spent := a_Spent })), w0 := Vd.w0 (parseV (printB { kind := a_Kind, proof := List.take 40 a_Proof, w0 := a_Witness_0, w1 := a_Witness_1, w2 := a_Witness_2, w3 := a_Witness_3, twin := a_Twin, spent := a_Spent })), w1 := Vd.w1 (parseV (printB { kind := a_Kind, proof := List.take 40 a_Proof, w0 := a_Witness_0, w1 := a_Witness_1, w2 := a_Witness_2, w3 := a_Witness_3, twin := a_Twin, spent := a_Spent })), w2 := Vd.w2 (parseV (printB { kind := a_Kind, proof := List.take 40 a_Proof, w0 := a_Witness_0, w1 := a_Witness_1, w2 := a_Witness_2, w3 := a_Witness_3, twin := a_Twin, spent := a_Spent })), w3 := Vd.w3 (parseV (printB { kind := a_Kind, proof := List.take 40 a_Proof, w0 := a_Witness_0, w1 := a_Witness_1, w2 := a_Witness_2, w3 := a_Witness_3, twin := a_Twin, spent := a_Spent })), twin := Vd.twin (parseV (printB { kind := a_Kind, proof := List.take 40 a_Proof, w0 := a_Witness_0, w1 := a_Witness_1, w2 := a_Witness_2, w3 := a_Witness_3, twin := a_Twin, spent := a_Spent })), spent := Vd.spent (parseV (printB { kind := a_Kind, proof := List.take 40 a_Proof, w0 := a_Witness_0, w1 := a_Witness_1, w2 := a_Witness_2, w3 := a_Witness_3, twin := a_Twin, spent := a_Spent })) } { kind := a_Kind, proof := List.take 40 a_Proof, w0 := a_Witness_0, w1 := a_Witness_1, w2 := a_Witness_2, w3 := a_Witness_3, twin := a_Twin, spent := a_Spent })
                  (some ((.bool false), []))
                  (cond (!parseOK (printB { kind := a_Kind, proof := List.take 40 a_Proof, w0 := a_Witness_0, w1 := a_Witness_1, w2 := a_Witness_2, w3 := a_Witness_3, twin := a_Twin, spent := a_Spent }))
                    (cond (!vdEq { kind := Vd.kind (parseV (printB { kind := a_Kind, proof := List.take 40 a_Proof, w0 := a_Witness_0, w1 := a_Witness_1, w2 := a_Witness_2, w3 := a_Witness_3, twin := a_Twin, spent := a_Spent })), proof := Vd.proof (parseV (printB { kind := a_Kind, proof := List.take 40 a_Proof, w0 := a_Witness_0, w1 := a_Witness_1, w2 := a_Witness_2, w3 := a_Witness_3, twin := a_Twin, spent := a_Spent })), w0 := Vd.w0 (parseV (printB { kind := a_Kind, proof := List.take 40 a_Proof, w0 := a_Witness_0, w1 := a_Witness_1, w2 := a_Witness_2, w3 := a_Witness_3, twin := a_Twin, spent := a_Spent })), w1 := Vd.w1 (parseV (printB { kind := a_Kind, proof := List.take 40 a_Proof, w0 := a_Witness_0, w1 := a_Witness_1, w2 := a_Witness_2, w3 := a_Witness_3, twin := a_Twin, spent := a_Spent })), w2 := Vd.w2 (parseV (printB { kind := a_Kind, proof := List.take 40 a_Proof, w0 := a_Witness_0, w1 := a_Witness_1, w2 := a_Witness_2, w3 := a_Witness_3, twin := a_Twin, spent := a_Spent })), w3 := Vd.w3 (parseV (printB { kind := a_Kind, proof := List.take 40 a_Proof, w0 := a_Witness_0, w1 := a_Witness_1, w2 := a_Witness_2, w3 := a_Witness_3, twin := a_Twin, spent := a_Spent })), twin := Vd.twin (parseV (printB { kind := a_Kind, proof := List.take 40 a_Proof, w0 := a_Witness_0, w1 := a_Witness_1, w2 := a_Witness_2, w3 := a_Witness_3, twin := a_Twin, spent := a_Spent })), spent := Vd.spent (parseV (printB { kind := a_Kind, proof := List.take 40 a_Proof, w0 := a_Witness_0, w1 := a_Witness_1, w2 := a_Witness_2, w3 := a_Witness_3, twin := a_Twin, spent := a_Spent })) } { kind := 0, proof := [], w0 := 0, w1 := 0, w2 := 0, w3 := 0, twin := 0, spent := 0 })
                      (some ((.bool false), []))
                      (cond (ic (ByteArray.size (printB { kind := a_Kind, proof := List.take 40 a_Proof, w0 := a_Witness_0, w1 := a_Witness_1, w2 := a_Witness_2, w3 := a_Witness_3, twin := a_Twin, spent := a_Spent })) == 0)
                        (some ((.bool true), []))
                        (cond (ic (ByteArray.size (printB { kind := a1_Kind, proof := List.take 40 a1_Proof, w0 := a1_Witness_0, w1 := a1_Witness_1, w2 := a1_Witness_2, w3 := a1_Witness_3, twin := a1_Twin, spent := a1_Spent })) == 0)
                          (some ((.bool true), []))
                          (cond ((ByteArray.toList (printB { kind := a_Kind, proof := List.take 40 a_Proof, w0 := a_Witness_0, w1 := a_Witness_1, w2 := a_Witness_2, w3 := a_Witness_3, twin := a_Twin, spent := a_Spent }) == ByteArray.toList (printB { kind := a1_Kind, proof := List.take 40 a1_Proof, w0 := a1_Witness_0, w1 := a1_Witness_1, w2 := a1_Witness_2, w3 := a1_Witness_3, twin := a1_Twin, spent := a1_Spent })) == vdEq { kind := a_Kind, proof := List.take 40 a_Proof, w0 := a_Witness_0, w1 := a_Witness_1, w2 := a_Witness_2, w3 := a_Witness_3, twin := a_Twin, spent := a_Spent } { kind := a1_Kind, proof := List.take 40 a1_Proof, w0 := a1_Witness_0, w1 := a1_Witness_1, w2 := a1_Witness_2, w3 := a1_Witness_3, twin := a1_Twin, spent := a1_Spent })
                            (some ((.bool true), []))
                            (some ((.bool false), []))))))
                    (cond (ic (ByteArray.size (printB { kind := a_Kind, proof := List.take 40 a_Proof, w0 := a_Witness_0, w1 := a_Witness_1, w2 := a_Witness_2, w3 := a_Witness_3, twin := a_Twin, spent := a_Spent })) == 0)
                      (some ((.bool true), []))
                      (cond (ic (ByteArray.size (printB { kind := a1_Kind, proof := List.take 40 a1_Proof, w0 := a1_Witness_0, w1 := a1_Witness_1, w2 := a1_Witness_2, w3 := a1_Witness_3, twin := a1_Twin, spent := a1_Spent })) == 0)
                        (some ((.bool true), []))
                        (cond ((ByteArray.toList (printB { kind := a_Kind, proof := List.take 40 a_Proof, w0 := a_Witness_0, w1 := a_Witness_1, w2 := a_Witness_2, w3 := a_Witness_3, twin := a_Twin, spent := a_Spent }) == ByteArray.toList (printB { kind := a1_Kind, proof := List.take 40 a1_Proof, w0 := a1_Witness_0, w1 := a1_Witness_1, w2 := a1_Witness_2, w3 := a1_Witness_3, twin := a1_Twin, spent := a1_Spent })) == vdEq { kind := a_Kind, proof := List.take 40 a_Proof, w0 := a_Witness_0, w1 := a_Witness_1, w2 := a_Witness_2, w3 := a_Witness_3, twin := a_Twin, spent := a_Spent } { kind := a1_Kind, proof := List.take 40 a1_Proof, w0 := a1_Witness_0, w1 := a1_Witness_1, w2 := a1_Witness_2, w3 := a1_Witness_3, twin := a1_Twin, spent := a1_Spent })
                          (some ((.bool true), []))
                          (some ((.bool false), [])))))))
                (cond (!parseOK (printB { kind := a_Kind, proof := List.take 40 a_Proof, w0 := a_Witness_0, w1 := a_Witness_1, w2 := a_Witness_2, w3 := a_Witness_3, twin := a_Twin, spent := a_Spent }))
                  (cond (!vdEq { kind := Vd.kind (parseV (printB { kind := a_Kind, proof := List.take 40 a_Proof, w0 := a_Witness_0, w1 := a_Witness_1, w2 := a_Witness_2, w3 := a_Witness_3, twin := a_Twin, spent := a_Spent })), proof := Vd.proof (parseV (printB { kind := a_Kind, proof := List.take 40 a_Proof, w0 := a_Witness_0, w1 := a_Witness_1, w2 := a_Witness_2, w3 := a_Witness_3, twin := a_Twin, spent := a_Spent })), w0 := Vd.w0 (parseV (printB { kind := a_Kind, proof := List.take 40 a_Proof, w0 := a_Witness_0, w1 := a_Witness_1, w2 := a_Witness_2, w3 := a_Witness_3, twin := a_Twin, spent := a_Spent })), w1 := Vd.w1 (parseV (printB { kind := a_Kind, proof := List.take 40 a_Proof, w0 := a_Witness_0, w1 := a_Witness_1, w2 := a_Witness_2, w3 := a_Witness_3, twin := a_Twin, spent := a_Spent })), w2 := Vd.w2 (parseV (printB { kind := a_Kind, proof := List.take 40 a_Proof, w0 := a_Witness_0, w1 := a_Witness_1, w2 := a_Witness_2, w3 := a_Witness_3, twin := a_Twin, spent := a_Spent })), w3 := Vd.w3 (parseV (printB { kind := a_Kind, proof := List.take 40 a_Proof, w0 := a_Witness_0, w1 := a_Witness_1, w2 := a_Witness_2, w3 := a_Witness_3, twin := a_Twin, spent := a_Spent })), twin := Vd.twin (parseV (printB { kind := a_Kind, proof := List.take 40 a_Proof, w0 := a_Witness_0, w1 := a_Witness_1, w2 := a_Witness_2, w3 := a_Witness_3, twin := a_Twin, spent := a_Spent })), spent := Vd.spent (parseV (printB { kind := a_Kind, proof := List.take 40 a_Proof, w0 := a_Witness_0, w1 := a_Witness_1, w2 := a_Witness_2, w3 := a_Witness_3, twin := a_Twin, spent := a_Spent })) } { kind := 0, proof := [], w0 := 0, w1 := 0, w2 := 0, w3 := 0, twin := 0, spent := 0 })
                    (some ((.bool false), []))
                    (cond (ic (ByteArray.size (printB { kind := a_Kind, proof := List.take 40 a_Proof, w0 := a_Witness_0, w1 := a_Witness_1, w2 := a_Witness_2, w3 := a_Witness_3, twin := a_Twin, spent := a_Spent })) == 0)
                      (some ((.bool true), []))
                      (cond (ic (ByteArray.size (printB { kind := a1_Kind, proof := List.take 40 a1_Proof, w0 := a1_Witness_0, w1 := a1_Witness_1, w2 := a1_Witness_2, w3 := a1_Witness_3, twin := a1_Twin, spent := a1_Spent })) == 0)
                        (some ((.bool true), []))
                        (cond ((ByteArray.toList (printB { kind := a_Kind, proof := List.take 40 a_Proof, w0 := a_Witness_0, w1 := a_Witness_1, w2 := a_Witness_2, w3 := a_Witness_3, twin := a_Twin, spent := a_Spent }) == ByteArray.toList (printB { kind := a1_Kind, proof := List.take 40 a1_Proof, w0 := a1_Witness_0, w1 := a1_Witness_1, w2 := a1_Witness_2, w3 := a1_Witness_3, twin := a1_Twin, spent := a1_Spent })) == vdEq { kind := a_Kind, proof := List.take 40 a_Proof, w0 := a_Witness_0, w1 := a_Witness_1, w2 := a_Witness_2, w3 := a_Witness_3, twin := a_Twin, spent := a_Spent } { kind := a1_Kind, proof := List.take 40 a1_Proof, w0 := a1_Witness_0, w1 := a1_Witness_1, w2 := a1_Witness_2, w3 := a1_Witness_3, twin := a1_Twin, spent := a1_Spent })
                          (some ((.bool true), []))
                          (some ((.bool false), []))))))
                  (cond (ic (ByteArray.size (printB { kind := a_Kind, proof := List.take 40 a_Proof, w0 := a_Witness_0, w1 := a_Witness_1, w2 := a_Witness_2, w3 := a_Witness_3, twin := a_Twin, spent := a_Spent })) == 0)
                    (some ((.bool true), []))
                    (cond (ic (ByteArray.size (printB { kind := a1_Kind, proof := List.take 40 a1_Proof, w0 := a1_Witness_0, w1 := a1_Witness_1, w2 := a1_Witness_2, w3 := a1_Witness_3, twin := a1_Twin, spent := a1_Spent })) == 0)
                      (some ((.bool true), []))
                      (cond ((ByteArray.toList (printB { kind := a_Kind, proof := List.take 40 a_Proof, w0 := a_Witness_0, w1 := a_Witness_1, w2 := a_Witness_2, w3 := a_Witness_3, twin := a_Twin, spent := a_Spent }) == ByteArray.toList (printB { kind := a1_Kind, proof := List.take 40 a1_Proof, w0 := a1_Witness_0, w1 := a1_Witness_1, w2 := a1_Witness_2, w3 := a1_Witness_3, twin := a1_Twin, spent := a1_Spent })) == vdEq { kind := a_Kind, proof := List.take 40 a_Proof, w0 := a_Witness_0, w1 := a_Witness_1, w2 := a_Witness_2, w3 := a_Witness_3, twin := a_Twin, spent := a_Spent } { kind := a1_Kind, proof := List.take 40 a1_Proof, w0 := a1_Witness_0, w1 := a1_Witness_1, w2 := a1_Witness_2, w3 := a1_Witness_3, twin := a1_Twin, spent := a1_Spent })
                        (some ((.bool true), []))
                        (some ((.bool false), []))))))))))
        none)
      none)
    none)
  none) := by kernel_rfl

/-! ### copse/copselaw20.CertOnly -/
def E_copselaw20_CertOnly (N : Nat) : Env := mkE [(3, S_copselaw20_CertRuns), (8, S_cert_Parse), (9, S_cert_Print), (10, S_copsekeep_Verdicts), (11, S_copselaw20_few), (12, S_cert_Right), (13, S_copsebook_Within)] [] 103 N

def onlyTail (t : ByteArray) : Res :=
  (cond (decide (ByteArray.size t < 4294967281))
    (cond (decide (ByteArray.size (printB (readV t)) ≤ strMax))
      (cond (!parseOK t)
        (cond (parseOK t)
          (some ((.bool true), []))
          (cond (vdEq { kind := Vd.kind (parseV t), proof := Vd.proof (parseV t), w0 := Vd.w0 (parseV t), w1 := Vd.w1 (parseV t), w2 := Vd.w2 (parseV t), w3 := Vd.w3 (parseV t), twin := Vd.twin (parseV t), spent := Vd.spent (parseV t) } { kind := 0, proof := [], w0 := 0, w1 := 0, w2 := 0, w3 := 0, twin := 0, spent := 0 })
            (some ((.bool true), []))
            (some ((.bool false), []))))
        (cond (decide (ByteArray.size (printB { kind := Vd.kind (parseV t), proof := Vd.proof (parseV t), w0 := Vd.w0 (parseV t), w1 := Vd.w1 (parseV t), w2 := Vd.w2 (parseV t), w3 := Vd.w3 (parseV t), twin := Vd.twin (parseV t), spent := Vd.spent (parseV t) }) ≤ strMax))
          (cond (ByteArray.toList (printB { kind := Vd.kind (parseV t), proof := Vd.proof (parseV t), w0 := Vd.w0 (parseV t), w1 := Vd.w1 (parseV t), w2 := Vd.w2 (parseV t), w3 := Vd.w3 (parseV t), twin := Vd.twin (parseV t), spent := Vd.spent (parseV t) }) == ByteArray.toList t)
            (cond (Vd.right { kind := Vd.kind (parseV t), proof := Vd.proof (parseV t), w0 := Vd.w0 (parseV t), w1 := Vd.w1 (parseV t), w2 := Vd.w2 (parseV t), w3 := Vd.w3 (parseV t), twin := Vd.twin (parseV t), spent := Vd.spent (parseV t) })
              (cond (parseOK t)
                (some ((.bool true), []))
                (cond (vdEq { kind := Vd.kind (parseV t), proof := Vd.proof (parseV t), w0 := Vd.w0 (parseV t), w1 := Vd.w1 (parseV t), w2 := Vd.w2 (parseV t), w3 := Vd.w3 (parseV t), twin := Vd.twin (parseV t), spent := Vd.spent (parseV t) } { kind := 0, proof := [], w0 := 0, w1 := 0, w2 := 0, w3 := 0, twin := 0, spent := 0 })
                  (some ((.bool true), []))
                  (some ((.bool false), []))))
              (some ((.bool false), [])))
            (some ((.bool false), [])))
          none))
      none)
    none)
def onlyK (tt : ByteArray) (a2 : Int) : Int := withinZ a2 0 (IntKind.wrap IntKind.i64 (ic (ByteArray.size tt) - 1))
def onlyArms (tt a1 : ByteArray) (a2 a3 a4 : Int) : Res :=
  (cond (withinZ a4 0 4 == 0)
    (cond (decide (0 ≤ onlyK tt a2) && decide (onlyK tt a2 ≤ ic (ByteArray.size tt)))
      (cond (decide (ByteArray.size (ByteArray.extract tt 0 (Int.toNat (onlyK tt a2))) + ByteArray.size (strOfNums (List.map IV.toInt (List.drop 0 (List.take 1 [IV.int a3])))) ≤ strMax))
        (cond (decide (0 ≤ IntKind.wrap IntKind.i64 (onlyK tt a2 + 1)) && decide (IntKind.wrap IntKind.i64 (onlyK tt a2 + 1) ≤ ic (ByteArray.size tt)))
          (cond (decide (ByteArray.size (ByteArray.extract tt 0 (Int.toNat (onlyK tt a2)) ++ strOfNums (List.map IV.toInt (List.drop 0 (List.take 1 [IV.int a3])))) + ByteArray.size (ByteArray.extract tt (Int.toNat (IntKind.wrap IntKind.i64 (onlyK tt a2 + 1))) (ByteArray.size tt)) ≤ strMax))
            (onlyTail (ByteArray.extract tt 0 (Int.toNat (onlyK tt a2)) ++ strOfNums (List.map IV.toInt (List.drop 0 (List.take 1 [IV.int a3]))) ++ ByteArray.extract tt (Int.toNat (IntKind.wrap IntKind.i64 (onlyK tt a2 + 1))) (ByteArray.size tt)))
            none)
          none)
        none)
      none)
    (cond (withinZ a4 0 4 == 1)
      (cond (decide (0 ≤ onlyK tt a2) && decide (onlyK tt a2 ≤ ic (ByteArray.size tt)))
        (cond (decide (ByteArray.size (ByteArray.extract tt 0 (Int.toNat (onlyK tt a2))) + ByteArray.size (strOfNums (List.map IV.toInt (List.drop 0 (List.take 1 [IV.int a3])))) ≤ strMax))
          (cond (decide (0 ≤ onlyK tt a2) && decide (onlyK tt a2 ≤ ic (ByteArray.size tt)))
            (cond (decide (ByteArray.size (ByteArray.extract tt 0 (Int.toNat (onlyK tt a2)) ++ strOfNums (List.map IV.toInt (List.drop 0 (List.take 1 [IV.int a3])))) + ByteArray.size (ByteArray.extract tt (Int.toNat (onlyK tt a2)) (ByteArray.size tt)) ≤ strMax))
              (onlyTail (ByteArray.extract tt 0 (Int.toNat (onlyK tt a2)) ++ strOfNums (List.map IV.toInt (List.drop 0 (List.take 1 [IV.int a3]))) ++ ByteArray.extract tt (Int.toNat (onlyK tt a2)) (ByteArray.size tt)))
              none)
            none)
          none)
        none)
      (cond (withinZ a4 0 4 == 2)
        (cond (decide (0 ≤ onlyK tt a2) && decide (onlyK tt a2 ≤ ic (ByteArray.size tt)))
          (cond (decide (0 ≤ IntKind.wrap IntKind.i64 (onlyK tt a2 + 1)) && decide (IntKind.wrap IntKind.i64 (onlyK tt a2 + 1) ≤ ic (ByteArray.size tt)))
            (cond (decide (ByteArray.size (ByteArray.extract tt 0 (Int.toNat (onlyK tt a2))) + ByteArray.size (ByteArray.extract tt (Int.toNat (IntKind.wrap IntKind.i64 (onlyK tt a2 + 1))) (ByteArray.size tt)) ≤ strMax))
              (onlyTail (ByteArray.extract tt 0 (Int.toNat (onlyK tt a2)) ++ ByteArray.extract tt (Int.toNat (IntKind.wrap IntKind.i64 (onlyK tt a2 + 1))) (ByteArray.size tt)))
              none)
            none)
          none)
        (cond (withinZ a4 0 4 == 3)
          (cond (decide (0 ≤ onlyK tt a2) && decide (onlyK tt a2 ≤ ic (ByteArray.size tt)))
            (onlyTail (ByteArray.extract tt 0 (Int.toNat (onlyK tt a2))))
            none)
          (cond (decide (0 ≤ min (ic (ByteArray.size a1)) 60) && decide (min (ic (ByteArray.size a1)) 60 ≤ ic (ByteArray.size a1)))
            (onlyTail (ByteArray.extract a1 0 (Int.toNat (min (ic (ByteArray.size a1)) 60))))
            none)))))

theorem nf_copselaw20_CertOnly (N : Nat) (v_Kind : Int) (v_Proof : List IV) (v_Witness_0 : Int) (v_Witness_1 : Int) (v_Witness_2 : Int) (v_Witness_3 : Int) (v_Twin : Int) (v_Spent : Int) (a1 : ByteArray) (a2 : Int) (a3 : Int) (a4 : Int) : evFun (E_copselaw20_CertOnly N) c_copselaw20_CertOnly [.tmp 10] [[.bool]] [(.agg [(.int .i64 v_Kind), (.list true [.bool, .int .i64, .int .i64] v_Proof), (.int .i64 v_Witness_0), (.int .i64 v_Witness_1), (.int .i64 v_Witness_2), (.int .i64 v_Witness_3), (.int .i64 v_Twin), (.int .i64 v_Spent)]), (.str a1), (.int .i64 a2), (.int .u8 a3), (.int .i64 a4)] = (cond (decide (ByteArray.size (printB { kind := v_Kind, proof := List.take 40 v_Proof, w0 := v_Witness_0, w1 := v_Witness_1, w2 := v_Witness_2, w3 := v_Witness_3, twin := v_Twin, spent := v_Spent }) ≤ strMax))
    (cond (decide (ic (ByteArray.size (printB { kind := v_Kind, proof := List.take 40 v_Proof, w0 := v_Witness_0, w1 := v_Witness_1, w2 := v_Witness_2, w3 := v_Witness_3, twin := v_Twin, spent := v_Spent })) < 1))
      (onlyArms { data := #[117, 110, 107, 110, 111, 119, 110, 32, 55, 10] } a1 a2 a3 a4)
      (cond (decide (withinM 0 (IntKind.wrap IntKind.i64 (ic (ByteArray.size (printB { kind := v_Kind, proof := List.take 40 v_Proof, w0 := v_Witness_0, w1 := v_Witness_1, w2 := v_Witness_2, w3 := v_Witness_3, twin := v_Twin, spent := v_Spent })) - 1)) = 0))
        none
        (onlyArms (printB { kind := v_Kind, proof := List.take 40 v_Proof, w0 := v_Witness_0, w1 := v_Witness_1, w2 := v_Witness_2, w3 := v_Witness_3, twin := v_Twin, spent := v_Spent }) a1 a2 a3 a4)))
    none) := by kernel_rfl

end Go.FM

/-
  cert's LAWS COME TO WHAT IS SAID: CertRuns.
-/
namespace Go.FM
open Go Go.Proofs

theorem snd_copselaw20_CertRuns : SndR PR B0 3 S_copselaw20_CertRuns := by
  refine snd_mk [(8, S_cert_Parse), (9, S_cert_Print), (10, S_copsekeep_Verdicts)] [] S_copselaw20_CertRuns [[.bool]] Tryd.func3 h_copselaw20_CertRuns ⟨snd_cert_Parse, snd_cert_Print, snd_copsekeep_Verdicts, trivial⟩ ?_
  intro vs r hwf h
  unfold S_copselaw20_CertRuns at h
  split at h
  · refine ⟨0, ?_⟩
    rw [← h]
    exact nf_copselaw20_CertRuns 0
  · simp [R.get] at h

end Go.FM
