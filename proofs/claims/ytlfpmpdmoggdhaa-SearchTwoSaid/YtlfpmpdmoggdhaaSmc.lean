/-
  The small machine (3): whole functions: what it reckons is what the call does; no conditions; of no program.
-/
import Derived.Test.YtlfpmpdmoggdhaaSmb
import Derived.Lib.ConvBytes
import Derived.Orders
import Derived.DeepKeys
import Derived.KernelRfl

/-
  THE SMALL MACHINE (26): a call, as an operation.
-/
namespace Go.FM
open Go Go.RowKit

section
variable {B : BT} {nt : Nat} {w0 : World} {X : Zone} {γ : Nat → Value} {st st' : St} {a : Act} {w : World} {P : Program} {E : Env}

theorem callT_run (h : Rel B nt w0 X γ st a w) (hg : GX B w0 X) {f : FuncId} {sp : RSpec} (hS : Snd P B f (fun vs => (sp vs).get)) {vs : List V} {xs : List Value} (hv : VRels γ st.o w (Owned X γ st.o) vs xs) {d : Nat} (hd9 : d ≠ 900000) {tks : List (List Kd)} {v : V} {us : List Upd} (he : (callT st.o d tks sp vs).get = some (v, us)) :
    Does P f xs w fun e w' => ∃ x, e = .returned x ∧ ∃ γ', Rel B nt w0 X γ' (st.ups us) a w' ∧ VRel γ' (st.ups us).o w' (Owned X γ' (st.ups us).o) v x := by
  unfold callT at he
  split at he
  · rename_i hl
    obtain ⟨r, out, hsp, he⟩ := R.toT_get he
    unfold aftPlain at he
    split at he
    · split at he
      · rename_i cs
        split at he
        · rename_i hc
          simp only [T.get, Option.some.injEq, Prod.mk.injEq] at he
          obtain ⟨rfl, rfl⟩ := he
          exact call_made h hg hS hv hl hsp d hd9 (Nat.le_of_ble_eq_true hc)
        · simp [T.get] at he
      · simp only [T.get, Option.some.injEq, Prod.mk.injEq] at he
        obtain ⟨rfl, rfl⟩ := he
        exact call_vec h hg hS hv hl hsp d hd9
      · rename_i hnb hnv
        simp only [T.get, Option.some.injEq, Prod.mk.injEq] at he
        obtain ⟨rfl, rfl⟩ := he
        exact call_value h hg hS hv hl hsp hnb hnv
    · simp [T.get] at he
  · rename_i n hl
    split at he
    · rename_i cs ho
      split at he
      · rename_i hib
        obtain ⟨r, outs, hsp, he⟩ := R.toT_get he
        unfold aftBox at he
        split at he
        · split at he
          · rename_i hc
            simp only [T.get, Option.some.injEq, Prod.mk.injEq] at he
            obtain ⟨rfl, rfl⟩ := he
            simp only [Bool.and_eq_true, Bool.or_eq_true] at hc
            refine call_box h hg hS hv hl ho rfl hsp hib (beq_eq'.1 hc.1) (hc.2.1.imp (fun h => Nat.le_of_ble_eq_true h) (fun h => Nat.le_of_ble_eq_true h)) (Nat.le_of_ble_eq_true hc.2.2)
          · simp [T.get] at he
        · simp [T.get] at he
      · simp [T.get] at he
    · rename_i s ho
      split at he
      · rename_i hib
        obtain ⟨r, outs, hsp, he⟩ := R.toT_get he
        unfold aftBld at he
        split at he
        · simp only [T.get, Option.some.injEq, Prod.mk.injEq] at he
          obtain ⟨rfl, rfl⟩ := he
          exact call_bld h hg hS hv hl ho hsp hib
        · simp [T.get] at he
      · simp [T.get] at he
    · simp [T.get] at he
  · simp [T.get] at he

/-! ### rows that are turned in place -/
def cellsI (l : List IV) : List Value := l.map fun x => Value.int .i64 x.toInt
def cellI : V → Value
  | .int k n => .int k n
  | _ => undef
/-- What else is handed to it. -/
def restOK (w : World) (v : Value) : List V → List Value → Prop
  | [], [] => True
  | [.clo f [.bor cs]], [y] => ∃ b c T, y = .func (.func f) #[] #[.pointer (some ⟨b, 0, none⟩)] ∧ w.heap[b]? = some (.cells c T (0, 0)) ∧ c.toList = cs.map cellI ∧ v.ownBlock ≠ some b
  | _, _ => False
/-- A function turns a row of ints in place as is said. -/
def IpSnd (P : Program) (f : FuncId) (p : Ip) : Prop :=
  ∀ (w : World) (v : Value) (l l' : List IV) (rs : List V) (ys : List Value), w.ownsRow 0 p.e 1 v l.length (cellsI l) → (∀ x ∈ l, IntKind.i64.min ≤ x.toInt ∧ x.toInt ≤ IntKind.i64.max) → l.length ≤ strMax →
    restOK w v rs ys → p.g rs l = some l' →
    Does P f (v :: ys) w fun e w' => ∃ x, e = .returned x ∧ w.grownBy w' v.ownBlock ∧ (∀ x ∈ l', IntKind.i64.min ≤ x.toInt ∧ x.toInt ≤ IntKind.i64.max) ∧
      (p.ret = true → w'.ownsRow 0 p.e 1 x l'.length (cellsI l') ∧ ∀ b, x.ownBlock = some b → v.ownBlock = some b ∨ w.heap.size ≤ b) ∧
      (p.ret = false → w'.ownsRow 0 p.e 1 v l'.length (cellsI l'))

theorem cells_ints {w : World} {O : Nat → Prop} {l : List IV} {xs : List Value} (hl : xs.length = l.length * 1)
    (h : ∀ i y, l[i]? = some y → Kd.RelAll w O [.int .i64] (cellOf false y) 0 (fun j u => xs[i * 1 + j]? = some u)) : xs = cellsI l ∧ ∀ x ∈ l, IntKind.i64.min ≤ x.toInt ∧ x.toInt ≤ IntKind.i64.max := by
  have one : ∀ (i : Nat) (y : IV), l[i]? = some y → xs[i]? = some (.int .i64 y.toInt) ∧ IntKind.i64.min ≤ y.toInt ∧ y.toInt ≤ IntKind.i64.max := fun i y hy => by
    have := h i y hy
    simp only [Kd.RelAll, cellOf, and_true, Nat.mul_one, Nat.add_zero] at this
    obtain ⟨u, hu, hk⟩ := this
    simp only [Kd.Rel] at hk
    rw [hu, hk.1]
    exact ⟨rfl, hk.2⟩
  constructor
  · apply List.ext_getElem?
    intro i
    unfold cellsI
    rw [List.getElem?_map]
    cases hy : l[i]? with
    | none =>
      rw [List.getElem?_eq_none_iff] at hy
      rw [List.getElem?_eq_none (by omega)]
      rfl
    | some y => rw [(one i y hy).1]; rfl
  · intro x hx
    obtain ⟨i, hi⟩ := List.getElem?_of_mem hx
    exact (one i x hi).2
theorem ints_cells {w : World} {O : Nat → Prop} {l : List IV} (h : ∀ x ∈ l, IntKind.i64.min ≤ x.toInt ∧ x.toInt ≤ IntKind.i64.max) (i : Nat) (y : IV) (hy : l[i]? = some y) :
    Kd.RelAll w O [.int .i64] (cellOf false y) 0 (fun j u => (cellsI l)[i * 1 + j]? = some u) := by
  simp only [Kd.RelAll, cellOf, and_true, Nat.mul_one, Nat.add_zero]
  refine ⟨.int .i64 y.toInt, ?_, ?_⟩
  · unfold cellsI
    rw [List.getElem?_map, hy]
    rfl
  · simp only [Kd.Rel]
    exact ⟨trivial, h y (List.mem_of_getElem? hy)⟩
theorem intsV_cells {γ : Nat → Value} {o : Store} {w : World} {O : Nat → Prop} : ∀ {cs : List V} {xs : List Value}, intsV cs = true → VRels γ o w O cs xs → xs = cs.map cellI
  | [], [], _, _ => rfl
  | [], _ :: _, _, h => by simp only [VRels] at h
  | v :: cs, [], h, h' => by simp only [VRels] at h'
  | v :: cs, x :: xs, h, h' => by
    simp only [VRels] at h'
    unfold intsV at h
    split at h
    · rename_i h0; cases h0
    · rename_i n r h0
      injection h0 with h1 h2
      subst h1 h2
      have h3 := h'.1
      simp only [VRel] at h3
      rw [List.map_cons, ← intsV_cells h h'.2, h3.1]
      rfl
    · cases h
theorem rest_rel (h : Rel B nt w0 X γ st a w) {v : Value} (hv : ∀ m cs b, objOf st.o m = some (.box cs) → blocksOf (γ m) (.box cs) b → v.ownBlock ≠ some b) {rest rs : List V} {ys : List Value} (hr : VRels γ st.o w (Owned X γ st.o) rest ys) (he : ipArgs st.o rest = some rs) : restOK w v rs ys := by
  unfold ipArgs at he
  split at he
  · simp only [Option.some.injEq] at he
    subst he
    cases ys with
    | nil => trivial
    | cons y ys => simp only [VRels] at hr
  · rename_i f m i c
    split at he
    · rename_i cs hic ho
      split at he
      · rename_i hi
        simp only [Option.some.injEq] at he
        subst he
        simp only [Bool.and_eq_true] at hic
        obtain rfl := beq_eq'.1 hic.1
        obtain rfl := beq_eq'.1 hic.2
        match ys, hr with
        | [y], hr =>
          simp only [VRels, and_true] at hr
          simp only [VRel] at hr
          obtain ⟨cs', rfl, hc⟩ := hr
          obtain ⟨b, c, T, hg, hh, hcs⟩ := h.ob m _ ho
          have hc1 : ∃ x0, cs' = #[x0] ∧ x0 = .pointer (some ⟨b, 0, none⟩) := by
            obtain ⟨l⟩ := cs'
            match l, hc with
            | [x0], hc =>
              simp only [VRels, and_true, VRel, ho] at hc
              obtain ⟨_, b', hb', rfl⟩ := hc
              rw [hg] at hb'
              simp only [Value.pointer.injEq, Option.some.injEq, Addr.mk.injEq, and_true] at hb'
              subst hb'
              exact ⟨_, rfl, rfl⟩
            | [], hc => simp only [VRels] at hc
            | _ :: _ :: _, hc => simp only [VRels, and_false] at hc
          obtain ⟨x0, rfl, rfl⟩ := hc1
          exact ⟨b, c, T, rfl, hh, intsV_cells hi hcs, hv m cs b ho ⟨_, hg, rfl⟩⟩
        | [], hr => simp only [VRels] at hr
        | _ :: _ :: _, hr => simp only [VRels, and_false] at hr
      · cases he
    · cases he
  · cases he

theorem ip_run (h : Rel B nt w0 X γ st a w) {f : FuncId} {p : Ip} (hI : IpSnd P f p) {vs : List V} {xs : List Value} (hv : VRels γ st.o w (Owned X γ st.o) vs xs) {d : Option Nat} (hd9 : ∀ d', d = some d' → d' ≠ 900000) {v : V} {us : List Upd} (he : (ipT st.o d p vs).get = some (v, us)) :
    Does P f xs w fun e w' => ∃ x, e = .returned x ∧ ∃ γ', Rel B nt w0 X γ' (st.ups us) a w' ∧ VRel γ' (st.ups us).o w' (Owned X γ' (st.ups us).o) v x := by
  unfold ipT at he
  split at he
  · rename_i n lo hi rest
    cases xs with
    | nil => simp only [VRels] at hv
    | cons sv ys =>
    simp only [VRels] at hv
    obtain ⟨hs, hrest⟩ := hv
    split at he
    · rename_i e l rs hob hra
      split at he
      · rename_i hc
        simp only [Bool.and_eq_true] at hc
        obtain ⟨hc1, hc3, hc4⟩ := hc
        have he2 := T.get_when he
        clear he
        obtain ⟨hc2, he⟩ := he2
        obtain rfl := beq_eq'.1 hc1
        obtain rfl := beq_eq'.1 hc2
        obtain rfl := beq_eq'.1 hc3
        have he6 : p.e < 1000000 := Nat.le_of_ble_eq_true hc4
        simp only [VRel, hob] at hs
        obtain ⟨hlen, q, len, cap, q', hg, hvv, _, h2, h3, hm, _, h5⟩ := hs
        rw [h5 rfl, Nat.sub_zero, Nat.sub_zero] at hvv
        have hor := h.ob n _ hob
        simp only [ObRel] at hor
        obtain ⟨hkp, hstr, xs, hx, hrx⟩ := hor
        have hx' := hx.plain he6
        have hlen' : len = l.length := by
          rcases hx'.2 with ⟨h6, h7⟩ | ⟨g, cap', cur, h6, _⟩
          · rw [hg] at h6; simp only [Value.slice.injEq] at h6; omega
          · rw [hg] at h6; simp only [Value.slice.injEq] at h6; exact h6.2.1
        subst hlen'
        have hsv : sv = γ n := by rw [hvv, hg]
        subst hsv
        obtain ⟨rfl, hrng⟩ := cells_ints hx.1 hrx
        split at he
        · rename_i l' hgl
          have hrok := rest_rel h (v := γ n) (fun m cs b hm hb hne => by
            have hnm : n ≠ m := fun e => by subst e; rw [hob] at hm; cases hm
            exact h.dis n m _ _ b hnm hob hm (by simp only [blocksOf]; exact hne) hb) hrest hra
          have hdoes := hI w (γ n) l l' rs ys hx' hrng hstr hrok hgl
          split at he
          · rename_i d' hret
            obtain ⟨hk, he⟩ := T.get_when he
            simp only [T.get, Option.some.injEq, Prod.mk.injEq] at he
            obtain ⟨rfl, rfl⟩ := he
            have hk := Nat.le_of_ble_eq_true hk
            refine hdoes.mono ?_
            rintro e w' ⟨x, rfl, hgrow, hrng', hr1, _⟩
            obtain ⟨hown, hblk⟩ := hr1 hret
            refine ⟨x, rfl, fun m => if d' = m then x else γ m, ?_, ?_⟩
            · refine Rel.new h [n] d' (hd9 d' rfl) (.row true p.e false [.int .i64] l') x (Keep.grown hgrow (fun g hg' => ⟨n, by simp, _, hob, hg'⟩)) (fun b hb => ⟨(hown.lt b hb).2, ?_⟩) (fun O' hO hcmp => ?_)
              · rcases hblk b hb with h1 | h1
                · exact .inr ⟨n, by simp, _, hob, h1⟩
                · exact .inl h1
              · simp only [ObRel]
                exact ⟨by simp, by omega, cellsI l', OwnRow.of hown he6, fun i y hy => ints_cells hrng' i y hy⟩
            · simp only [St.ups, St.up, VRel, objOf_cons, if_true]
              refine ⟨Nat.le_refl _, ?_⟩
              rcases hown.2 with ⟨h6, h7⟩ | ⟨g, cap', cur, h6, _, _, h8, h9, _⟩
              · refine ⟨none, 0, 0, none, h6, ?_, Nat.zero_le _, by omega, Nat.le_refl _, by simp [maxLen], .inr rfl, fun _ => rfl⟩
                rw [h6, h7]
              · refine ⟨some ⟨g, 0, none⟩, l'.length, cap', some ⟨g, 0, none⟩, h6, by rw [h6]; simp, Nat.zero_le _, Nat.le_refl _, h8, h9, .inl ?_, fun _ => rfl⟩
                simp [Addr.add]
          · rename_i hret
            obtain ⟨hk, he⟩ := T.get_when he
            simp only [T.get, Option.some.injEq, Prod.mk.injEq] at he
            obtain ⟨rfl, rfl⟩ := he
            have hk := beq_eq'.1 hk
            refine hdoes.mono ?_
            rintro e w' ⟨x, rfl, hgrow, hrng', _, hr2⟩
            have hown := hr2 hret
            refine ⟨x, rfl, γ, ?_, by simp only [VRel]⟩
            refine Rel.set h (ob' := .row true p.e false [.int .i64] l') hob ⟨rfl, hk.symm⟩ (Keep.grown hgrow (fun g hg' => hg')) (fun b hb => hb) (fun hO hcmp => ?_)
            simp only [ObRel]
            exact ⟨by simp, by omega, cellsI l', OwnRow.of hown he6, fun i y hy => ints_cells hrng' i y hy⟩
          · simp [T.get] at he
        · simp [T.get] at he
      · simp [T.get] at he
    · simp [T.get] at he
  · rename_i rest
    cases xs with
    | nil => simp only [VRels] at hv
    | cons sv ys =>
    simp only [VRels] at hv
    obtain ⟨hs, hrest⟩ := hv
    simp only [VRel] at hs
    subst hs
    split at he
    · rename_i rs hra
      split at he
      · rename_i hgl
        have hrok := rest_rel h (v := .slice none 0 0) (fun m cs b _ _ hne => by simp [Value.ownBlock] at hne) hrest hra
        have hdoes := hI w (.slice none 0 0) [] [] rs ys (World.ownsRow_nil w 0 p.e _) (fun x hx => by cases hx) (by simp) hrok hgl
        split at he
        · rename_i d' hret
          obtain ⟨hk, he⟩ := T.get_when he
          simp only [T.get, Option.some.injEq, Prod.mk.injEq] at he
          obtain ⟨rfl, rfl⟩ := he
          have he6 : p.e < 1000000 := Nat.le_of_ble_eq_true hk
          refine hdoes.mono ?_
          rintro e w' ⟨x, rfl, hgrow, hrng', hr1, _⟩
          obtain ⟨hown, hblk⟩ := hr1 hret
          refine ⟨x, rfl, fun m => if d' = m then x else γ m, ?_, ?_⟩
          · refine Rel.new h [] d' (hd9 d' rfl) (.row true p.e false [.int .i64] []) x (Keep.grown hgrow (fun g hg' => by simp [Value.ownBlock] at hg')) (fun b hb => ⟨(hown.lt b hb).2, ?_⟩) (fun O' hO hcmp => ?_)
            · rcases hblk b hb with h1 | h1
              · simp [Value.ownBlock] at h1
              · exact .inl h1
            · simp only [ObRel]
              exact ⟨by simp, by simp, cellsI [], OwnRow.of hown he6, fun i y hy => ints_cells hrng' i y hy⟩
          · simp only [St.ups, St.up, VRel, objOf_cons, if_true]
            refine ⟨Nat.le_refl _, ?_⟩
            rcases hown.2 with ⟨h6, h7⟩ | ⟨g, cap', cur, h6, _, _, h8, h9, _⟩
            · refine ⟨none, 0, 0, none, h6, ?_, Nat.zero_le _, by omega, Nat.le_refl _, by simp [maxLen], .inr rfl, fun _ => rfl⟩
              rw [h6]
            · refine ⟨some ⟨g, 0, none⟩, 0, cap', some ⟨g, 0, none⟩, h6, by rw [h6]; simp, Nat.zero_le _, Nat.le_refl _, Nat.zero_le _, h9, .inl ?_, fun _ => rfl⟩
              simp [Addr.add]
        · rename_i hret
          simp only [T.get, Option.some.injEq, Prod.mk.injEq] at he
          obtain ⟨rfl, rfl⟩ := he
          refine hdoes.mono ?_
          rintro e w' ⟨x, rfl, hgrow, _, _, _⟩
          refine ⟨x, rfl, γ, Rel.world h (Keep.grown hgrow (fun g hg' => by simp [Value.ownBlock] at hg')), by simp only [VRel]⟩
        · simp [T.get] at he
      · simp [T.get] at he
    · simp [T.get] at he
  · simp [T.get] at he

/-- The contracts that there are. -/
def SpOK (P : Program) (B : BT) (E : Env) (w0 : World) (X : Zone) : Prop := GX B w0 X ∧ (∀ f sp, lk E.sp f = some sp → Snd P B f (fun vs => (sp vs).get)) ∧ ∀ f p, lk E.ip f = some p → IpSnd P f p

theorem SpOK.get (h : SpOK P B E w0 X) (f : FuncId) : Snd P B f (fun vs => (lkd (fun _ => R.no) E.sp f vs).get) := by
  rw [lkd_lk]
  cases hf : lk E.sp f with
  | none =>
    intro w X γ vs xs r out hsp
    simp [R.get] at hsp
  | some sp => exact h.2.1 f sp hf

theorem opds_rel (h : Rel B nt w0 X γ st a w) : ∀ l : List Operand, VRels γ st.o w (Owned X γ st.o) (mapO (opd st) l) (l.map a.eval)
  | [] => by simp only [mapO, List.map_nil, VRels]
  | x :: r => by
    simp only [mapO, List.map_cons, VRels]
    exact ⟨opd_rel h x, opds_rel h r⟩

theorem op_does (o : Oper) {f : FuncId} {xs : List Value} {v : V} {us : List Upd} (hr : (execOp a.eval o).run P w = (callFunc f xs.toArray).run P w)
    (hd : Does P f xs w fun e w' => ∃ x, e = .returned x ∧ ∃ γ', Rel B nt w0 X γ' (st.ups us) a w' ∧ VRel γ' (st.ups us).o w' (Owned X γ' (st.ups us).o) v x) : OpWp P B nt w0 X a w o st v us := by
  intro K Q hK
  unfold Oper.wp
  rw [hr]
  unfold Does at hd
  split at hd
  · rename_i g args w' hc
    rw [hc, Oper.upon_enter]
    refine hd.mono ?_
    rintro e w'' ⟨x, rfl, γ', h1, h2⟩
    exact hK γ' x w'' h1 h2
  · rename_i x w' hc
    rw [hc, Oper.upon_value]
    obtain ⟨x', he, γ', h1, h2⟩ := hd
    cases he
    exact hK γ' x w' h1 h2
  · rename_i row args w' hc
    rw [hc, Oper.upon_row]
    refine Rows.mono hd ?_
    rintro x w'' ⟨x', he, γ', h1, h2⟩
    cases he
    exact hK γ' x w'' h1 h2
  · exact hd.elim

/-- A call of a function. -/
theorem op_call (hT : TiOK P B E) (hSp : SpOK P B E w0 X) (h : Rel B nt w0 X γ st a w) (o : Oper) (hd9 : ∀ d, o.dst = some d → d ≠ 900000) {c : Call} (ho : o.op = .call c) {v : V} {us : List Upd}
    (he : (evOp E st.o (opd st) o.dst o.op).get = some (v, us)) : OpWp P B nt w0 X a w o st v us := by
  obtain ⟨callee, args, ats⟩ := c
  cases callee with
  | builtin b => exact op_builtin hT h o hd9 ho he
  | invoke recv name =>
    rw [ho] at he
    simp only [evOp, callOf] at he
    simp [T.get] at he
  | value x =>
    rw [ho] at he
    obtain ⟨args⟩ := args
    have clo : ∀ (x : Operand), o.op = .call ⟨.value x, ⟨args⟩, ats⟩ → ∀ d, o.dst = some d → (match opd st x with
        | .clo f caps => match capsOK caps with
          | true => callT st.o d (tyList E ats.toList) (lkd (fun _ => R.no) E.sp f) (mapO (opd st) args ++ caps)
          | false => .no
        | _ => .no).get = some (v, us) → OpWp P B nt w0 X a w o st v us := by
      intro x ho d hd he
      split at he
      · rename_i f caps hclo
        split at he
        case h_2 => simp [T.get] at he
        have hx := opd_rel h x
        rw [hclo] at hx
        simp only [VRel] at hx
        obtain ⟨cs, hx1, hx2⟩ := hx
        have hrel := callT_run h hSp.1 (hSp.get f) ((opds_rel h args).append hx2) (hd9 d hd) he
        refine op_does o (xs := args.map a.eval ++ cs.toList) ?_ hrel
        obtain ⟨dst, op, type, pos, after, guard⟩ := o
        simp only at ho
        subst ho
        have : execOp a.eval { dst, op := .call { callee := .value x, args := ⟨args⟩, argTypes := ats }, type, pos, after, guard } = (do let d ← Deferred.ofValue (a.eval x) ((⟨args⟩ : Array Operand).map a.eval); invoke d.target d.args) := rfl
        rw [this, hx1]
        have hla : (args.map a.eval).toArray ++ cs = (args.map a.eval ++ cs.toList).toArray := by
          apply Array.ext'
          simp
        simp [Deferred.ofValue, invoke, hla]
      · simp [T.get] at he
    cases x with
    | func f =>
      simp only [evOp, callOf, callF] at he
      have hrun : ∀ {f : Nat}, o.op = .call ⟨.value (.func f), ⟨args⟩, ats⟩ → (execOp a.eval o).run P w = (callFunc f (args.map a.eval).toArray).run P w := fun {f} ho => by
        obtain ⟨dst, op, type, pos, after, guard⟩ := o
        simp only at ho
        subst ho
        have : execOp a.eval { dst, op := .call { callee := .value (.func f), args := ⟨args⟩, argTypes := ats }, type, pos, after, guard } = callFunc f (#[] ++ (⟨args⟩ : Array Operand).map a.eval ++ #[]) := rfl
        rw [this]
        simp
      split at he
      · rename_i p hp
        exact op_does o (xs := args.map a.eval) (hrun ho) (ip_run h (hSp.2.2 f p hp) (opds_rel h args) hd9 he)
      · split at he
        · rename_i d hd
          exact op_does o (xs := args.map a.eval) (hrun ho) (callT_run h hSp.1 (hSp.get f) (opds_rel h args) (hd9 d hd) he)
        · simp [T.get] at he
    | tmp t =>
      simp only [evOp, callOf] at he
      cases hd : o.dst with
      | none => rw [hd] at he; simp [T.get] at he
      | some d => rw [hd] at he; exact clo _ ho d hd he
    | const t =>
      simp only [evOp, callOf] at he
      cases hd : o.dst with
      | none => rw [hd] at he; simp [T.get] at he
      | some d => rw [hd] at he; exact clo _ ho d hd he
    | global t =>
      simp only [evOp, callOf] at he
      cases hd : o.dst with
      | none => rw [hd] at he; simp [T.get] at he
      | some d => rw [hd] at he; exact clo _ ho d hd he

/-- A string's bytes as a row. -/
theorem op_convertB (hT : TiOK P B E) (h : Rel B nt w0 X γ st a w) (o : Oper) (hd9 : ∀ d, o.dst = some d → d ≠ 900000) {s t : Nat} {x : Operand} (ho : o.op = .convert s t x) {v : V} {u : Upd} {us : List Upd}
    (he : (evOp E st.o (opd st) o.dst o.op).get = some (v, u :: us)) : OpWp P B nt w0 X a w o st v (u :: us) := by
  have hx := opd_rel h x
  rw [ho] at he
  simp only [evOp] at he
  split at he
  · split at he
    · simp [T.get] at he
    · simp [T.get] at he
  · rename_i b hop
    rw [hop] at hx
    simp only [VRel] at hx
    split at he
    · simp [T.get] at he
    · rename_i e k1 kss hd hks hkss
      split at he
      · rename_i d hdst hde hkse
        simp only [T.get, Option.some.injEq, Prod.mk.injEq, List.cons.injEq] at he
        obtain ⟨rfl, rfl, rfl⟩ := he
        have hu1 := slice_und hT hd
        obtain ⟨d', hd1', _, _⟩ := (hT.kinds (t := s) (by rw [hkss]; simp)).und
        obtain ⟨d'', hd1'', _, hd2''⟩ := (hT.kinds (t := e) (by rw [hkse]; simp)).und
        rw [hde] at hd2''
        obtain rfl := hd2''.1 _ hkse
        have hrun : (execOp a.eval o).run P w = .ok (.value (.slice (some ⟨w.heap.size, 0, none⟩) b.size (grownCap w b.size 0 e))) (Lib.bytesWorld w e b) := by
          unfold execOp
          simp only [ho, hx.1, Sem.run_bind, Lib.run_convert_string_bytes w s t e b hd1' hu1 hd1'', Result.andThen_ok, Sem.run_pure]
        have hsm := strMax_le
        have hcg := grownCap_ge w b.size 0 e
        have hcm : grownCap w b.size 0 e ≤ maxLen := grownCap_le_maxLen w b.size 0 e (Nat.le_trans hx.2 hsm)
        have hcs : (Lib.bytesCells w e b).size = grownCap w b.size 0 e := by
          have : b.data.size = b.size := rfl
          simp only [Lib.bytesCells, Array.size_append, Array.size_map, Array.size_replicate, this]
          omega
        have hkp : Keep (fun _ => False) w (Lib.bytesWorld w e b) := by
          refine ⟨?_, ?_, ?_, by rw [Lib.bytesWorld_size]; omega, fun j hj _ => Lib.bytesWorld_at_old w e b j hj⟩
          · simp [Lib.bytesWorld, World.freeze]; rfl
          · simp [Lib.bytesWorld, World.freeze]
          · simp [Lib.bytesWorld, World.freeze]; rfl
        have hn := Rel.new h [] d (hd9 d hdst) (.row true (e + 1000000) false [.int .u8] (b.data.toList.map fun b => .int (b.toNat : Int))) (.slice (some ⟨w.heap.size, 0, none⟩) b.size (grownCap w b.size 0 e)) (w' := Lib.bytesWorld w e b) (hkp.mono (fun _ _ h => h.elim))
          (by
            intro b1 hb
            simp only [blocksOf, Value.ownBlock, Option.some.injEq] at hb
            subst hb
            rw [Lib.bytesWorld_size]
            exact ⟨by omega, .inl (Nat.le_refl _)⟩)
          (by
            intro O' hO hcmp
            simp only [ObRel]
            have hln : (b.data.toList.map fun b => IV.int (b.toNat : Int)).length = b.size := by simp
            refine ⟨by simp, by rw [hln]; exact hx.2, b.data.toList.map fun b => .int .u8 b.toNat, ?_, fun i y hy => ?_⟩
            · rw [hln]
              refine ⟨by simp, .inr ⟨w.heap.size, grownCap w b.size 0 e, _, _, _, rfl, Lib.bytesWorld_at_new w e b, hcg, hcm, by rw [hcs]; simp, ?_, .inr ⟨by omega, Nat.le_refl _⟩⟩⟩
              simp only [Lib.bytesCells, Array.toList_append, List.length_cons, List.length_nil]
              rw [List.take_append_of_le_length (by simp)]
              rw [List.take_of_length_le (by simp)]
              simp
            · rw [List.getElem?_map] at hy
              cases hbi : b.data.toList[i]? with
              | none => rw [hbi] at hy; cases hy
              | some c =>
                rw [hbi] at hy
                simp only [Option.map_some, Option.some.injEq] at hy
                subst hy
                simp only [Kd.RelAll, cellOf, Kd.Rel, IV.toInt, List.length_cons, List.length_nil]
                refine ⟨⟨.int .u8 c.toNat, by simp [hbi], rfl, ?_, ?_⟩, trivial⟩
                · simp [IntKind.min, IntKind.signed]
                · have := c.toNat_lt
                  simp [IntKind.max, IntKind.signed, IntKind.bits]
                  omega)
        refine OpWp.value hrun hn ?_
        simp only [St.ups, VRel, objOf_up_new, if_true]
        refine ⟨by simp, some ⟨w.heap.size, 0, none⟩, b.size, grownCap w b.size 0 e, some ⟨w.heap.size, 0, none⟩, rfl, by simp, Nat.zero_le _, Nat.le_refl _, hcg, hcm, .inl ?_, fun _ => rfl⟩
        simp [Addr.add]
      · simp [T.get] at he
    · simp [T.get] at he
  · split at he
    · split at he
      · simp [T.get] at he
      · simp [T.get] at he
    · simp [T.get] at he

def BldOK (P : Program) (B : BT) (E : Env) : Prop := (E.tyd B.T).d = .bld → ∃ i, P.info? B.T = some i ∧ i.zero = some (.agg #[.pointer none, .slice none 0 0])

/-- Any operation. -/
theorem op_run (hT : TiOK P B E) (hE : ∀ t, t ∈ E.eqs → EqSnd P t (E.tyd t).ks) (hSp : SpOK P B E w0 X) (hB : BldOK P B E) (h : Rel B nt w0 X γ st a w) (o : Oper) (hd9 : ∀ d, o.dst = some d → d ≠ 900000) {v : V} {us : List Upd}
    (he : (evOp E st.o (opd st) o.dst o.op).get = some (v, us)) : OpWp P B nt w0 X a w o st v us := by
  cases ho : o.op with
  | move x => exact op_move h o (.inl ho) he
  | assign x => exact op_move h o (.inr ho) he
  | pick c x y => exact op_pick h o ho he
  | alloc t => exact op_alloc hT h o hd9 ho hB he
  | box t x => exact op_box h o hd9 ho he
  | build t parts => exact op_build hT h o ho he
  | buildSlice t len parts => exact op_buildSlice hT h o hd9 ho he
  | load t x => exact op_load hT h o ho he
  | store t p x => exact op_store hT h o ho he
  | nilCheck x => exact op_nilCheck h o ho he
  | binOp op t x y t' => exact op_bin hT hE h o ho he
  | unOp op t x => exact op_un h o ho he
  | convert s t x =>
    cases us with
    | nil => exact op_convert hT h o ho he
    | cons u us => exact op_convertB hT h o hd9 ho he
  | makeFunc f first caps => exact op_makeFunc h o ho he
  | makeSlice t n m => exact op_makeSlice hT h o hd9 ho he
  | slice t x lo hi mx => exact op_slice hT h o ho he
  | fieldAddr s x f => exact op_fieldAddr hT h o ho he
  | field t x f => exact op_field hT h o ho he
  | indexAddr t x ix => exact op_indexAddr hT h o ho he
  | index t x ix => exact op_index hT h o ho he
  | extract x i => exact op_extract h o ho he
  | call c => exact op_call hT hSp h o hd9 ho he
  | _ => rw [ho] at he; simp [evOp, T.get] at he

end
end Go.FM

/-
  THE SMALL MACHINE (29): what of the store an operation looks at.
-/
namespace Go.FM
open Go Go.RowKit

theorem refsL_go : ∀ {l : List V} {n : Nat}, n ∈ refsL l → n ∈ refs.go l
  | v :: r, n, h => by
    simp only [refsL, List.mem_append] at h
    rcases h with h | h
    · cases v <;> simp only [refL] at h <;> first | (cases h; done) | (simp only [refs.go, List.mem_append]; exact .inl h)
    · cases v <;> simp only [refs.go, List.mem_append] <;> exact .inr (refsL_go h)

def Agree (o o' : Store) (l : List Nat) : Prop := ∀ n ∈ l, objOf o' n = objOf o n

theorem Agree.left {o o' : Store} {l l' : List Nat} (h : Agree o o' (l ++ l')) : Agree o o' l := fun n hn => h n (List.mem_append_left _ hn)
theorem Agree.right {o o' : Store} {l l' : List Nat} (h : Agree o o' (l ++ l')) : Agree o o' l' := fun n hn => h n (List.mem_append_right _ hn)

theorem okLeaf_agree {o o' : Store} {v : V} (h : Agree o o' (refL v)) : okLeaf o' v = okLeaf o v := by
  cases v <;> simp only [okLeaf]
  all_goals rw [h _ (by simp [refL])]
theorem okV_agree {o o' : Store} {v : V} (h : Agree o o' (refL v)) : okV o' v = okV o v := by
  cases v <;> simp only [okV] <;> exact okLeaf_agree h
theorem okAll_agree {o o' : Store} : ∀ {l : List V}, Agree o o' (refsL l) → okAll o' l = okAll o l
  | [], _ => rfl
  | v :: r, h => by simp only [okAll, okLeaf_agree h.left, okAll_agree (l := r) h.right]
theorem elemsOf_agree {o o' : Store} {v : V} (h : Agree o o' (refL v)) : elemsOf o' v = elemsOf o v := by
  cases v <;> simp only [elemsOf]
  rw [h _ (by simp [refL])]
theorem shapeOf_agree {o o' : Store} {v : V} (h : Agree o o' (refL v)) : shapeOf o' v = shapeOf o v := by
  cases v <;> simp only [shapeOf]
  rw [h _ (by simp [refL])]
theorem leafIV_agree {o o' : Store} {k : Kd} {v : V} (h : Agree o o' (refL v)) : leafIV o' k v = leafIV o k v := by
  cases k <;> cases v <;> simp only [leafIV]
  rw [h _ (by simp [refL])]
theorem leavesIV_agree {o o' : Store} : ∀ {ks : List Kd} {l : List V}, Agree o o' (refsL l) → leavesIV o' ks l = leavesIV o ks l
  | [], [], _ => rfl
  | [], _ :: _, _ => rfl
  | _ :: _, [], _ => rfl
  | k :: ks, v :: r, h => by simp only [leavesIV, leafIV_agree h.left, leavesIV_agree (l := r) h.right]
theorem refL_refs {v : V} {n : Nat} (h : n ∈ refL v) : n ∈ refs v := by
  cases v <;> simp only [refL] at h <;> first | exact h | cases h
theorem elemIV_agree {o o' : Store} {ag : Bool} {ks : List Kd} {v : V} (h : Agree o o' (refs v)) : elemIV o' ag ks v = elemIV o ag ks v := by
  cases ag with
  | false =>
    simp only [elemIV]
    rw [leavesIV_agree (o := o) (o' := o') (fun n hn => h n (refL_refs (by simpa [refsL] using hn)))]
  | true =>
    cases v <;> simp only [elemIV]
    rw [leavesIV_agree h]

theorem refsL_append : ∀ (a b : List V), refsL (a ++ b) = refsL a ++ refsL b
  | [], b => rfl
  | v :: r, b => by simp [refsL, refsL_append r b]
theorem refsL_mem {l : List V} {v : V} {n : Nat} (hv : v ∈ l) (hn : n ∈ refL v) : n ∈ refsL l := by
  induction l with
  | nil => cases hv
  | cons u r ih =>
    simp only [refsL, List.mem_append]
    rcases List.mem_cons.1 hv with h | h
    · subst h; exact .inl hn
    · exact .inr (ih h)
theorem refsL_sub {l l' : List V} (h : ∀ v ∈ l, v ∈ l') {n : Nat} (hn : n ∈ refsL l) : n ∈ refsL l' := by
  induction l with
  | nil => simp [refsL] at hn
  | cons u r ih =>
    simp only [refsL, List.mem_append] at hn
    rcases hn with hn | hn
    · exact refsL_mem (h u (List.mem_cons_self ..)) hn
    · exact ih (fun v hv => h v (List.mem_cons_of_mem _ hv)) hn

theorem chunk_agree {o o' : Store} {ag : Bool} {ks : List Kd} {sz : Nat} : ∀ {n : Nat} {cs : List V}, Agree o o' (refsL cs) → chunk ag ks o' cs sz n = chunk ag ks o cs sz n
  | 0, cs, _ => rfl
  | n + 1, cs, h => by
    simp only [chunk]
    rw [chunk_agree (n := n) (cs := dropV cs sz) (fun m hm => h m (by rw [dropV_eq] at hm; exact refsL_sub (fun v hv => List.mem_of_mem_drop hv) hm))]
    cases ag with
    | true =>
      rw [elemIV_agree]
      intro m hm
      simp only [refs, takeV_eq] at hm
      exact h m (refsL_sub (fun v hv => List.mem_of_mem_take hv) hm)
    | false =>
      simp only [elemIV]
      rw [leavesIV_agree (o := o) (o' := o')]
      intro m hm
      rw [nthV_eq] at hm
      cases hc : cs[0]? with
      | none => rw [hc] at hm; simp [refsL, refL] at hm
      | some u =>
        rw [hc] at hm
        simp only [Option.getD_some, refsL, List.append_nil] at hm
        exact h m (refsL_mem (List.mem_of_getElem? hc) hm)

theorem rowsIn_refs {l : List V} {n : Nat} (h : n ∈ rowsIn l) : n ∈ refsL l := by
  induction l with
  | nil => simp [rowsIn] at h
  | cons v r ih =>
    simp only [refsL, List.mem_append]
    cases v <;> simp only [rowsIn, List.mem_cons] at h <;> first | exact .inr (ih h) | skip
    rcases h with h | h
    · exact .inl (by simp [refL, h])
    · exact .inr (ih h)

theorem freezeU_agree {o o' : Store} : ∀ {l : List Nat}, Agree o o' l → freezeU o' l = freezeU o l
  | [], _ => rfl
  | n :: r, h => by
    simp only [freezeU]
    rw [h n (List.mem_cons_self ..), freezeU_agree (l := r) (fun m hm => h m (List.mem_cons_of_mem _ hm))]

theorem fillV_agree {o o' : Store} {place : Nat → Option (Nat × Nat)} : ∀ {cs : List V} {l : List (Nat × V)}, (∀ i v, (i, v) ∈ l → Agree o o' (refs v)) → fillV o' place cs l = fillV o place cs l
  | cs, [], _ => rfl
  | cs, (i, v) :: r, h => by
    simp only [fillV]
    have h1 : okV o' v = okV o v := okV_agree (fun n hn => h i v (List.mem_cons_self ..) n (refL_refs hn))
    rw [h1]
    split
    · split
      · exact fillV_agree (fun i v hv => h i v (List.mem_cons_of_mem _ hv))
      · rfl
    · rfl

theorem appendT_agree {o o' : Store} {d e : Nat} {ag : Bool} {ks : List Kd} {bytes : Nat} {s : V} {l : List IV} (h : Agree o o' (refL s)) : appendT o' d e ag ks bytes s l = appendT o d e ag ks bytes s l := by
  cases s <;> simp only [appendT]
  rw [h _ (by simp [refL])]

theorem deep_mem {o : Store} {n m : Nat} {cs : List V} : ∀ {l : List Nat}, n ∈ l → objOf o n = some (.box cs) → m ∈ refsL cs → m ∈ deep o l
  | x :: r, hn, ho, hm => by
    simp only [deep]
    rcases List.mem_cons.1 hn with h | h
    · subst h
      rw [ho]
      exact List.mem_append_left _ hm
    · have := deep_mem h ho hm
      split
      · exact List.mem_append_right _ this
      · exact this

theorem appendZ_agree {o o' : Store} {d et : Nat} {e : TI} {tk : List Kd} {s x : V} (h : Agree o o' (refL s)) : appendZ o' d et e tk s x = appendZ o d et e tk s x := by
  unfold appendZ
  simp only [appendT_agree h]

theorem appendX_agree {o o' : Store} {d et : Nat} {e : TI} {s x : V} (h : Agree o o' (refL s)) (h' : Agree o o' (refL x ++ deep o (refL x))) : appendX o' d et e s x = appendX o d et e s x := by
  have gen : (match elemsOf o' x, shapeOf o' x with
      | some l, some (ag, ks) => match kdEq (.list e.agg e.ks) (.list ag ks) with
        | true => appendT o' d et e.agg e.ks e.bytes s l
        | false => .no
      | _, _ => .no) = (match elemsOf o x, shapeOf o x with
      | some l, some (ag, ks) => match kdEq (.list e.agg e.ks) (.list ag ks) with
        | true => appendT o d et e.agg e.ks e.bytes s l
        | false => .no
      | _, _ => .no) := by
    simp only [elemsOf_agree h'.left, shapeOf_agree h'.left, appendT_agree h]
  cases x
  case bview n c cap sz len =>
    simp only [appendX]
    rw [h' n (by simp [refL])]
    split
    · rename_i cs ho
      simp only [appendT_agree h]
      split
      · congr 1
        funext m
        rw [chunk_agree (o := o) (o' := o')]
        intro k hk
        rw [dropV_eq] at hk
        exact h' k (List.mem_append_right _ (deep_mem (by simp [refL]) ho (refsL_sub (fun v hv => List.mem_of_mem_drop hv) hk)))
      · rfl
    · rfl
  case zs => simp only [appendX, appendT_agree h]
  all_goals exact gen

theorem argL_agree {o o' : Store} {bs : List V} {tk : Option Kd} {v : V} (h : Agree o o' (refL v)) : argL o' bs tk v = argL o bs tk v := by
  cases v <;> simp only [argL]
  all_goals rw [h _ (by simp [refL])]

theorem mapK_agree {o o' : Store} {bs : List V} : ∀ {l : List V} {ks : List Kd}, Agree o o' (refsL l) → mapK (fun k v => noBor (argL o' bs k v)) ks l = mapK (fun k v => noBor (argL o bs k v)) ks l
  | [], ks, _ => by cases ks <;> rfl
  | v :: l, [], h => by simp only [mapK, argL_agree h.left, mapK_agree (l := l) h.right]
  | v :: l, k :: ks, h => by simp only [mapK, argL_agree h.left, mapK_agree (l := l) h.right]

theorem map_argL_agree {o o' : Store} {bs : List V} {tk : Option Kd} : ∀ {l : List V}, Agree o o' (refsL l) → l.map (argL o' bs tk) = l.map (argL o bs tk)
  | [], _ => rfl
  | v :: l, h => by simp only [List.map_cons, argL_agree h.left, map_argL_agree (l := l) h.right]

theorem argV_agree {o o' : Store} {bs : List V} {ks : List Kd} {v : V} (h : Agree o o' (refs v)) : argV o' bs ks v = argV o bs ks v := by
  by_cases ha : ∃ l, v = .agg l
  · obtain ⟨l, rfl⟩ := ha
    simp only [argV, mapK_agree (o := o) (o' := o') h]
  by_cases hc : ∃ f l, v = .clo f l
  · obtain ⟨f, l, rfl⟩ := hc
    simp only [argV, map_argL_agree (o := o) (o' := o') (l := l) (fun n hn => h n (refsL_go hn))]
  have h1 : ∀ o, argV o bs ks v = argL o bs ks.head? v := by
    intro o
    cases v <;> first | rfl | exact absurd ⟨_, rfl⟩ ha | exact absurd ⟨_, _, rfl⟩ hc
  rw [h1, h1]
  exact argL_agree (fun n hn => h n (refL_refs hn))

theorem argVs_agree {o o' : Store} {bs : List V} : ∀ {l : List V} {tks : List (List Kd)}, Agree o o' (refsVs l) → argVs o' bs tks l = argVs o bs tks l
  | [], tks, _ => by cases tks <;> rfl
  | v :: l, [], h => by simp only [argVs, argV_agree h.left, argVs_agree (l := l) h.right]
  | v :: l, t :: ts, h => by simp only [argVs, argV_agree h.left, argVs_agree (l := l) h.right]

theorem cellB_agree {o o' : Store} {all : List Nat} {v : V} (h : Agree o o' (refL v)) : cellB o' all v = cellB o all v := by
  cases v <;> simp only [cellB]
  rw [h _ (by simp [refL])]
theorem map_cellB_agree {o o' : Store} {all : List Nat} : ∀ {l : List V}, Agree o o' (refsL l) → l.map (cellB o' all) = l.map (cellB o all)
  | [], _ => rfl
  | v :: l, h => by simp only [List.map_cons, cellB_agree h.left, map_cellB_agree (l := l) h.right]
theorem handed_agree {o o' : Store} {all : List Nat} : ∀ {l : List V}, Agree o o' (refsL l) → handed o' all l = handed o all l
  | [], _ => rfl
  | v :: l, h => by
    have ih := handed_agree (all := all) (l := l) h.right
    cases v <;> simp only [handed, ih]
    rw [h.left _ (by simp [refL])]
theorem shared_agree {o o' : Store} {all : List Nat} : ∀ {l : List V}, Agree o o' (refsL l) → shared o' all l = shared o all l
  | [], _ => rfl
  | v :: l, h => by
    have ih := shared_agree (all := all) (l := l) h.right
    cases v <;> simp only [shared, ih]
    rw [h.left _ (by simp [refL])]

theorem vRows_refs {v : V} {n : Nat} (h : n ∈ vRows v) : n ∈ refs v := by
  cases v <;> simp only [vRows] at h <;> try (cases h; done)
  case row => simpa [refs, refL] using h
  case agg => exact rowsIn_refs h
  case clo => exact refsL_go (rowsIn_refs h)
  case tup l =>
    simp only [refs]
    induction l with
    | nil => simp [vRows.go] at h
    | cons v r ih =>
      cases v <;> simp only [vRows.go, refs.go, List.mem_cons, List.mem_append] at h ⊢ <;> first | exact .inr (ih h) | skip
      · rcases h with h | h
        · exact .inl (by simp [refL, h])
        · exact .inr (ih h)
      · rcases h with h | h
        · exact .inl (rowsIn_refs h)
        · exact .inr (ih h)
theorem vsRows_refs : ∀ {l : List V} {n : Nat}, n ∈ vsRows l → n ∈ refsVs l
  | v :: l, n, h => by
    simp only [vsRows, refsVs, List.mem_append] at h ⊢
    exact h.imp vRows_refs vsRows_refs
theorem lent_refs : ∀ {l : List V} {n : Nat}, n ∈ lent l → n ∈ refsVs l
  | v :: l, n, h => by
    simp only [refsVs, List.mem_append]
    cases v <;> simp only [lent, List.mem_cons, List.mem_append] at h <;> first | exact .inr (lent_refs h) | skip
    · rcases h with h | h
      · exact .inl (by simp [refs, refL, h])
      · exact .inr (lent_refs h)
    · rename_i f caps
      rcases h with h | h
      · refine .inl ?_
        simp only [refs]
        refine refsL_go ?_
        clear lent_refs
        induction caps with
        | nil => simp [lent.lentC] at h
        | cons v r ih =>
          simp only [refsL, List.mem_append]
          cases v <;> simp only [lent.lentC, List.mem_cons] at h <;> first | exact .inr (ih h) | skip
          rcases h with h | h
          · exact .inl (by simp [refL, h])
          · exact .inr (ih h)
      · exact .inr (lent_refs h)

theorem callT_agree {o o' : Store} {d : Nat} {tks : List (List Kd)} {sp : RSpec} {vs : List V} (h : Agree o o' (refsVs vs ++ deep o (refsVs vs))) : callT o' d tks sp vs = callT o d tks sp vs := by
  have hA : ∀ bs, argVs o' bs tks vs = argVs o bs tks vs := fun bs => argVs_agree h.left
  have hF : ∀ l, (∀ n ∈ l, n ∈ refsVs vs ++ deep o (refsVs vs)) → freezeU o' l = freezeU o l := fun l hl => freezeU_agree (fun n hn => h n (hl n hn))
  have hFv : freezeU o' (vsRows vs) = freezeU o (vsRows vs) := hF _ (fun n hn => List.mem_append_left _ (vsRows_refs hn))
  have hF0 : freezeU o' [] = freezeU o [] := rfl
  have hPl : aftPlain o' d vs = aftPlain o d vs := by
    funext v out
    unfold aftPlain
    split
    · split
      · rename_i cs
        cases anyL cs <;> simp only [hFv, hF0]
      · simp only [hFv]
      · cases hasList v <;> simp only [hFv, hF0]
    · rfl
  unfold callT
  simp only [hA, hPl]
  split
  · rfl
  · rename_i n hl
    have hn : n ∈ refsVs vs := lent_refs (by rw [hl]; exact List.mem_cons_self ..)
    rw [h n (List.mem_append_left _ hn)]
    split
    · rename_i cs ho
      have hcs : Agree o o' (refsL cs) := fun m hm => h m (List.mem_append_right _ (deep_mem hn ho hm))
      have hsh : ∀ m ∈ shared o (rowsIn cs ++ vsRows vs) cs, m ∈ refsVs vs ++ deep o (refsVs vs) := by
        intro m hm
        obtain ⟨lo, hi, _, _, _, _, _, h1, _⟩ := shared_inv hm
        exact List.mem_append_right _ (deep_mem hn ho (rowsIn_refs (mem_rowsIn h1)))
      have hBx : aftBox o' d n cs vs = aftBox o d n cs vs := by
        funext v outs
        unfold aftBox
        rw [handed_agree hcs, shared_agree hcs]
        split
        · rename_i out
          have h1 : freezeU o' (shared o (rowsIn cs ++ vsRows vs) cs ++ vsRows vs) = freezeU o (shared o (rowsIn cs ++ vsRows vs) cs ++ vsRows vs) := hF _ (fun m hm => (List.mem_append.1 hm).elim (hsh m) (fun hm => List.mem_append_left _ (vsRows_refs hm)))
          have h2 : freezeU o' (shared o (rowsIn cs ++ vsRows vs) cs ++ []) = freezeU o (shared o (rowsIn cs ++ vsRows vs) cs ++ []) := hF _ (fun m hm => hsh m (by simpa using hm))
          cases (hasList v || anyL out) <;> simp only [h1, h2]
        · rfl
      rw [map_cellB_agree hcs, hBx]
    · have hBd : aftBld o' n vs = aftBld o n vs := by
        funext v outs
        unfold aftBld
        split
        · cases hasList v <;> simp only [hFv, hF0]
        · rfl
      rw [hBd]
    · rfl
  · rfl

theorem ipArgs_agree {o o' : Store} {l : List V} (h : Agree o o' (refsVs l)) : ipArgs o' l = ipArgs o l := by
  unfold ipArgs
  split
  · rfl
  · rename_i f m i c
    rw [h m (by simp [refsVs, refs, refs.go, refL])]
  · rfl
theorem ipT_agree {o o' : Store} {d : Option Nat} {p : Ip} {vs : List V} (h : Agree o o' (refsVs vs)) : ipT o' d p vs = ipT o d p vs := by
  unfold ipT
  split
  · rename_i n lo hi rest
    rw [h n (by simp [refsVs, refs, refL]), ipArgs_agree (fun k hk => h k (by simp only [refsVs, List.mem_append]; exact .inr hk))]
  · rename_i rest
    rw [ipArgs_agree (fun k hk => h k (by simp only [refsVs, List.mem_append]; exact .inr hk))]
  · rfl

theorem putV_refs : ∀ (cs : List V) (n : Nat) (vs : List V) {m : Nat}, m ∈ refsL (putV cs n vs) → m ∈ refsL cs ∨ m ∈ refsL vs
  | cs, n, [], m, h => by cases cs <;> cases n <;> exact .inl h
  | [], n, v :: vs, m, h => by cases n <;> simp [putV, refsL] at h
  | c :: r, 0, v :: vs, m, h => by
    simp only [putV, refsL, List.mem_append] at h ⊢
    rcases h with h | h
    · exact .inr (.inl h)
    · rcases putV_refs r 0 vs h with h | h
      · exact .inl (.inr h)
      · exact .inr (.inr h)
  | c :: r, n + 1, v :: vs, m, h => by
    simp only [putV, refsL, List.mem_append] at h ⊢
    rcases h with h | h
    · exact .inl (.inl h)
    · rcases putV_refs r n (v :: vs) h with h | h
      · exact .inl (.inr h)
      · exact .inr (by simpa [refsL] using h)

theorem cells_refs {v : V} {m : Nat} (h : m ∈ refsL (cells v)) : m ∈ refs v := by
  by_cases ha : ∃ l, v = .agg l
  · obtain ⟨l, rfl⟩ := ha
    exact h
  · have : cells v = [v] := by cases v <;> first | rfl | exact absurd ⟨_, rfl⟩ ha
    rw [this] at h
    exact refL_refs (by simpa [refsL] using h)

theorem refsVs_mem {l : List V} {v : V} {n : Nat} (hv : v ∈ l) (hn : n ∈ refs v) : n ∈ refsVs l := by
  induction l with
  | nil => cases hv
  | cons u r ih =>
    simp only [refsVs, List.mem_append]
    rcases List.mem_cons.1 hv with h | h
    · subst h; exact .inl hn
    · exact .inr (ih h)

theorem fillV_refs {o : Store} {place : Nat → Option (Nat × Nat)} : ∀ {l : List (Nat × V)} {cs cs' : List V}, fillV o place cs l = some cs' → ∀ m ∈ refsL cs', m ∈ refsL cs ∨ ∃ i v, (i, v) ∈ l ∧ m ∈ refs v
  | [], cs, cs', h, m, hm => by
    simp only [fillV, Option.some.injEq] at h
    subst h
    exact .inl hm
  | (i, v) :: r, cs, cs', h, m, hm => by
    simp only [fillV] at h
    split at h
    · split at h
      · rcases fillV_refs h m hm with h1 | ⟨j, u, h1, h2⟩
        · rcases putV_refs _ _ _ h1 with h2 | h2
          · exact .inl h2
          · exact .inr ⟨i, v, List.mem_cons_self .., cells_refs h2⟩
        · exact .inr ⟨j, u, List.mem_cons_of_mem _ h1, h2⟩
      · cases h
    · cases h

theorem repeatV_refs {z : List V} : ∀ {n m : Nat}, m ∈ refsL (repeatV z n) → m ∈ refsL z
  | 0, m, h => by simp [repeatV, refsL] at h
  | n + 1, m, h => by
    simp only [repeatV, refsL_append, List.mem_append] at h
    exact h.elim id (repeatV_refs (n := n))

theorem opList_mem (ρ : Operand → V) : ∀ {l : List (Nat × Operand)} {i : Nat} {v : V}, (i, v) ∈ opList ρ l → v ∈ (l.map (·.2)).map ρ
  | (j, x) :: r, i, v, h => by
    simp only [opList, List.mem_cons, Prod.mk.injEq] at h
    simp only [List.map_cons, List.mem_cons]
    rcases h with ⟨_, rfl⟩ | h
    · exact .inl rfl
    · exact .inr (opList_mem ρ h)

theorem refsVs_inv : ∀ {l : List V} {n : Nat}, n ∈ refsVs l → ∃ v ∈ l, n ∈ refs v
  | v :: r, n, h => by
    simp only [refsVs, List.mem_append] at h
    rcases h with h | h
    · exact ⟨v, List.mem_cons_self .., h⟩
    · obtain ⟨u, h1, h2⟩ := refsVs_inv h
      exact ⟨u, List.mem_cons_of_mem _ h1, h2⟩

theorem deep_inv {o : Store} {m : Nat} : ∀ {l : List Nat}, m ∈ deep o l → ∃ n ∈ l, ∃ cs, objOf o n = some (.box cs) ∧ m ∈ refsL cs
  | n :: r, h => by
    simp only [deep] at h
    split at h
    · rename_i cs ho
      rcases List.mem_append.1 h with h | h
      · exact ⟨n, List.mem_cons_self .., cs, ho, h⟩
      · obtain ⟨k, h1, h2⟩ := deep_inv h
        exact ⟨k, List.mem_cons_of_mem _ h1, h2⟩
    · obtain ⟨k, h1, h2⟩ := deep_inv h
      exact ⟨k, List.mem_cons_of_mem _ h1, h2⟩

theorem deep_sub {o : Store} {l l' : List Nat} (hs : ∀ k ∈ l, k ∈ l') {n : Nat} (h : n ∈ deep o l) : n ∈ deep o l' := by
  obtain ⟨k, h1, cs, h2, h3⟩ := deep_inv h
  exact deep_mem (hs k h1) h2 h3

theorem caps_go {v : V} {n : Nat} : ∀ {l : List V}, capsOK l = true → v ∈ l → n ∈ refs v → n ∈ refs.go l
  | u :: r, hok, hv, hn => by
    rcases List.mem_cons.1 hv with h | h
    · subst h
      cases v <;> simp only [capsOK] at hok <;> first | (cases hok; done) | (simp only [refs, refL] at hn; simp only [refs.go, refL, List.mem_append]; first | exact .inl hn | (cases hn; done))
    · have hr : capsOK r = true := by cases u <;> simp only [capsOK] at hok <;> first | exact hok | (cases hok; done)
      have := caps_go hr h hn
      cases u <;> simp only [refs.go, List.mem_append] <;> exact .inr this

theorem evOp_agree {E : Env} {o o' : Store} {ρ : Operand → V} {d : Option Nat} {op : Op} (h : Agree o o' (reads E o ρ op)) : evOp E o' ρ d op = evOp E o ρ d op := by
  cases hq : quiet op with
  | true => cases op <;> first | rfl | cases hq
  | false =>
  unfold reads at h
  rw [hq] at h
  replace h : Agree o o' (readsG E o ρ op) := h
  unfold readsG at h
  have hz := h.left.right
  have hd := h.right
  have hv := h.left.left
  clear h
  have one : ∀ {x : Operand} {n : Nat}, x ∈ op.operands.toList → n ∈ refs (ρ x) → objOf o' n = objOf o n := fun hx hn => hv _ (refsVs_mem (List.mem_map_of_mem hx) hn)
  have two : ∀ {x : Operand} {n : Nat} {cs : List V}, x ∈ op.operands.toList → n ∈ refs (ρ x) → objOf o n = some (.box cs) → Agree o o' (refsL cs) := fun hx hn ho m hm => hd _ (deep_mem (refsVs_mem (List.mem_map_of_mem hx) hn) ho hm)
  cases op
  case box t x =>
    simp only [evOp]
    rw [okV_agree (fun n hn => one (x := x) (by simp [Op.operands]) (refL_refs hn))]
  case build t parts =>
    have hp : ∀ i v, (i, v) ∈ opList ρ parts.toList → Agree o o' (refs v) := fun i v hm n hn => hv _ (refsVs_mem (by have := opList_mem ρ hm; simpa [Op.operands] using this) hn)
    simp only [evOp, fillV_agree hp]
  case buildSlice t len parts =>
    have hp : ∀ i v, (i, v) ∈ opList ρ parts.toList → Agree o o' (refs v) := fun i v hm n hn => hv _ (refsVs_mem (by have := opList_mem ρ hm; simpa [Op.operands] using this) hn)
    simp only [evOp]
    split
    · rename_i d e hd1
      simp only [zeroRefs, hd1] at hz
      rw [fillV_agree hp]
      split
      · rename_i cs hf
        have hcs : Agree o o' (refsL cs) := by
          intro m hm
          rcases fillV_refs hf m hm with h1 | ⟨i, v, h1, h2⟩
          · exact hz m (repeatV_refs h1)
          · exact hp i v h1 m h2
        rw [chunk_agree hcs, freezeU_agree (fun m hm => hcs m (rowsIn_refs hm))]
      · rfl
    · rfl
  case load t x =>
    simp only [evOp]
    split
    · rename_i n i c hx
      rw [one (x := x) (by simp [Op.operands]) (by rw [hx]; simp [refs, refL])]
    · rfl
    · rfl
  case nilCheck x =>
    simp only [evOp]
    split
    · rename_i n i c hx
      rw [one (x := x) (by simp [Op.operands]) (by rw [hx]; simp [refs, refL])]
    · rfl
  case fieldAddr s x f =>
    simp only [evOp]
    split
    · split
      · split
        · rename_i n i c hx
          rw [one (x := x) (by simp [Op.operands]) (by rw [hx]; simp [refs, refL])]
        · rfl
        · rfl
      · rfl
    · rfl
  case binOp op t x y t' =>
    simp only [evOp]
    unfold binE
    split <;> try rfl
    rename_i n i c hx hy
    rw [one (x := x) (by simp [Op.operands]) (by rw [hx]; simp [refs, refL])]
  case convert s t x =>
    simp only [evOp]
    split <;> try rfl
    rw [elemsOf_agree (fun n hn => one (x := x) (by simp [Op.operands]) (refL_refs hn)), shapeOf_agree (fun n hn => one (x := x) (by simp [Op.operands]) (refL_refs hn))]
  case slice t x lo hi mx =>
    simp only [evOp]
    split <;> try rfl
    · rename_i n a b hx
      rw [one (x := x) (by simp [Op.operands]) (by rw [hx]; simp [refs, refL])]
    · rename_i n a c hx
      rw [one (x := x) (by simp [Op.operands]) (by rw [hx]; simp [refs, refL])]
  case indexAddr t x ix =>
    simp only [evOp]
    split
    · split
      · rfl
      · rename_i n lo hi hx
        rw [one (x := x) (by simp [Op.operands]) (by rw [hx]; simp [refs, refL])]
      · rename_i n c cap sz len hx
        rw [one (x := x) (by simp [Op.operands]) (by rw [hx]; simp [refs, refL])]
      · rfl
    · split
      · rename_i n i0 c hx
        rw [one (x := x) (by simp [Op.operands]) (by rw [hx]; simp [refs, refL])]
      · rfl
      · rfl
    · rfl
  case store t p x =>
    simp only [evOp]
    have hx : Agree o o' (refs (ρ x)) := fun n hn => one (x := x) (by simp [Op.operands]) hn
    have hc : Agree o o' (refsL (cells (ρ x))) := fun n hn => hx n (cells_refs hn)
    unfold storeT
    split
    · rename_i n i c hp
      rw [one (x := p) (by simp [Op.operands]) (by rw [hp]; simp [refs, refL]), okV_agree (fun n hn => hx n (refL_refs hn)), okAll_agree hc, freezeU_agree (fun m hm => hc m (rowsIn_refs hm))]
      simp only [leavesIV_agree hc]
    · rfl
  case makeSlice t n m =>
    simp only [evOp]
    split
    · rename_i d e k1 n1 k2 m1 hd1 _ _
      simp only [zeroRefs, hd1] at hz
      rw [chunk_agree hz]
      split
      · rw [freezeU_agree (fun m hm => hz m (rowsIn_refs hm))]
      · rfl
    · rfl
  case call c =>
    obtain ⟨callee, args, ats⟩ := c
    simp only [evOp, callOf]
    have hmem : ∀ {x : Operand}, x ∈ args.toList → x ∈ (Op.call ⟨callee, args, ats⟩).operands.toList := fun {x} hx => by
      simp only [Op.operands, Call.operands, Array.toList_append, List.mem_append]
      exact .inr hx
    have harg : ∀ {x : Operand}, x ∈ args.toList → Agree o o' (refs (ρ x)) := fun {x} hx n hn => one (x := x) (hmem hx) hn
    have hdp : ∀ {x : Operand}, x ∈ args.toList → Agree o o' (refL (ρ x) ++ deep o (refL (ρ x))) := fun {x} hx n hn => by
      rcases List.mem_append.1 hn with hn | hn
      · exact harg hx n (refL_refs hn)
      · refine hd n (deep_sub (fun k hk => refsVs_mem (List.mem_map_of_mem (hmem hx)) (refL_refs hk)) hn)
    have hsub : ∀ (l : List V), (∀ v ∈ l, ∃ y ∈ (Op.call ⟨callee, args, ats⟩).operands.toList, ∀ n ∈ refs v, n ∈ refs (ρ y)) → Agree o o' (refsVs l ++ deep o (refsVs l)) := by
      intro l hl n hn
      have h1 : ∀ k ∈ refsVs l, k ∈ refsVs ((Op.call ⟨callee, args, ats⟩).operands.toList.map ρ) := by
        intro k hk
        obtain ⟨v, hv1, hv2⟩ := refsVs_inv hk
        obtain ⟨y, hy1, hy2⟩ := hl v hv1
        exact refsVs_mem (List.mem_map_of_mem hy1) (hy2 k hv2)
      rcases List.mem_append.1 hn with hn | hn
      · exact hv n (h1 n hn)
      · exact hd n (deep_sub h1 hn)
    split
    · split
      · rename_i x t hx _
        have hxm : x ∈ args.toList := by rw [hx]; simp
        have := hdp hxm
        unfold lenT
        split <;> try rfl
        · rename_i n lo hi hr
          rw [this.left n (by rw [hr]; simp [refL])]
        · rename_i n c cap sz len hr
          rw [this.left n (by rw [hr]; simp [refL])]
      · rfl
    · split
      · rename_i s x t t' hx _
        have hsm : s ∈ args.toList := by rw [hx]; simp
        have hxm : x ∈ args.toList := by rw [hx]; simp
        simp only [appendX_agree (hdp hsm).left (hdp hxm), appendZ_agree (hdp hsm).left]
      · rfl
    · split
      · rename_i x y t t' hx _
        have hxm : x ∈ args.toList := by rw [hx]; simp
        have hym : y ∈ args.toList := by rw [hx]; simp
        unfold copyT
        split
        · rename_i n c cap sz len n' c' cap' sz' len' h1 h2
          rw [(hdp hxm).left n (by rw [h1]; simp [refL]), (hdp hym).left n' (by rw [h2]; simp [refL])]
          split
          · rename_i cs cs' e ho ho' hde
            rw [okAll_agree (o := o) (o' := o') (l := cs') (fun m hm => (hdp hym).right m (deep_mem (by rw [h2]; simp [refL]) ho' hm))]
          · rfl
        · rfl
      · rfl
    · rfl
    · rfl
    · rename_i f d hcal
      have hs := hsub (args.toList.map ρ) (fun v hv => by
        obtain ⟨y, hy, rfl⟩ := List.mem_map.1 hv
        exact ⟨y, hmem hy, fun n hn => hn⟩)
      unfold callF
      rw [mapO_eq]
      split
      · rw [ipT_agree hs.left]
      · split
        · rw [callT_agree hs]
        · rfl
    · split
      · rename_i f caps hx
        split
        · rename_i hok
          rw [mapO_eq, callT_agree (hsub _ (fun v hv => by
            rcases List.mem_append.1 hv with hv | hv
            · obtain ⟨y, hy, rfl⟩ := List.mem_map.1 hv
              exact ⟨y, hmem hy, fun n hn => hn⟩
            · refine ⟨_, by simp only [Op.operands, Call.operands, Array.toList_append, List.mem_append]; exact .inl (List.mem_cons_self ..), fun n hn => ?_⟩
              rw [hx]
              simp only [refs]
              exact caps_go hok hv hn))]
        · rfl
      · rfl
    · rfl
  case makeFunc f a b => cases f <;> rfl
  all_goals rfl

end Go.FM

/-
  THE SMALL MACHINE (30): regions that draw their order: what is done in the text's order may be done in any.
-/
namespace Go.FM
open Go Go.RowKit

/-! ### an operation looks at its operands alone -/
theorem opList_congr {ρ ρ' : Operand → V} : ∀ {l : List (Nat × Operand)}, (∀ x ∈ l.map (·.2), ρ x = ρ' x) → opList ρ l = opList ρ' l
  | [], _ => rfl
  | (i, x) :: r, h => by
    simp only [opList, h x (by simp), opList_congr (l := r) (fun y hy => h y (List.mem_cons_of_mem _ hy))]
theorem mapO_congr {ρ ρ' : Operand → V} : ∀ {l : List Operand}, (∀ x ∈ l, ρ x = ρ' x) → mapO ρ l = mapO ρ' l
  | [], _ => rfl
  | x :: r, h => by simp only [mapO, h x (List.mem_cons_self ..), mapO_congr (l := r) (fun y hy => h y (List.mem_cons_of_mem _ hy))]
theorem optMap_congr {ρ ρ' : Operand → V} {x : Option Operand} (h : ∀ y ∈ x.toArray.toList, ρ y = ρ' y) : x.map ρ = x.map ρ' := by
  cases x with
  | none => rfl
  | some x => simp only [Option.map_some, h x (by simp)]

theorem evOp_congr {E : Env} {o : Store} {ρ ρ' : Operand → V} {d : Option Nat} {op : Op} (h : ∀ x ∈ op.operands.toList, ρ x = ρ' x) : evOp E o ρ d op = evOp E o ρ' d op := by
  cases op
  case build t ps => simp only [evOp, opList_congr (l := ps.toList) (fun x hx => h x (by simpa [Op.operands] using hx))]
  case buildSlice t n ps => simp only [evOp, opList_congr (l := ps.toList) (fun x hx => h x (by simpa [Op.operands] using hx))]
  case makeFunc f first caps =>
    cases f <;> simp only [evOp]
    rw [mapO_congr (l := caps.toList) (fun x hx => h x (by simp only [Op.operands, Array.toList_append, List.mem_append]; exact .inr hx))]
  case slice t x lo hi mx =>
    have h1 : ρ x = ρ' x := h x (by simp [Op.operands])
    have h2 : lo.map ρ = lo.map ρ' := optMap_congr (fun y hy => h y (by simp only [Op.operands, Array.toList_append, List.mem_append]; exact .inl (.inl (.inr hy))))
    have h3 : hi.map ρ = hi.map ρ' := optMap_congr (fun y hy => h y (by simp only [Op.operands, Array.toList_append, List.mem_append]; exact .inl (.inr hy)))
    simp only [evOp, h1, h2, h3]
  case call c =>
    obtain ⟨callee, args, ats⟩ := c
    have ha : ∀ x ∈ args.toList, ρ x = ρ' x := fun x hx => h x (by simp only [Op.operands, Call.operands, Array.toList_append, List.mem_append]; exact .inr hx)
    have hm : mapO ρ args.toList = mapO ρ' args.toList := mapO_congr ha
    simp only [evOp, callOf]
    split
    · split
      · rename_i x t hx _
        rw [ha x (by rw [hx]; simp)]
      · rfl
    · split
      · rename_i s x t t' hx _
        rw [ha s (by rw [hx]; simp), ha x (by rw [hx]; simp)]
      · rfl
    · split
      · rename_i x y t t' hx _
        rw [ha x (by rw [hx]; simp), ha y (by rw [hx]; simp)]
      · rfl
    · simp only [hm]
    · simp only [hm]
    · simp only [hm]
    · rename_i x _ _
      have hxx : ρ x = ρ' x := h x (by simp [Op.operands, Call.operands])
      simp only [hm, hxx]
    · rfl
  all_goals first
    | rfl
    | (simp only [Op.operands] at h; simp only [evOp]; simp (config := {decide := false}) only [List.mem_cons, List.not_mem_nil, or_false, forall_eq_or_imp, forall_eq] at h; simp only [h])

/-! ### states that are the same to who looks -/
structure SEq (s s' : St) : Prop where
  t : ∀ i, s.get i = s'.get i
  o : ∀ n, objOf s.o n = objOf s'.o n

theorem SEq.refl (s : St) : SEq s s := ⟨fun _ => rfl, fun _ => rfl⟩
theorem SEq.symm {s s' : St} (h : SEq s s') : SEq s' s := ⟨fun i => (h.t i).symm, fun n => (h.o n).symm⟩
theorem SEq.trans {a b c : St} (h : SEq a b) (k : SEq b c) : SEq a c := ⟨fun i => (h.t i).trans (k.t i), fun n => (h.o n).trans (k.o n)⟩
theorem SEq.opd {s s' : St} (h : SEq s s') : opd s = opd s' := by
  funext x
  cases x <;> simp only [FM.opd, h.t]
theorem SEq.put {s s' : St} (h : SEq s s') (d : Option Nat) (v : V) : SEq (s.put d v) (s'.put d v) := by
  cases d with
  | none => exact h
  | some d => exact ⟨fun i => by simp only [St.put, St.get, lkd_cons]; split; · rfl
                                 · exact h.t i, h.o⟩
theorem get_put (s : St) (d : Nat) (v : V) (i : Nat) : (s.put (some d) v).get i = if d = i then v else s.get i := by simp only [St.put, St.get, lkd_cons]
theorem SEq.up {s s' : St} (h : SEq s s') (u : Upd) : SEq (s.up u) (s'.up u) := by
  cases u with
  | new n ob => exact ⟨fun i => by rw [get_up_new, get_up_new, h.t], fun m => by rw [objOf_up_new, objOf_up_new, h.o]⟩
  | set n ob => exact ⟨h.t, fun m => by simp only [St.up, objOf_cons, h.o]⟩
  | kill n => exact ⟨h.t, fun m => by simp only [St.up, objOf_cons, h.o]⟩
theorem SEq.ups : ∀ {us : List Upd} {s s' : St}, SEq s s' → SEq (s.ups us) (s'.ups us)
  | [], _, _, h => h
  | u :: r, _, _, h => SEq.ups (us := r) (h.up u)
theorem SEq.lit {s : St} {j : Nat} {b : Bool} (h : s.get j = .bool b) : SEq s (litS s j b) :=
  ⟨fun i => by
    simp only [litS, St.get, lkd_cons]
    split
    · rename_i e; subst e; exact h
    · rfl, fun _ => rfl⟩

theorem updO_congr : ∀ {us : List Upd} {o o' : Store}, (∀ n, objOf o n = objOf o' n) → ∀ n, objOf (updO us o) n = objOf (updO us o') n
  | [], _, _, h => h
  | .set m ob :: r, o, o', h => updO_congr (us := r) (fun n => by rw [objOf_cons, objOf_cons, h])
  | .new m ob :: r, o, o', h => updO_congr (us := r) (fun n => by rw [objOf_cons, objOf_cons, h])
  | .kill m :: r, o, o', h => updO_congr (us := r) (fun n => by rw [objOf_cons, objOf_cons, h])
theorem updO_not : ∀ {us : List Upd} {o : Store} {n : Nat}, n ∉ namesU us → objOf (updO us o) n = objOf o n
  | [], _, _, _ => rfl
  | .set m ob :: r, o, n, h => by
    simp only [namesU, List.mem_cons, not_or] at h
    rw [updO, updO_not h.2, objOf_cons, if_neg (fun e => h.1 e.symm)]
  | .new m ob :: r, o, n, h => by
    simp only [namesU, List.mem_cons, not_or] at h
    rw [updO, updO_not h.2, objOf_cons, if_neg (fun e => h.1 e.symm)]
  | .kill m :: r, o, n, h => by
    simp only [namesU, List.mem_cons, not_or] at h
    rw [updO, updO_not h.2, objOf_cons, if_neg (fun e => h.1 e.symm)]
theorem updO_in : ∀ {us : List Upd} {o o' : Store} {n : Nat}, n ∈ namesU us → objOf (updO us o) n = objOf (updO us o') n
  | [], _, _, _, h => by simp [namesU] at h
  | u :: r, o, o', n, h => by
    by_cases hr : n ∈ namesU r
    · cases u <;> simp only [updO] <;> exact updO_in hr
    · cases u <;> simp only [namesU, List.mem_cons, hr, or_false] at h <;> subst h <;> simp only [updO] <;> rw [updO_not hr, updO_not hr, objOf_cons, objOf_cons, if_pos rfl, if_pos rfl]

theorem SEq.apD {s s' : St} (h : SEq s s') (x : Dn) : SEq (apD s x) (apD s' x) := ⟨(h.put x.dst x.v).t, updO_congr h.o⟩
theorem SEq.apDs : ∀ {l : List Dn} {s s' : St}, SEq s s' → SEq (apDs s l) (apDs s' l)
  | [], _, _, h => h
  | x :: r, _, _, h => SEq.apDs (l := r) (h.apD x)
theorem apDs_append : ∀ (l l' : List Dn) (s : St), apDs s (l ++ l') = apDs (apDs s l) l'
  | [], _, _ => rfl
  | x :: r, l', s => apDs_append r l' (apD s x)

/-! ### scrubbing that does nothing -/
theorem leaf_id {n : Nat} {v : V} (hc : cleanL v = true) (hn : n ∉ refL v) : scrubV.leaf n v = v := by
  cases v <;> simp only [cleanL] at hc <;> first | (cases hc; done) | rfl | skip
  · simp only [refL, List.mem_singleton] at hn
    simp only [scrubV.leaf, beq_ne'.2 (fun e => hn e.symm)]
  · simp only [refL, List.mem_singleton] at hn
    simp only [scrubV.leaf, beq_ne'.2 (fun e => hn e.symm)]
theorem leaves_id {n : Nat} : ∀ {l : List V}, cleanLs l = true → n ∉ refsL l → l.map (scrubV.leaf n) = l
  | [], _, _ => rfl
  | v :: r, hc, hn => by
    simp only [cleanLs] at hc
    split at hc
    · rename_i h1
      simp only [refsL, List.mem_append, not_or] at hn
      simp only [List.map_cons, leaf_id h1 hn.1, leaves_id hc hn.2]
    · cases hc
theorem leaves2_id {n : Nat} : ∀ {l : List V}, cleanV.go l = true → n ∉ refs.go l → l.map (scrubV.leaf2 n) = l
  | [], _, _ => rfl
  | v :: r, hc, hn => by
    by_cases ha : ∃ l, v = .agg l
    · obtain ⟨l, rfl⟩ := ha
      simp only [cleanV.go] at hc
      split at hc
      · rename_i h1
        simp only [refs.go, List.mem_append, not_or] at hn
        simp only [List.map_cons, scrubV.leaf2, leaves_id h1 hn.1, leaves2_id hc hn.2]
      · cases hc
    · have h0 : scrubV.leaf2 n v = scrubV.leaf n v := by cases v <;> first | rfl | exact absurd ⟨_, rfl⟩ ha
      have h1 : cleanL v = true ∧ cleanV.go r = true := by
        cases v <;> simp only [cleanV.go, cleanL] at hc ⊢ <;> first | (simp at hc; done) | (simpa using hc) | (cases hc; done) | exact absurd ⟨_, rfl⟩ ha
      have h2 : n ∉ refL v ∧ n ∉ refs.go r := by
        cases v <;> simp only [refs.go, List.mem_append, not_or] at hn <;> first | exact hn | exact absurd ⟨_, rfl⟩ ha
      simp only [List.map_cons, h0, leaf_id h1.1 h2.1, leaves2_id h1.2 h2.2]
theorem scrub_id {n : Nat} {v : V} (hc : cleanV v = true) (hn : n ∉ refs v) : scrubV n v = v := by
  cases v <;> simp only [cleanV] at hc <;> first | rfl | skip
  case row a b c => simp only [refs, refL, List.mem_singleton] at hn; simp only [scrubV, beq_ne'.2 (fun e => hn e.symm)]
  case ptr a b c => simp only [refs, refL, List.mem_singleton] at hn; simp only [scrubV, beq_ne'.2 (fun e => hn e.symm)]
  case bview a b c d e => simp only [refs, refL, List.mem_singleton] at hn; simp only [scrubV, beq_ne'.2 (fun e => hn e.symm)]
  case agg l => simp only [scrubV, leaves_id hc hn]
  case tup l => simp only [scrubV, leaves2_id hc hn]
  case clo f l =>
    have : n ∉ refsL l := fun h => hn (refsL_go h)
    simp only [scrubV, leaves_id hc this]
theorem scrubs_id {n : Nat} : ∀ {l : List V}, cleanVs l = true → n ∉ refsVs l → l.map (scrubV n) = l
  | [], _, _ => rfl
  | v :: r, hc, hn => by
    simp only [cleanVs] at hc
    split at hc
    · rename_i h1
      simp only [refsVs, List.mem_append, not_or] at hn
      simp only [List.map_cons, scrub_id h1 hn.1, scrubs_id hc hn.2]
    · cases hc
theorem scrubO_id {n : Nat} {ob : Ob} (hc : cleanOb ob = true) (hn : n ∉ refsOb ob) : scrubO n (some ob) = some ob := by
  cases ob with
  | box cs => simp only [scrubO, scrubs_id hc hn]
  | row _ _ _ _ _ => rfl
  | bld _ => rfl

theorem pLeaf_id {p : Nat → Bool} {n : Nat} (hp : p n = true) (v : V) : scrubV.leaf n (scrubP.leaf p v) = scrubP.leaf p v := by
  cases v <;> simp only [scrubP.leaf] <;> first | rfl | skip
  all_goals
    rename_i m _ _
    cases hm : p m with
    | true => rfl
    | false =>
      simp only [scrubV.leaf]
      rw [beq_ne'.2 (fun e => by subst e; rw [hp] at hm; cases hm)]
theorem pLeaves_id {p : Nat → Bool} {n : Nat} (hp : p n = true) : ∀ (l : List V), (scrubP.go p l).map (scrubV.leaf n) = scrubP.go p l
  | [] => rfl
  | v :: r => by simp only [scrubP.go, List.map_cons, pLeaf_id hp, pLeaves_id hp r]
theorem pLeaf2_id {p : Nat → Bool} {n : Nat} (hp : p n = true) (v : V) : scrubV.leaf2 n (scrubP.leaf2 p v) = scrubP.leaf2 p v := by
  by_cases ha : ∃ l, v = .agg l
  · obtain ⟨l, rfl⟩ := ha
    simp only [scrubP.leaf2, scrubV.leaf2, pLeaves_id hp]
  · have h0 : scrubP.leaf2 p v = scrubP.leaf p v := by cases v <;> first | rfl | exact absurd ⟨_, rfl⟩ ha
    rw [h0]
    have := pLeaf_id hp v
    cases hx : scrubP.leaf p v <;> rw [hx] at this <;> first | exact this | skip
    exfalso
    cases v <;> simp only [scrubP.leaf] at hx <;> try (cases hx; done)
    all_goals (split at hx <;> cases hx)
theorem pLeaves2_id {p : Nat → Bool} {n : Nat} (hp : p n = true) : ∀ (l : List V), (scrubP.go2 p l).map (scrubV.leaf2 n) = scrubP.go2 p l
  | [] => rfl
  | v :: r => by simp only [scrubP.go2, List.map_cons, pLeaf2_id hp, pLeaves2_id hp r]
theorem pScrub_id {p : Nat → Bool} {n : Nat} (hp : p n = true) (v : V) : scrubV n (scrubP p v) = scrubP p v := by
  have key : ∀ m, p m = false → Nat.beq m n = false := fun m hm => beq_ne'.2 (fun e => by subst e; rw [hp] at hm; cases hm)
  cases v <;> simp only [scrubP] <;> try rfl
  case row m _ _ => cases hm : p m <;> simp only [scrubV, key m, hm]
  case ptr m _ _ => cases hm : p m <;> simp only [scrubV, key m, hm]
  case bview m _ _ _ _ => cases hm : p m <;> simp only [scrubV, key m, hm]
  case agg l => simp only [scrubV, pLeaves_id hp]
  case tup l => simp only [scrubV, pLeaves2_id hp]
  case clo f l => simp only [scrubV, pLeaves_id hp]
theorem mapV_eq (f : V → V) : ∀ l, scrubOP.mapV f l = l.map f
  | [] => rfl
  | v :: r => by simp only [scrubOP.mapV, List.map_cons, mapV_eq f r]
theorem pScrubO_id {p : Nat → Bool} {n : Nat} (hp : p n = true) (x : Option Ob) : scrubO n (scrubOP p x) = scrubOP p x := by
  match x with
  | none => rfl
  | some (.row _ _ _ _ _) => rfl
  | some (.bld _) => rfl
  | some (.box cs) =>
    simp only [scrubOP, scrubO, mapV_eq, List.map_map]
    congr 2
    exact List.map_congr_left (fun v _ => pScrub_id hp v)

/-- A name is new to a state. -/
structure Fr (n : Nat) (s : St) : Prop where
  t : ∀ i, scrubV n (s.get i) = s.get i
  o : ∀ m, scrubO n (objOf s.o m) = objOf s.o m

theorem Fr.congr {n : Nat} {s s' : St} (h : Fr n s) (e : SEq s s') : Fr n s' := ⟨fun i => by rw [← e.t]; exact h.t i, fun m => by rw [← e.o]; exact h.o m⟩

theorem memB_not {n : Nat} {l : List Nat} : memB n l = false ↔ n ∉ l := by
  rw [← memB_iff]; simp
theorem disj_iff : ∀ {l l' : List Nat}, disj l l' = true ↔ ∀ n ∈ l, n ∉ l'
  | [], l' => by simp [disj]
  | m :: r, l' => by
    simp only [disj]
    cases hb : memB m l' with
    | true => simp [memB_iff.1 hb]
    | false => simp [memB_not.1 hb, disj_iff (l := r)]

theorem ups_seq : ∀ {us : List Upd} {s : St}, (∀ n ∈ newsU us, Fr n s) → usOK us = true → SEq (s.ups us) ⟨s.t, updO us s.o⟩
  | [], s, _, _ => SEq.refl s
  | .kill m :: r, s, hf, ho => by
    simp only [St.ups, updO]
    exact ups_seq (us := r) (s := s.up (.kill m)) (fun n hn => ⟨(hf n hn).t, fun k => by
      simp only [St.up, objOf_cons]
      split
      · rfl
      · exact (hf n hn).o k⟩) ho
  | .set m ob :: r, s, hf, ho => by
    simp only [usOK, Bool.and_eq_true] at ho
    simp only [St.ups, updO]
    exact ups_seq (us := r) (s := s.up (.set m ob)) (fun n hn => ⟨(hf n hn).t, fun k => by
      simp only [St.up, objOf_cons]
      split
      · exact scrubO_id ho.1 (disj_iff.1 ho.2.1 n hn)
      · exact (hf n hn).o k⟩) ho.2.2
  | .new m ob :: r, s, hf, ho => by
    simp only [usOK, Bool.and_eq_true] at ho
    simp only [St.ups, updO]
    have hm : Fr m s := hf m (by simp [newsU])
    have e : SEq (s.up (.new m ob)) (s.up (.set m ob)) := ⟨fun i => by rw [get_up_new, hm.t]; rfl, fun k => by rw [objOf_up_new, hm.o]; simp only [St.up, objOf_cons]⟩
    refine (e.ups (us := r)).trans ?_
    exact ups_seq (us := r) (s := s.up (.set m ob)) (fun n hn => ⟨(hf n (by simp [newsU, hn])).t, fun k => by
      simp only [St.up, objOf_cons]
      split
      · exact scrubO_id ho.1 (disj_iff.1 ho.2.1 n hn)
      · exact (hf n (by simp [newsU, hn])).o k⟩) ho.2.2

end Go.FM

/-
  THE SMALL MACHINE (31): regions that draw their order: soundness.
-/
namespace Go.FM
open Go Go.RowKit

/-! ### less is known: some names are given up, and forgotten -/
def CmpP (p : Nat → Bool) (γ : Nat → Value) (o : Store) (γ' : Nat → Value) (o' : Store) : Prop :=
  ∀ n ob', p n = false → objOf o' n = some ob' → γ' n = γ n ∧ ∃ ob, objOf o n = some ob ∧ ob.fits ob'

section
variable {γ γ' : Nat → Value} {o o' : Store} {w : World} {O : Nat → Prop} {p : Nat → Bool}

theorem CmpP.but (hc : CmpP p γ o γ' o') {n : Nat} (hn : p n = false) {v : V} (hv : v = .any ∨ (∃ lo hi, v = .row n lo hi) ∨ (∃ i c, v = .ptr n i c) ∨ ∃ c cap sz len, v = .bview n c cap sz len) {x : Value} (h : VRel γ o w O v x) : VRel γ' o' w O v x := by
  -- a store in which 'n' alone is known
  let f : Nat → Value := fun m => if m = n then γ' n else γ m
  rcases hv with rfl | ⟨lo, hi, rfl⟩ | ⟨i, c, rfl⟩ | ⟨c, cap, sz, len, rfl⟩
  · simp only [VRel]
  · simp only [VRel] at h ⊢
    cases h' : objOf o' n with
    | none => trivial
    | some ob' =>
      obtain ⟨hg, ob, ho, hf⟩ := hc n ob' hn h'
      rw [ho] at h
      rw [hg]
      cases ob <;> cases ob' <;> simp only [Ob.fits] at hf <;> try trivial
      obtain ⟨rfl, hl⟩ := hf
      exact ⟨by rw [← hl]; exact h.1, h.2⟩
  · simp only [VRel] at h ⊢
    cases h' : objOf o' n with
    | none => trivial
    | some ob' =>
      obtain ⟨hg, ob, ho, hf⟩ := hc n ob' hn h'
      rw [ho] at h
      rw [hg]
      cases ob <;> cases ob' <;> simp only [Ob.fits] at hf
      · exact h
      · obtain ⟨rfl, hl⟩ := hf
        exact ⟨by rw [← hl]; exact h.1, h.2⟩
      · exact h
  · simp only [VRel] at h ⊢
    cases h' : objOf o' n with
    | none => trivial
    | some ob' =>
      obtain ⟨hg, ob, ho, hf⟩ := hc n ob' hn h'
      rw [ho] at h
      rw [hg]
      cases ob <;> cases ob' <;> simp only [Ob.fits] at hf <;> try trivial
      exact ⟨h.1, h.2.1, by rw [← hf]; exact h.2.2.1, h.2.2.2⟩

theorem pLeaf_rel (hc : CmpP p γ o γ' o') {v : V} {x : Value} (h : VRel γ o w O v x) : VRel γ' o' w O (scrubP.leaf p v) x := by
  cases v <;> simp only [scrubP.leaf]
  case row n lo hi =>
    cases hb : p n with
    | true => simp only [VRel]
    | false => exact hc.but hb (.inr (.inl ⟨_, _, rfl⟩)) h
  case ptr n i c =>
    cases hb : p n with
    | true => simp only [VRel]
    | false => exact hc.but hb (.inr (.inr (.inl ⟨_, _, rfl⟩))) h
  all_goals first
    | (simp only [VRel] at h ⊢; exact h)
    | simp only [VRel]
theorem pLeaves_rel (hc : CmpP p γ o γ' o') : ∀ {l : List V} {xs : List Value}, VRels γ o w O l xs → VRels γ' o' w O (scrubP.go p l) xs
  | [], [], _ => by simp only [scrubP.go, VRels]
  | [], _ :: _, h => by simp only [VRels] at h
  | _ :: _, [], h => by simp only [VRels] at h
  | v :: vs, x :: xs, h => by
    simp only [VRels, scrubP.go] at h ⊢
    exact ⟨pLeaf_rel hc h.1, pLeaves_rel hc h.2⟩
theorem pLeaf2_rel (hc : CmpP p γ o γ' o') {v : V} {x : Value} (h : VRel γ o w O v x) : VRel γ' o' w O (scrubP.leaf2 p v) x := by
  cases v <;> simp only [scrubP.leaf2] <;> try exact pLeaf_rel hc h
  simp only [VRel] at h ⊢
  obtain ⟨cs, hx, hr⟩ := h
  exact ⟨cs, hx, pLeaves_rel hc hr⟩
theorem pLeaves2_rel (hc : CmpP p γ o γ' o') : ∀ {l : List V} {xs : List Value}, VRels γ o w O l xs → VRels γ' o' w O (scrubP.go2 p l) xs
  | [], [], _ => by simp only [scrubP.go2, VRels]
  | [], _ :: _, h => by simp only [VRels] at h
  | _ :: _, [], h => by simp only [VRels] at h
  | v :: vs, x :: xs, h => by
    simp only [VRels, scrubP.go2] at h ⊢
    exact ⟨pLeaf2_rel hc h.1, pLeaves2_rel hc h.2⟩
theorem pScrub_rel (hc : CmpP p γ o γ' o') {v : V} {x : Value} (h : VRel γ o w O v x) : VRel γ' o' w O (scrubP p v) x := by
  cases v <;> simp only [scrubP]
  case row n lo hi =>
    cases hb : p n with
    | true => simp only [VRel]
    | false => exact hc.but hb (.inr (.inl ⟨_, _, rfl⟩)) h
  case ptr n i c =>
    cases hb : p n with
    | true => simp only [VRel]
    | false => exact hc.but hb (.inr (.inr (.inl ⟨_, _, rfl⟩))) h
  case bview n c cap sz len =>
    cases hb : p n with
    | true => simp only [VRel]
    | false => exact hc.but hb (.inr (.inr (.inr ⟨_, _, _, _, rfl⟩))) h
  case agg l =>
    simp only [VRel] at h ⊢
    obtain ⟨cs, hx, hr⟩ := h
    exact ⟨cs, hx, pLeaves_rel hc hr⟩
  case tup l =>
    simp only [VRel] at h ⊢
    obtain ⟨cs, hx, hr⟩ := h
    exact ⟨cs, hx, pLeaves2_rel hc hr⟩
  case clo f l =>
    simp only [VRel] at h ⊢
    obtain ⟨cs, hx, hr⟩ := h
    exact ⟨cs, hx, pLeaves_rel hc hr⟩
  all_goals (simp only [VRel] at h ⊢; try exact h)
theorem pScrubs_rel (hc : CmpP p γ o γ' o') : ∀ {l : List V} {xs : List Value}, VRels γ o w O l xs → VRels γ' o' w O (l.map (scrubP p)) xs
  | [], [], _ => by simp only [List.map_nil, VRels]
  | [], _ :: _, h => by simp only [VRels] at h
  | _ :: _, [], h => by simp only [VRels] at h
  | v :: vs, x :: xs, h => by
    simp only [VRels, List.map_cons] at h ⊢
    exact ⟨pScrub_rel hc h.1, pScrubs_rel hc h.2⟩
end

theorem clearO_get (p : Nat → Bool) : ∀ (o : Store) (n : Nat), objOf (clearO p o) n = match p n with | true => none | false => scrubOP p (objOf o n)
  | [], n => by simp only [clearO, objOf, lkd]; cases p n <;> rfl
  | (m, x) :: r, n => by
    simp only [clearO]
    by_cases e : m = n
    · subst e
      cases hp : p m <;> simp only [objOf_cons, if_true]
    · cases hp : p m <;> simp only [objOf_cons, if_neg e, clearO_get p r n]

theorem scrubOP_some {p : Nat → Bool} {x : Option Ob} {ob : Ob} (h : scrubOP p x = some ob) : ∃ ob0, x = some ob0 ∧ scrubOP p (some ob0) = some ob := by
  cases x with
  | none => simp [scrubOP] at h
  | some ob0 => exact ⟨ob0, rfl, h⟩
theorem scrubOP_fits {p : Nat → Bool} {ob0 ob : Ob} (h : scrubOP p (some ob0) = some ob) : ob0.fits ob ∧ ∀ g b, blocksOf g ob b ↔ blocksOf g ob0 b := by
  cases ob0 <;> simp only [scrubOP, Option.some.injEq] at h <;> subst h
  · exact ⟨by simp [Ob.fits, mapV_eq], fun _ _ => Iff.rfl⟩
  · exact ⟨⟨rfl, rfl⟩, fun _ _ => Iff.rfl⟩
  · exact ⟨trivial, fun _ _ => Iff.rfl⟩

section
variable {B : BT} {nt : Nat} {w0 : World} {X : Zone} {γ : Nat → Value} {st st' : St} {a : Act} {w : World} {P : Program} {E : Env}

/-- Less is known. -/
theorem Rel.less (h : Rel B nt w0 X γ st a w) {st' : St} (ht : ∀ i, st'.get i = st.get i ∨ st'.get i = .any) (ho : ∀ n ob, objOf st'.o n = some ob → objOf st.o n = some ob) : Rel B nt w0 X γ st' a w := by
  have hP : ∀ b, OwnedP γ st'.o b → OwnedP γ st.o b := fun b ⟨n, ob, h1, h2⟩ => ⟨n, ob, ho n ob h1, h2⟩
  have hO : ∀ b, b < w.heap.size → Owned X γ st'.o b → Owned X γ st.o b := fun b _ hb => hb.imp_left (hP b)
  have hc : Cmp γ st.o γ st'.o := fun n ob hn => ⟨rfl, ob, ho n ob hn, ob.fits_refl⟩
  refine ⟨h.sz, h.df, fun i => ?_, fun n ob hn => (h.ob n ob (ho n ob hn)).later (fun _ _ => rfl) (Keep.refl _ w) hO hc, fun b hb => h.lt b (hP b hb), fun n m ob ob' b hne h1 h2 => h.dis n m ob ob' b hne (ho n ob h1) (ho m ob' h2), h.keep, fun b hb => h.nr b (hP b hb), h.fl, fun p hp ob h1 => h.pn p hp ob (ho _ ob h1)⟩
  rcases ht i with h1 | h1
  · rw [h1]
    exact VRel.mono (Keep.refl _ w) hO (VRel.cmp hc (h.tm i))
  · rw [h1]
    simp only [VRel]

theorem Rel.lit (h : Rel B nt w0 X γ st a w) {i : Nat} {v : V} (hv : st.get i = v) : Rel B nt w0 X γ ⟨(i, v) :: st.t, st.o⟩ a w := by
  refine h.less (fun j => ?_) (fun _ _ h => h)
  simp only [St.get, lkd_cons]
  by_cases e : i = j
  · subst e
    simp only [if_true]
    exact .inl hv.symm
  · simp only [if_neg e]
    exact .inl trivial

theorem dstOf_eq : ∀ (ops : List Oper) (j d : Nat), dstOf ops j = some d → (ops[j]?).bind (·.dst) = some d
  | [], j, d, h => by simp [dstOf] at h
  | o :: r, 0, d, h => by simpa [dstOf] using h
  | o :: r, j + 1, d, h => by simpa [dstOf] using dstOf_eq r j d (by simpa [dstOf] using h)

theorem bool_tmp (h : Rel B nt w0 X γ st a w) {i : Nat} {c : Bool} (hv : st.get i = .bool c) : a.tmps[i]? = some (.bool c) := by
  have := h.tm i
  rw [hv] at this
  simp only [VRel, Array.getD_eq_getD_getElem?] at this
  cases ht : a.tmps[i]? with
  | none => rw [ht] at this; simp [undef] at this
  | some u => rw [ht] at this; simp only [Option.getD_some] at this; rw [this]

theorem undef_tmp (h : Rel B nt w0 X γ st a w) {i : Nat} (hv : st.get i = .tup []) : a.tmps[i]? = none ∨ a.tmps[i]? = some (.tuple #[]) := by
  have := h.tm i
  rw [hv] at this
  simp only [VRel, Array.getD_eq_getD_getElem?] at this
  obtain ⟨cs, h1, h2⟩ := this
  cases hl : cs.toList with
  | nil =>
    have e : cs = #[] := by simpa using hl
    rw [e] at h1
    cases ht : a.tmps[i]? with
    | none => exact .inl rfl
    | some u => rw [ht] at h1; simp only [Option.getD_some] at h1; rw [h1]; exact .inr rfl
  | cons x l => rw [hl] at h2; simp only [VRels] at h2

theorem Rel.clear (h : Rel B nt w0 X γ st a w) (ds : List Nat) : Rel B nt w0 X γ (clearS ds st) a w := by
  have hget : ∀ n ob, objOf (clearS ds st).o n = some ob → isNew ds n = false ∧ ∃ ob0, objOf st.o n = some ob0 ∧ scrubOP (isNew ds) (some ob0) = some ob := by
    intro n ob hn
    simp only [clearS, clearO_get] at hn
    split at hn
    · cases hn
    · rename_i hp
      exact ⟨hp, scrubOP_some hn⟩
  have hP : ∀ b, OwnedP γ (clearS ds st).o b → OwnedP γ st.o b := by
    rintro b ⟨n, ob, h1, h2⟩
    obtain ⟨_, ob0, h3, h4⟩ := hget n ob h1
    exact ⟨n, ob0, h3, ((scrubOP_fits h4).2 _ _).1 h2⟩
  have hO : ∀ b, b < w.heap.size → Owned X γ (clearS ds st).o b → Owned X γ st.o b := fun b _ hb => hb.imp_left (hP b)
  have hc : CmpP (isNew ds) γ st.o γ (clearS ds st).o := by
    intro n ob' _ hn
    obtain ⟨_, ob0, h3, h4⟩ := hget n ob' hn
    exact ⟨rfl, ob0, h3, (scrubOP_fits h4).1⟩
  refine ⟨h.sz, h.df, fun i => ?_, fun n ob hn => ?_, fun b hb => h.lt b (hP b hb), fun n m ob ob' b hne h1 h2 hb1 hb2 => ?_, h.keep, fun b hb => h.nr b (hP b hb), h.fl, fun p hp ob h1 => ?_⟩
  · have : (clearS ds st).get i = scrubP (isNew ds) (st.get i) := by
      simp only [clearS, St.get]
      exact lkd_mapSnd _ _ rfl _ _
    rw [this]
    exact VRel.mono (Keep.refl _ w) hO (pScrub_rel hc (h.tm i))
  · obtain ⟨_, ob0, h3, h4⟩ := hget n ob hn
    have hor := h.ob n ob0 h3
    cases ob0 with
    | box l =>
      simp only [scrubOP, Option.some.injEq] at h4
      subst h4
      simp only [ObRel] at hor ⊢
      obtain ⟨b, c, T, hg, hh, hr⟩ := hor
      rw [mapV_eq]
      exact ⟨b, c, T, hg, hh, VRels.mono (Keep.refl _ w) hO (pScrubs_rel hc hr)⟩
    | row own e ag ks l =>
      simp only [scrubOP, Option.some.injEq] at h4
      subst h4
      exact hor.later (fun _ _ => rfl) (Keep.refl _ w) hO (fun m ob1 hm => by
        obtain ⟨_, ob0, h5, h6⟩ := hget m ob1 hm
        exact ⟨rfl, ob0, h5, (scrubOP_fits h6).1⟩)
    | bld s =>
      simp only [scrubOP, Option.some.injEq] at h4
      subst h4
      simpa only [ObRel] using hor
  · obtain ⟨_, ob0, h3, h4⟩ := hget n ob h1
    obtain ⟨_, ob1, h5, h6⟩ := hget m ob' h2
    exact h.dis n m ob0 ob1 b hne h3 h5 (((scrubOP_fits h4).2 _ _).1 hb1) (((scrubOP_fits h6).2 _ _).1 hb2)
  · obtain ⟨_, ob0, h3, _⟩ := hget _ ob h1
    exact h.pn p hp ob0 h3

theorem Rel.seq (h : Rel B nt w0 X γ st a w) (e : SEq st st') : Rel B nt w0 X γ st' a w :=
  h.less (fun i => .inl (e.t i).symm) (fun n ob hn => by rw [e.o]; exact hn)
end

theorem clear_fr {ds : List Nat} {n : Nat} (hn : isNew ds n = true) (s : St) : Fr n (clearS ds s) := by
  refine ⟨fun i => ?_, fun m => ?_⟩
  · have : (clearS ds s).get i = scrubP (isNew ds) (s.get i) := by
      simp only [clearS, St.get]
      exact lkd_mapSnd _ _ rfl _ _
    rw [this]
    exact pScrub_id hn _
  · simp only [clearS, clearO_get]
    split
    · rfl
    · exact pScrubO_id hn _

/-! ### the run's record -/
/-- An operation as it was done at a state. -/
def StepOK (E : Env) (all : List Oper) (o : Oper) (s : St) (D : Dn) : Prop :=
  okDst E o.dst = true ∧ D.dst = o.dst ∧ D.tm = tmAll all o ∧
  match o.guard with
  | none => (evOp E s.o (opd s) o.dst o.op).get = some (D.v, D.us) ∧ D.rd = reads E s.o (opd s) o.op
  | some (j, b) => (∃ dj c, dstOf all j = some dj ∧ s.get dj = .bool c ∧
      ((c = b ∧ (evOp E s.o (opd s) o.dst o.op).get = some (D.v, D.us) ∧ D.rd = reads E s.o (opd s) o.op) ∨ (c ≠ b ∧ D.v = .tup [] ∧ D.us = []))) ∨
      (∃ dj, dstOf all j = some dj ∧ s.get dj = .tup [] ∧ D.v = .tup [] ∧ D.us = [])

def Steps (E : Env) (all : List Oper) : List Oper → St → List Dn → Prop
  | [], _, [] => True
  | o :: r, s, D :: Ds => StepOK E all o s D ∧ Steps E all r (apD s D) Ds
  | _, _, _ => False

theorem StepOK.congr {E : Env} {all : List Oper} {o : Oper} {s s' : St} {D : Dn} (h : StepOK E all o s D) (e : SEq s s') : StepOK E all o s' D := by
  have hag : ∀ (ρ : Operand → V) d op, evOp E s'.o ρ d op = evOp E s.o ρ d op := fun ρ d op => evOp_agree (fun n _ => (e.o n).symm)
  have hdp : ∀ l, deep s'.o l = deep s.o l := by
    intro l
    induction l with
    | nil => rfl
    | cons n r ih => simp only [deep, ih, e.o]
  have hrd : ∀ (ρ : Operand → V) op, reads E s'.o ρ op = reads E s.o ρ op := fun ρ op => by unfold reads readsG; rw [hdp]
  unfold StepOK at h ⊢
  refine ⟨h.1, h.2.1, h.2.2.1, ?_⟩
  have h3 := h.2.2.2
  rw [← e.opd]
  simp only [hag, hrd]
  split at h3
  · exact h3
  · rcases h3 with ⟨dj, c, h4, h5, h6⟩ | ⟨dj, h4, h5, h6⟩
    · exact .inl ⟨dj, c, h4, by rw [← e.t]; exact h5, h6⟩
    · exact .inr ⟨dj, h4, by rw [← e.t]; exact h5, h6⟩

theorem Steps.congr {E : Env} {all : List Oper} : ∀ {l : List Oper} {s s' : St} {Ds : List Dn}, Steps E all l s Ds → SEq s s' → Steps E all l s' Ds
  | [], _, _, [], _, _ => trivial
  | [], _, _, _ :: _, h, _ => by simp [Steps] at h
  | _ :: _, _, _, [], h, _ => by simp [Steps] at h
  | o :: r, s, s', D :: Ds, h, e => by
    simp only [Steps] at h ⊢
    exact ⟨h.1.congr e, Steps.congr h.2 (e.apD D)⟩

theorem evD_steps {E : Env} {all : List Oper} {res : V × List (List V)} : ∀ (l : List Oper) {s : St} {acc : List Dn} {k : List Dn → St → Res}, evD E all l s acc k = some res →
    ∃ Ds s', Steps E all l s Ds ∧ SEq s' (apDs s Ds) ∧ k (Ds.reverse ++ acc) s' = some res
  | [], s, acc, k, h => ⟨[], s, trivial, SEq.refl s, by simpa [evD] using h⟩
  | o :: r, s, acc, k, h => by
    simp only [evD] at h
    have hd : okDst E o.dst = true := by
      cases hd : okDst E o.dst with
      | true => rfl
      | false => rw [hd] at h; cases h
    rw [hd] at h
    simp only at h
    have fin : ∀ (s1 : St) (D : Dn), SEq s s1 → StepOK E all o s1 D → evD E all r (apD s1 D) (D :: acc) k = some res →
        ∃ Ds s', Steps E all (o :: r) s Ds ∧ SEq s' (apDs s Ds) ∧ k (Ds.reverse ++ acc) s' = some res := by
      intro s1 D e hs he
      obtain ⟨Ds, s', h1, h2, h3⟩ := evD_steps r he
      refine ⟨D :: Ds, s', ⟨hs.congr e.symm, h1.congr (e.symm.apD D)⟩, h2.trans ((e.symm.apD D).apDs), ?_⟩
      simpa using h3
    split at h
    · rename_i hg
      obtain ⟨v, us, h1, h2⟩ := T.run_some h
      exact fin s _ (SEq.refl s) ⟨hd, rfl, rfl, by rw [hg]; exact ⟨h1, rfl⟩⟩ h2
    · rename_i j b hg
      split at h
      · rename_i dj hdj
        split at h
        · rename_i c hc
          have hl : ∀ c', (litS s dj c').get dj = .bool c' := fun c' => by simp [litS, St.get, lkd_cons]
          cases c with
          | true =>
            have e := SEq.lit hc
            cases b with
            | true =>
              simp only at h
              obtain ⟨v, us, h1, h2⟩ := T.run_some h
              exact fin _ _ e ⟨hd, rfl, rfl, by rw [hg]; exact .inl ⟨dj, true, hdj, hl _, .inl ⟨rfl, h1, rfl⟩⟩⟩ h2
            | false => exact fin _ _ e ⟨hd, rfl, rfl, by rw [hg]; exact .inl ⟨dj, true, hdj, hl _, .inr ⟨by simp, rfl, rfl⟩⟩⟩ h
          | false =>
            have e := SEq.lit hc
            cases b with
            | false =>
              simp only at h
              obtain ⟨v, us, h1, h2⟩ := T.run_some h
              exact fin _ _ e ⟨hd, rfl, rfl, by rw [hg]; exact .inl ⟨dj, false, hdj, hl _, .inl ⟨rfl, h1, rfl⟩⟩⟩ h2
            | true => exact fin _ _ e ⟨hd, rfl, rfl, by rw [hg]; exact .inl ⟨dj, false, hdj, hl _, .inr ⟨by simp, rfl, rfl⟩⟩⟩ h
        · rename_i hc
          exact fin _ _ (SEq.refl s) ⟨hd, rfl, rfl, by rw [hg]; exact .inr ⟨dj, hdj, hc, rfl, rfl⟩⟩ h
        · cases h
      · cases h

theorem Steps.length {E : Env} {all : List Oper} : ∀ {l : List Oper} {s : St} {Ds : List Dn}, Steps E all l s Ds → Ds.length = l.length
  | [], _, [], _ => rfl
  | [], _, _ :: _, h => by simp [Steps] at h
  | _ :: _, _, [], h => by simp [Steps] at h
  | _ :: _, _, _ :: _, h => by simp only [List.length_cons, Steps.length h.2]
theorem Steps.get {E : Env} {all : List Oper} : ∀ {l : List Oper} {s : St} {Ds : List Dn} {i : Nat} {o : Oper} {D : Dn}, Steps E all l s Ds → l[i]? = some o → Ds[i]? = some D → StepOK E all o (apDs s (Ds.take i)) D
  | [], _, _, _, _, _, _, h, _ => by simp at h
  | _ :: _, _, [], _, _, _, _, _, h => by simp at h
  | o :: r, s, D :: Ds, 0, _, _, h, h1, h2 => by
    simp only [List.getElem?_cons_zero, Option.some.injEq] at h1 h2
    subst h1; subst h2
    exact h.1
  | o :: r, s, D :: Ds, i + 1, _, _, h, h1, h2 => by
    simp only [List.getElem?_cons_succ] at h1 h2
    simp only [List.take_succ_cons, apDs]
    exact Steps.get h.2 h1 h2

/-! ### what some of the operations have done -/
def sel (L : Nat → Bool) : Nat → List Dn → List Dn
  | _, [] => []
  | i, D :: r => match L i with | true => D :: sel L (i + 1) r | false => sel L (i + 1) r

theorem sel_congr {L L' : Nat → Bool} : ∀ (l : List Dn) (i : Nat), (∀ j, i ≤ j → j < i + l.length → L j = L' j) → sel L i l = sel L' i l
  | [], _, _ => rfl
  | D :: r, i, h => by
    simp only [sel]
    rw [h i (Nat.le_refl i) (by simp), sel_congr r (i + 1) (fun j h1 h2 => h j (by omega) (by simp only [List.length_cons]; omega))]
theorem sel_none : ∀ (l : List Dn) (i : Nat), sel (fun _ => false) i l = []
  | [], _ => rfl
  | D :: r, i => by simp only [sel, sel_none r]
theorem sel_all : ∀ (l : List Dn) (i : Nat), sel (fun _ => true) i l = l
  | [], _ => rfl
  | D :: r, i => by simp only [sel, sel_all r]
theorem sel_lt (k : Nat) : ∀ (l : List Dn) (i : Nat), sel (fun j => decide (j < i + k)) i l = l.take k
  | [], i => by simp [sel]
  | D :: r, i => by
    cases k with
    | zero =>
      rw [sel_congr (L' := fun _ => false) _ _ (fun j h1 h2 => by simp; omega), sel_none]
      rfl
    | succ k =>
      simp only [sel]
      rw [show decide (i < i + (k + 1)) = true by simp]
      simp only [List.take_succ_cons, List.cons.injEq, true_and]
      have := sel_lt k r (i + 1)
      rw [show i + (k + 1) = i + 1 + k by omega]
      exact this

theorem sel_obj {L L' : Nat → Bool} {n : Nat} : ∀ (l : List Dn) (i : Nat) {s s' : St}, objOf s.o n = objOf s'.o n → (∀ j D, l[j]? = some D → n ∈ namesU D.us → L (i + j) = L' (i + j)) → objOf (apDs s (sel L i l)).o n = objOf (apDs s' (sel L' i l)).o n
  | [], _, _, _, h, _ => h
  | D :: r, i, s, s', h, hl => by
    have hr : ∀ j E, r[j]? = some E → n ∈ namesU E.us → L (i + 1 + j) = L' (i + 1 + j) := fun j E hj hn => by
      have := hl (j + 1) E (by simpa using hj) hn
      rwa [show i + (j + 1) = i + 1 + j by omega] at this
    have one : ∀ {s : St}, n ∉ namesU D.us → objOf (apD s D).o n = objOf s.o n := fun h => updO_not h
    by_cases hn : n ∈ namesU D.us
    · have h0 := hl 0 D rfl hn
      simp only [Nat.add_zero] at h0
      simp only [sel, h0]
      cases L' i with
      | true => exact sel_obj r (i + 1) (updO_in hn) hr
      | false => exact sel_obj r (i + 1) h hr
    · simp only [sel]
      cases L i <;> cases L' i <;> simp only [apDs]
      · exact sel_obj r (i + 1) h hr
      · exact sel_obj r (i + 1) (h.trans (one hn).symm) hr
      · exact sel_obj r (i + 1) ((one hn).trans h) hr
      · exact sel_obj r (i + 1) ((one hn).trans (h.trans (one hn).symm)) hr

theorem apD_get (s : St) (D : Dn) (t : Nat) : (apD s D).get t = if D.dst = some t then D.v else s.get t := by
  unfold apD
  cases hd : D.dst with
  | none => simp [St.put, St.get]
  | some d =>
    have := get_put s d D.v t
    simp only [Option.some.injEq]
    exact this

theorem sel_get {L L' : Nat → Bool} {t : Nat} : ∀ (l : List Dn) (i : Nat) {s s' : St}, s.get t = s'.get t → (∀ j D, l[j]? = some D → D.dst = some t → L (i + j) = L' (i + j)) → (apDs s (sel L i l)).get t = (apDs s' (sel L' i l)).get t
  | [], _, _, _, h, _ => h
  | D :: r, i, s, s', h, hl => by
    have hr : ∀ j E, r[j]? = some E → E.dst = some t → L (i + 1 + j) = L' (i + 1 + j) := fun j E hj hn => by
      have := hl (j + 1) E (by simpa using hj) hn
      rwa [show i + (j + 1) = i + 1 + j by omega] at this
    by_cases hn : D.dst = some t
    · have h0 := hl 0 D rfl hn
      simp only [Nat.add_zero] at h0
      simp only [sel, h0]
      cases L' i with
      | true => exact sel_get r (i + 1) (by rw [apD_get, apD_get, if_pos hn, if_pos hn]) hr
      | false => exact sel_get r (i + 1) h hr
    · simp only [sel]
      cases L i <;> cases L' i <;> simp only [apDs]
      · exact sel_get r (i + 1) h hr
      · exact sel_get r (i + 1) (by rw [apD_get, if_neg hn]; exact h) hr
      · exact sel_get r (i + 1) (by rw [apD_get, if_neg hn]; exact h) hr
      · exact sel_get r (i + 1) (by rw [apD_get, apD_get, if_neg hn, if_neg hn]; exact h) hr

/-- Every part of what some have done is one's, or the beginning's. -/
theorem sel_fr {L : Nat → Bool} {n : Nat} : ∀ (l : List Dn) (i : Nat) {s : St}, Fr n s → (∀ j D, l[j]? = some D → L (i + j) = true → cleanV D.v = true ∧ n ∉ refs D.v ∧ ∀ u ∈ D.us, ∀ m ob, (u = .new m ob ∨ u = .set m ob) → scrubO n (some ob) = some ob) → Fr n (apDs s (sel L i l))
  | [], _, _, h, _ => h
  | D :: r, i, s, h, hl => by
    have hr : ∀ j E, r[j]? = some E → L (i + 1 + j) = true → cleanV E.v = true ∧ n ∉ refs E.v ∧ ∀ u ∈ E.us, ∀ m ob, (u = .new m ob ∨ u = .set m ob) → scrubO n (some ob) = some ob := fun j E hj hn => by
      refine hl (j + 1) E (by simpa using hj) ?_
      rwa [show i + (j + 1) = i + 1 + j by omega]
    simp only [sel]
    cases hL : L i with
    | false => exact sel_fr r (i + 1) h hr
    | true =>
      refine sel_fr r (i + 1) ?_ hr
      obtain ⟨h1, h2, h3⟩ := hl 0 D rfl hL
      refine ⟨fun t => ?_, ?_⟩
      · rw [apD_get]
        split
        · exact scrub_id h1 h2
        · exact h.t t
      · have key : ∀ (us : List Upd) (o : Store), (∀ u ∈ us, ∀ m ob, (u = .new m ob ∨ u = .set m ob) → scrubO n (some ob) = some ob) → (∀ m, scrubO n (objOf o m) = objOf o m) → ∀ m, scrubO n (objOf (updO us o) m) = objOf (updO us o) m := by
          intro us
          induction us with
          | nil => intro o _ h; exact h
          | cons u us ih =>
            intro o hu ho
            have hu' := fun u' hu' => hu u' (List.mem_cons_of_mem _ hu')
            cases u with
            | kill k => exact ih _ hu' (fun m => by rw [objOf_cons]; split; · rfl
                                                    · exact ho m)
            | set k ob => exact ih _ hu' (fun m => by rw [objOf_cons]; split; · exact hu _ (List.mem_cons_self ..) k ob (.inr rfl)
                                                      · exact ho m)
            | new k ob => exact ih _ hu' (fun m => by rw [objOf_cons]; split; · exact hu _ (List.mem_cons_self ..) k ob (.inl rfl)
                                                      · exact ho m)
        exact key D.us s.o h3 h.o

theorem sel_split {L : Nat → Bool} : ∀ (l l' : List Dn) (i : Nat), sel L i (l ++ l') = sel L i l ++ sel L (i + l.length) l'
  | [], l', i => by simp [sel]
  | D :: r, l', i => by
    simp only [List.cons_append, sel, List.length_cons]
    rw [show i + (r.length + 1) = i + 1 + r.length by omega]
    cases L i <;> simp [sel_split r l' (i + 1)]

end Go.FM

/-
  THE SMALL MACHINE (32): regions that draw their order: the run.
-/
namespace Go.FM
open Go Go.RowKit

/-! ### who must be done ahead -/
theorem nthN_eq : ∀ (l : List (List Nat)) (i : Nat), nthN l i = (l[i]?).getD []
  | [], i => by simp [nthN]
  | x :: r, 0 => rfl
  | x :: r, i + 1 => by simp only [nthN, nthN_eq r i, List.getElem?_cons_succ]

theorem mem_predsE {acc : List (List Nat)} {j : Nat} : ∀ {es : List Edge}, j ∈ predsE acc es → ∃ e ∈ es, Region.binds .any e = true ∧ (j = e.on ∨ j ∈ nthN acc e.on)
  | [], h => by simp [predsE] at h
  | e :: r, h => by
    simp only [predsE] at h
    split at h
    · rename_i hb
      simp only [List.mem_cons, List.mem_append] at h
      rcases h with h | h | h
      · exact ⟨e, List.mem_cons_self .., hb, .inl h⟩
      · exact ⟨e, List.mem_cons_self .., hb, .inr h⟩
      · obtain ⟨e', h1, h2⟩ := mem_predsE h
        exact ⟨e', List.mem_cons_of_mem _ h1, h2⟩
    · obtain ⟨e', h1, h2⟩ := mem_predsE h
      exact ⟨e', List.mem_cons_of_mem _ h1, h2⟩

def nubL (acc : List Nat) : List Nat → List Nat
  | [] => acc
  | n :: r => match memB n acc with
    | true => nubL acc r
    | false => nubL (n :: acc) r
theorem nubK_eq (k : List Nat → List (List Nat)) : ∀ (l acc : List Nat), nubK acc l k = k (nubL acc l)
  | [], _ => rfl
  | n :: r, acc => by
    simp only [nubK, nubL]
    cases memB n acc with
    | true => exact nubK_eq k r acc
    | false => exact nubK_eq k r (n :: acc)
theorem mem_nubL {j : Nat} : ∀ {l acc : List Nat}, j ∈ nubL acc l → j ∈ acc ∨ j ∈ l
  | [], _, h => .inl h
  | n :: r, acc, h => by
    simp only [nubL] at h
    cases hb : memB n acc with
    | true =>
      rw [hb] at h
      exact (mem_nubL h).imp_right (List.mem_cons_of_mem _)
    | false =>
      rw [hb] at h
      rcases mem_nubL h with h1 | h1
      · rcases List.mem_cons.1 h1 with rfl | h1
        · exact .inr (List.mem_cons_self ..)
        · exact .inl h1
      · exact .inr (List.mem_cons_of_mem _ h1)
theorem mem_nub {j : Nat} {l : List Nat} (h : j ∈ nubL [] l) : j ∈ l := (mem_nubL h).resolve_left (by simp)

theorem predsOf_old : ∀ (l : List Oper) (acc : List (List Nat)) (i : Nat), i < acc.length → nthN (predsOf acc l) i = nthN acc i
  | [], _, _, _ => rfl
  | o :: r, acc, i, h => by
    simp only [predsOf, nubK_eq]
    rw [predsOf_old r _ i (by simp; omega), nthN_eq, nthN_eq, List.getElem?_append_left h]

theorem predsOf_get : ∀ (l : List Oper) (acc : List (List Nat)) (i : Nat) (o : Oper), l[i]? = some o →
    ∃ acc', acc'.length = acc.length + i ∧ nthN (predsOf acc l) (acc.length + i) = nubL [] (predsE acc' o.after.toList) ∧ ∀ k, k < acc'.length → nthN acc' k = nthN (predsOf acc l) k
  | [], _, _, _, h => by simp at h
  | o :: r, acc, 0, o', h => by
    simp only [List.getElem?_cons_zero, Option.some.injEq] at h
    subst h
    refine ⟨acc, rfl, ?_, fun k hk => ?_⟩
    · simp only [predsOf, nubK_eq, Nat.add_zero]
      rw [predsOf_old r _ acc.length (by simp), nthN_eq]
      simp
    · simp only [predsOf, nubK_eq]
      rw [predsOf_old r _ k (by simp; omega), nthN_eq, nthN_eq, List.getElem?_append_left hk]
  | o :: r, acc, i + 1, o', h => by
    simp only [List.getElem?_cons_succ] at h
    obtain ⟨acc', h1, h2, h3⟩ := predsOf_get r (acc ++ [nubL [] (predsE acc o.after.toList)]) i o' h
    simp only [List.length_append, List.length_cons, List.length_nil] at h1 h2
    refine ⟨acc', by omega, ?_, fun k hk => by rw [predsOf, nubK_eq]; exact h3 k hk⟩
    rw [show acc.length + (i + 1) = acc.length + (0 + 1) + i by omega, predsOf, nubK_eq]
    exact h2

theorem edgesUp_get : ∀ {l : List Oper} {k i : Nat} {o : Oper} {e : Edge}, edgesUp k l = true → l[i]? = some o → e ∈ o.after.toList → Region.binds .any e = true → e.on < k + i
  | [], _, _, _, _, _, h, _, _ => by simp at h
  | o :: r, k, 0, o', e, hu, h, he, hb => by
    simp only [List.getElem?_cons_zero, Option.some.injEq] at h
    subst h
    simp only [edgesUp, Bool.and_eq_true] at hu
    have key : ∀ (es : List Edge), edgesUp.go k es = true → e ∈ es → e.on < k := by
      intro es
      induction es with
      | nil => intro _ h; cases h
      | cons x es ih =>
        intro hg hm
        simp only [edgesUp.go] at hg
        rcases List.mem_cons.1 hm with h1 | h1
        · subst h1
          rw [hb] at hg
          simp only [Bool.and_eq_true] at hg
          exact Nat.le_of_ble_eq_true hg.1
        · split at hg
          · simp only [Bool.and_eq_true] at hg
            exact ih hg.2 h1
          · exact ih hg h1
    exact key _ hu.1 he
  | o :: r, k, i + 1, o', e, hu, h, he, hb => by
    simp only [List.getElem?_cons_succ] at h
    simp only [edgesUp, Bool.and_eq_true] at hu
    have := edgesUp_get hu.2 h he hb
    omega

section
variable {ops : List Oper}

def Closed (ops : List Oper) (L : Nat → Bool) : Prop := ∀ i o, ops[i]? = some o → L i = true → ∀ e ∈ o.after.toList, Region.binds .any e = true → L e.on = true

theorem preds_lt (hu : edgesUp 0 ops = true) : ∀ (i : Nat) {o : Oper}, ops[i]? = some o → ∀ j ∈ nthN (predsOf [] ops) i, j < i := by
  intro i
  induction i using Nat.strongRecOn with
  | _ i ih =>
    intro o ho j hj
    obtain ⟨acc', h1, h2, h3⟩ := predsOf_get ops [] i o ho
    simp only [List.length_nil, Nat.zero_add] at h1 h2
    rw [h2] at hj
    obtain ⟨e, he, hb, h4⟩ := mem_predsE (mem_nub hj)
    have hlt := edgesUp_get hu ho he hb
    rw [Nat.zero_add] at hlt
    rcases h4 with h4 | h4
    · omega
    · have hk : e.on < acc'.length := by omega
      rw [h3 _ hk] at h4
      have hlen : i < ops.length := (List.getElem?_eq_some_iff.1 ho).1
      have := ih e.on hlt (o := ops[e.on]'(by omega)) (by simp [Nat.lt_trans hlt hlen]) j h4
      omega

theorem preds_ready {L : Nat → Bool} (hu : edgesUp 0 ops = true) (hL : Closed ops L) : ∀ (i : Nat) {o : Oper}, ops[i]? = some o → (∀ e ∈ o.after.toList, Region.binds .any e = true → L e.on = true) → ∀ j ∈ nthN (predsOf [] ops) i, L j = true := by
  intro i
  induction i using Nat.strongRecOn with
  | _ i ih =>
    intro o ho hr j hj
    obtain ⟨acc', h1, h2, h3⟩ := predsOf_get ops [] i o ho
    simp only [List.length_nil, Nat.zero_add] at h1 h2
    rw [h2] at hj
    obtain ⟨e, he, hb, h4⟩ := mem_predsE (mem_nub hj)
    have hlt := edgesUp_get hu ho he hb
    rw [Nat.zero_add] at hlt
    rcases h4 with h4 | h4
    · subst h4
      exact hr e he hb
    · have hk : e.on < acc'.length := by omega
      rw [h3 _ hk] at h4
      have hlen : i < ops.length := (List.getElem?_eq_some_iff.1 ho).1
      have hg : ops[e.on]? = some (ops[e.on]'(by omega)) := by simp [Nat.lt_trans hlt hlen]
      exact ih e.on hlt hg (hL e.on _ hg (hr e he hb)) j h4
end

/-! ### the checks -/
theorem optIn_not {d : Option Nat} {l : List Nat} (h : optIn d l = false) : ∀ t, d = some t → t ∉ l := by
  rintro t rfl
  exact memB_not.1 h
theorem optEq_not {d e : Option Nat} (h : optEq d e = false) : ∀ t, d = some t → e ≠ some t := by
  rintro t rfl h'
  subst h'
  simp only [optEq] at h
  exact beq_ne'.1 h rfl

theorem pairsJ_get {ps : List (List Nat)} {pi : List Nat} {i : Nat} {x : Dn} : ∀ {l : List Dn} {k j : Nat} {y : Dn}, pairsJ ps pi i x k l = true → l[j]? = some y → i ≠ k + j → pairOK pi (nthN ps (k + j)) i (k + j) x y = true
  | [], _, _, _, _, h, _ => by simp at h
  | z :: r, k, 0, y, h, hy, hne => by
    simp only [List.getElem?_cons_zero, Option.some.injEq] at hy
    subst hy
    simp only [pairsJ, Bool.and_eq_true, Bool.or_eq_true] at h
    rcases h.1 with h1 | h1
    · exact absurd (beq_eq'.1 h1) hne
    · exact h1
  | z :: r, k, j + 1, y, h, hy, hne => by
    simp only [List.getElem?_cons_succ] at hy
    simp only [pairsJ, Bool.and_eq_true] at h
    have := pairsJ_get (k := k + 1) h.2 hy (by omega)
    rw [show k + (j + 1) = k + 1 + j by omega]
    exact this
theorem pairsI_get {ps : List (List Nat)} {all : List Dn} : ∀ {l : List Dn} {k i : Nat} {x : Dn}, pairsI ps all k l = true → l[i]? = some x → pairsJ ps (nthN ps (k + i)) (k + i) x 0 all = true
  | [], _, _, _, _, h => by simp at h
  | z :: r, k, 0, x, h, hx => by
    simp only [List.getElem?_cons_zero, Option.some.injEq] at hx
    subst hx
    simp only [pairsI, Bool.and_eq_true] at h
    exact h.1
  | z :: r, k, i + 1, x, h, hx => by
    simp only [List.getElem?_cons_succ] at hx
    simp only [pairsI, Bool.and_eq_true] at h
    have := pairsI_get (k := k + 1) h.2 hx
    rw [show k + (i + 1) = k + 1 + i by omega]
    exact this

theorem allNew_mem {ds : List Nat} : ∀ {l : List Nat}, allNew ds l = true → ∀ n ∈ l, isNew ds n = true
  | [], _, n, h => by cases h
  | m :: r, h, n, hn => by
    simp only [allNew, Bool.and_eq_true] at h
    rcases List.mem_cons.1 hn with e | e
    · subst e; exact h.1
    · exact allNew_mem h.2 n e
theorem oneOK_get {ds : List Nat} : ∀ {l : List Dn} {i : Nat} {x : Dn}, oneOK ds l = true → l[i]? = some x → cleanV x.v = true ∧ usOK x.us = true ∧ ∀ n ∈ newsU x.us, isNew ds n = true
  | [], _, _, _, h => by simp at h
  | z :: r, 0, x, h, hx => by
    simp only [List.getElem?_cons_zero, Option.some.injEq] at hx
    subst hx
    simp only [oneOK, Bool.and_eq_true] at h
    exact ⟨h.1, h.2.1, allNew_mem h.2.2.1⟩
  | z :: r, i + 1, x, h, hx => by
    simp only [List.getElem?_cons_succ] at hx
    simp only [oneOK, Bool.and_eq_true] at h
    exact oneOK_get h.2.2.2 hx

theorem us_scrub {n : Nat} : ∀ {us : List Upd}, usOK us = true → n ∉ obsU us → ∀ u ∈ us, ∀ m ob, (u = .new m ob ∨ u = .set m ob) → scrubO n (some ob) = some ob
  | [], _, _, u, hu, _, _, _ => by cases hu
  | u :: r, ho, hn, u', hu', m, ob, he => by
    have h1 : usOK r = true ∧ n ∉ obsU r ∧ (∀ m ob, (u = .new m ob ∨ u = .set m ob) → scrubO n (some ob) = some ob) := by
      cases u with
      | kill k => exact ⟨ho, hn, fun m ob h => by rcases h with h | h <;> cases h⟩
      | set k ob' =>
        simp only [usOK, Bool.and_eq_true] at ho
        simp only [obsU, List.mem_append, not_or] at hn
        refine ⟨ho.2.2, hn.2, fun m ob h => ?_⟩
        rcases h with h | h <;> cases h
        exact scrubO_id ho.1 hn.1
      | new k ob' =>
        simp only [usOK, Bool.and_eq_true] at ho
        simp only [obsU, List.mem_append, not_or] at hn
        refine ⟨ho.2.2, hn.2, fun m ob h => ?_⟩
        rcases h with h | h <;> cases h
        exact scrubO_id ho.1 hn.1
    rcases List.mem_cons.1 hu' with h | h
    · subst h
      exact h1.2.2 m ob he
    · exact us_scrub h1.1 h1.2.1 u' h m ob he

theorem tmpsOf_mem {t : Nat} : ∀ {l : List Operand}, Operand.tmp t ∈ l → t ∈ tmpsOf l
  | x :: r, h => by
    rcases List.mem_cons.1 h with h1 | h1
    · subst h1; exact List.mem_cons_self ..
    · cases x <;> simp only [tmpsOf, List.mem_cons] <;> first | exact .inr (tmpsOf_mem h1) | exact tmpsOf_mem h1

theorem countP_lt {α : Type} {p q : α → Bool} : ∀ {l : List α}, (∀ x ∈ l, q x = true → p x = true) → (∃ x ∈ l, p x = true ∧ q x = false) → l.countP q < l.countP p
  | [], _, ⟨_, h, _⟩ => by cases h
  | y :: r, h, ⟨x, hx, h1, h2⟩ => by
    have hr : r.countP q ≤ r.countP p := by
      clear hx
      have h' : ∀ x ∈ r, q x = true → p x = true := fun x hx => h x (List.mem_cons_of_mem _ hx)
      exact List.countP_mono_left h'
    rcases List.mem_cons.1 hx with e | e
    · subst e
      rw [List.countP_cons_of_pos h1, List.countP_cons_of_neg (by simp [h2])]
      omega
    · have := countP_lt (l := r) (fun x hx => h x (List.mem_cons_of_mem _ hx)) ⟨x, e, h1, h2⟩
      by_cases hq : q y = true
      · rw [List.countP_cons_of_pos (h y (List.mem_cons_self ..) hq), List.countP_cons_of_pos hq]
        omega
      · rw [List.countP_cons_of_neg hq]
        by_cases hp : p y = true
        · rw [List.countP_cons_of_pos hp]; omega
        · rw [List.countP_cons_of_neg hp]; omega

section
variable {B : BT} {nt : Nat} {w0 : World} {X : Zone} {γ : Nat → Value} {st st' : St} {a : Act} {w : World} {P : Program} {E : Env}
variable (hT : TiOK P B E) (hE : ∀ t, t ∈ E.eqs → EqSnd P t (E.tyd t).ks) (hSp : SpOK P B E w0 X) (hB : BldOK P B E) (hnt : E.nt = nt) (hn9 : nt ≤ 900000)
include hT hE hSp hB hnt hn9

theorem draw_run {Q : Exit → Act → World → Prop} {ops : Array Oper} {s0 : St} {Ds : List Dn} (hs : Steps E ops.toList ops.toList s0 Ds) (hfree : freeD ops.toList Ds = true)
    (hfr : ∀ n, isNew (dstsOf ops.toList) n = true → Fr n s0) (hQ : ∀ γ' a' w', Rel B nt w0 X γ' (apDs s0 Ds) a' w' → Q .normal a' w') :
    ∀ (fuel : Nat) (listed : Array Bool) {γ : Nat → Value} {a : Act} {w : World}, listed.size = ops.size → Closed ops.toList (fun i => listed.getD i false) →
      (List.range ops.size).countP (fun i => !listed.getD i false) ≤ fuel → Rel B nt w0 X γ (apDs s0 (sel (fun i => listed.getD i false) 0 Ds)) a w → wpAny P .any ops Q fuel listed a w := by
  have hlen : Ds.length = ops.size := by simpa using hs.length
  simp only [freeD, Bool.and_eq_true] at hfree
  obtain ⟨hup, hone, hpairs⟩ := hfree
  have hgd : ∀ (listed : Array Bool) (i : Nat), listed.size = ops.size → i < ops.size → listed.getD i true = listed.getD i false := fun listed i h1 h2 => by
    simp [Array.getD, h1, h2]
  have hready : ∀ (listed : Array Bool) (i : Nat), listed.size = ops.size → (i ∈ Region.ready .any ops listed ↔ ∃ o, ops.toList[i]? = some o ∧ listed.getD i false = false ∧ ∀ e ∈ o.after.toList, Region.binds .any e = true → listed.getD e.on false = true) := by
    intro listed i hsz
    simp only [Region.ready, List.mem_filter, List.mem_range, Bool.and_eq_true, Bool.not_eq_true']
    constructor
    · rintro ⟨h1, h2, h3⟩
      refine ⟨ops[i], by simp [h1], by rw [← hgd listed i hsz h1]; exact h2, fun e he hb => ?_⟩
      simp only [Array.getElem?_eq_getElem h1, Option.map_some, Option.getD_some, Array.all_eq_true_iff_forall_mem, Bool.or_eq_true, Bool.not_eq_true'] at h3
      rcases h3 e (by simpa using he) with h4 | h4
      · rw [hb] at h4; cases h4
      · exact h4
    · rintro ⟨o, ho, h2, h3⟩
      obtain ⟨h1, rfl⟩ := List.getElem?_eq_some_iff.1 ho
      simp only [Array.length_toList] at h1
      refine ⟨h1, by rw [hgd listed i hsz h1]; exact h2, ?_⟩
      simp only [Array.getElem?_eq_getElem h1, Option.map_some, Option.getD_some, Array.all_eq_true_iff_forall_mem, Bool.or_eq_true, Bool.not_eq_true']
      intro e he
      cases hb : Region.binds .any e with
      | false => exact .inl rfl
      | true => exact .inr (h3 e (by simpa using he) hb)
  have hend : ∀ (listed : Array Bool) {γ : Nat → Value} {a : Act} {w : World}, (∀ i, i < ops.size → listed.getD i false = true) → Rel B nt w0 X γ (apDs s0 (sel (fun i => listed.getD i false) 0 Ds)) a w → Q .normal a w := by
    intro listed γ a w hall h
    rw [sel_congr (L' := fun _ => true) _ _ (fun j _ h2 => hall j (by omega)), sel_all] at h
    exact hQ γ a w h
  have hnil : ∀ (listed : Array Bool), listed.size = ops.size → Region.ready .any ops listed = [] → ∀ i, i < ops.size → listed.getD i false = true := by
    intro listed hsz hr i
    induction i using Nat.strongRecOn with
    | _ i ih =>
      intro hi
      cases hL : listed.getD i false with
      | true => rfl
      | false =>
        exfalso
        have hm : i ∈ Region.ready .any ops listed := by
          refine (hready listed i hsz).2 ⟨ops[i], by simp [hi], hL, fun e he hb => ?_⟩
          have := edgesUp_get (i := i) hup (by simp [hi] : ops.toList[i]? = some ops[i]) he hb
          exact ih e.on (by omega) (by omega)
        rw [hr] at hm
        cases hm
  intro fuel
  induction fuel with
  | zero =>
    intro listed γ a w hsz hcl hcount h
    have hall : ∀ i, i < ops.size → listed.getD i false = true := by
      intro i hi
      have h0 : (List.range ops.size).countP (fun i => !listed.getD i false) = 0 := by omega
      have := (List.countP_eq_zero.1 h0) i (List.mem_range.2 hi)
      simpa using this
    refine ⟨?_, hend listed hall h⟩
    refine List.eq_nil_iff_forall_not_mem.2 (fun i hi => ?_)
    obtain ⟨o, ho, h2, _⟩ := (hready listed i hsz).1 hi
    have h1 : i < ops.size := by simpa using (List.getElem?_eq_some_iff.1 ho).1
    rw [hall i h1] at h2
    cases h2
  | succ fuel ih =>
    intro listed γ a w hsz hcl hcount h
    refine ⟨fun hr => hend listed (hnil listed hsz hr) h, fun i hi => ?_⟩
    obtain ⟨o, ho, hLi, hedges⟩ := (hready listed i hsz).1 hi
    have hi' : i < ops.size := by simpa using (List.getElem?_eq_some_iff.1 ho).1
    have hoi : ops[i]? = some o := by simpa using ho
    obtain ⟨D, hD⟩ : ∃ D, Ds[i]? = some D := ⟨Ds[i]'(by omega), by simp [hlen, hi']⟩
    generalize hLdef : (fun i => listed.getD i false) = L at *
    have hL : ∀ j, listed.getD j false = L j := fun j => congrFun hLdef j
    simp only [hL] at hLi hedges
    -- who is where
    have hin : ∀ j ∈ nthN (predsOf [] ops.toList) i, L j = true := preds_ready hup hcl i ho hedges
    have hout : ∀ j D', Ds[j]? = some D' → L j = true → i ∉ nthN (predsOf [] ops.toList) j := by
      intro j D' hj hLj hm
      have hj' : j < ops.size := by have := (List.getElem?_eq_some_iff.1 hj).1; omega
      have hoj : ops.toList[j]? = some ops[j] := by simp [hj']
      have := preds_ready hup hcl j hoj (hcl j _ hoj hLj) i hm
      rw [hLi] at this
      cases this
    have hlt : ∀ j, j ∈ nthN (predsOf [] ops.toList) i → j < i := preds_lt hup i ho
    have hltj : ∀ j D', Ds[j]? = some D' → i ∈ nthN (predsOf [] ops.toList) j → i < j := by
      intro j D' hj hm
      have hj' : j < ops.size := by have := (List.getElem?_eq_some_iff.1 hj).1; omega
      exact preds_lt hup j (by simp [hj'] : ops.toList[j]? = some ops[j]) i hm
    have hpair : ∀ j D', Ds[j]? = some D' → i ≠ j → pairOK (nthN (predsOf [] ops.toList) i) (nthN (predsOf [] ops.toList) j) i j D D' = true := by
      intro j D' hj hne
      have h1 := pairsI_get (k := 0) hpairs hD
      rw [Nat.zero_add] at h1
      have h2 := pairsJ_get (k := 0) h1 hj (by omega)
      rwa [Nat.zero_add] at h2
    have hunord : ∀ j D', Ds[j]? = some D' → i ≠ j → i ∉ nthN (predsOf [] ops.toList) j → j ∉ nthN (predsOf [] ops.toList) i →
        (∀ t, D'.dst = some t → t ∉ D.tm) ∧ (∀ t, D.dst = some t → D'.dst ≠ some t) ∧ (∀ n ∈ namesU D'.us, n ∉ D.rd) ∧ (∀ n ∈ namesU D.us, n ∉ namesU D'.us) := by
      intro j D' hj hne h1 h2
      have hp := hpair j D' hj hne
      simp only [pairOK, memB_not.2 h1, memB_not.2 h2, Bool.and_eq_true, Bool.not_eq_true'] at hp
      exact ⟨optIn_not hp.2.1, optEq_not hp.2.2.1, disj_iff.1 hp.2.2.2.1, disj_iff.1 hp.2.2.2.2⟩
    -- those that are done, and those that stand ahead in the text, differ by strangers alone
    have hdiff : ∀ j D', Ds[j]? = some D' → L j ≠ decide (j < i) → i ≠ j ∧ i ∉ nthN (predsOf [] ops.toList) j ∧ j ∉ nthN (predsOf [] ops.toList) i := by
      intro j D' hj hne
      cases hLj : L j with
      | true =>
        rw [hLj] at hne
        have hji : ¬ j < i := fun h => hne (by simp [h])
        have hij : i ≠ j := fun e => by subst e; rw [hLi] at hLj; cases hLj
        exact ⟨hij, hout j D' hj hLj, fun hm => hji (hlt j hm)⟩
      | false =>
        rw [hLj] at hne
        have hji : j < i := by
          rcases Nat.lt_or_ge j i with h | h
          · exact h
          · exact absurd (by simp; omega) hne
        refine ⟨by omega, fun hm => ?_, fun hm => ?_⟩
        · have := hltj j D' hj hm; omega
        · have := hin j hm; rw [hLj] at this; cases this
    have hstep := Steps.get hs ho hD
    have htake : apDs s0 (Ds.take i) = apDs s0 (sel (fun j => decide (j < i)) 0 Ds) := by
      have := sel_lt i Ds 0
      rw [Nat.zero_add] at this
      rw [this]
    rw [htake] at hstep
    -- what it looks at is the same
    have hobj : ∀ n ∈ D.rd, objOf (apDs s0 (sel L 0 Ds)).o n = objOf (apDs s0 (sel (fun j => decide (j < i)) 0 Ds)).o n := by
      intro n hn
      refine sel_obj Ds 0 rfl (fun j D' hj hnm => ?_)
      rw [Nat.zero_add]
      refine Decidable.byContradiction (fun hne => ?_)
      obtain ⟨h1, h2, h3⟩ := hdiff j D' hj hne
      exact (hunord j D' hj h1 h2 h3).2.2.1 n hnm hn
    have htm : ∀ t ∈ D.tm, (apDs s0 (sel L 0 Ds)).get t = (apDs s0 (sel (fun j => decide (j < i)) 0 Ds)).get t := by
      intro t ht
      refine sel_get Ds 0 rfl (fun j D' hj hnm => ?_)
      rw [Nat.zero_add]
      refine Decidable.byContradiction (fun hne => ?_)
      obtain ⟨h1, h2, h3⟩ := hdiff j D' hj hne
      exact (hunord j D' hj h1 h2 h3).1 t hnm ht
    -- the state behind it
    have hafter : SEq (apD (apDs s0 (sel L 0 Ds)) D) (apDs s0 (sel (fun j => (listed.setIfInBounds i true).getD j false) 0 Ds)) := by
      have hset : ∀ j, (listed.setIfInBounds i true).getD j false = (L j || Nat.beq j i) := by
        intro j
        rw [← hL j]
        simp only [Array.getD_eq_getD_getElem?, Array.getElem?_setIfInBounds, hsz]
        by_cases e : i = j
        · subst e
          simp [hi', Nat.beq_refl]
        · rw [if_neg e, beq_ne'.2 (fun h => e h.symm), Bool.or_false]
      rw [show (fun j => (listed.setIfInBounds i true).getD j false) = (fun j => L j || Nat.beq j i) from funext hset]
      have hsplit : Ds = Ds.take i ++ D :: Ds.drop (i + 1) := by
        have hi2 : i < Ds.length := by omega
        have h1 : Ds[i] = D := by have := List.getElem?_eq_some_iff.1 hD; exact this.2
        rw [← h1]
        simp
      have hlate : ∀ j D', (Ds.drop (i + 1))[j]? = some D' → L (i + 1 + j) = true → (∀ t, D.dst = some t → D'.dst ≠ some t) ∧ ∀ n ∈ namesU D.us, n ∉ namesU D'.us := by
        intro j D' hj hLj
        have hj' : Ds[i + 1 + j]? = some D' := by rw [← hj, List.getElem?_drop]
        have h2 := hout _ D' hj' hLj
        have h3 : i + 1 + j ∉ nthN (predsOf [] ops.toList) i := fun hm => by have := hlt _ hm; omega
        exact ⟨(hunord _ D' hj' (by omega) h2 h3).2.1, (hunord _ D' hj' (by omega) h2 h3).2.2.2⟩
      have hli : (Ds.take i).length = i := by simp; omega
      have hR : ∀ s, apDs s (sel (fun j => L j || Nat.beq j i) 0 Ds) = apDs (apD (apDs s (sel L 0 (Ds.take i))) D) (sel L (i + 1) (Ds.drop (i + 1))) := by
        intro s
        rw [show sel (fun j => L j || Nat.beq j i) 0 Ds = sel (fun j => L j || Nat.beq j i) 0 (Ds.take i ++ D :: Ds.drop (i + 1)) by rw [← hsplit]]
        rw [sel_split, apDs_append, hli, Nat.zero_add]
        simp only [sel, Nat.beq_refl, Bool.or_true, apDs]
        rw [sel_congr (L' := L) (Ds.take i) 0 (fun j _ h2 => by rw [beq_ne'.2 (by omega), Bool.or_false]), sel_congr (L' := L) (Ds.drop (i + 1)) (i + 1) (fun j h1 _ => by rw [beq_ne'.2 (by omega), Bool.or_false])]
      have hLs : ∀ s, apDs s (sel L 0 Ds) = apDs (apDs s (sel L 0 (Ds.take i))) (sel L (i + 1) (Ds.drop (i + 1))) := by
        intro s
        rw [show sel L 0 Ds = sel L 0 (Ds.take i ++ D :: Ds.drop (i + 1)) by rw [← hsplit]]
        rw [sel_split, apDs_append, hli, Nat.zero_add]
        simp only [sel, hLi]
      rw [hR, hLs]
      generalize apDs s0 (sel L 0 (Ds.take i)) = s1
      refine ⟨fun t => ?_, fun n => ?_⟩
      · by_cases e : D.dst = some t
        · rw [apD_get, if_pos e]
          have : (apDs (apD s1 D) (sel L (i + 1) (Ds.drop (i + 1)))).get t = (apDs (apD s1 D) (sel (fun _ => false) (i + 1) (Ds.drop (i + 1)))).get t := by
            refine sel_get _ _ rfl (fun j D' hj hd => ?_)
            cases hLj : L (i + 1 + j) with
            | false => rfl
            | true => exact absurd hd ((hlate j D' hj hLj).1 t e)
          rw [this, sel_none]
          simp only [apDs]
          rw [apD_get, if_pos e]
        · rw [apD_get, if_neg e]
          exact sel_get _ _ (by rw [apD_get, if_neg e]) (fun _ _ _ _ => rfl)
      · by_cases e : n ∈ namesU D.us
        · have : objOf (apDs (apD s1 D) (sel L (i + 1) (Ds.drop (i + 1)))).o n = objOf (apDs (apD s1 D) (sel (fun _ => false) (i + 1) (Ds.drop (i + 1)))).o n := by
            refine sel_obj _ _ rfl (fun j D' hj hd => ?_)
            cases hLj : L (i + 1 + j) with
            | false => rfl
            | true => exact absurd hd ((hlate j D' hj hLj).2 n e)
          rw [this, sel_none]
          exact updO_in e
        · have h1 : objOf (apD (apDs s1 (sel L (i + 1) (Ds.drop (i + 1)))) D).o n = objOf (apDs s1 (sel L (i + 1) (Ds.drop (i + 1)))).o n := updO_not e
          rw [h1]
          exact sel_obj _ _ (updO_not e).symm (fun _ _ _ _ => rfl)
    have hnext : ∀ γ' a' w', Rel B nt w0 X γ' (apD (apDs s0 (sel L 0 Ds)) D) a' w' → wpAny P .any ops Q fuel (listed.setIfInBounds i true) a' w' := by
      intro γ' a' w' h'
      have hset : ∀ j, (listed.setIfInBounds i true).getD j false = (L j || Nat.beq j i) := by
        intro j
        rw [← hL j]
        simp only [Array.getD_eq_getD_getElem?, Array.getElem?_setIfInBounds, hsz]
        by_cases e : i = j
        · subst e
          simp [hi', Nat.beq_refl]
        · rw [if_neg e, beq_ne'.2 (fun h => e h.symm), Bool.or_false]
      refine ih (listed.setIfInBounds i true) (by simpa using hsz) ?_ ?_ (h'.seq hafter)
      · intro j o' ho' hLj e he hb
        simp only [hset] at hLj ⊢
        by_cases e' : j = i
        · subst e'
          rw [ho] at ho'
          simp only [Option.some.injEq] at ho'
          subst ho'
          rw [hedges e he hb]
          rfl
        · rw [beq_ne'.2 e', Bool.or_false] at hLj
          rw [hcl j o' ho' hLj e he hb]
          rfl
      · have : (List.range ops.size).countP (fun j => !(listed.setIfInBounds i true).getD j false) < (List.range ops.size).countP (fun j => !listed.getD j false) := by
          refine countP_lt (fun j _ hj => ?_) ⟨i, List.mem_range.2 hi', by rw [hL, hLi]; rfl, by rw [hset, Nat.beq_refl, Bool.or_true]; rfl⟩
          rw [hset] at hj
          rw [hL]
          cases hLj : L j <;> simp_all
        simp only [hL] at this hcount
        omega
    -- the operation itself
    obtain ⟨hok, hdst, htms, hguard⟩ := hstep
    have hclean := oneOK_get hone hD
    have run : (evOp E (apDs s0 (sel (fun j => decide (j < i)) 0 Ds)).o (opd (apDs s0 (sel (fun j => decide (j < i)) 0 Ds))) o.dst o.op).get = some (D.v, D.us) → D.rd = reads E (apDs s0 (sel (fun j => decide (j < i)) 0 Ds)).o (opd (apDs s0 (sel (fun j => decide (j < i)) 0 Ds))) o.op →
        (∀ x ∈ o.op.operands.toList, ∀ t, x = .tmp t → t ∈ D.tm) → o.wp P a w (wpAny P .any ops Q fuel (listed.setIfInBounds i true)) Q := by
      intro he hrd htmo
      have h1 : evOp E (apDs s0 (sel L 0 Ds)).o (opd (apDs s0 (sel L 0 Ds))) o.dst o.op = evOp E (apDs s0 (sel (fun j => decide (j < i)) 0 Ds)).o (opd (apDs s0 (sel (fun j => decide (j < i)) 0 Ds))) o.dst o.op := by
        rw [evOp_congr (ρ := opd (apDs s0 (sel L 0 Ds))) (ρ' := opd (apDs s0 (sel (fun j => decide (j < i)) 0 Ds))) (fun x hx => ?_)]
        · exact evOp_agree (fun n hn => hobj n (by rw [hrd]; exact hn))
        · cases x with
          | tmp t => exact htm t (htmo _ hx t rfl)
          | _ => rfl
      rw [← h1] at he
      have hn9' : ∀ d, o.dst = some d → d ≠ 900000 := fun d hdd e => by
        subst e
        rw [hdd] at hok
        simp only [okDst] at hok
        have h8 : 900000 + 1 ≤ E.nt := Nat.le_of_ble_eq_true hok
        omega
      refine op_run hT hE hSp hB h o hn9' he _ _ (fun γ' x w' h3 h4 => hnext γ' _ w' ?_)
      refine (h3.put hnt hok h4).seq ?_
      have hfr' : ∀ n ∈ newsU D.us, Fr n (apDs s0 (sel L 0 Ds)) := by
        intro n hn
        refine sel_fr Ds 0 (hfr n (hclean.2.2 n hn)) (fun j D' hj hLj => ?_)
        rw [Nat.zero_add] at hLj
        have hne : i ≠ j := fun e => by subst e; rw [hLi] at hLj; cases hLj
        have hp := hpair j D' hj hne
        simp only [pairOK, memB_not.2 (hout j D' hj hLj), Bool.and_eq_true] at hp
        have hdj := disj_iff.1 hp.1 n hn
        simp only [List.mem_append, not_or] at hdj
        have hc' := oneOK_get hone hj
        exact ⟨hc'.1, hdj.1, us_scrub hc'.2.1 hdj.2⟩
      have := (ups_seq hfr' hclean.2.1).put o.dst D.v
      refine this.trans ?_
      rw [← hdst]
      cases hdd : D.dst <;> exact ⟨fun t => by simp only [apD, hdd, St.put]; try rfl, fun n => by simp only [apD, St.put]⟩
    unfold wpOp
    rw [hoi]
    simp only
    have htmo : ∀ x ∈ o.op.operands.toList, ∀ t, x = .tmp t → t ∈ D.tm := by
      rintro x hx t rfl
      have := tmpsOf_mem hx
      rw [htms]
      unfold tmAll
      split
      · split
        · exact List.mem_cons_of_mem _ this
        · exact this
      · exact this
    split at hguard
    · rename_i hg
      rw [if_pos (by simp [Region.wanted, hg])]
      exact .inl (run hguard.1 hguard.2 htmo)
    · rename_i j b hg
      have skip : D.v = .tup [] → D.us = [] → Region.wanted o (yielded ops a.tmps) = false → (if Region.wanted o (yielded ops a.tmps) = true then o.wp P a w (wpAny P .any ops Q fuel (listed.setIfInBounds i true)) Q ∨ (o.asks P a w ∧ LetsOut Q) else wpAny P .any ops Q fuel (listed.setIfInBounds i true) (a.put o.dst undef) w) := by
        intro h1 h2 h3
        rw [if_neg (by rw [h3]; simp)]
        refine hnext γ _ w ?_
        refine (h.put hnt hok (v := .tup []) (x := undef) (by simp only [VRel]; exact ⟨#[], rfl, by simp only [VRels]⟩)).seq ?_
        rw [← hdst, ← h1]
        cases hdd : D.dst <;> exact ⟨fun t => by simp only [apD, hdd, St.put]; try rfl, fun n => by simp only [apD, St.put, h2, updO]⟩
      have hdjm0 : ∀ dj, dstOf ops.toList j = some dj → dj ∈ D.tm := by
        intro dj hdj
        rw [htms]
        unfold tmAll
        rw [hg]
        simp only [hdj]
        exact List.mem_cons_self ..
      rcases hguard with ⟨dj, c, hdj, hc, hcase⟩ | ⟨dj, hdj, hc, h1, h2⟩
      case inr =>
        rw [← htm dj (hdjm0 dj hdj)] at hc
        have hy : yielded ops a.tmps j = none := by
          unfold yielded
          rw [show ops[j]? = ops.toList[j]? by simp, dstOf_eq _ _ _ hdj]
          rcases undef_tmp h hc with h0 | h0 <;> simp [h0]
        exact skip h1 h2 (by simp [Region.wanted, hg, hy])
      have hdjm : dj ∈ D.tm := by
        rw [htms]
        unfold tmAll
        rw [hg]
        simp only [hdj]
        exact List.mem_cons_self ..
      rw [← htm dj hdjm] at hc
      have hy : yielded ops a.tmps j = some c := by
        unfold yielded
        rw [show ops[j]? = ops.toList[j]? by simp, dstOf_eq _ _ _ hdj]
        simp [bool_tmp h hc]
      rcases hcase with ⟨rfl, h1, h2⟩ | ⟨hne, h1, h2⟩
      · rw [if_pos (by simp [Region.wanted, hg, hy])]
        exact .inl (run h1 h2 htmo)
      · exact skip h1 h2 (by simp [Region.wanted, hg, hy, hne])

theorem evDraw_run {Q : Exit → Act → World → Prop} (hm : P.follows .mixedOrders = true) {r : V × List (List V)} {id : Nat} {ops : Array Oper} {k : St → Res} {γ : Nat → Value} {st : St} {a : Act} {w : World}
    (he : evDraw E ops.toList st k = some r) (h : Rel B nt w0 X γ st a w) (hk : ∀ γ' st' a' w', Rel B nt w0 X γ' st' a' w' → k st' = some r → Q .normal a' w') : (Code.region id ops true).wp P Q a w := by
  refine wp_region_any hm ?_
  unfold evDraw at he
  obtain ⟨Ds, s', h1, h2, h3⟩ := evD_steps ops.toList he
  split at h3
  · rename_i hf
    simp only [List.append_nil, List.reverse_reverse] at hf
    have h0 : Rel B nt w0 X γ (clearS (dstsOf ops.toList) st) a { w with drawn := w.drawn + 1 } := (h.clear (dstsOf ops.toList)).world (Keep.drew _ w)
    refine draw_run hT hE hSp hB hnt hn9 h1 hf (fun n hn => clear_fr hn st) (fun γ' a' w' h' => hk γ' s' a' w' (h'.seq h2.symm) h3) ops.size (Array.replicate ops.size false) (by simp) ?_ ?_ (γ := γ) ?_
    · intro i o ho hL
      have hi : i < ops.size := by simpa using (List.getElem?_eq_some_iff.1 ho).1
      simp [Array.getD, hi] at hL
    · refine Nat.le_trans (List.countP_le_length) ?_
      simp
    · rw [sel_congr (L' := fun _ => false) _ _ (fun j _ _ => by simp [Array.getD]), sel_none]
      exact h0
  · cases h3

end
end Go.FM

/-
  THE SMALL MACHINE (27): a text's run.
-/
namespace Go.FM
open Go Go.RowKit

section
variable {B : BT} {nt : Nat} {w0 : World} {X : Zone} {γ : Nat → Value} {st st' : St} {a : Act} {w : World} {P : Program} {E : Env}

theorem keepT_get (s : St) : ∀ (l : List Nat) (i : Nat), lkd .any (keepT s l) i = s.get i ∨ lkd .any (keepT s l) i = .any
  | [], i => .inr rfl
  | j :: r, i => by
    simp only [keepT, lkd_cons]
    by_cases e : j = i
    · subst e; simp
    · simp only [if_neg e]
      exact keepT_get s r i
theorem keepO_get (s : St) : ∀ (l : List Nat) (n : Nat) (ob : Ob), objOf (keepO s l) n = some ob → objOf s.o n = some ob
  | [], n, ob, h => by simp [keepO, objOf, lkd] at h
  | j :: r, n, ob, h => by
    simp only [keepO, objOf_cons] at h
    split at h
    · rename_i e
      subst e
      exact h
    · exact keepO_get s r n ob h

theorem Rel.prune (h : Rel B nt w0 X γ st a w) (kp : Option (List Nat)) : Rel B nt w0 X γ (prune kp st) a w := by
  cases kp with
  | none => exact h
  | some l => exact h.less (fun i => keepT_get st l i) (fun _ _ h => h)

theorem VRels.putOne {γ : Nat → Value} {o : Store} {w : World} {O : Nat → Prop} {v : V} {x : Value} (hv : VRel γ o w O v x) : ∀ {cs : List V} {xs : List Value} {c : Nat}, VRels γ o w O cs xs → xs[c]? = some x → VRels γ o w O (putV cs c [v]) xs
  | [], [], _, _, h => by simp at h
  | [], _ :: _, _, h, _ => by simp only [VRels] at h
  | _ :: _, [], _, h, _ => by simp only [VRels] at h
  | u :: cs, y :: xs, 0, h, hx => by
    simp only [VRels] at h
    simp only [List.getElem?_cons_zero, Option.some.injEq] at hx
    subst hx
    have : putV cs 0 [] = cs := by cases cs <;> rfl
    simp only [putV, this, VRels]
    exact ⟨hv, h.2⟩
  | u :: cs, y :: xs, c + 1, h, hx => by
    simp only [VRels] at h
    simp only [List.getElem?_cons_succ] at hx
    simp only [putV, VRels]
    exact ⟨h.1, VRels.putOne hv h.2 hx⟩

def LocAt (γ : Nat → Value) (o : Store) (w : World) (a : Act) (x : Value) : Loc → Prop
  | .tmp t => x = a.tmps.getD t undef
  | .cell b c => ∃ cs bb T cc, objOf o b = some (.box cs) ∧ γ b = .pointer (some ⟨bb, 0, none⟩) ∧ w.heap[bb]? = some (.cells cc T (0, 0)) ∧ cc.toList[c]? = some x
def LocGo (γ : Nat → Value) (o : Store) (w : World) (a : Act) (x : Value) : Loc → Prop
  | .tmp t => x = a.tmps.getD t undef
  | .cell b c => ∀ cs, objOf o b = some (.box cs) → ∃ bb T cc, γ b = .pointer (some ⟨bb, 0, none⟩) ∧ w.heap[bb]? = some (.cells cc T (0, 0)) ∧ cc.toList[c]? = some x

/-- The value at a place, and what is known of it. -/
theorem Rel.at (h : Rel B nt w0 X γ st a w) (l : Loc) {v : V} (hv : locV st l = v) (hne : v ≠ .any) : ∃ x, VRel γ st.o w (Owned X γ st.o) v x ∧
    LocAt γ st.o w a x l := by
  subst hv
  cases l with
  | tmp t => exact ⟨_, h.tm t, rfl⟩
  | cell b c =>
    simp only [locV] at hne ⊢
    split at hne
    · rename_i cs hob
      have hor := h.ob b _ hob
      simp only [ObRel] at hor
      obtain ⟨bb, cc, T, hg, hh, hr⟩ := hor
      rw [nthV_eq] at hne ⊢
      cases hc : cs[c]? with
      | none => rw [hc] at hne; exact absurd rfl hne
      | some u =>
        obtain ⟨x, hx, hrx⟩ := hr.get hc
        exact ⟨x, hrx, cs, bb, T, cc, hob, hg, hh, hx⟩
    · exact absurd rfl hne

/-- A place's value, told anew. -/
theorem Rel.putLoc {γ2 : Nat → Value} {st2 : St} (h2 : Rel B nt w0 X γ2 st2 a w) (l : Loc) {v : V} {x : Value} (hv : VRel γ2 st2.o w (Owned X γ2 st2.o) v x)
    (hx : LocGo γ2 st2.o w a x l) : Rel B nt w0 X γ2 (putLoc st2 v l) a w := by
  cases l with
  | tmp t =>
    simp only [LocGo] at hx
    subst hx
    refine ⟨h2.sz, h2.df, fun i => ?_, h2.ob, h2.lt, h2.dis, h2.keep, h2.nr, h2.fl, h2.pn⟩
    simp only [FM.putLoc, St.get, lkd_cons]
    split
    · rename_i e
      subst e
      exact hv
    · exact h2.tm i
  | cell b c =>
    simp only [FM.putLoc]
    split
    · rename_i cs hob
      simp only [LocGo] at hx
      obtain ⟨bb, T, cc, hg, hh, hcx⟩ := hx cs hob
      have hob' : ∀ m, objOf ((b, some (.box (putV cs c [v]))) :: st2.o) m = if b = m then some (.box (putV cs c [v])) else objOf st2.o m := fun m => objOf_cons ..
      have hlen : (putV cs c [v]).length = cs.length := by
        have key : ∀ (cs : List V) (c : Nat), (putV cs c [v]).length = cs.length := by
          intro cs
          induction cs with
          | nil => intro c; cases c <;> rfl
          | cons u r ih =>
            intro c
            cases c with
            | zero => have : putV r 0 [] = r := by cases r <;> rfl
                      simp [putV, this]
            | succ c => simp [putV, ih]
        exact key cs c
      have hP : ∀ b', OwnedP γ2 ((b, some (.box (putV cs c [v]))) :: st2.o) b' → OwnedP γ2 st2.o b' := by
        rintro b' ⟨m, ob, hm, hb⟩
        rw [hob'] at hm
        split at hm
        · rename_i e
          subst e
          simp only [Option.some.injEq] at hm
          subst hm
          exact ⟨_, _, hob, hb⟩
        · exact ⟨m, ob, hm, hb⟩
      have hO : ∀ b', b' < w.heap.size → Owned X γ2 ((b, some (.box (putV cs c [v]))) :: st2.o) b' → Owned X γ2 st2.o b' := fun b' _ hb => hb.imp_left (hP b')
      have hc : Cmp γ2 st2.o γ2 ((b, some (.box (putV cs c [v]))) :: st2.o) := by
        intro m ob' hm
        rw [hob'] at hm
        split at hm
        · rename_i e
          subst e
          simp only [Option.some.injEq] at hm
          subst hm
          exact ⟨rfl, _, hob, hlen.symm⟩
        · exact ⟨rfl, ob', hm, ob'.fits_refl⟩
      refine ⟨h2.sz, h2.df, fun i => VRel.mono (Keep.refl _ w) hO (VRel.cmp hc (h2.tm i)), fun m ob hm => ?_, fun b' hb => h2.lt b' (hP b' hb), fun m1 m2 ob1 ob2 b' hne h3 h4 hb1 hb2 => ?_, h2.keep, fun b' hb => h2.nr b' (hP b' hb), h2.fl, fun p hp ob hm => ?_⟩
      · simp only at hm ⊢
        rw [hob'] at hm
        split at hm
        · rename_i e
          subst e
          simp only [Option.some.injEq] at hm
          subst hm
          have hor := h2.ob _ _ hob
          simp only [ObRel] at hor ⊢
          obtain ⟨bb', cc', T', hg', hh', hr'⟩ := hor
          rw [hg] at hg'
          simp only [Value.pointer.injEq, Option.some.injEq, Addr.mk.injEq, and_true] at hg'
          subst hg'
          rw [hh] at hh'
          simp only [Option.some.injEq, Obj.cells.injEq] at hh'
          obtain ⟨rfl, rfl, _⟩ := hh'
          exact ⟨bb, cc, T, hg, hh, VRels.mono (Keep.refl _ w) hO (VRels.cmp hc (VRels.putOne hv hr' hcx))⟩
        · exact (h2.ob m ob hm).later (fun _ _ => rfl) (Keep.refl _ w) hO hc
      · have key : ∀ m ob, objOf ((b, some (.box (putV cs c [v]))) :: st2.o) m = some ob → blocksOf (γ2 m) ob b' → ∃ ob0, objOf st2.o m = some ob0 ∧ blocksOf (γ2 m) ob0 b' := by
          intro m ob hm hb
          rw [hob'] at hm
          split at hm
          · rename_i e
            subst e
            simp only [Option.some.injEq] at hm
            subst hm
            exact ⟨_, hob, hb⟩
          · exact ⟨ob, hm, hb⟩
        obtain ⟨o1, q1, q2⟩ := key m1 ob1 h3 hb1
        obtain ⟨o2, q3, q4⟩ := key m2 ob2 h4 hb2
        exact h2.dis m1 m2 o1 o2 b' hne q1 q3 q2 q4
      · simp only at hm
        rw [hob'] at hm
        split at hm
        · rename_i e
          exact h2.pn p hp _ (e ▸ hob)
        · exact h2.pn p hp ob hm
    · exact h2

theorem Rel.canon1 (h : Rel B nt w0 X γ st a w) (c : Can) : ∃ γ', Rel B nt w0 X γ' (canon1 c st) a w := by
  unfold FM.canon1
  split
  · exact ⟨γ, h⟩
  rename_i h9
  have h9 := beq_ne'.1 h9
  split
  · rename_i hv
    split
    · rename_i hks
      have hks' : 0 < c.ks.length := Nat.le_of_ble_eq_true hks
      obtain ⟨x, hx, hat⟩ := h.at c.loc hv (by simp)
      simp only [VRel] at hx
      have hadd := h.add c.nm h9 (.row true c.e c.ag c.ks []) (.slice none 0 0) (fun b hb => by simp [blocksOf, Value.ownBlock] at hb) (fun O' hO' => by
        simp only [ObRel]
        exact ⟨hks', by simp [strMax], [], ⟨by simp, .inl ⟨rfl, rfl⟩⟩, fun i y hy => by simp at hy⟩)
      have hadd := hadd.shrink (F := X.far) (fun b hb => ⟨hb, fun hb' => by simp [blocksOf, Value.ownBlock] at hb'⟩)
      refine ⟨_, hadd.putLoc c.loc (x := x) ?_ ?_⟩
      · simp only [VRel, objOf_up_new, if_true]
        subst hx
        exact ⟨Nat.le_refl _, none, 0, 0, none, rfl, rfl, Nat.le_refl _, Nat.le_refl _, Nat.le_refl _, by simp [maxLen], .inl rfl, fun _ => rfl⟩
      · revert hat
        cases c.loc with
        | tmp t => exact fun hat => hat
        | cell b k =>
          intro hat
          obtain ⟨cs, bb, T, cc, q1, q2, q3, q4⟩ := hat
          intro cs2 hcs2
          rw [objOf_up_new] at hcs2
          split at hcs2
          · cases hcs2
          · rename_i hne
            exact ⟨bb, T, cc, by simp only [if_neg hne]; exact q2, q3, q4⟩
    · exact ⟨γ, h⟩
  · rename_i n lo hi hv
    split
    · rename_i e ag ks l hn hlo hob
      have hn' := beq_ne'.1 hn
      obtain rfl := beq_eq'.1 hlo
      obtain ⟨x, hx, hat⟩ := h.at c.loc hv (by simp)
      simp only [VRel, hob] at hx
      have hk := h.kill n
      have hor := h.ob n _ hob
      have hkb : ∀ b, blocksOf (γ n) (.row true e ag ks l) b → BlockOf γ st.o n b := fun b hb => ⟨_, hob, hb⟩
      have hadd := hk.add c.nm h9 (.row true e ag ks l) (γ n) (fun b hb => ⟨.inr (hkb b hb), (h.lt b ⟨n, _, hob, hb⟩).2⟩) (fun O' hO' => by
        simp only [ObRel] at hor ⊢
        obtain ⟨k1, k2, xs, k3, k4⟩ := hor
        refine ⟨k1, k2, xs, k3, fun i y hy => Kd.RelAll.mono (Keep.refl _ w) (fun b _ hb => ?_) (fun _ _ hu => hu) (k4 i y hy)⟩
        rcases hO' b hb with h1 | h1 | h1
        · obtain ⟨m, ob1, q1, q2⟩ := h1
          simp only [St.up] at q1
          rw [objOf_cons] at q1
          split at q1
          · cases q1
          · exact .inl ⟨m, ob1, q1, q2⟩
        · exact .inr h1
        · obtain ⟨ob1, q1, q2⟩ := h1
          exact .inl ⟨n, ob1, q1, q2⟩)
      have hadd := hadd.shrink (F := X.far) (fun b hb => ⟨.inl hb, fun hb' => h.nr b ⟨n, _, hob, hb'⟩ hb⟩)
      refine ⟨_, hadd.putLoc c.loc (x := x) ?_ ?_⟩
      · simp only [VRel, objOf_up_new, if_true]
        exact hx
      · revert hat
        cases c.loc with
        | tmp t => exact fun hat => hat
        | cell b k =>
          intro hat
          obtain ⟨cs, bb, T, cc, q1, q2, q3, q4⟩ := hat
          intro cs2 hcs2
          rw [objOf_up_new] at hcs2
          split at hcs2
          · cases hcs2
          · rename_i hne
            exact ⟨bb, T, cc, by simp only [if_neg hne]; exact q2, q3, q4⟩
    · exact ⟨γ, h⟩
  · exact ⟨γ, h⟩

theorem Rel.canons : ∀ (l : List Can) {γ : Nat → Value} {st : St}, Rel B nt w0 X γ st a w → ∃ γ', Rel B nt w0 X γ' (canons l st) a w
  | [], γ, st, h => ⟨γ, h⟩
  | c :: r, γ, st, h => by
    obtain ⟨γ1, h1⟩ := h.canon1 c
    exact Rel.canons r h1

theorem Rel.restrict (h : Rel B nt w0 X γ st a w) (kp : KP) : ∃ γ', Rel B nt w0 X γ' (restrict kp st) a w := by
  have h1 : Rel B nt w0 X γ ⟨keepT st kp.t, st.o⟩ a w := h.less (fun i => keepT_get st kp.t i) (fun _ _ h => h)
  obtain ⟨γ', h2⟩ := h1.canons kp.c
  exact ⟨γ', h2.less (fun i => keepT_get _ kp.t i) (fun n ob => keepO_get _ kp.o n ob)⟩

variable (hT : TiOK P B E) (hE : ∀ t, t ∈ E.eqs → EqSnd P t (E.tyd t).ks) (hSp : SpOK P B E w0 X) (hB : BldOK P B E) (hnt : E.nt = nt) (hn9 : nt ≤ 900000)
include hT hE hSp hB hnt hn9

theorem evOps_run {Q : Exit → Act → World → Prop} {r : V × List (List V)} {ops : Array Oper} {k : St → Res} :
    ∀ (l : List Oper) (i : Nat) {γ : Nat → Value} {st : St} {a : Act} {w : World}, ops.toList.drop i = l → evOps E ops.toList l st k = some r → Rel B nt w0 X γ st a w →
      (∀ γ' st' a' w', Rel B nt w0 X γ' st' a' w' → k st' = some r → Q .normal a' w') → wpOps P ops Q (List.range' i l.length) a w
  | [], i, γ, st, a, w, hl, he, h, hk => by
    simp only [evOps] at he
    exact hk _ _ _ _ h he
  | o :: l, i, γ, st, a, w, hl, he, h, hk => by
    have hoi : ops[i]? = some o := by
      rw [← Array.getElem?_toList]
      have := congrArg (·[0]?) hl
      simpa using this
    have hl' : ops.toList.drop (i + 1) = l := by
      have := congrArg (List.drop 1) hl
      simpa using this
    simp only [List.length_cons, List.range'_succ, wpOps, hoi]
    simp only [evOps] at he
    have hd : okDst E o.dst = true := by
      cases hd : okDst E o.dst with
      | true => rfl
      | false => rw [hd] at he; cases he
    rw [hd] at he
    simp only at he
    -- an operation that is wanted
    have go : ∀ {st : St}, Rel B nt w0 X γ st a w → Region.wanted o (yielded ops a.tmps) = true → ((evOp E st.o (opd st) o.dst o.op).run fun v us => evOps E ops.toList l ((st.ups us).put o.dst v) k) = some r →
        (if Region.wanted o (yielded ops a.tmps) = true then o.wp P a w (wpOps P ops Q (List.range' (i + 1) l.length)) Q ∨ (o.asks P a w ∧ LetsOut Q) else wpOps P ops Q (List.range' (i + 1) l.length) (a.put o.dst undef) w) := by
      intro st h hw he
      rw [if_pos hw]
      obtain ⟨v, us, h1, h2⟩ := T.run_some he
      refine .inl (op_run hT hE hSp hB h o (fun d hdd e => by subst e; rw [hdd] at hd; simp only [okDst] at hd; have h8 : 900000 + 1 ≤ E.nt := Nat.le_of_ble_eq_true hd; omega) h1 _ _ (fun γ' x w' h3 h4 => ?_))
      exact evOps_run l (i + 1) hl' h2 (h3.put hnt hd h4) hk
    have no : ∀ {st : St}, Rel B nt w0 X γ st a w → Region.wanted o (yielded ops a.tmps) = false → evOps E ops.toList l (st.put o.dst (.tup [])) k = some r →
        (if Region.wanted o (yielded ops a.tmps) = true then o.wp P a w (wpOps P ops Q (List.range' (i + 1) l.length)) Q ∨ (o.asks P a w ∧ LetsOut Q) else wpOps P ops Q (List.range' (i + 1) l.length) (a.put o.dst undef) w) := by
      intro st h hw he
      rw [if_neg (by rw [hw]; simp)]
      exact evOps_run l (i + 1) hl' he (h.put hnt hd (by simp only [VRel]; exact ⟨#[], rfl, by simp only [VRels]⟩)) hk
    split at he
    · rename_i hg
      exact go h (by simp [Region.wanted, hg]) he
    · rename_i j b hg
      split at he
      · rename_i dj hdj
        split at he
        · rename_i c hc
          have hy : yielded ops a.tmps j = some c := by
            unfold yielded
            rw [show ops[j]? = ops.toList[j]? by simp, dstOf_eq _ _ _ hdj]
            simp [bool_tmp h hc]
          have hlit := h.lit hc
          cases c with
          | true =>
            simp only at he
            cases b with
            | true => exact go (st := st.put (some dj) (.bool true)) hlit (by simp [Region.wanted, hg, hy]) he
            | false => exact no (st := st.put (some dj) (.bool true)) hlit (by simp [Region.wanted, hg, hy]) he
          | false =>
            simp only at he
            cases b with
            | false => exact go (st := st.put (some dj) (.bool false)) hlit (by simp [Region.wanted, hg, hy]) he
            | true => exact no (st := st.put (some dj) (.bool false)) hlit (by simp [Region.wanted, hg, hy]) he
        · rename_i hc
          have hy : yielded ops a.tmps j = none := by
            unfold yielded
            rw [show ops[j]? = ops.toList[j]? by simp, dstOf_eq _ _ _ hdj]
            rcases undef_tmp h hc with h0 | h0 <;> simp [h0]
          exact no h (by simp [Region.wanted, hg, hy]) he
        · cases he
      · cases he

def exitOf : Out → Exit
  | .normal => .normal
  | .exit i => .exit i
  | .ret => .ret

omit hT hE hSp hB hnt hn9 in
/-- A loop's run is its round's, and the loop's again. -/
theorem least_nat (J : Nat → Prop) (h : ∃ n, J n) : ∃ n, J n ∧ ∀ m, J m → n ≤ m := by
  obtain ⟨n, hn⟩ := h
  induction n using Nat.strongRecOn with
  | _ n ih =>
    by_cases hm : ∃ m, m < n ∧ J m
    · obtain ⟨m, h1, h2⟩ := hm
      exact ih m h1 h2
    · exact ⟨n, hn, fun m hJ => Nat.le_of_not_lt (fun hlt => hm ⟨m, hlt, hJ⟩)⟩

theorem evG_run (hm : P.follows .mixedOrders = true) {r : V × List (List V)} : ∀ (c : Code) {k : Out → St → Res} {Q : Exit → Act → World → Prop} {γ : Nat → Value} {st : St} {a : Act} {w : World}, evCode E c st k = some r → Rel B nt w0 X γ st a w →
    (∀ o γ' st' a' w', Rel B nt w0 X γ' st' a' w' → k o st' = some r → Q (exitOf o) a' w') → c.wp P Q a w
  | .skip, k, Q, γ, st, a, w, he, h, hk => wp_skip (hk .normal γ st a w h he)
  | .exit id, k, Q, γ, st, a, w, he, h, hk => wp_exit (hk (.exit id) γ st a w h he)
  | .ret, k, Q, γ, st, a, w, he, h, hk => wp_ret (hk .ret γ st a w h he)
  | .label _, k, Q, γ, st, a, w, he, h, hk => by simp [evCode, evG] at he
  | .goto _, k, Q, γ, st, a, w, he, h, hk => by simp [evCode, evG] at he
  | .scope _, k, Q, γ, st, a, w, he, h, hk => by simp [evCode, evG] at he
  | .rangeFunc _ _ _ _, k, Q, γ, st, a, w, he, h, hk => by simp [evCode, evG] at he
  | .region id ops draw, k, Q, γ, st, a, w, he, h, hk => by
    simp only [evCode, evG] at he
    cases draw with
    | true =>
      simp only at he
      exact evDraw_run hT hE hSp hB hnt hn9 hm he h (fun γ' st' a' w' h' hk' => hk .normal γ' _ a' w' (h'.prune _) hk')
    | false =>
      simp only at he
      refine wp_region ?_
      rw [show ops.size = ops.toList.length by simp, List.range_eq_range']
      exact evOps_run hT hE hSp hB hnt hn9 ops.toList 0 rfl he h (fun γ' st' a' w' h' hk' => hk .normal γ' _ a' w' (h'.prune _) hk')
  | .seq x y, k, Q, γ, st, a, w, he, h, hk => by
    simp only [evCode, evG] at he
    refine wp_seq (evG_run hm x he h (fun o γ' st' a' w' h' hk' => ?_))
    cases o with
    | normal => exact evG_run hm y hk' h' hk
    | exit i => exact hk (.exit i) γ' st' a' w' h' hk'
    | ret => exact hk .ret γ' st' a' w' h' hk'
  | .cond c x y, k, Q, γ, st, a, w, he, h, hk => by
    simp only [evCode, evG] at he
    split at he
    · rename_i b hc
      have hcr := opd_rel h c
      rw [hc] at hcr
      simp only [VRel] at hcr
      have hlit : Rel B nt w0 X γ (litC st c b) a w := by
        unfold litC
        split
        · exact h.lit hc
        · exact h
      cases b with
      | true => exact wp_cond_true hcr (evG_run hm x he hlit hk)
      | false => exact wp_cond_false hcr (evG_run hm y he hlit hk)
    · cases he
  | .block id c, k, Q, γ, st, a, w, he, h, hk => by
    simp only [evCode, evG] at he
    refine wp_block (evG_run hm c he h (fun o γ' st' a' w' h' hk' => ?_))
    cases o with
    | normal => exact hk .normal γ' st' a' w' h' hk'
    | ret => exact hk .ret γ' st' a' w' h' hk'
    | exit i =>
      simp only [exitOf, Exit.inBlock]
      simp only [kBlock] at hk'
      cases hb : Nat.beq i id with
      | true =>
        rw [hb] at hk'
        rw [if_pos (beq_eq'.1 hb)]
        exact hk .normal γ' st' a' w' h' hk'
      | false =>
        rw [hb] at hk'
        rw [if_neg (beq_ne'.1 hb)]
        exact hk (.exit i) γ' st' a' w' h' hk'
  | .loop c, k, Q, γ, st, a, w, he, h, hk => by
    simp only [evCode, evG] at he
    generalize lkd ⟨[], [], []⟩ E.lp (firstReg c) = kp at he
    let J : Act → World → Nat → Prop := fun a w n => ∃ γ st, Rel B nt w0 X γ st a w ∧ loopN c (evG loopN E c) kp n st k = some r
    obtain ⟨γr, hr⟩ := h.restrict kp
    refine wp_loop (fun a w => ∃ n, J a w n) (fun a w => (Classical.epsilon fun n => J a w n ∧ ∀ m, J a w m → n ≤ m)) ⟨_, γr, _, hr, he⟩ ?_
    intro a w hI
    have hleast := Classical.epsilon_spec (least_nat (J a w) hI)
    generalize (Classical.epsilon fun n => J a w n ∧ ∀ m, J a w m → n ≤ m) = n at hleast
    obtain ⟨⟨γ1, st1, h1, he1⟩, _⟩ := hleast
    cases n with
    | zero => simp [loopN] at he1
    | succ n =>
      simp only [loopN] at he1
      refine evG_run hm c he1 h1 (fun o γ' st' a' w' h' hk' => ?_)
      obtain ⟨γr, hr⟩ := h'.restrict kp
      cases o with
      | normal =>
        simp only [exitOf, Exit.then]
        have hJ : J a' w' n := ⟨γr, _, hr, hk'⟩
        refine ⟨⟨n, hJ⟩, ?_⟩
        have := Classical.epsilon_spec (least_nat (J a' w') ⟨n, hJ⟩)
        exact Nat.lt_succ_of_le (this.2 n hJ)
      | exit i => exact hk (.exit i) γr _ a' w' hr hk'
      | ret => exact hk .ret γr _ a' w' hr hk'

end
end Go.FM

/-
  THE SMALL MACHINE (28): a function.
-/
namespace Go.FM
open Go Go.RowKit

theorem noBor_free (o : Store) (bs : List V) (tk : Option Kd) (v : V) : freeL (noBor (argL o bs tk v)) = true := by
  cases v <;> simp only [argL] <;> repeat' split
  all_goals rfl

theorem mapK_free (o : Store) (bs : List V) : ∀ (l : List V) (ks : List Kd), (mapK (fun k v => noBor (argL o bs k v)) ks l).all freeL = true
  | [], ks => by cases ks <;> rfl
  | v :: l, [] => by simp [mapK, noBor_free, mapK_free o bs l []]
  | v :: l, k :: ks => by simp [mapK, noBor_free, mapK_free o bs l ks]

theorem resE_free (o : Store) (ks : List Kd) (v : V) : (match resE o ks v with | .agg l => l.all freeL | v => freeL v) = true ∧ ∀ l, resE o ks v ≠ .tup l := by
  by_cases hc : ∃ l, v = .agg l
  · obtain ⟨l, rfl⟩ := hc
    simp only [resE]
    exact ⟨mapK_free o [] l ks, fun l' h => by cases h⟩
  · have h1 : resE o ks v = noBor (argL o [] ks.head? v) := by cases v <;> first | rfl | exact absurd ⟨_, rfl⟩ hc
    have h2 := noBor_free o [] ks.head? v
    rw [h1]
    cases hx : noBor (argL o [] ks.head? v) <;> rw [hx] at h2 <;> simp only [freeL] at h2 ⊢ <;> first | (cases h2; done) | (refine ⟨trivial, fun l h => ?_⟩; cases h)

theorem resV_free (o : Store) (ks : List (List Kd)) (v : V) : freeV (resV o ks v) = true := by
  by_cases hc : ∃ l, v = .tup l
  · obtain ⟨l, rfl⟩ := hc
    simp only [resV, freeV]
    have key : ∀ (l : List V) (ks : List (List Kd)), ((resV.go o ks l).all fun v => match v with | .agg l => l.all freeL | v => freeL v) = true := by
      intro l
      induction l with
      | nil => intro ks; cases ks <;> rfl
      | cons v l ih =>
        intro ks
        cases ks with
        | nil => simp only [resV.go, List.all_cons, Bool.and_eq_true]; exact ⟨(resE_free o [] v).1, ih []⟩
        | cons k ks => simp only [resV.go, List.all_cons, Bool.and_eq_true]; exact ⟨(resE_free o k v).1, ih ks⟩
    exact key l ks
  · have h1 : resV o ks v = resE o (ks.headD []) v := by cases v <;> first | rfl | exact absurd ⟨_, rfl⟩ hc
    rw [h1]
    obtain ⟨h2, h3⟩ := resE_free o (ks.headD []) v
    cases hx : resE o (ks.headD []) v <;> rw [hx] at h2 <;> simp only [freeV] at h2 ⊢ <;> first | exact h2 | exact absurd hx (h3 _)

theorem cellB_ok (o : Store) (all : List Nat) (cs : List V) : (cs.map (cellB o all)).all okC = true := by
  refine List.all_eq_true.2 (fun v hv => ?_)
  obtain ⟨u, _, rfl⟩ := List.mem_map.1 hv
  rcases cellB_cases o all u with ⟨_, _, _, _, _, _, _, _, _, h1⟩ | ⟨h1, _⟩
  · rw [h1]; rfl
  · cases hcc : cellB o all u <;> first | rfl | (rw [hcc] at h1; cases h1)

section
variable {B : BT} {nt : Nat} {w0 : World} {X : Zone} {γ : Nat → Value} {st st' : St} {a : Act} {w : World} {P : Program} {E : Env}

/-- Rows that something else speaks of are not handed over. -/
theorem not_handed (h : Rel B nt w0 X γ st a w) {n : Nat} {cs : List V} (ho : objOf st.o n = some (.box cs)) {extra : List Nat} {m : Nat} (hm : m ∈ extra) {b : Nat} (hr : RowOf γ st.o m b) :
    ¬ (BlockOf γ st.o n b ∨ ∃ m ∈ handed st.o (rowsIn cs ++ extra) cs, BlockOf γ st.o m b) := by
  intro hLb
  obtain ⟨e, ag, ks, l, h5, h6⟩ := hr
  rcases hLb with ⟨ob, h7, h8⟩ | ⟨m2, h9, ob, h7, h8⟩
  · have hne : n ≠ m := by
      rintro rfl
      rw [ho] at h5
      cases h5
    exact h.dis n m ob _ b hne h7 h5 h8 h6
  · by_cases hne : m2 = m
    · subst hne
      obtain ⟨hi2, e2, ag2, ks2, l2, k1, k2, k3⟩ := handed_mem.1 h9
      rw [occ_append] at k3
      have q1 := occ_pos (mem_rowsIn k1)
      have q2 := occ_pos hm
      omega
    · exact h.dis m2 m ob _ b hne h7 h5 h8 h6

theorem exit_run {p : Value} (h : Rel ⟨B.T, B.e, some p, B.ng, B.F⟩ nt w0 X γ st a w) {v : V} {x : Value} (hv : VRel γ st.o w (Owned X γ st.o) v x) {ks : List (List Kd)} {vs : List V} {r : V} {out : List (List V)} (he : exitT st.o ks (borOf vs) v = some (r, out)) {g0 : Value} (hp : p = addrOf g0) :
    ∃ γ', Rel B.base 0 w0 X γ' ⟨[], memOut r out⟩ act0 w ∧ VRel γ' (memOut r out) w (Owned X γ' (memOut r out)) (retV r) x ∧ backOK vs r out g0 (γ' 900000) := by
  have hfar : ∀ b, X.far b → Owned X γ st.o b ∧ ∀ b', b' = b → ¬ OwnedP γ st.o b' := fun b hb => ⟨.inr hb, fun b' e hP => h.nr b' hP (e ▸ hb)⟩
  have hbd : ∀ {n : Nat} {cs : List V} (ho : objOf st.o n = some (.box cs)) (extra : List Nat), ∃ γb, Rel B.base 0 w0 X γb ⟨[], entO (cs.map (cellB st.o (rowsIn cs ++ extra)))⟩ act0 w ∧ γb 900000 = γ n ∧
      ∀ b, OwnedP γb (entO (cs.map (cellB st.o (rowsIn cs ++ extra)))) b → BlockOf γ st.o n b ∨ ∃ m ∈ handed st.o (rowsIn cs ++ extra) cs, BlockOf γ st.o m b := by
    intro n cs ho extra
    exact h.bound ho extra (w1 := w0) (own1 := X.own) (F := X.far) h.keep (fun b hb => ⟨.inr hb, fun ⟨ob, h1, h2⟩ => h.nr b ⟨n, ob, h1, h2⟩ hb, fun m _ ⟨ob, h1, h2⟩ => h.nr b ⟨m, ob, h1, h2⟩ hb, fun m _ ⟨ob, h1, h2⟩ => h.nr b ⟨m, ob, h1, h2⟩ hb⟩)
      (fun b hb => by
        rcases hb with ⟨ob, h1, h2⟩ | ⟨m, _, ob, h1, h2⟩
        · exact (h.lt b ⟨n, ob, h1, h2⟩).2
        · exact (h.lt b ⟨m, ob, h1, h2⟩).2)
  have hbP : ∀ {n b : Nat} {hs : List Nat}, (BlockOf γ st.o n b ∨ ∃ m ∈ hs, BlockOf γ st.o m b) → OwnedP γ st.o b := by
    rintro n b hs (⟨ob, h1, h2⟩ | ⟨m, _, ob, h1, h2⟩)
    · exact ⟨n, ob, h1, h2⟩
    · exact ⟨m, ob, h1, h2⟩
  unfold exitT at he
  split at he
  · rename_i s0 hb
    split at he
    · rename_i s hob
      simp only [Option.some.injEq, Prod.mk.injEq] at he
      obtain ⟨rfl, rfl⟩ := he
      obtain ⟨hR, hP⟩ := h.boundB hob (w1 := w0) (own1 := X.own) (F := X.far) h.keep (fun b hb => ⟨.inr hb, fun ⟨ob, h1, h2⟩ => h.nr b ⟨_, ob, h1, h2⟩ hb⟩) (fun b ⟨ob, h1, h2⟩ => (h.lt b ⟨_, ob, h1, h2⟩).2)
      have hmo : memOut (resV st.o ks v) [[.bld s]] = entO [.bld s] := by cases resV st.o ks v <;> rfl
      have hf := resV_free st.o ks v
      refine ⟨_, by rw [hmo]; exact hR, ?_, ?_⟩
      · rw [hmo, retV_free hf]
        refine resV_rel h hv (fun b _ hb => ?_) (fun m hm b hr hb => ?_) ks
        · exact hb.imp_left (fun hb => by obtain ⟨ob, h1, h2⟩ := hP b hb; exact ⟨_, ob, h1, h2⟩)
        · obtain ⟨e, ag, ks', l, q1, q2⟩ := hr
          rcases hb with hb | hb
          · obtain ⟨ob, h1, h2⟩ := hP b hb
            refine h.dis 900000 m ob _ b ?_ h1 q1 h2 q2
            rintro rfl
            rw [hob] at q1
            cases q1
          · exact h.nr b ⟨m, _, q1, q2⟩ hb
      · simp only [backOK, hb]
        exact ⟨hf, rfl, (h.pn p rfl _ hob).trans hp⟩
    · cases he
  · rename_i cs0 hnb hb
    split at he
    · rename_i cs hob
      simp only [Option.some.injEq, Prod.mk.injEq] at he
      obtain ⟨rfl, rfl⟩ := he
      obtain ⟨γb, hR, hg, hP⟩ := hbd hob (vRows v)
      have hmo : memOut (resV st.o ks v) [cs.map (cellB st.o (rowsIn cs ++ vRows v))] = entO (cs.map (cellB st.o (rowsIn cs ++ vRows v))) := by cases resV st.o ks v <;> rfl
      have hf := resV_free st.o ks v
      refine ⟨γb, by rw [hmo]; exact hR, ?_, ?_⟩
      · rw [hmo, retV_free hf]
        refine resV_rel h hv (fun b _ hb => hb.imp_left (fun hb => hbP (hP b hb))) (fun m hm b hr hb => ?_) ks
        rcases hb with hb | hb
        · exact not_handed h hob hm hr (hP b hb)
        · obtain ⟨e, ag, ks', l, q1, q2⟩ := hr
          exact h.nr b ⟨m, _, q1, q2⟩ hb
      · simp only [backOK, hb]
        refine ⟨hf, ?_, ?_⟩
        · unfold sameKind
          split
          · exact absurd rfl (hnb _)
          · exact absurd rfl (hnb _)
          · exact cellB_ok _ _ _
        · rw [hg]
          exact (h.pn p rfl _ hob).trans hp
    · cases he
  · rename_i hb
    have fin9 : ∀ v, VRel γ st.o w (Owned X γ st.o) v x → ∃ γ', Rel B.base 0 w0 X γ' ⟨[], memOut (resV st.o ks v) []⟩ act0 w ∧ VRel γ' (memOut (resV st.o ks v) []) w (Owned X γ' (memOut (resV st.o ks v) [])) (retV (resV st.o ks v)) x ∧ backOK vs (resV st.o ks v) [] g0 (γ' 900000) := by
      intro v hv
      have hf := resV_free st.o ks v
      have hmo : memOut (resV st.o ks v) [] = [] := by
        cases hx : resV st.o ks v <;> first | rfl | (rw [hx] at hf; simp only [freeV, freeL] at hf; cases hf)
      refine ⟨γ, ?_, ?_, ?_⟩
      · rw [hmo]
        refine ⟨rfl, rfl, fun i => by simp only [St.get, lkd, VRel], fun n ob hn => ?_, ?_, ?_, h.keep, ?_, h.fl, fun p hp => by cases hp⟩
        · simp only [objOf, lkd] at hn; cases hn
        · rintro b ⟨n, ob, hn, _⟩; simp only [objOf, lkd] at hn; cases hn
        · intro n m ob ob' b _ hn; simp only [objOf, lkd] at hn; cases hn
        · rintro b ⟨n, ob, hn, _⟩; simp only [objOf, lkd] at hn; cases hn
      · rw [hmo, retV_free hf]
        refine resV_rel h hv (fun b _ hb => ?_) (fun m hm b hr hb => ?_) ks
        · rcases hb with ⟨n, ob, hn, _⟩ | hb
          · simp only [objOf, lkd] at hn; cases hn
          · exact .inr hb
        · rcases hb with ⟨n, ob, hn, _⟩ | hb
          · simp only [objOf, lkd] at hn; cases hn
          · obtain ⟨e, ag, ks', l, q1, q2⟩ := hr
            exact h.nr b ⟨m, _, q1, q2⟩ hb
      · simp only [backOK, hb]
        cases hx : resV st.o ks v <;> first | (rw [hx] at hf; exact hf) | (rw [hx] at hf; simp only [freeV, freeL] at hf; cases hf)
    split at he
    · rename_i n i c
      split at he
      · rename_i cs hob hc
        simp only [Option.some.injEq, Prod.mk.injEq] at he
        obtain ⟨rfl, rfl⟩ := he
        obtain rfl := beq_eq'.1 hc
        obtain ⟨γb, hR, hg, hP⟩ := hbd hob []
        refine ⟨γb, hR, ?_, ?_⟩
        · simp only [VRel, hob] at hv
          simp only [memOut, retV, entV, VRel]
          rw [entO_one (cellB_ok _ _ _), objOf_cons, if_pos rfl, hg]
          exact ⟨trivial, hv.2⟩
        · simp only [backOK, hb, okR]
          exact cellB_ok _ _ _
      · cases he
    · rename_i n lo hi
      split at he
      · rename_i e ag ks' l hob
        split at he
        · rename_i hlo
          simp only [Option.some.injEq, Prod.mk.injEq] at he
          obtain ⟨rfl, rfl⟩ := he
          obtain rfl := beq_eq'.1 hlo
          obtain ⟨hpr, hpb⟩ := part_row (γ' := fun m => if m = 900000 then x else γ m) (o' := [(900000, some (Ob.row true e ag ks' (l.take hi)))]) h hob hv
          have hmo : memOut (.vec e ag ks' (l.take hi)) [] = [(900000, some (.row true e ag ks' (l.take hi)))] := rfl
          have obs : ∀ m ob, objOf [(900000, some (Ob.row true e ag ks' (l.take hi)))] m = some ob → m = 900000 ∧ ob = .row true e ag ks' (l.take hi) := fun m ob hn => by
            rw [objOf_cons] at hn
            split at hn
            · rename_i h9
              simp only [Option.some.injEq] at hn
              exact ⟨h9.symm, hn.symm⟩
            · simp [objOf, lkd] at hn
          have ownP : ∀ b, OwnedP (fun m => if m = 900000 then x else γ m) [(900000, some (Ob.row true e ag ks' (l.take hi)))] b → BlockOf γ st.o n b := by
            rintro b ⟨m, ob, hn, hb⟩
            obtain ⟨rfl, rfl⟩ := obs m ob hn
            exact hpb b (by simpa only [if_true] using hb)
          have hlt : ∀ b, BlockOf γ st.o n b → OwnedP γ st.o b := fun b ⟨ob, h1, h2⟩ => ⟨n, ob, h1, h2⟩
          have hO : ∀ b, b < w.heap.size → Owned X (fun m => if m = 900000 then x else γ m) [(900000, some (Ob.row true e ag ks' (l.take hi)))] b → Owned X γ st.o b := fun b _ hb => hb.imp_left (fun hb => hlt b (ownP b hb))
          rw [hmo]
          refine ⟨fun m => if m = 900000 then x else γ m, ⟨rfl, rfl, fun i => by simp only [St.get, lkd, VRel], fun m ob hn => ?_, fun b hb => h.lt b (hlt b (ownP b hb)), fun m m' ob ob' b hnm h1 h2 => ?_, h.keep, fun b hb => h.nr b (hlt b (ownP b hb)), h.fl, fun p hp => by cases hp⟩, ?_, ?_⟩
          · obtain ⟨rfl, rfl⟩ := obs m ob hn
            simp only [ObRel, if_true] at hpr ⊢
            obtain ⟨k1, k2, xs, k3, k4⟩ := hpr
            exact ⟨k1, k2, xs, k3, fun i y hy => Kd.RelAll.mono (Keep.refl _ w) hO (fun _ _ hu => hu) (k4 i y hy)⟩
          · obtain ⟨rfl, rfl⟩ := obs m ob h1
            obtain ⟨rfl, rfl⟩ := obs m' ob' h2
            exact absurd rfl hnm
          · simp only [retV, VRel, objOf_cons, if_true]
            refine ⟨Nat.le_refl _, ?_⟩
            simp only [VRel, hob] at hv
            obtain ⟨hl, p, len, cap, p', hgm, hxx, _, h22, h33, hm4, _, h5⟩ := hv
            have htl : (l.take hi).length = hi := by rw [List.length_take, Nat.min_eq_left hl]
            rw [htl]
            rw [Nat.sub_zero, Nat.sub_zero] at hxx
            refine ⟨p', hi, cap, p', hxx, by rw [hxx]; simp, Nat.zero_le _, Nat.le_refl _, by omega, hm4, .inl ?_, fun _ => rfl⟩
            cases p' <;> simp [Addr.add]
          · simp only [backOK, hb, okR]
        · cases he
      · simp only [Option.some.injEq, Prod.mk.injEq] at he
        obtain ⟨rfl, rfl⟩ := he
        exact fin9 _ hv
    · rename_i hnp
      simp only [Option.some.injEq, Prod.mk.injEq] at he
      obtain ⟨rfl, rfl⟩ := he
      exact fin9 _ hv

theorem enterT_get : ∀ (vs : List V) (i j : Nat), lkd .any (enterT i vs) j = if i ≤ j ∧ j < i + vs.length then entV (vs.getD (j - i) .any) else .any
  | [], i, j => by
    rw [if_neg (by simp only [List.length_nil]; omega)]
    rfl
  | v :: r, i, j => by
    simp only [enterT, lkd_cons, enterT_get r (i + 1) j, List.length_cons]
    by_cases e : i = j
    · subst e
      simp
    · rw [if_neg e]
      by_cases h : i + 1 ≤ j ∧ j < i + 1 + r.length
      · rw [if_pos h, if_pos (by omega), show j - i = (j - (i + 1)) + 1 by omega]
        simp
      · rw [if_neg h, if_neg (by omega)]

theorem resT_run (hT : TiOK P B E) {w : World} : ∀ {rs : List ResultVar} {l : List V}, resT E st rs = some l → Rel B nt w0 X γ st a w →
    ∃ xs : List Value, (rs.mapM fun r => match r with | .tmp t => pure (a.tmps.getD t undef) | .cell ad t => do loadVar t (← asAddr (a.tmps.getD ad undef)) : Sem (List Value)).run P w = .ok xs w ∧ VRels γ st.o w (Owned X γ st.o) l xs
  | [], l, h, hR => by
    simp only [resT, Option.some.injEq] at h
    subst h
    exact ⟨[], by simp, by simp only [VRels]⟩
  | .tmp t :: r, l, h, hR => by
    simp only [resT] at h
    split at h
    · rename_i l' hl'
      simp only [Option.some.injEq] at h
      subst h
      obtain ⟨xs, h1, h2⟩ := resT_run hT hl' hR
      refine ⟨a.tmps.getD t undef :: xs, ?_, ?_⟩
      · simp only [List.mapM_cons, Sem.run_bind, Sem.run_pure, Result.andThen_ok, h1]
      · simp only [VRels]
        exact ⟨hR.tm t, h2⟩
    · cases h
  | .cell ad t :: r, l, h, hR => by
    simp only [resT] at h
    split at h
    · rename_i n i c hop
      split at h
      · rename_i cs hob
        split at h
        · rename_i v l' hv hl'
          simp only [Option.some.injEq] at h
          subst h
          obtain ⟨xs, h1, h2⟩ := resT_run hT hl' hR
          have hx := hR.tm ad
          rw [hop] at hx
          simp only [VRel, hob] at hx
          obtain ⟨_, b, hg, hx⟩ := hx
          have hor := hR.ob n _ hob
          simp only [ObRel] at hor
          obtain ⟨b', cs', T, hg', hh, hr⟩ := hor
          rw [hg] at hg'
          simp only [Value.pointer.injEq, Option.some.injEq, Addr.mk.injEq, and_true] at hg'
          subst hg'
          obtain ⟨y, hy, hr'⟩ := ldBox_run (hT.known (ldBox_known hv)) hv hh hr
          refine ⟨y :: xs, ?_, ?_⟩
          · have hy' : (do loadVar t (← asAddr (a.tmps.getD ad undef)) : Sem Value).run P w = .ok y w := by
              rw [hx]
              exact hy
            simp only [Sem.run_bind] at hy'
            simp only [List.mapM_cons, Sem.run_bind, hy', Sem.run_pure, Result.andThen_ok, h1]
          · simp only [VRels]
            exact ⟨hr', h2⟩
        · cases h
      · cases h
    · cases h

/-- A function's contract: its run. -/
theorem evFun_snd {f : FuncId} {fn : Func} {code : Code} (hf : P.funcs[f]? = some fn) (hn : (fn.name == "runtime.NumGoroutine") = false) (hb : fn.body = some code) (hnt : E.nt = fn.ntmps) (hn9 : Nat.ble fn.ntmps 900000 = true) {rs : List ResultVar} (hrs : fn.results.toList = rs)
    (rks : List (List Kd)) (hm : P.follows .mixedOrders = true) (hT : TiOK P B E) (hE : ∀ t, t ∈ E.eqs → EqSnd P t (E.tyd t).ks) (hSp : ∀ f sp, lk E.sp f = some sp → Snd P B f (fun vs => (sp vs).get)) (hIp : ∀ f p, lk E.ip f = some p → IpSnd P f p) (hB : BldOK P B E) : Snd P B f (evFun E code rs rks) := by
  intro w X γ vs xs r out hsp hgl hxo hR hV
  unfold evFun at hsp
  split at hsp
  case h_2 => cases hsp
  rename_i hle
  have hle' := Nat.le_of_ble_eq_true hle
  have hlen : xs.length = vs.length := by rw [← hV.length, List.length_map]
  refine Does.enter hf hn (by rw [hb]; rfl) (calls_of_wp hf hb ?_)
  let B' : BT := ⟨B.T, B.e, some (addrOf (γ 900000)), B.ng, B.F⟩
  have hT' : TiOK P B' E := fun t x ht => ⟨(hT t x ht).info, (hT t x ht).ks, (hT t x ht).by1, (hT t x ht).one, (hT t x ht).und⟩
  have hSp' : SpOK P B' E w X := ⟨⟨hgl, hxo⟩, fun f sp hfs => hSp f sp hfs, hIp⟩
  have hB' : BldOK P B' E := hB
  have hstart : Rel B' fn.ntmps w X γ ⟨enterT 0 vs, memIn vs⟩ { tmps := xs.toArray ++ Array.replicate (fn.ntmps - xs.toArray.size) undef, defers := [] } w := by
    refine ⟨?_, rfl, fun i => ?_, fun n ob hnob => ?_, hR.lt, hR.dis, hR.keep, hR.nr, hR.fl, fun p hp ob _ => ?_⟩
    · simp
      omega
    · simp only [St.get, enterT_get]
      split
      · rename_i hi
        have hi' : i < vs.length := by omega
        have h1 : (vs.map entV)[i]? = some (entV vs[i]) := by simp [hi']
        obtain ⟨x, hx, hvx⟩ := hV.get h1
        have h2 : vs.getD (i - 0) .any = vs[i] := by simp [hi']
        rw [h2]
        have h3 : (xs.toArray ++ Array.replicate (fn.ntmps - xs.toArray.size) undef).getD i undef = x := by
          rw [Array.getD_eq_getD_getElem?, Array.getElem?_append_left (by simp; omega)]
          simp [hx]
        simp only [h3]
        exact hvx
      · simp only [VRel]
    · have := hR.ob n ob hnob
      cases ob with
      | box l => simpa only [ObRel] using this
      | row own e ag ks l => cases own <;> simpa only [ObRel] using this
      | bld s => simpa only [ObRel, BT.base] using this
    · simp only [B', Option.some.injEq] at hp
      exact hp
  refine evG_run hT' hE hSp' hB' hnt (Nat.le_of_ble_eq_true hn9) hm code hsp hstart (fun o γ' st' a' w' h' hk' => ?_)
  have fin : ∀ l, resT E st' rs = some l → exitT st'.o rks (borOf vs) (resO l) = some (r, out) → bodyPost P fn (fun e w' => ∃ x, e = .returned x ∧ ∃ γ', Rel B.base 0 w X γ' ⟨[], memOut r out⟩ act0 w' ∧ VRel γ' (memOut r out) w' (Owned X γ' (memOut r out)) (retV r) x ∧ backOK vs r out (γ 900000) (γ' 900000)) .ret a' w' := by
    intro l hl he
    obtain ⟨ys, hy1, hy2⟩ := resT_run (P := P) hT' hl h'
    have hval : (results fn a'.tmps).run P w' = .ok (if h : ys.toArray.size = 1 then ys.toArray[0] else .tuple ys.toArray) w' := by
      unfold results
      rw [show fn.results = rs.toArray by rw [← hrs]]
      rw [Array.mapM_eq_mapM_toList]
      simp only [Sem.run_bind, Sem.run_map]
      erw [hy1]
      rfl
    have hrel : VRel γ' st'.o w' (Owned X γ' st'.o) (resO l) (if h : ys.toArray.size = 1 then ys.toArray[0] else .tuple ys.toArray) := by
      match l, ys, hy2 with
      | [], [], _ => simp only [resO, VRel]; exact ⟨#[], by simp, by simp only [VRels]⟩
      | [v], [y], h2 => simp only [VRels] at h2; simpa [resO] using h2.1
      | v :: v' :: l, y :: y' :: ys, h2 => simp only [resO, VRel]; exact ⟨(y :: y' :: ys).toArray, by simp, by simpa using h2⟩
    obtain ⟨γ2, q1, q2, q3⟩ := exit_run (B := B) h' hrel he rfl
    exact ⟨h'.df, _, hval, _, rfl, γ2, q1, q2, q3⟩
  cases o with
  | exit i => simp [outT] at hk'
  | normal =>
    simp only [outT] at hk'
    split at hk'
    · rename_i l hl
      exact fin l hl hk'
    · cases hk'
  | ret =>
    simp only [outT] at hk'
    split at hk'
    · rename_i l hl
      exact fin l hl hk'
    · cases hk'

end
end Go.FM

/-
  THE SMALL MACHINE (33): a program's tables, by reckoning: types, types whose values may be compared; contracts put together.
-/
namespace Go.FM
open Go Go.RowKit

/-! ### the type table -/
def zB : V → Value → Bool
  | .int k n, .int k' n' => k == k' && (n == n' && intOK k n)
  | .bool b, .bool c => b == c
  | .str s, .string s' => s.size == 0 && s'.size == 0
  | .zs, .slice none 0 0 => true
  | .nilp, .pointer none => true
  | .err true, .nilIface => true
  | .any, _ => true
  | _, _ => false
def zBs : List V → List Value → Bool
  | [], [] => true
  | v :: vs, x :: xs => zB v x && zBs vs xs
  | _, _ => false

def dB (P : Program) (T t : Nat) (ks : List Kd) : TD → TypeDesc → Bool
  | .slice e, .slice e' => e == e'
  | .struct fs, .struct fields => fs == fields.toList.map (fun f => (f.offset, f.type)) && fields.toList.all (fun f => (P.info? f.type).isSome)
  | .array n e, .array n' e' => n == n' && e == e'
  | .ptr e, .pointer e' => e == e'
  | .bld, _ => t == T
  | .iface, .interface _ => true
  | .leaf, d => match ks with
    | [.int k] => (match d with | .int k' => k == k' | _ => false)
    | [.str] => (match d with | .string => true | _ => false)
    | [.bool] => (match d with | .bool => true | _ => false)
    | _ => true
  | _, _ => false

def tiB (P : Program) (T t : Nat) (x : TI) : Bool :=
  match P.info? t, P.underlying t with
  | some i, some d => match i.zero with
    | some z => i.size == x.size && (i.bytes == x.bytes && (z.cells.size == x.size && (zBs x.zero z.cells.toList && (x.ks.length == x.size && (Nat.ble 1 x.bytes && ((x.agg || x.size == 1) && (d.isRow == x.agg && dB P T t x.ks x.d d)))))))
    | none => false
  | _, _ => false

def tisB (P : Program) (T : Nat) : List (Nat × TI) → Bool
  | [] => true
  | (t, x) :: r => tiB P T t x && tisB P T r

theorem zB_rel {γ : Nat → Value} {o : Store} {w : World} {O : Nat → Prop} {v : V} {x : Value} (h : zB v x = true) : VRel γ o w O v x := by
  unfold zB at h
  split at h
  · simp only [Bool.and_eq_true, beq_iff_eq, intOK, decide_eq_true_eq] at h
    obtain ⟨rfl, rfl, h1, h2⟩ := h
    simp only [VRel]
    exact ⟨trivial, h1, h2⟩
  · simp only [beq_iff_eq] at h
    subst h
    simp only [VRel]
  · rename_i s s'
    simp only [Bool.and_eq_true, beq_iff_eq] at h
    have e : ∀ s : ByteArray, s.size = 0 → s = ByteArray.empty := fun s hs => by
      obtain ⟨⟨l⟩⟩ := s
      cases l with
      | nil => rfl
      | cons a l => simp [ByteArray.size] at hs
    simp only [VRel]
    rw [e s h.1, e s' h.2]
    exact ⟨rfl, by simp [ByteArray.size_empty]⟩
  · simp only [VRel]
  · simp only [VRel]
  · simp only [VRel]
  · simp only [VRel]
  · cases h
theorem zBs_rel {γ : Nat → Value} {o : Store} {w : World} {O : Nat → Prop} : ∀ {l : List V} {xs : List Value}, zBs l xs = true → VRels γ o w O l xs
  | [], [], _ => by simp only [VRels]
  | [], _ :: _, h => by simp [zBs] at h
  | _ :: _, [], h => by simp [zBs] at h
  | v :: vs, x :: xs, h => by
    simp only [zBs, Bool.and_eq_true] at h
    simp only [VRels]
    exact ⟨zB_rel h.1, zBs_rel h.2⟩

theorem tiB_snd {P : Program} {B : BT} {t : Nat} {x : TI} (h : tiB P B.T t x = true) : TISnd P B t x := by
  unfold tiB at h
  split at h
  · rename_i i d hi hd
    split at h
    · rename_i z hz
      simp only [Bool.and_eq_true, beq_iff_eq, Bool.or_eq_true] at h
      obtain ⟨h1, h2, h3, h4, h5, h6, h7, h8, h9⟩ := h
      refine ⟨⟨i, z, hi, h1, h2, hz, h3, fun γ o w O => zBs_rel h4⟩, h5, Nat.le_of_ble_eq_true h6, fun ha => by rw [ha] at h7; simpa using h7, ⟨d, hd, h8, ?_⟩⟩
      cases hx : x.d with
      | slice e => rw [hx] at h9; cases d <;> simp only [dB] at h9 <;> first | (cases h9; done) | (simp only [beq_iff_eq] at h9; subst h9; rfl)
      | struct fs =>
        rw [hx] at h9
        cases d <;> simp only [dB] at h9 <;> first | (cases h9; done) | skip
        rename_i fields
        simp only [Bool.and_eq_true, beq_iff_eq, List.all_eq_true] at h9
        exact ⟨fields, rfl, h9.1, h9.2⟩
      | array n e =>
        rw [hx] at h9
        cases d <;> simp only [dB] at h9 <;> first | (cases h9; done) | skip
        simp only [Bool.and_eq_true, beq_iff_eq] at h9
        obtain ⟨rfl, rfl⟩ := h9
        rfl
      | ptr e => rw [hx] at h9; cases d <;> simp only [dB] at h9 <;> first | (cases h9; done) | (simp only [beq_iff_eq] at h9; subst h9; rfl)
      | bld => rw [hx] at h9; simp only [dB, beq_iff_eq] at h9; exact h9
      | iface => rw [hx] at h9; cases d <;> simp only [dB] at h9 <;> first | (cases h9; done) | exact ⟨_, rfl⟩
      | leaf =>
        rw [hx] at h9
        refine ⟨fun k hk => ?_, fun hk => ?_, fun hk => ?_⟩ <;> rw [hk] at h9 <;> cases d <;> simp only [dB] at h9 <;> first | (cases h9; done) | (simp only [beq_iff_eq] at h9; subst h9; rfl) | rfl
    · cases h
  · cases h

theorem tisB_ok {P : Program} {B : BT} {E : Env} {ti : List (Nat × TI)} (he : E.ti = ti) (h : tisB P B.T ti = true) : TiOK P B E := by
  subst he
  have key : ∀ (l : List (Nat × TI)), tisB P B.T l = true → ∀ t x, lk l t = some x → tiB P B.T t x = true := by
    intro l
    induction l with
    | nil => intro _ t x hx; simp [lk] at hx
    | cons p r ih =>
      obtain ⟨j, y⟩ := p
      intro hl t x hx
      simp only [tisB, Bool.and_eq_true] at hl
      simp only [lk] at hx
      split at hx
      · rename_i hb
        simp only [Option.some.injEq] at hx
        subst hx
        rw [← beq_eq'.1 hb]
        exact hl.1
      · exact ih hl.2 t x hx
  exact fun t x ht => tiB_snd (key E.ti h t x ht)

/-! ### values that may be compared -/
def sizeIs (P : Program) (t w : Nat) : Bool := match P.info? t with | some _ => P.cellsOf t == w | none => false

def repK (ks : List Kd) : Nat → List Kd
  | 0 => []
  | n + 1 => ks ++ repK ks n

def eqFs (P : Program) (g : Nat → Option (List Kd)) : List Field → Nat → Option (List Kd)
  | [], _ => some []
  | f :: r, o => match g f.type with
    | some ks => match f.name != "_" && (f.offset == o && sizeIs P f.type ks.length) with
      | true => match eqFs P g r (o + ks.length) with
        | some ks' => some (ks ++ ks')
        | none => none
      | false => none
    | none => none
def eqW (P : Program) : Nat → Nat → Option (List Kd)
  | 0, _ => none
  | d + 1, t => match P.underlying t with
    | some (.int k) => some [.int k]
    | some .bool => some [.bool]
    | some (.struct fs) => match P.stoodInHeld t with
      | true => none
      | false => eqFs P (eqW P d) fs.toList 0
    | some (.array n e) => match eqW P d e with
      | some ks => match sizeIs P e ks.length with
        | true => some (repK ks n)
        | false => none
      | none => none
    | _ => none

def eqsB (P : Program) (ti : List (Nat × TI)) : List Nat → Bool
  | [] => true
  | t :: r => (!(P.eqGuardType P.depth t)) && ((match P.underlying t with | some d => d.isRow | none => false) && (match eqW P 10 t with | some ks => kdEq.kdsEq (lkd TI.none ti t).ks ks | none => false)) && eqsB P ti r

theorem kMatch_length : ∀ {ks : List Kd} {l : List V}, kMatch ks l = true → l.length = ks.length
  | [], [], _ => rfl
  | [], _ :: _, h => by simp [kMatch] at h
  | k :: _, [], h => by cases k <;> simp [kMatch] at h
  | k :: ks, v :: l, h => by
    cases k <;> cases v <;> simp only [kMatch] at h <;> try (cases h; done)
    · split at h
      · simp [kMatch_length h]
      · cases h
    · simp [kMatch_length h]
theorem kMatch_split : ∀ {ks ks' : List Kd} {l : List V}, kMatch (ks ++ ks') l = true → kMatch ks (l.take ks.length) = true ∧ kMatch ks' (l.drop ks.length) = true
  | [], _, _, h => ⟨rfl, h⟩
  | k :: ks, ks', [], h => by cases k <;> simp [kMatch] at h
  | k :: ks, ks', v :: l, h => by
    cases k <;> cases v <;> simp only [List.cons_append, kMatch] at h <;> try (cases h; done)
    · split at h
      · rename_i hk
        obtain ⟨h1, h2⟩ := kMatch_split h
        simp only [List.length_cons, List.take_succ_cons, List.drop_succ_cons, kMatch, hk]
        exact ⟨h1, h2⟩
      · cases h
    · obtain ⟨h1, h2⟩ := kMatch_split h
      simp only [List.length_cons, List.take_succ_cons, List.drop_succ_cons, kMatch]
      exact ⟨h1, h2⟩

theorem eqVs_split : ∀ {a a' : List V} {b b' : List V} {c : Bool}, a.length = a'.length → eqVs (a ++ b) (a' ++ b') = some c → ∃ c1 c2, eqVs a a' = some c1 ∧ eqVs b b' = some c2 ∧ c = (c1 && c2)
  | [], [], b, b', c, _, h => ⟨true, c, rfl, h, by simp⟩
  | [], _ :: _, _, _, _, hl, _ => by simp at hl
  | _ :: _, [], _, _, _, hl, _ => by simp at hl
  | x :: a, y :: a', b, b', c, hl, h => by
    have hl' : a.length = a'.length := by simpa using hl
    cases x <;> cases y <;> simp only [List.cons_append, eqVs] at h ⊢ <;> try (cases h; done)
    · split at h
      · rename_i hk
        split at h
        · rename_i c0 h0
          simp only [Option.some.injEq] at h
          obtain ⟨c1, c2, h1, h2, h3⟩ := eqVs_split hl' h0
          rw [h1]
          exact ⟨_, c2, rfl, h2, by rw [← h, h3, Bool.and_assoc]⟩
        · cases h
      · cases h
    · split at h
      · rename_i c0 h0
        simp only [Option.some.injEq] at h
        obtain ⟨c1, c2, h1, h2, h3⟩ := eqVs_split hl' h0
        rw [h1]
        exact ⟨_, c2, rfl, h2, by rw [← h, h3, Bool.and_assoc]⟩
      · cases h

theorem eqVs_length : ∀ {a a' : List V} {c : Bool}, eqVs a a' = some c → a.length = a'.length
  | [], [], _, _ => rfl
  | [], _ :: _, _, h => by simp [eqVs] at h
  | x :: _, [], _, h => by cases x <;> simp [eqVs] at h
  | x :: a, y :: a', c, h => by
    cases x <;> cases y <;> simp only [eqVs] at h <;> try (cases h; done)
    · split at h
      · split at h
        · rename_i h0
          simp [eqVs_length h0]
        · cases h
      · cases h
    · split at h
      · rename_i h0
        simp [eqVs_length h0]
      · cases h

section
variable {P : Program} {γ : Nat → Value} {o : Store} {w : World} {O : Nat → Prop}

/-- A value of a type: a row of cells, or one. -/
def CellsR (P : Program) (γ : Nat → Value) (o : Store) (w : World) (O : Nat → Prop) (t : Nat) (l : List V) (x : Value) : Prop :=
  match P.underlying t with
  | some d => match d.isRow with
    | true => ∃ xs, x = .agg xs ∧ VRels γ o w O l xs.toList
    | false => ∃ v, l = [v] ∧ VRel γ o w O v x
  | none => False

theorem eqW_row {d t : Nat} {ks : List Kd} (h : eqW P d t = some ks) : ∃ k, P.underlying t = some k ∧ (k.isRow = false → ks.length = 1) := by
  cases d with
  | zero => simp [eqW] at h
  | succ d =>
    simp only [eqW] at h
    split at h
    · rename_i hu; simp only [Option.some.injEq] at h; exact ⟨_, hu, fun _ => by rw [← h]; rfl⟩
    · rename_i hu; simp only [Option.some.injEq] at h; exact ⟨_, hu, fun _ => by rw [← h]; rfl⟩
    · rename_i hu; exact ⟨_, hu, fun h => by simp [TypeDesc.isRow] at h⟩
    · rename_i hu; exact ⟨_, hu, fun h => by simp [TypeDesc.isRow] at h⟩
    · cases h

theorem cellsR_part {t n off : Nat} {l : List V} {xs : Array Value} (hu : ∃ k, P.underlying t = some k ∧ (k.isRow = false → n = 1)) (hs : sizeIs P t n = true) (hr : VRels γ o w O l xs.toList) (hl : off + n ≤ l.length) (W : World) :
    ∃ y, (part t xs off).run P W = .ok y W ∧ CellsR P γ o w O t ((l.drop off).take n) y := by
  obtain ⟨k, hu, hn⟩ := hu
  unfold sizeIs at hs
  split at hs
  · rename_i i hi
    simp only [beq_iff_eq] at hs
    cases hrow : k.isRow with
    | true =>
      refine ⟨.agg (xs.extract off (off + n)), ?_, ?_⟩
      · cases k <;> simp [TypeDesc.isRow] at hrow <;> simp [part, isAgg, run_underlying hu, run_sizeOf W hi, hs]
      · unfold CellsR
        rw [hu]
        simp only [hrow]
        refine ⟨_, rfl, ?_⟩
        have : (xs.extract off (off + n)).toList = (xs.toList.drop off).take n := by
          simp [List.extract_eq_take_drop]
        rw [this]
        exact (hr.drop off).take n
    | false =>
      obtain rfl := hn hrow
      obtain ⟨v, hv⟩ : ∃ v, l[off]? = some v := ⟨l[off]'(by omega), List.getElem?_eq_getElem _⟩
      obtain ⟨y, hy, hyr⟩ := hr.get hv
      have hy' : xs[off]? = some y := by simpa using hy
      refine ⟨y, ?_, ?_⟩
      · cases k <;> simp [TypeDesc.isRow] at hrow <;> simp [part, isAgg, run_underlying hu, hy']
      · unfold CellsR
        rw [hu]
        simp only [hrow]
        refine ⟨v, ?_, hyr⟩
        rw [List.take_one, List.head?_drop, hv]
        rfl
  · cases hs

def EqRun (P : Program) (γ : Nat → Value) (o : Store) (w : World) (O : Nat → Prop) (dd t : Nat) (ks : List Kd) : Prop := ∀ (W : World) (x y : Value) (l l' : List V) (c : Bool), kMatch ks l = true → CellsR P γ o w O t l x → CellsR P γ o w O t l' y → eqVs l l' = some c → (Op.equalIn dd t x y).run P W = .ok c W

theorem take_drop_split (l : List V) (off n : Nat) : l.drop off = (l.drop off).take n ++ l.drop (off + n) := by
  rw [← List.drop_drop]; exact (List.take_append_drop n (l.drop off)).symm

theorem eqFields_run {dd : Nat} {g : Nat → Option (List Kd)} (hg : ∀ t ks, g t = some ks → EqRun P γ o w O dd t ks ∧ ∃ k, P.underlying t = some k ∧ (k.isRow = false → ks.length = 1)) {xs ys : Array Value} {l l' : List V} (hx : VRels γ o w O l xs.toList) (hy : VRels γ o w O l' ys.toList) (hll : l.length = l'.length) (W : World) :
    ∀ (fs : List Field) (off : Nat) {ks : List Kd} {c : Bool}, off ≤ l.length → eqFs P g fs off = some ks → kMatch ks (l.drop off) = true → eqVs (l.drop off) (l'.drop off) = some c → (Op.eqFields dd xs ys fs).run P W = .ok c W
  | [], off, ks, c, hoff, hf, hk, he => by
    simp only [eqFs, Option.some.injEq] at hf
    subst hf
    have h0 := kMatch_length hk
    have h1 : l.drop off = [] := List.length_eq_zero_iff.1 h0
    have h2 : l'.drop off = [] := by
      have := eqVs_length he
      rw [h1] at this
      exact List.length_eq_zero_iff.1 this.symm
    rw [h1, h2] at he
    simp only [eqVs, Option.some.injEq] at he
    subst he
    simp [Op.eqFields]
  | f :: r, off, ks, c, hoff, hf, hk, he => by
    simp only [eqFs] at hf
    split at hf
    · rename_i ks1 hw
      split at hf
      · rename_i hb
        split at hf
        · rename_i ks2 hf2
          simp only [Option.some.injEq] at hf
          subst hf
          simp only [Bool.and_eq_true, beq_iff_eq, bne_iff_ne, ne_eq] at hb
          obtain ⟨hn, ho, hs⟩ := hb
          obtain ⟨hrun, hu⟩ := hg _ _ hw
          obtain ⟨hk1, hk2⟩ := kMatch_split hk
          rw [List.drop_drop] at hk2
          have hkl := kMatch_length hk
          simp only [List.length_drop, List.length_append] at hkl
          have hle : off + ks1.length ≤ l.length := by omega
          rw [take_drop_split l off ks1.length, take_drop_split l' off ks1.length] at he
          obtain ⟨c1, c2, h1, h2, h3⟩ := eqVs_split (by simp; omega) he
          obtain ⟨a, ha, hac⟩ := cellsR_part (off := off) hu hs hx hle W
          obtain ⟨b, hb, hbc⟩ := cellsR_part (off := off) hu hs hy (by omega) W
          have he1 := hrun W a b _ _ c1 hk1 hac hbc h1
          have ih := eqFields_run hg hx hy hll W r (off + ks1.length) hle hf2 hk2 h2
          simp only [Op.eqFields, hn, ne_eq, not_false_eq_true, if_true, Sem.run_bind, ho, ha, hb, he1, Result.andThen_ok]
          subst h3
          cases c1
          · simp
          · simpa using ih
        · cases hf
      · cases hf
    · cases hf

theorem eqItems_run {dd e : Nat} {ks : List Kd} (hrun : EqRun P γ o w O dd e ks) (hu : ∃ k, P.underlying e = some k ∧ (k.isRow = false → ks.length = 1)) (hs : sizeIs P e ks.length = true) {xs ys : Array Value} {l l' : List V} (hx : VRels γ o w O l xs.toList) (hy : VRels γ o w O l' ys.toList) (hll : l.length = l'.length) (W : World) :
    ∀ (m i : Nat) {c : Bool}, i * ks.length + m * ks.length = l.length → kMatch (repK ks m) (l.drop (i * ks.length)) = true → eqVs (l.drop (i * ks.length)) (l'.drop (i * ks.length)) = some c → (Op.eqItems dd e ks.length xs ys (List.range' i m)).run P W = .ok c W
  | 0, i, c, hl, hk, he => by
    rw [List.drop_of_length_le (by omega), List.drop_of_length_le (by omega)] at he
    simp only [eqVs, Option.some.injEq] at he
    subst he
    simp [Op.eqItems]
  | m + 1, i, c, hl, hk, he => by
    rw [Nat.add_mul, Nat.one_mul] at hl
    obtain ⟨hk1, hk2⟩ := kMatch_split (ks := ks) (ks' := repK ks m) hk
    rw [List.drop_drop] at hk2
    rw [take_drop_split l (i * ks.length) ks.length, take_drop_split l' (i * ks.length) ks.length] at he
    obtain ⟨c1, c2, h1, h2, h3⟩ := eqVs_split (by simp; omega) he
    obtain ⟨a, ha, hac⟩ := cellsR_part (off := i * ks.length) hu hs hx (by omega) W
    obtain ⟨b, hb, hbc⟩ := cellsR_part (off := i * ks.length) hu hs hy (by omega) W
    have he1 := hrun W a b _ _ c1 hk1 hac hbc h1
    have ih := eqItems_run hrun hu hs hx hy hll W m (i + 1) (by rw [Nat.add_mul, Nat.one_mul]; omega) (by rw [Nat.add_mul, Nat.one_mul]; exact hk2) (by rw [Nat.add_mul, Nat.one_mul]; exact h2)
    simp only [List.range'_succ, Op.eqItems, Sem.run_bind, ha, hb, he1, Result.andThen_ok]
    subst h3
    cases c1
    · simp
    · simpa using ih

theorem repK_length (ks : List Kd) : ∀ n, (repK ks n).length = n * ks.length
  | 0 => by simp [repK]
  | n + 1 => by simp only [repK, List.length_append, repK_length ks n, Nat.add_mul, Nat.one_mul]; omega

theorem eqW_run (dd : Nat) : ∀ (d t : Nat) (ks : List Kd), eqW P d t = some ks → EqRun P γ o w O (dd + d) t ks
  | 0, t, ks, h => by simp [eqW] at h
  | d + 1, t, ks, h => by
    intro W x y l l' c hk hx hy he
    have hll := eqVs_length he
    simp only [eqW] at h
    unfold CellsR at hx hy
    split at h
    · rename_i k hu
      simp only [Option.some.injEq] at h
      subst h
      rw [hu] at hx hy
      simp only at hx hy
      obtain ⟨v, rfl, hx⟩ := hx
      obtain ⟨v', rfl, hy⟩ := hy
      cases v <;> simp only [kMatch] at hk <;> try (cases hk; done)
      cases v' <;> simp only [eqVs] at he <;> try (cases he; done)
      simp only [VRel] at hx hy
      obtain ⟨rfl, _⟩ := hx
      obtain ⟨rfl, _⟩ := hy
      split at he
      · rename_i hkk
        simp only [Option.some.injEq, Bool.and_true] at he
        have hkk := eq_of_beq hkk
        subst hkk
        rw [show dd + (d + 1) = (dd + d) + 1 from rfl, run_equalIn_int W _ t _ k _ _ hu, he]
      · cases he
    · rename_i hu
      simp only [Option.some.injEq] at h
      subst h
      rw [hu] at hx hy
      simp only at hx hy
      obtain ⟨v, rfl, hx⟩ := hx
      obtain ⟨v', rfl, hy⟩ := hy
      cases v <;> simp only [kMatch] at hk <;> try (cases hk; done)
      cases v' <;> simp only [eqVs] at he <;> try (cases he; done)
      simp only [VRel] at hx hy
      subst hx; subst hy
      simp only [Option.some.injEq, Bool.and_true] at he
      rw [show dd + (d + 1) = (dd + d) + 1 from rfl, run_equalIn_bool W _ t _ _ hu, he]
    · rename_i fs hu
      rw [hu] at hx hy
      simp only at hx hy
      obtain ⟨xs, rfl, hx⟩ := hx
      obtain ⟨ys, rfl, hy⟩ := hy
      split at h
      · cases h
      · rename_i hst
        have hfs : P.fieldsOf t = fs := by simp [Program.fieldsOf, hu]
        rw [show dd + (d + 1) = (dd + d) + 1 from rfl, run_equalIn_struct W (dd + d) t xs ys (by rw [hfs]; exact hu) hst, hfs]
        exact eqFields_run (fun t ks ht => ⟨eqW_run dd d t ks ht, eqW_row ht⟩) hx hy hll W fs.toList 0 (Nat.zero_le _) h hk he
    · rename_i m e hu
      rw [hu] at hx hy
      simp only at hx hy
      obtain ⟨xs, rfl, hx⟩ := hx
      obtain ⟨ys, rfl, hy⟩ := hy
      split at h
      · rename_i ks1 hw
        split at h
        · rename_i hs
          simp only [Option.some.injEq] at h
          subst h
          have hs' := hs
          unfold sizeIs at hs'
          split at hs'
          · rename_i i hi
            simp only [beq_iff_eq] at hs'
            have hkl := kMatch_length hk
            rw [repK_length] at hkl
            rw [show dd + (d + 1) = (dd + d) + 1 from rfl, run_equalIn_array W (dd + d) xs ys hu hi, hs', List.range_eq_range']
            exact eqItems_run (eqW_run dd d e ks1 hw) (eqW_row hw) hs hx hy hll W m 0 (by omega) (by simpa using hk) (by simpa using he)
          · cases hs'
        · cases h
      · cases h
    · cases h
end

theorem eqsB_ok {P : Program} {E : Env} {ti : List (Nat × TI)} (hti : E.ti = ti) {l : List Nat} (h : eqsB P ti l = true) : ∀ t, t ∈ l → EqSnd P t (E.tyd t).ks := by
  induction l with
  | nil => intro t ht; cases ht
  | cons t r ih =>
    intro t' ht'
    simp only [eqsB, Bool.and_eq_true, Bool.not_eq_true'] at h
    rcases List.mem_cons.1 ht' with e | e
    · subst e
      refine ⟨h.1.1, fun γ o w w' O l l' xs ys c hk hc hx hy => ?_⟩
      obtain ⟨⟨_, h2, h3⟩, _⟩ := h
      split at h3
      · rename_i ks hn
        have hks : (E.tyd t').ks = ks := by
          unfold Env.tyd
          rw [hti]
          exact kdsEq_eq h3
        rw [hks] at hk
        split at h2
        · rename_i k hk2
          have hcx : ∀ {l : List V} {xs : Array Value}, VRels γ o w O l xs.toList → CellsR P γ o w O t' l (.agg xs) := fun hx => by
            unfold CellsR
            rw [hk2]
            simp only [h2]
            exact ⟨_, rfl, hx⟩
          exact eqW_run (P := P) (γ := γ) (o := o) (w := w) (O := O) 9990 10 t' ks hn w' (.agg xs) (.agg ys) l l' c hk (hcx hx) (hcx hy) hc
        · cases h2
      · cases h3
    · exact ih h.2 t' e
end Go.FM

/-
  THE SMALL MACHINE (34): contracts put together.
-/
namespace Go.FM
open Go Go.RowKit

theorem Snd.mono {P : Program} {B : BT} {f : FuncId} {sp sp' : Spec} (h : Snd P B f sp) (hs : ∀ vs r, sp' vs = some r → sp vs = some r) : Snd P B f sp' :=
  fun w X γ vs xs r out hsp => h w X γ vs xs r out (hs vs _ hsp)

/-- Contracts by tests. -/
def SndR (P : Program) (B : BT) (f : FuncId) (sp : RSpec) : Prop := Snd P B f (fun vs => (sp vs).get)

/-! ### what every argument keeps -/
mutual
def wfK : Kd → IV → Prop
  | .int k, x => k.min ≤ x.toInt ∧ x.toInt ≤ k.max
  | .bool, _ => True
  | .str, x => x.toStr.size ≤ strMax
  | .list ag ks, x => x.toList.length ≤ strMax ∧ ∀ y ∈ x.toList, wfKs ks (cellOf ag y) 0
def wfKs : List Kd → (Nat → IV) → Nat → Prop
  | [], _, _ => True
  | k :: ks, f, j => wfK k (f j) ∧ wfKs ks f (j + 1)
end
def wfL : V → Prop
  | .int k n => k.min ≤ n ∧ n ≤ k.max
  | .str s => s.size ≤ strMax
  | .list ag ks l => l.length ≤ strMax ∧ ∀ y ∈ l, wfKs ks (cellOf ag y) 0
  | .vec _ ag ks l => l.length ≤ strMax ∧ ∀ y ∈ l, wfKs ks (cellOf ag y) 0
  | .bld s => s.size ≤ strMax
  | _ => True
def wfLs : List V → Prop
  | [] => True
  | v :: r => wfL v ∧ wfLs r
def wfV : V → Prop
  | .agg l => wfLs l
  | .bor l => wfLs l
  | v => wfL v
def wfVs : List V → Prop
  | [] => True
  | v :: r => wfV v ∧ wfVs r

mutual
theorem Kd.Rel.wf {w : World} {O : Nat → Prop} : ∀ {k : Kd} {x : IV} {v : Value}, Kd.Rel w O k x v → wfK k x
  | .int k, x, v, h => by simp only [Kd.Rel] at h; simp only [wfK]; exact h.2
  | .bool, x, v, h => by simp only [wfK]
  | .str, x, v, h => by simp only [Kd.Rel] at h; simp only [wfK]; exact h.2
  | .list ag ks, x, v, h => by
    simp only [Kd.Rel] at h
    obtain ⟨p, c, _, _, _, hl, hi⟩ := h
    simp only [wfK]
    refine ⟨hl, fun y hy => ?_⟩
    obtain ⟨i, hi'⟩ := List.getElem?_of_mem hy
    obtain ⟨b, o, _, _, _, hr⟩ := hi i y hi'
    exact Kd.RelAll.wf hr
theorem Kd.RelAll.wf {w : World} {O : Nat → Prop} : ∀ {ks : List Kd} {f : Nat → IV} {j : Nat} {R : Nat → Value → Prop}, Kd.RelAll w O ks f j R → wfKs ks f j
  | [], _, _, _, _ => by simp only [wfKs]
  | k :: ks, f, j, R, h => by
    simp only [Kd.RelAll] at h
    obtain ⟨⟨u, _, hr⟩, h2⟩ := h
    simp only [wfKs]
    exact ⟨Kd.Rel.wf hr, Kd.RelAll.wf h2⟩
end

theorem VRel.wfL {γ : Nat → Value} {o : Store} {w : World} {O : Nat → Prop} {v : V} {x : Value} (h : VRel γ o w O v x) : wfL v := by
  cases v <;> simp only [FM.wfL] <;> simp only [VRel] at h
  · exact h.2
  · exact h.2
  · have := Kd.Rel.wf h
    simp only [wfK, IV.toList] at this
    exact this
theorem VRels.wfLs {γ : Nat → Value} {o : Store} {w : World} {O : Nat → Prop} : ∀ {l : List V} {xs : List Value}, VRels γ o w O l xs → wfLs l
  | [], [], _ => by simp only [FM.wfLs]
  | [], _ :: _, h => by simp only [VRels] at h
  | _ :: _, [], h => by simp only [VRels] at h
  | v :: vs, x :: xs, h => by
    simp only [VRels] at h
    simp only [FM.wfLs]
    exact ⟨h.1.wfL, VRels.wfLs h.2⟩

theorem row_wf {B : BT} {γ : Nat → Value} {o : Store} {w : World} {O : Nat → Prop} {g : Value} {e : Nat} {ag : Bool} {ks : List Kd} {l : List IV} (h : ObRel B γ o w O g (.row true e ag ks l)) : wfL (.vec e ag ks l) := by
  simp only [ObRel] at h
  obtain ⟨_, hl, xs, _, hr⟩ := h
  simp only [FM.wfL]
  refine ⟨hl, fun y hy => ?_⟩
  obtain ⟨i, hi⟩ := List.getElem?_of_mem hy
  exact Kd.RelAll.wf (hr i y hi)

/-- The cells of a variable that is lent. -/
theorem lent_wf {B : BT} {nt : Nat} {w0 : World} {X : Zone} {γ : Nat → Value} {a : Act} {w : World} {cs : List V} (h : Rel B nt w0 X γ ⟨[], entO cs⟩ a w) : wfLs cs := by
  by_cases hb : ∃ s, cs = [.bld s]
  · obtain ⟨s, rfl⟩ := hb
    have := h.ob 900000 (.bld s) (by simp [entO, objOf_cons])
    simp only [ObRel] at this
    obtain ⟨b, v, p, _, _, _, _, _, hs⟩ := this
    simp only [FM.wfLs, FM.wfL, and_true]
    exact hs
  · have he : entO cs = (900000, some (.box (backV 900001 cs))) :: rowsO 900001 cs := entO_box (fun s e => hb ⟨s, e⟩)
    have hbox := h.ob 900000 (.box (backV 900001 cs)) (by rw [he, objOf_cons, if_pos rfl])
    simp only [ObRel] at hbox
    obtain ⟨b, c, T, _, _, hr⟩ := hbox
    have hall : ∀ (j : Nat) (v : V), cs[j]? = some v → FM.wfL v := by
      intro j v hj
      by_cases hv : ∃ e ag ks l, v = .vec e ag ks l
      · obtain ⟨e, ag, ks, l, rfl⟩ := hv
        have hat := rowsO_at (nr := 900001) hj
        have := h.ob (900001 + j) _ (show objOf (entO cs) (900001 + j) = _ by rw [he, objOf_cons, if_neg (by omega)]; exact hat)
        exact row_wf this
      · have hbk : (backV 900001 cs)[j]? = some v := by
          rw [backV_get, hj]
          cases v <;> first | rfl | exact absurd ⟨_, _, _, _, rfl⟩ hv
        obtain ⟨x, _, hx⟩ := hr.get hbk
        exact hx.wfL
    clear hr he hb h
    induction cs with
    | nil => simp only [FM.wfLs]
    | cons v r ih =>
      simp only [FM.wfLs]
      exact ⟨hall 0 v rfl, ih (fun j u hj => hall (j + 1) u (by simpa using hj))⟩

theorem args_wf {B : BT} {nt : Nat} {w0 : World} {X : Zone} {γ : Nat → Value} {a : Act} {w : World} {O : Nat → Prop} {o : Store} {cs : Option (List V)} (hcs : ∀ l, cs = some l → wfLs l) : ∀ {vs : List V} {xs : List Value}, (∀ l, .bor l ∈ vs → cs = some l) → VRels γ o w O (vs.map entV) xs → wfVs vs
  | [], _, _, _ => by simp only [wfVs]
  | v :: r, [], _, h => by simp only [List.map_cons, VRels] at h
  | v :: r, x :: xs, hb, h => by
    simp only [List.map_cons, VRels] at h
    simp only [wfVs]
    refine ⟨?_, args_wf (B := B) (nt := nt) (w0 := w0) (X := X) (a := a) hcs (fun l hl => hb l (List.mem_cons_of_mem _ hl)) h.2⟩
    have h1 := h.1
    by_cases hbor : ∃ l, v = .bor l
    · obtain ⟨l, rfl⟩ := hbor
      simp only [wfV]
      exact hcs l (hb l (List.mem_cons_self ..))
    · by_cases hagg : ∃ l, v = .agg l
      · obtain ⟨l, rfl⟩ := hagg
        simp only [entV, VRel] at h1
        obtain ⟨cs', _, hr⟩ := h1
        simp only [wfV]
        exact hr.wfLs
      · have : wfV v = FM.wfL v := by cases v <;> first | rfl | exact absurd ⟨_, rfl⟩ hbor | exact absurd ⟨_, rfl⟩ hagg
        rw [this]
        cases v <;> first | exact h1.wfL | exact absurd ⟨_, rfl⟩ hbor | exact absurd ⟨_, rfl⟩ hagg | (simp only [FM.wfL])

/-- One variable at most is lent; and not twice in two shapes. -/
def oneBor : List V → Option (List V) → Prop
  | [], _ => True
  | .bor l :: r, c => c = some l ∧ oneBor r c
  | _ :: r, c => oneBor r c
theorem oneBor_mem : ∀ {vs : List V} {c : Option (List V)}, oneBor vs c → ∀ l, .bor l ∈ vs → c = some l
  | [], _, _, l, h => by cases h
  | v :: r, c, ho, l, h => by
    rcases List.mem_cons.1 h with e | e
    · subst e
      exact ho.1
    · cases v <;> simp only [oneBor] at ho <;> first | exact oneBor_mem ho l e | exact oneBor_mem ho.2 l e

/-- A function's contract: its run, with rounds enough. -/
theorem snd_fun {P : Program} {B : BT} {f : FuncId} {fn : Func} (E : Nat → Env) (sp : RSpec) (rks : List (List Kd)) (hf : P.funcs[f]? = some fn) {code : Code} {rs : List ResultVar} {nt : Nat}
    (hc : (fn.name == "runtime.NumGoroutine") = false ∧ fn.body = some code ∧ fn.ntmps = nt ∧ Nat.ble nt 900000 = true ∧ fn.results.toList = rs) (hnt : ∀ N, (E N).nt = nt) (hm : P.follows .mixedOrders = true)
    (hT : ∀ N, TiOK P B (E N)) (hE : ∀ N t, t ∈ (E N).eqs → EqSnd P t ((E N).tyd t).ks) (hSp : ∀ N f sp, lk (E N).sp f = some sp → SndR P B f sp) (hIp : ∀ N f p, lk (E N).ip f = some p → IpSnd P f p) (hB : ∀ N, BldOK P B (E N))
    (h : ∀ vs r, (oneBor vs (borOf vs) → wfVs vs) → (sp vs).get = some r → ∃ N, evFun (E N) code rs rks vs = some r) : SndR P B f sp := by
  intro w X γ vs xs r out hsp hg hx hR hV
  have hwf : oneBor vs (borOf vs) → wfVs vs := fun ho => by
    refine args_wf (B := B.base) (nt := 0) (w0 := w) (X := X) (a := act0) (cs := borOf vs) (fun l hl => ?_) (oneBor_mem ho) hV
    have hm : memIn vs = entO l := by simp only [memIn, hl]
    rw [hm] at hR
    exact lent_wf hR
  obtain ⟨N, hN⟩ := h vs _ hwf hsp
  exact evFun_snd hf hc.1 hc.2.1 ((hnt N).trans hc.2.2.1.symm) (by rw [hc.2.2.1]; exact hc.2.2.2.1) hc.2.2.2.2 rks hm (hT N) (hE N) (hSp N) (hIp N) (hB N) w X γ vs xs r out hN hg hx hR hV

abbrev ic (n : Nat) : Int := n

/-- Short words for what the normal forms speak of. -/
abbrev lpE (E : Env) (c : Code) (kp : KP) (n : Nat) (s : St) (k : Out → St → Res) : Res := loopN c (evG loopN E c) kp n s k
abbrev kSq (E : Env) (c : Code) (k : Out → St → Res) : Out → St → Res := kSeq c (evG loopN E c) k
abbrev rnd (E : Env) (c : Code) (s : St) (k : Out → St → Res) : Res := evG loopN E c s k

theorem lpE_succ (E : Env) (c : Code) (kp : KP) (n : Nat) (s : St) (k : Out → St → Res) : lpE E c kp (n + 1) s k = rnd E c s (kLoop (fun s' => lpE E c kp n s' k) kp k) := rfl

/-! ### a code's loops -/
def loopAt : Code → Nat → List Code → List Code
  | .seq a b, n, acc => loopAt a n (loopAt b n acc)
  | .cond _ a b, n, acc => loopAt a n (loopAt b n acc)
  | .block _ c, n, acc => loopAt c n acc
  | .scope c, n, acc => loopAt c n acc
  | .loop c, n, acc => c :: loopAt c n acc
  | _, _, acc => acc
def nthC : List Code → Nat → Code
  | [], _ => .skip
  | c :: _, 0 => c
  | _ :: r, n + 1 => nthC r n
/-- The n-th loop's round, in the text's order. -/
def loopOf (c : Code) (n : Nat) : Code := nthC (loopAt c 0 []) n
def codeOf (fn : Func) : Code := match fn.body with | some c => c | none => .skip

/-- A part of a code, by its way: a sequence's 0 or 1, a branch's 0 or 1, what a block or a loop holds: 0. -/
def subC : Code → List Nat → Code
  | c, [] => c
  | .seq a _, 0 :: r => subC a r
  | .seq _ b, _ :: r => subC b r
  | .cond _ a _, 0 :: r => subC a r
  | .cond _ _ b, _ :: r => subC b r
  | .block _ c, _ :: r => subC c r
  | .loop c, _ :: r => subC c r
  | .scope c, _ :: r => subC c r
  | _, _ => .skip

end Go.FM

/-
  THE SMALL MACHINE (35): contracts of functions that are not run: from what is known of their calls.
-/
namespace Go.FM
open Go Go.RowKit

section
variable {P : Program} {B : BT} {f : FuncId}

theorem Does.of_calls {fn : Func} (hf : P.funcs[f]? = some fn) (hn : (fn.name == "runtime.NumGoroutine") = false) (hb : fn.body.isNone = false) {xs : List Value} {w : World} {R : Ending → World → Prop} (h : Calls P f xs.toArray w R) : Does P f xs w R := Does.enter hf hn hb h

theorem memOut_val {r : V} (h : ∀ cs, r ≠ .bor cs) (hv : ∀ e ag ks l, r ≠ .vec e ag ks l) : memOut r [] = [] := by
  cases r <;> first | rfl | exact absurd rfl (h _) | exact absurd rfl (hv _ _ _ _)

/-- Nothing is lent, nothing is given up. -/
theorem snd_plain {w : World} {X : Zone} {γ : Nat → Value} {vs : List V} {xs : List Value} {r : V} (hR : Rel B.base 0 w X γ ⟨[], memIn vs⟩ act0 w) (hb : borOf vs = none) (hr : freeV r = true)
    (h : Does P f xs w fun e w' => ∃ x, e = .returned x ∧ Keep (fun _ => False) w w' ∧ ∀ O : Nat → Prop, (∀ b, O b → b < w.heap.size) → VRel γ [] w' O r x) :
    Does P f xs w fun e w' => ∃ x, e = .returned x ∧ ∃ γ', Rel B.base 0 w X γ' ⟨[], memOut r []⟩ act0 w' ∧ VRel γ' (memOut r []) w' (Owned X γ' (memOut r [])) (retV r) x ∧ backOK vs r [] (γ 900000) (γ' 900000) := by
  have hm : memIn vs = [] := by simp only [memIn, hb]
  rw [hm] at hR
  have hnb : ∀ cs, r ≠ .bor cs := fun cs e => by subst e; simp [freeV, freeL] at hr
  have hnv : ∀ e ag ks l, r ≠ .vec e ag ks l := fun e ag ks l h => by subst h; simp [freeV, freeL] at hr
  rw [memOut_val hnb hnv, retV_free hr]
  refine h.mono ?_
  rintro e w' ⟨x, rfl, hk, hv⟩
  refine ⟨x, rfl, γ, hR.world hk, hv _ (fun b hb => ?_), ?_⟩
  · rcases hb with ⟨n, ob, hn, _⟩ | hb
    · simp [objOf, lkd] at hn
    · exact hR.fl b hb
  · simp only [backOK, hb]
    cases r <;> first | exact hr | exact absurd rfl (hnb _) | exact absurd rfl (hnv _ _ _ _)

/-- What is asked of a call on a builder. -/
structure BldIs (B : BT) (w : World) (b : Nat) (p v : Value) (s : ByteArray) : Prop where
  self : p = .pointer none ∨ p = .pointer (some ⟨b, 0, none⟩)
  heap : w.heap[b]? = some (.cells #[p, v] B.T (0, 0))
  own : w.ownsRowF 0 B.e 1 v s.size (Lib.strCells s)
  ne : v.ownBlock ≠ some b
  size : s.size ≤ strMax

/-- A call that writes a builder. -/
theorem snd_bld {w : World} {X : Zone} {γ : Nat → Value} {vs : List V} {xs : List Value} {r : V} {s s' : ByteArray} (hR : Rel B.base 0 w X γ ⟨[], memIn vs⟩ act0 w) (hb : borOf vs = some [.bld s]) (hr : freeV r = true) (hnl : ∀ γ' o w' O x, VRel γ [] w O r x → VRel γ' o w' O r x)
    (h : ∀ b v p, γ 900000 = .tuple #[.pointer (some ⟨b, 0, none⟩), v] → BldIs B w b p v s → Does P f xs w fun e w' => ∃ x, e = .returned x ∧ (∃ p' v', BldIs B w' b p' v' s' ∧ Keep (fun k => k = b ∨ v.ownBlock = some k) w w' ∧ ∀ k, v'.ownBlock = some k → v.ownBlock = some k ∨ w.heap.size ≤ k) ∧ ∀ O, VRel γ [] w O r x) :
    Does P f xs w fun e w' => ∃ x, e = .returned x ∧ ∃ γ', Rel B.base 0 w X γ' ⟨[], memOut r [[.bld s']]⟩ act0 w' ∧ VRel γ' (memOut r [[.bld s']]) w' (Owned X γ' (memOut r [[.bld s']])) (retV r) x ∧ backOK vs r [[.bld s']] (γ 900000) (γ' 900000) := by
  have hm : memIn vs = entO [.bld s] := by simp only [memIn, hb]
  have hmo : memOut r [[.bld s']] = entO [.bld s'] := by cases r <;> rfl
  rw [hm] at hR
  have hob : objOf (entO [.bld s]) 900000 = some (.bld s) := by simp [entO, objOf_cons]
  have hor := hR.ob 900000 _ hob
  simp only [ObRel, BT.base] at hor
  obtain ⟨b, v, p, hg, hp, hh, how, hne, hsz⟩ := hor
  rw [hmo, retV_free hr]
  refine (h b v p hg ⟨hp, hh, how, hne, hsz⟩).mono ?_
  rintro e w' ⟨x, rfl, ⟨p', v', hB, hk, hnew⟩, hx⟩
  have hPb : ∀ k, (k = b ∨ v.ownBlock = some k) → OwnedP γ (entO [.bld s]) k := by
    rintro k hk
    refine ⟨900000, _, hob, ⟨b, 0, none⟩, v, hg, ?_⟩
    rcases hk with rfl | hk
    · exact .inl rfl
    · exact .inr hk
  have hXb : ∀ k, (k = b ∨ v.ownBlock = some k) → k < w.heap.size ∧ X.own k ∧ ¬ X.far k := fun k hk => by
    obtain ⟨h1, h2⟩ := hR.lt k (hPb k hk)
    exact ⟨h1, h2.resolve_left (by omega), hR.nr k (hPb k hk)⟩
  have hkX : Keep X.own w w' := hk.mono (fun k _ h => (hXb k h).2.1)
  have hobs : ∀ n ob, objOf (entO [.bld s']) n = some ob → n = 900000 ∧ ob = .bld s' := by
    intro n ob hn
    simp only [entO, objOf_cons] at hn
    split at hn
    · rename_i e
      simp only [Option.some.injEq] at hn
      exact ⟨e.symm, hn.symm⟩
    · simp [objOf, lkd] at hn
  have hP' : ∀ k, OwnedP (fun _ => .tuple #[.pointer (some ⟨b, 0, none⟩), v']) (entO [.bld s']) k → k = b ∨ v'.ownBlock = some k := by
    rintro k ⟨n, ob, hn, hbk⟩
    obtain ⟨rfl, rfl⟩ := hobs n ob hn
    obtain ⟨a, v2, h1, h2⟩ := hbk
    simp only [Value.tuple.injEq] at h1
    have e1 : a = ⟨b, 0, none⟩ ∧ v2 = v' := by
      have := congrArg Array.toList h1
      simp at this
      exact ⟨this.1.symm, this.2.symm⟩
    obtain ⟨rfl, rfl⟩ := e1
    rcases h2 with h2 | h2
    · exact .inl h2.symm
    · exact .inr h2
  have hlt' : ∀ k, v'.ownBlock = some k → k < w'.heap.size := by
    intro k hk
    rcases hB.own.2 with ⟨rfl, _⟩ | ⟨g, cap, cur, fz, rfl, _, hgh, _⟩
    · simp [Value.ownBlock] at hk
    · simp only [Value.ownBlock, Option.some.injEq] at hk
      subst hk
      exact (Array.getElem?_eq_some_iff.1 hgh).1
  refine ⟨x, rfl, fun _ => .tuple #[.pointer (some ⟨b, 0, none⟩), v'], ⟨rfl, rfl, fun i => by simp only [St.get, lkd, VRel], fun n ob hn => ?_, fun k hk2 => ?_, fun n m ob ob' k hnm h1 h2 => ?_, hkX, fun k hk2 hf => ?_, fun k hf => Nat.lt_of_lt_of_le (hR.fl k hf) hk.size, fun q hq => by cases hq⟩, hnl _ _ _ _ _ (hx _), ?_⟩
  · obtain ⟨rfl, rfl⟩ := hobs n ob hn
    simp only [ObRel, BT.base]
    exact ⟨b, v', p', rfl, hB.self, hB.heap, hB.own, hB.ne, hB.size⟩
  · rcases hP' k hk2 with rfl | h2
    · obtain ⟨h3, h4, _⟩ := hXb k (.inl rfl)
      exact ⟨Nat.lt_of_lt_of_le h3 hk.size, .inr h4⟩
    · refine ⟨hlt' k h2, ?_⟩
      rcases hnew k h2 with h3 | h3
      · exact .inr (hXb k (.inr h3)).2.1
      · exact .inl h3
  · obtain ⟨rfl, rfl⟩ := hobs n ob h1
    obtain ⟨rfl, rfl⟩ := hobs m ob' h2
    exact absurd rfl hnm
  · rcases hP' k hk2 with rfl | h2
    · exact (hXb k (.inl rfl)).2.2 hf
    · rcases hnew k h2 with h3 | h3
      · exact (hXb k (.inr h3)).2.2 hf
      · have := hR.fl k hf
        omega
  · simp only [backOK, hb]
    exact ⟨hr, rfl, by rw [hg]; rfl⟩

/-- The pointer to the builder that is lent. -/
theorem bld_ptr {w : World} {γ : Nat → Value} {s : ByteArray} {O : Nat → Prop} {x : Value} {b : Nat} {v : Value} (hg : γ 900000 = .tuple #[.pointer (some ⟨b, 0, none⟩), v]) (h : VRel γ (entO [.bld s]) w O (.ptr 900000 0 0) x) : x = .pointer (some ⟨b, 0, none⟩) := by
  simp only [VRel, entO, objOf_cons, if_true] at h
  obtain ⟨_, b', v', h1, rfl⟩ := h
  rw [hg] at h1
  simp only [Value.tuple.injEq] at h1
  have := congrArg Array.toList h1
  simp at this
  rw [this.1]
/-- Nothing is lent; a fresh row is handed over. -/
theorem snd_fresh {w : World} {X : Zone} {γ : Nat → Value} {vs : List V} {xs : List Value} {e : Nat} {ag : Bool} {ks : List Kd} {l : List IV} (hR : Rel B.base 0 w X γ ⟨[], memIn vs⟩ act0 w) (hb : borOf vs = none) (he : e < 1000000) (hks : 0 < ks.length) (hl : l.length ≤ strMax)
    (h : Does P f xs w fun e' w' => ∃ v ys, e' = .returned v ∧ Keep (fun _ => False) w w' ∧ w'.ownsRow w.heap.size e ks.length v l.length ys ∧ ∀ (O : Nat → Prop) i y, l[i]? = some y → Kd.RelAll w' O ks (cellOf ag y) 0 (fun j u => ys[i * ks.length + j]? = some u)) :
    Does P f xs w fun e' w' => ∃ x, e' = .returned x ∧ ∃ γ', Rel B.base 0 w X γ' ⟨[], memOut (.vec e ag ks l) []⟩ act0 w' ∧ VRel γ' (memOut (.vec e ag ks l) []) w' (Owned X γ' (memOut (.vec e ag ks l) [])) (retV (.vec e ag ks l)) x ∧ backOK vs (.vec e ag ks l) [] (γ 900000) (γ' 900000) := by
  have hm : memIn vs = [] := by simp only [memIn, hb]
  rw [hm] at hR
  have hmo : memOut (.vec e ag ks l) [] = [(900000, some (.row true e ag ks l))] := rfl
  rw [hmo]
  refine h.mono ?_
  rintro e' w' ⟨v, ys, rfl, hk, hown, hel⟩
  have hown0 : w'.ownsRow 0 e ks.length v l.length ys := by
    refine ⟨hown.1, ?_⟩
    rcases hown.2 with h1 | ⟨g, cap, cur, h1, _, h2, h3, h4, h5, h6⟩
    · exact .inl h1
    · exact .inr ⟨g, cap, cur, h1, Nat.zero_le _, h2, h3, h4, h5, h6⟩
  have obs : ∀ n ob, objOf [(900000, some (Ob.row true e ag ks l))] n = some ob → n = 900000 ∧ ob = .row true e ag ks l := fun n ob hn => by
    rw [objOf_cons] at hn
    split at hn
    · rename_i h9
      simp only [Option.some.injEq] at hn
      exact ⟨h9.symm, hn.symm⟩
    · simp [objOf, lkd] at hn
  have hfresh : ∀ b, v.ownBlock = some b → w.heap.size ≤ b ∧ b < w'.heap.size := fun b hb => hown.lt b hb
  have ownP : ∀ b, OwnedP (fun n => if n = 900000 then v else γ n) [(900000, some (Ob.row true e ag ks l))] b → v.ownBlock = some b := by
    rintro b ⟨n, ob, hn, hb⟩
    obtain ⟨rfl, rfl⟩ := obs n ob hn
    simpa only [blocksOf, if_true] using hb
  refine ⟨v, rfl, fun n => if n = 900000 then v else γ n, ⟨hR.sz, hR.df, fun i => by simp only [St.get, lkd, VRel], fun n ob hn => ?_, fun b hb => ?_, fun n m ob ob' b hnm h1 h2 => ?_, hk.mono (fun _ _ h => h.elim), fun b hb hf => ?_, fun b hf => Nat.lt_of_lt_of_le (hR.fl b hf) hk.size, fun p hp => by cases hp⟩, ?_, ?_⟩
  · obtain ⟨rfl, rfl⟩ := obs n ob hn
    simp only [ObRel, if_true]
    exact ⟨hks, hl, ys, OwnRow.of hown0 he, hel _⟩
  · have := hfresh b (ownP b hb)
    exact ⟨this.2, .inl this.1⟩
  · obtain ⟨rfl, rfl⟩ := obs n ob h1
    obtain ⟨rfl, rfl⟩ := obs m ob' h2
    exact absurd rfl hnm
  · have := hfresh b (ownP b hb)
    have := hR.fl b hf
    omega
  · simp only [retV, VRel, objOf_cons, if_true]
    refine ⟨Nat.le_refl _, ?_⟩
    rcases hown.2 with ⟨rfl, h0⟩ | ⟨g, cap, cur, rfl, _, h2, h3, h4, h5, h6⟩
    · exact ⟨none, 0, 0, none, rfl, by rw [h0], Nat.zero_le _, by rw [h0]; exact Nat.le_refl _, Nat.le_refl _, Nat.zero_le _, .inl rfl, fun _ => rfl⟩
    · refine ⟨some ⟨g, 0, none⟩, l.length, cap, some ⟨g, 0, none⟩, rfl, by simp, Nat.zero_le _, Nat.le_refl _, h3, h4, .inl ?_, fun _ => rfl⟩
      simp [Addr.add]
  · simp only [backOK, hb, okR]
end

/-- Lists of strings that a call has made. -/
theorem strs_rel {w w' : World} {O : Nat → Prop} (hO : ∀ b, O b → b < w.heap.size) {g : Nat} {T : TypeId} {l : List ByteArray} {c : Nat} (hg : w.heap.size ≤ g) (hh : w'.heap[g]? = some (.cells (l.map Value.string).toArray T (0, 0))) (hc : l.length ≤ c) (hcm : c ≤ maxLen) (hl : l.length ≤ strMax)
    (hs : ∀ s ∈ l, s.size ≤ strMax) : Kd.Rel w' O (.list false [.str]) (.list (l.map IV.str)) (.slice (some ⟨g, 0, none⟩) l.length c) := by
  simp only [Kd.Rel, IV.toList, List.length_map]
  refine ⟨_, c, rfl, hc, hcm, hl, fun i y hy => ⟨g, 0, rfl, fun h => by have := hO g h; omega, (Array.getElem?_eq_some_iff.1 hh).1, ?_⟩⟩
  simp only [List.getElem?_map, Option.map_eq_some_iff] at hy
  obtain ⟨s, hs1, rfl⟩ := hy
  simp only [Kd.RelAll, List.length_cons, List.length_nil, Nat.zero_add, Nat.mul_one, Nat.add_zero, and_true]
  refine ⟨.string s, ?_, ?_⟩
  · simp only [World.cell?, hh]
    simp [hs1]
  · simp only [Kd.Rel, cellOf, IV.toStr]
    exact ⟨trivial, hs s (List.mem_of_getElem? hs1)⟩

end Go.FM
