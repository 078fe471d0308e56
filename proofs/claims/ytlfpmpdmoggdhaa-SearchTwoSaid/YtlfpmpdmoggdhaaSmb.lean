/-
  The small machine (2): its operations keep what is said of the world; no conditions; of no program.
-/
import Derived.Test.YtlfpmpdmoggdhaaSma
import Derived.Lib.AppendZerosOnto
import Derived.BigFrame

/-
  THE SMALL MACHINE (11): literals, stores, new rows.
-/
namespace Go.FM
open Go Go.RowKit

section
variable {B : BT} {nt : Nat} {w0 : World} {X : Zone} {γ : Nat → Value} {st : St} {a : Act} {w : World} {P : Program} {E : Env}

theorem op_build (hT : TiOK P B E) (h : Rel B nt w0 X γ st a w) (o : Oper) {t : Nat} {parts : Array (Nat × Operand)} (ho : o.op = .build t parts) {v : V} {us : List Upd}
    (he : (evOp E st.o (opd st) o.dst o.op).get = some (v, us)) : OpWp P B nt w0 X a w o st v us := by
  rw [ho] at he
  simp only [evOp] at he
  have hrun : ∀ y, (Instr.build t (parts.map fun (i, x) => (i, a.eval x))).run P w = .ok y w → (execOp a.eval o).run P w = .ok (.value y) w := fun y hy => by
    unfold execOp
    simp only [ho, Sem.run_bind, hy, Result.andThen_ok, Sem.run_pure]
  obtain ⟨hp1, hp2⟩ := opList_get h parts.toList
  split at he
  · rename_i fs hd
    split at he
    · rename_i cs hf
      simp only [T.get, Option.some.injEq, Prod.mk.injEq] at he
      obtain ⟨rfl, rfl⟩ := he
      have hs := hT.desc (t := t) (by rw [hd]; simp)
      obtain ⟨d, hd1, _, hd2⟩ := hs.und
      rw [hd] at hd2
      obtain ⟨fields, rfl, rfl, hsome⟩ := hd2
      obtain ⟨i, z, hi, hz, hzs, _, _, hzr⟩ := zero_cells hs
      have hpl : ∀ l : List Field, (∀ f ∈ l, (P.info? f.type).isSome = true) → l.mapM (fun f => (P.info? f.type).map fun i => (f.offset, i.size)) = some (l.map fun f => (f.offset, P.cellsOf f.type)) := by
        intro l
        induction l with
        | nil => intro _; rfl
        | cons f r ih =>
          intro hl
          obtain ⟨j, hj⟩ := Option.isSome_iff_exists.1 (hl f (by simp))
          rw [List.mapM_cons, ih (fun g hg => hl g (by simp [hg])), hj]
          simp [Program.cellsOf, hj]
      have hpv : ∀ j q, structPlace E (fields.toList.map (fun f => (f.offset, f.type))) j = some q → (fields.toList.map fun f => (f.offset, P.cellsOf f.type)).toArray[j]? = some q := by
        rintro j ⟨off, sz⟩ hq
        obtain ⟨ft, h1, h2, h3⟩ := structPlace_spec hq
        rw [List.getElem?_map, Option.map_eq_some_iff] at h1
        obtain ⟨fd, hfd, h4⟩ := h1
        simp only [Prod.mk.injEq] at h4
        obtain ⟨rfl, rfl⟩ := h4
        obtain ⟨i', z', hi', hs', _⟩ := (hT.size h3).info
        simp only [List.getElem?_toArray, List.getElem?_map, hfd, Option.map_some, Option.some.injEq, Prod.mk.injEq, true_and]
        rw [h2]
        simp [Program.cellsOf, hi', hs']
      obtain ⟨xs, hx1, hx2⟩ := fill_rel h (pm := fun j => (fields.toList.map fun f => (f.offset, P.cellsOf f.type)).toArray[j]?) hpv (hzr γ st.o w (Owned X γ st.o)) hp1 hp2 hf
      refine OpWp.pure h (hrun (.agg xs) (run_build w t _ xs ?_)) (by simp only [VRel]; exact ⟨xs, rfl, hx2⟩)
      simp only [Program.built, hi, hd1, hz, hpl _ hsome, Array.toList_map]
      exact hx1
    · simp [T.get] at he
  · rename_i N e hd
    split at he
    · rename_i cs hf
      obtain ⟨hpos, he⟩ := T.get_when he
      simp only [T.get, Option.some.injEq, Prod.mk.injEq] at he
      obtain ⟨rfl, rfl⟩ := he
      have hs := hT.desc (t := t) (by rw [hd]; simp)
      obtain ⟨d, hd1, _, hd2⟩ := hs.und
      rw [hd] at hd2
      subst hd2
      obtain ⟨i, z, hi, hz, hzs, _, _, hzr⟩ := zero_cells hs
      obtain ⟨ie, ze, hie, _, _, hse, _⟩ := zero_cells (hT.size (Nat.le_of_ble_eq_true hpos))
      obtain ⟨xs, hx1, hx2⟩ := fill_rel h (pm := fun j => some (j * (E.tyd e).size, (E.tyd e).size)) (fun _ _ h => h) (hzr γ st.o w (Owned X γ st.o)) hp1 hp2 hf
      refine OpWp.pure h (hrun (.agg xs) (run_build w t _ xs ?_)) (by simp only [VRel]; exact ⟨xs, rfl, hx2⟩)
      simp only [Program.built, hi, hd1, hz, hie, hse, Array.toList_map]
      exact hx1
    · simp [T.get] at he
  · simp [T.get] at he

/-- A value lies behind a step that writes elsewhere, or makes something new. -/
theorem store_cells (w : World) {b c : Nat} {xs : Array Value} {T : Nat} (hh : w.heap[b]? = some (.cells xs T (0, 0))) {t : Nat} (hs : TISnd P B t (E.tyd t)) {v : Value}
    (hsz : v.cells.size = (E.tyd t).size) (hle : c + v.cells.size ≤ xs.size) (h1 : ∀ u ∈ v.cells.toList, u.oneCell' = true) :
    (Instr.storeAt t (.pointer (some ⟨b, c, none⟩)) v).run P w = .ok () (w.setRow b (xs.toList.take c ++ v.cells.toList ++ xs.toList.drop (c + v.cells.size)).toArray) := by
  have hst := run_storeCells_at P b c T v.cells.toList 0 xs w hh (by simpa using hle) h1
  simp only [Nat.add_zero, Array.length_toList] at hst
  simp [Instr.storeAt, Instr.sureAddr, storeVar, sizeOf_run hs, hsz, hst]

/-- Some rows are not written any more. -/
def FrzLe (o o' : Store) : Prop := ∀ m, objOf o' m = objOf o m ∨ ∃ e ag ks l, objOf o m = some (.row true e ag ks l) ∧ objOf o' m = some (.row false e ag ks l)

theorem FrzLe.refl (o : Store) : FrzLe o o := fun _ => .inl rfl
theorem FrzLe.trans {o1 o2 o3 : Store} (h : FrzLe o1 o2) (k : FrzLe o2 o3) : FrzLe o1 o3 := by
  intro m
  rcases h m with h1 | ⟨e, ag, ks, l, h1, h2⟩
  · rcases k m with k1 | ⟨e, ag, ks, l, k1, k2⟩
    · exact .inl (k1.trans h1)
    · exact .inr ⟨e, ag, ks, l, by rw [← h1]; exact k1, k2⟩
  · rcases k m with k1 | ⟨e', ag', ks', l', k1, k2⟩
    · exact .inr ⟨e, ag, ks, l, h1, k1.trans h2⟩
    · rw [h2] at k1; cases k1
theorem FrzLe.cmp {o o' : Store} (h : FrzLe o o') (γ : Nat → Value) : Cmp γ o γ o' := by
  intro m ob' hm
  rcases h m with h1 | ⟨e, ag, ks, l, h1, h2⟩
  · exact ⟨rfl, ob', by rw [← h1]; exact hm, ob'.fits_refl⟩
  · rw [h2, Option.some.injEq] at hm
    subst hm
    exact ⟨rfl, _, h1, ⟨rfl, rfl⟩⟩
theorem FrzLe.ownedP {o o' : Store} (h : FrzLe o o') {γ : Nat → Value} {b : Nat} (hb : OwnedP γ o' b) : OwnedP γ o b := by
  obtain ⟨m, ob', hm, hb'⟩ := hb
  rcases h m with h1 | ⟨e, ag, ks, l, h1, h2⟩
  · exact ⟨m, ob', by rw [← h1]; exact hm, hb'⟩
  · rw [h2, Option.some.injEq] at hm
    subst hm
    exact hb'.elim
theorem FrzLe.owned {o o' : Store} (h : FrzLe o o') {γ : Nat → Value} {b : Nat} (hb : Owned X γ o' b) : Owned X γ o b := hb.imp_left h.ownedP

/-- A row as what can't change. -/
theorem row_frozen (h : Rel B nt w0 X γ st a w) {n : Nat} {own : Bool} {e : Nat} {ag : Bool} {ks : List Kd} {l : List IV} (ho : objOf st.o n = some (.row own e ag ks l)) {O' : Nat → Prop}
    (hO : ∀ b, b < w.heap.size → O' b → Owned X γ st.o b) (hn : own = true → ∀ b, (γ n).ownBlock = some b → ¬ O' b) : 0 < ks.length ∧ Kd.Rel w O' (.list ag ks) (.list l) (γ n) := by
  have hor := h.ob n _ ho
  cases own with
  | false =>
    simp only [ObRel] at hor
    exact ⟨hor.1, Kd.Rel.mono (Keep.refl _ w) hO hor.2⟩
  | true =>
    simp only [ObRel] at hor
    obtain ⟨h1, h2, xs, hx, hr⟩ := hor
    refine ⟨h1, ?_⟩
    simp only [Kd.Rel, IV.toList]
    rcases hx.2 with ⟨h3, h4⟩ | ⟨g, cap, cur, T, fr, h3, h4, h5, h6, h7, h8, _⟩
    · refine ⟨none, 0, by rw [h3, h4], by omega, by simp [maxLen], h2, fun i y hy => ?_⟩
      have : l = [] := List.eq_nil_of_length_eq_zero h4
      subst this
      simp at hy
    · refine ⟨_, cap, h3, h5, h6, h2, fun i y hy => ⟨g, 0, rfl, hn rfl g (by rw [h3]; rfl), (Array.getElem?_eq_some_iff.1 h4).1, ?_⟩⟩
      obtain ⟨_, _, _, hc⟩ := hx.cells h3
      refine Kd.RelAll.mono (Keep.refl _ w) hO (fun q u hu => ?_) (hr i y hy)
      have := hc _ u hu
      rw [← this]
      congr 2
      omega

theorem freeze_rel (o : Store) : ∀ (ns : List Nat) {st : St}, FrzLe o st.o → Rel B nt w0 X γ st a w →
    Rel B nt w0 X γ (st.ups (freezeU o ns)) a w ∧ FrzLe st.o (st.ups (freezeU o ns)).o ∧ (st.ups (freezeU o ns)).t = st.t ∧
      (∀ n ∈ ns, ∀ own e ag ks l, objOf (st.ups (freezeU o ns)).o n = some (.row own e ag ks l) → own = false) ∧
      (∀ m, m ∉ ns → objOf (st.ups (freezeU o ns)).o m = objOf st.o m)
  | [], st, _, h => ⟨h, FrzLe.refl _, rfl, (fun _ hn => by cases hn), fun _ _ => rfl⟩
  | n :: r, st, ho, h => by
    cases hrow : objOf o n with
    | none =>
      have he : freezeU o (n :: r) = freezeU o r := by simp only [freezeU, hrow]
      rw [he]
      obtain ⟨h1, h2, h3, h4, h9⟩ := freeze_rel o r ho h
      refine ⟨h1, h2, h3, fun m hm own e ag ks l hml => ?_, fun m hm => h9 m (fun hr => hm (List.mem_cons_of_mem _ hr))⟩
      rcases List.mem_cons.1 hm with rfl | hm
      · rcases (ho.trans h2) m with h5 | ⟨_, _, _, _, h5, _⟩
        · rw [hrow] at h5; rw [h5] at hml; cases hml
        · rw [hrow] at h5; cases h5
      · exact h4 m hm own e ag ks l hml
    | some ob =>
      by_cases hob : ∃ e ag ks l, ob = .row true e ag ks l
      · obtain ⟨e, ag, ks, l, rfl⟩ := hob
        have he : freezeU o (n :: r) = .set n (.row false e ag ks l) :: freezeU o r := by simp only [freezeU, hrow]
        rw [he]
        simp only [St.ups]
        obtain ⟨own, hcur⟩ : ∃ own, objOf st.o n = some (.row own e ag ks l) := by
          rcases ho n with h5 | ⟨e', ag', ks', l', h5, h6⟩
          · exact ⟨true, h5.trans hrow⟩
          · rw [hrow] at h5
            simp only [Option.some.injEq, Ob.row.injEq, true_and] at h5
            obtain ⟨rfl, rfl, rfl, rfl⟩ := h5
            exact ⟨false, h6⟩
        have hs : Rel B nt w0 X γ (st.up (.set n (.row false e ag ks l))) a w := by
          refine h.set (ob' := .row false e ag ks l) hcur ⟨rfl, rfl⟩ (Keep.refl _ w) (fun b hb => hb.elim) (fun hown hcmp => ?_)
          simp only [ObRel]
          refine row_frozen h hcur (fun b _ hb => hown b hb) ?_
          rintro rfl b hb hO1
          obtain ⟨m, ob1, hm, hb1⟩ := hO1.resolve_right (h.near ⟨n, _, hcur, hb⟩)
          rw [objOf_cons] at hm
          split at hm
          · simp only [Option.some.injEq] at hm
            subst hm
            exact hb1.elim
          · rename_i hne
            exact h.dis n m _ ob1 b hne hcur hm hb hb1
        have hfl : FrzLe st.o (st.up (.set n (.row false e ag ks l))).o := by
          intro m
          simp only [St.up, objOf_cons]
          by_cases hm : n = m
          · subst hm
            rw [if_pos rfl]
            cases own with
            | true => exact .inr ⟨e, ag, ks, l, hcur, rfl⟩
            | false => exact .inl hcur.symm
          · rw [if_neg hm]
            exact .inl rfl
        obtain ⟨h1, h2, h3, h4, h9⟩ := freeze_rel o r (ho.trans hfl) hs
        refine ⟨h1, hfl.trans h2, h3, fun m hm own' e' ag' ks' l' hml => ?_, fun m hm => ?_⟩
        case refine_2 =>
          rw [h9 m (fun hr => hm (List.mem_cons_of_mem _ hr))]
          simp only [St.up, objOf_cons]
          rw [if_neg (fun e => hm (by rw [e]; exact List.mem_cons_self ..))]
        rcases List.mem_cons.1 hm with rfl | hm
        · rcases h2 m with h5 | ⟨_, _, _, _, h5, _⟩
          · rw [h5] at hml
            simp only [St.up, objOf_cons, if_true, Option.some.injEq, Ob.row.injEq] at hml
            exact hml.1.symm
          · simp only [St.up, objOf_cons, if_true, Option.some.injEq, Ob.row.injEq] at h5
            exact absurd h5.1 (by simp)
        · exact h4 m hm own' e' ag' ks' l' hml
      · have he : freezeU o (n :: r) = freezeU o r := by
          simp only [freezeU, hrow]
          cases ob with
          | box _ => rfl
          | bld _ => rfl
          | row own e ag ks l =>
            cases own with
            | false => rfl
            | true => exact absurd ⟨e, ag, ks, l, rfl⟩ hob
        rw [he]
        obtain ⟨h1, h2, h3, h4, h9⟩ := freeze_rel o r ho h
        refine ⟨h1, h2, h3, fun m hm own e ag ks l hml => ?_, fun m hm => h9 m (fun hr => hm (List.mem_cons_of_mem _ hr))⟩
        rcases List.mem_cons.1 hm with rfl | hm
        · rcases (ho.trans h2) m with h5 | ⟨e', ag', ks', l', h5, _⟩
          · rw [hrow] at h5
            rw [h5] at hml
            simp only [Option.some.injEq] at hml
            subst hml
            cases own with
            | false => rfl
            | true => exact absurd ⟨e, ag, ks, l, rfl⟩ hob
          · rw [hrow, Option.some.injEq] at h5
            exact absurd ⟨e', ag', ks', l', h5⟩ hob
        · exact h4 m hm own e ag ks l hml

end
end Go.FM

/-
  THE SMALL MACHINE (12): values that become what can't change; slice literals; stores.
-/
namespace Go.FM
open Go Go.RowKit

mutual
theorem kdEq_eq : ∀ {a b : Kd}, kdEq a b = true → a = b
  | .int k, b, h => by
    cases b <;> simp only [kdEq, beq_iff_eq] at h <;> first | (rw [h]; done) | (cases h; done)
  | .bool, b, h => by
    cases b <;> simp only [kdEq] at h <;> first | rfl | (cases h; done)
  | .str, b, h => by
    cases b <;> simp only [kdEq] at h <;> first | rfl | (cases h; done)
  | .list ag ks, b, h => by
    cases b with
    | list ag' ks' =>
      simp only [kdEq, Bool.and_eq_true, beq_iff_eq] at h
      rw [h.1, kdsEq_eq h.2]
    | int _ => simp only [kdEq] at h; cases h
    | bool => simp only [kdEq] at h; cases h
    | str => simp only [kdEq] at h; cases h
theorem kdsEq_eq : ∀ {l l' : List Kd}, kdEq.kdsEq l l' = true → l = l'
  | [], l', h => by
    cases l' with
    | nil => rfl
    | cons y r' => simp only [kdEq.kdsEq] at h; cases h
  | x :: r, l', h => by
    cases l' with
    | nil => simp only [kdEq.kdsEq] at h; cases h
    | cons y r' =>
      simp only [kdEq.kdsEq, Bool.and_eq_true] at h
      rw [kdEq_eq h.1, kdsEq_eq h.2]
end

section
variable {B : BT} {nt : Nat} {w0 : World} {X : Zone} {γ : Nat → Value} {st st' : St} {a : Act} {w : World} {P : Program} {E : Env}

/-- A part of a list that can't change. -/
theorem sub_rel {O : Nat → Prop} {ag : Bool} {ks : List Kd} {l : List IV} {g x : Value} {lo hi : Nat} (h : Kd.Rel w O (.list ag ks) (.list l) g) (hs : SubOf g lo hi ks.length x) (hl : hi ≤ l.length) :
    Kd.Rel w O (.list ag ks) (.list ((l.take hi).drop lo)) x := by
  simp only [Kd.Rel, IV.toList] at h ⊢
  obtain ⟨p, c, hv, hc, hm, hln, hr⟩ := h
  obtain ⟨p1, len, cap, p', hg, hx, h1, h2, h3, h4, h5, h6⟩ := hs
  rw [hv] at hg
  simp only [Value.slice.injEq] at hg
  obtain ⟨rfl, rfl, rfl⟩ := hg
  have hll : ((l.take hi).drop lo).length = hi - lo := by rw [List.length_drop, List.length_take]; omega
  refine ⟨p', c - lo, by rw [hll]; exact hx, by omega, by omega, by omega, fun i y hy => ?_⟩
  rw [List.getElem?_drop, List.getElem?_take] at hy
  split at hy
  · rename_i hlt
    obtain ⟨b, off, hp, hO, hb, hr'⟩ := hr (lo + i) y hy
    subst hp
    refine ⟨b, off + lo * ks.length, by rw [h5.resolve_right (by omega)]; simp [Addr.add_mid], hO, hb, ?_⟩
    refine Kd.RelAll.mono (Keep.refl _ w) (fun _ _ h => h) (fun q u hu => ?_) hr'
    rw [← hu]
    congr 2
    rw [Nat.add_mul]
    omega
  · cases hy

/-- What a state says behind the freezing of what a list of values leads to. -/
structure Frz (B : BT) (nt : Nat) (w0 : World) (X : Zone) (γ : Nat → Value) (st st' : St) (a : Act) (w : World) (vs : List V) : Prop where
  rel0 : Rel B nt w0 X γ st a w
  rel : Rel B nt w0 X γ st' a w
  le : FrzLe st.o st'.o
  rows : ∀ n lo hi, V.row n lo hi ∈ vs → ∀ own e ag ks l, objOf st'.o n = some (.row own e ag ks l) → own = false

theorem mem_rowsIn {n lo hi : Nat} : ∀ {l : List V}, V.row n lo hi ∈ l → n ∈ rowsIn l
  | v :: r, h => by
    rcases List.mem_cons.1 h with rfl | h
    · simp [rowsIn]
    · have := mem_rowsIn h
      cases v <;> simp [rowsIn, this]

theorem Frz.of (h : Rel B nt w0 X γ st a w) (vs : List V) : Frz B nt w0 X γ st (st.ups (freezeU st.o (rowsIn vs))) a w vs := by
  obtain ⟨h1, h2, _, h4, _⟩ := freeze_rel st.o (rowsIn vs) (FrzLe.refl _) h
  exact ⟨h, h1, h2, fun n lo hi hm => h4 n (mem_rowsIn hm)⟩

theorem leafIV_rel {vs : List V} (hz : Frz B nt w0 X γ st st' a w vs) {v : V} (hm : v ∈ vs) {k : Kd} {y : IV} (hy : leafIV st.o k v = some y) {x : Value} (hv : VRel γ st.o w (Owned X γ st.o) v x) :
    Kd.Rel w (Owned X γ st'.o) k y x := by
  have hO : ∀ b, b < w.heap.size → Owned X γ st'.o b → Owned X γ st.o b := fun b _ hb => hz.le.owned hb
  unfold leafIV at hy
  split at hy
  · rename_i k k' n
    cases hk : k == k' <;> simp only [hk] at hy
    · cases hy
    · simp only [Option.some.injEq] at hy
      subst hy
      have : k = k' := by simpa using hk
      subst this
      simp only [VRel] at hv
      simp only [Kd.Rel, IV.toInt]
      exact hv
  · simp only [Option.some.injEq] at hy
    subst hy
    simp only [VRel] at hv
    simp only [Kd.Rel, IV.toBool]
    exact hv
  · simp only [Option.some.injEq] at hy
    subst hy
    simp only [VRel] at hv
    simp only [Kd.Rel, IV.toStr]
    exact hv
  · rename_i ag ks ag' ks' l
    cases hk : kdEq (.list ag ks) (.list ag' ks') <;> simp only [hk] at hy
    · cases hy
    · simp only [Option.some.injEq] at hy
      subst hy
      have := kdEq_eq hk
      simp only [Kd.list.injEq] at this
      obtain ⟨rfl, rfl⟩ := this
      simp only [VRel] at hv
      exact Kd.Rel.mono (Keep.refl _ w) hO hv
  · rename_i ag ks
    simp only [Option.some.injEq] at hy
    subst hy
    simp only [VRel] at hv
    simp only [Kd.Rel, IV.toList]
    exact ⟨none, 0, hv, by simp, by simp [maxLen], by simp [strMax], fun i y hy => by simp at hy⟩
  · rename_i ag ks n lo hi
    split at hy
    · rename_i own e ag' ks' l hob
      cases hk : kdEq (.list ag ks) (.list ag' ks') <;> simp only [hk] at hy
      · cases hy
      · simp only [Option.some.injEq] at hy
        subst hy
        have := kdEq_eq hk
        simp only [Kd.list.injEq] at this
        obtain ⟨rfl, rfl⟩ := this
        simp only [VRel, hob] at hv
        have hfin : objOf st'.o n = some (.row false e ag ks l) := by
          rcases hz.le n with h1 | ⟨e', ag', ks', l', h1, h2⟩
          · have h2 := h1.trans hob
            have := hz.rows n lo hi hm own e ag ks l h2
            rw [this] at h2
            exact h2
          · rw [hob] at h1
            simp only [Option.some.injEq, Ob.row.injEq] at h1
            obtain ⟨_, rfl, rfl, rfl, rfl⟩ := h1
            exact h2
        have hor := hz.rel.ob n _ hfin
        simp only [ObRel] at hor
        exact sub_rel hor.2 hv.2 hv.1
    · cases hy
  · cases hy

theorem leavesIV_rel {vs0 : List V} (hz : Frz B nt w0 X γ st st' a w vs0) : ∀ {ks : List Kd} {vs : List V} {ys : List IV} {xs : List Value}, (∀ v ∈ vs, v ∈ vs0) → leavesIV st.o ks vs = some ys → VRels γ st.o w (Owned X γ st.o) vs xs →
    ys.length = ks.length ∧ xs.length = ks.length ∧ ∀ (j : Nat) (k : Kd), ks[j]? = some k → ∃ y u, ys[j]? = some y ∧ xs[j]? = some u ∧ Kd.Rel w (Owned X γ st'.o) k y u
  | [], [], ys, xs, _, hy, hv => by
    simp only [leavesIV, Option.some.injEq] at hy
    subst hy
    cases xs with
    | nil => exact ⟨rfl, rfl, fun j k hj => by simp at hj⟩
    | cons x r => simp only [VRels] at hv
  | [], _ :: _, _, _, _, hy, _ => by simp [leavesIV] at hy
  | _ :: _, [], _, _, _, hy, _ => by simp [leavesIV] at hy
  | k :: ks, v :: vs, ys, xs, hm, hy, hv => by
    simp only [leavesIV] at hy
    split at hy
    · rename_i y hy1
      split at hy
      · rename_i r hy2
        simp only [Option.some.injEq] at hy
        subst hy
        cases xs with
        | nil => simp only [VRels] at hv
        | cons x xs =>
          simp only [VRels] at hv
          obtain ⟨h1, h2, h3⟩ := leavesIV_rel hz (fun v hv => hm v (by simp [hv])) hy2 hv.2
          refine ⟨by simp [h1], by simp [h2], fun j k' hj => ?_⟩
          cases j with
          | zero =>
            simp only [List.getElem?_cons_zero, Option.some.injEq] at hj
            subst hj
            exact ⟨y, x, rfl, rfl, leafIV_rel hz (hm v (by simp)) hy1 hv.1⟩
          | succ j =>
            obtain ⟨y', u, h4, h5, h6⟩ := h3 j k' (by simpa using hj)
            exact ⟨y', u, by simpa using h4, by simpa using h5, h6⟩
      · cases hy
    · cases hy

/-- Elements of a literal. -/
theorem chunk_rel {vs0 : List V} (hz : Frz B nt w0 X γ st st' a w vs0) {ag : Bool} {ks : List Kd} {sz : Nat} (hks : ks.length = sz) (h1 : ag = false → sz = 1) : ∀ {n : Nat} {cs : List V} {l : List IV} {xs : List Value},
    (∀ v ∈ cs, v ∈ vs0) → chunk ag ks st.o cs sz n = some l → VRels γ st.o w (Owned X γ st.o) cs xs →
    l.length = n ∧ ∀ i y, l[i]? = some y → Kd.RelAll w (Owned X γ st'.o) ks (cellOf ag y) 0 (fun j u => xs[i * sz + j]? = some u)
  | 0, cs, l, xs, _, hc, _ => by
    simp only [chunk, Option.some.injEq] at hc
    subst hc
    exact ⟨rfl, fun i y hy => by simp at hy⟩
  | n + 1, cs, l, xs, hm, hc, hv => by
    simp only [chunk] at hc
    split at hc
    · rename_i y r hy hr
      simp only [Option.some.injEq] at hc
      subst hc
      obtain ⟨h2, h3⟩ := chunk_rel hz hks h1 (n := n) (cs := dropV cs sz) (xs := xs.drop sz) (fun v hv => by rw [dropV_eq] at hv; exact hm v (List.mem_of_mem_drop hv)) hr (by rw [dropV_eq]; exact hv.drop sz)
      refine ⟨by simp [h2], fun i y' hy' => ?_⟩
      cases i with
      | zero =>
        simp only [List.getElem?_cons_zero, Option.some.injEq] at hy'
        subst hy'
        cases ag with
        | true =>
          simp only [elemIV] at hy
          split at hy
          · rename_i ys hys
            simp only [Option.some.injEq] at hy
            subst hy
            have hvt : VRels γ st.o w (Owned X γ st.o) (takeV cs sz) (xs.take sz) := by rw [takeV_eq]; exact hv.take sz
            obtain ⟨h4, h5, h6⟩ := leavesIV_rel hz (fun v hv => by rw [takeV_eq] at hv; exact hm v (List.mem_of_mem_take hv)) hys hvt
            rw [Kd.RelAll_iff]
            intro j k hj
            obtain ⟨y, u, h7, h8, h9⟩ := h6 j k hj
            refine ⟨u, ?_, ?_⟩
            · rw [List.getElem?_take] at h8
              split at h8
              · simpa using h8
              · cases h8
            · simp only [cellOf, IV.cell, Nat.zero_add, nth_eq, h7, Option.getD_some]
              exact h9
          · cases hy
        | false =>
          have hsz := h1 rfl
          simp only [elemIV] at hy
          split at hy
          · rename_i y1 ys hys
            simp only [Option.some.injEq] at hy
            subst hy
            cases cs with
            | nil =>
              simp only [nthV] at hys
              cases ks with
              | nil => simp only [leavesIV] at hys; cases hys
              | cons k r => simp only [leavesIV] at hys; cases k <;> simp only [leafIV] at hys <;> cases hys
            | cons c0 cr =>
              cases xs with
              | nil => simp only [VRels] at hv
              | cons x0 xr =>
                simp only [nthV] at hys
                simp only [VRels] at hv
                have hv0 : VRels γ st.o w (Owned X γ st.o) [c0] [x0] := by simp only [VRels, and_true]; exact hv.1
                obtain ⟨h4, h5, h6⟩ := leavesIV_rel hz (fun v hv => by simp at hv; subst hv; exact hm v (by simp)) hys hv0
                rw [Kd.RelAll_iff]
                intro j k hj
                obtain ⟨y, u, h7, h8, h9⟩ := h6 j k hj
                have hj0 : j = 0 := by
                  rcases Nat.eq_zero_or_pos j with h0 | h0
                  · exact h0
                  · rw [List.getElem?_eq_none (by simp; omega)] at h8; cases h8
                subst hj0
                refine ⟨u, by simpa using h8, ?_⟩
                simp only [cellOf]
                simp only [List.getElem?_cons_zero, Option.some.injEq] at h7
                rw [h7]
                exact h9
          · cases hy
      | succ i =>
        have := h3 i y' (by simpa using hy')
        refine Kd.RelAll.mono (Keep.refl _ w) (fun _ _ h => h) (fun j u hu => ?_) this
        rw [List.getElem?_drop] at hu
        rw [← hu]
        congr 1
        rw [Nat.add_mul]
        omega
    · cases hc

end
end Go.FM

/-
  THE SMALL MACHINE (13): slice literals, stores, make, append, copy, a text's bytes.
-/
namespace Go.FM
open Go Go.RowKit

theorem ups_append (s : St) : ∀ (a b : List Upd), s.ups (a ++ b) = (s.ups a).ups b
  | [], b => rfl
  | u :: r, b => by simp only [List.cons_append, St.ups]; exact ups_append (s.up u) r b

theorem repeatV_length (z : List V) : ∀ n, (repeatV z n).length = n * z.length
  | 0 => by simp [repeatV]
  | n + 1 => by simp [repeatV, repeatV_length z n, Nat.add_mul]; omega

theorem repeatV_get (z : List V) : ∀ (n j : Nat), j < n * z.length → (repeatV z n)[j]? = z[j % z.length]?
  | 0, j, h => by omega
  | n + 1, j, h => by
    simp only [repeatV]
    rw [List.getElem?_append]
    split
    · rename_i hj
      rw [Nat.mod_eq_of_lt hj]
    · rename_i hj
      rw [Nat.succ_mul] at h
      rw [repeatV_get z n (j - z.length) (by omega)]
      congr 1
      exact (Nat.mod_eq_sub_mod (by omega)).symm

section
variable {B : BT} {nt : Nat} {w0 : World} {X : Zone} {γ : Nat → Value} {st st' : St} {a : Act} {w : World} {P : Program} {E : Env}

theorem repeat_rel {o : Store} {O : Nat → Prop} {z : List V} {zc : Array Value} (h : VRels γ o w O z zc.toList) (n : Nat) : VRels γ o w O (repeatV z n) ((Array.range (n * zc.size)).map (zc[· % zc.size]!)).toList := by
  have hl := h.length
  simp only [Array.length_toList] at hl
  refine VRels.of_get (by simp [repeatV_length, hl]) (fun j v x h1 h2 => ?_)
  have hj : j < n * z.length := by
    rcases Nat.lt_or_ge j (n * z.length) with h' | h'
    · exact h'
    · rw [List.getElem?_eq_none (by rw [repeatV_length]; exact h')] at h1; cases h1
  rw [repeatV_get z n j hj] at h1
  have hj2 : j < n * zc.size := by rw [← hl]; exact hj
  have hpos : 0 < zc.size := by
    rcases Nat.eq_zero_or_pos zc.size with h0 | h0
    · rw [h0] at hj2; omega
    · exact h0
  have hm : j % zc.size < zc.size := Nat.mod_lt _ hpos
  simp [hj2] at h2
  rw [hl] at h1
  refine h.get' h1 ?_
  rw [← h2]
  simp [hm]

theorem op_buildSlice (hT : TiOK P B E) (h : Rel B nt w0 X γ st a w) (o : Oper) (hd9 : ∀ d, o.dst = some d → d ≠ 900000) {t len : Nat} {parts : Array (Nat × Operand)} (ho : o.op = .buildSlice t len parts) {v : V} {us : List Upd}
    (he : (evOp E st.o (opd st) o.dst o.op).get = some (v, us)) : OpWp P B nt w0 X a w o st v us := by
  rw [ho] at he
  simp only [evOp] at he
  obtain ⟨hp1, hp2⟩ := opList_get h parts.toList
  split at he
  · rename_i d e hdst hd
    split at he
    · rename_i cs hf
      split at he
      · rename_i l hc
        obtain ⟨hk, he⟩ := T.get_when he
        simp only [T.get, Option.some.injEq, Prod.mk.injEq] at he
        obtain ⟨rfl, rfl⟩ := he
        simp only [Bool.and_eq_true] at hk
        have hpos := Nat.le_of_ble_eq_true hk.1
        have he6 : e < 1000000 := Nat.le_of_ble_eq_true hk.2.1
        have h24 := Nat.le_of_ble_eq_true hk.2.2
        have hs := hT.size (t := e) hpos
        obtain ⟨i, z, hi, hz, hzs, hsz, _, hzr⟩ := zero_cells hs
        obtain ⟨dd, hd1, _, hd2⟩ := (hT.desc (t := t) (by rw [hd]; simp)).und
        rw [hd] at hd2
        subst hd2
        obtain ⟨xs, hx1, hx2⟩ := fill_rel h (pm := fun j => some (j * (E.tyd e).size, (E.tyd e).size)) (fun _ _ h => h) (repeat_rel (hzr γ st.o w (Owned X γ st.o)) len) hp1 hp2 hf
        have hz' := Frz.of h cs
        obtain ⟨hl, hr⟩ := chunk_rel hz' hs.ks (fun ha => hs.one ha) (fun v hv => hv) hc hx2
        have hxl := hx2.length
        have hcsl : cs.length = len * (E.tyd e).size := by
          have : ∀ {p : Nat → Option (Nat × Nat)} {q : List (Nat × V)} {c c' : List V}, fillV st.o p c q = some c' → c'.length = c.length := by
            intro p q
            induction q with
            | nil => intro c c' h; simp only [fillV, Option.some.injEq] at h; rw [h]
            | cons y r ih =>
              intro c c' h
              obtain ⟨i, v⟩ := y
              simp only [fillV] at h
              split at h
              · split at h
                · rename_i hb
                  simp only [Bool.and_eq_true] at hb
                  have h1 := beq_eq'.1 hb.2.1
                  have h2 := Nat.le_of_ble_eq_true hb.2.2
                  rw [ih h, putV_eq _ _ _ (by omega)]
                  simp
                  omega
                · cases h
              · cases h
          rw [this hf, repeatV_length]
          congr 1
          have := (hzr γ st.o w (Owned X γ st.o)).length
          rw [this, ← hzs]
          simp
        have hrun : (execOp a.eval o).run P w = .ok (.value (.slice (some ⟨w.heap.size, 0, none⟩) len len)) (w.alloc (.cells xs e)) := by
          unfold execOp
          have hsm : ¬ len * (E.tyd e).size > 2 ^ 24 := by omega
          have hx1' : Instr.fill (fun j => some (j * (E.tyd e).size, (E.tyd e).size)) ((Array.range (len * (E.tyd e).size)).map (z.cells[· % z.cells.size]!)) (parts.map fun (i, x) => (i, a.eval x)).toList = some xs := by
            rw [Array.toList_map, ← hzs]
            rw [← hzs] at hx1
            exact hx1
          by_cases h0 : len * (E.tyd e).size = 0
          · have e0 : (Array.range (len * (E.tyd e).size)).map (z.cells[· % z.cells.size]!) = (Array.range (len * (E.tyd e).size)).map ((#[] : Array Value)[· % (#[] : Array Value).size]!) := by
              rw [h0]; simp
            rw [e0] at hx1'
            simp [ho, Instr.buildSlice, run_underlying hd1, sizeOf_run hs, h0, newRow] at hx1' ⊢
            rw [hx1']
            rfl
          · have hb := run_buildSlice (P := P) w t e len (parts.map fun (i, x) => (i, a.eval x)) xs i z hd1 hi hz (by rw [hsz]; exact hsm) (by rw [hsz]; exact h0) (by rw [hsz]; exact hx1')
            simp only [ho, Sem.run_bind, hb, Result.andThen_ok, Sem.run_pure]
        have hn := Rel.new hz'.rel [] d (hd9 d hdst) (.row true e (E.tyd e).agg (E.tyd e).ks l) (.slice (some ⟨w.heap.size, 0, none⟩) len len) (w' := w.alloc (.cells xs e)) (Keep.alloc _ w _)
          (by
            intro b hb
            simp only [blocksOf, Value.ownBlock, Option.some.injEq] at hb
            subst hb
            exact ⟨by simp, .inl (Nat.le_refl _)⟩)
          (by
            intro O' hO hcmp
            simp only [ObRel]
            refine ⟨by rw [hs.ks]; exact hpos, by rw [hl]; unfold strMax; have := Nat.le_mul_of_pos_right len hpos; omega, xs.toList, ?_, fun i y hy => ?_⟩
            · rw [hl, hs.ks]
              refine ⟨by rw [← hxl, hcsl], .inr ⟨w.heap.size, len, xs, e, (0, 0), rfl, heap_alloc_new w _, Nat.le_refl _, ?_, ?_, ?_, .inl ⟨he6, rfl, rfl⟩⟩⟩
              · unfold maxLen; have := Nat.le_mul_of_pos_right len hpos; omega
              · rw [← hcsl, hxl]; simp
              · exact List.take_of_length_le (by rw [← hcsl, hxl]; exact Nat.le_refl _)
            · rw [hs.ks]
              exact Kd.RelAll.mono (Keep.alloc _ w _) hO (fun _ _ h => h) (hr i y hy))
        refine OpWp.value (γ' := _) hrun (by rw [ups_append]; exact hn) ?_
        rw [ups_append]
        simp only [St.ups, VRel, objOf_up_new, if_true, scrubO]
        refine ⟨by omega, _, len, len, _, rfl, by simp, Nat.zero_le _, Nat.le_refl _, Nat.le_refl _, ?_, .inl ?_, fun _ => rfl⟩
        · unfold maxLen; have := Nat.le_mul_of_pos_right len hpos; omega
        · simp [Addr.add]
      · simp [T.get] at he
    · simp [T.get] at he
  · simp [T.get] at he

theorem storeCells_any (P : Program) (g o : Nat) (t : TypeId) (fr : Nat × Nat) : ∀ (vs : List Value) (i : Nat) (cur : Array Value) (w : World), w.heap[g]? = some (.cells cur t fr) → o + i + vs.length ≤ cur.size →
    (∀ j, j < cur.size → ¬ (fr.1 ≤ j ∧ j < fr.2)) → (∀ v ∈ vs, v.oneCell' = true) →
    (storeCells ⟨g, o, none⟩ vs i).run P w = .ok () (w.setRow g (cur.toList.take (o + i) ++ vs ++ cur.toList.drop (o + i + vs.length)).toArray)
  | [], i, cur, w, hg, _, _, _ => by
    simp only [storeCells, List.append_nil, List.length_nil, Nat.add_zero, List.take_append_drop, Array.toArray_toList]
    rw [setRow_self w g cur t fr hg]
    rfl
  | v :: rest, i, cur, w, hg, hl, hf, h1 => by
    have hi : o + i < cur.size := by simp at hl; omega
    have hcell : w.cell? ⟨g, o + i, none⟩ = some cur[o + i] := by simp [World.cell?, hg, hi]
    have hfro : w.frozen? ⟨g, o + i, none⟩ = false := by
      have := hf (o + i) hi
      simp only [World.frozen?, hg]
      simpa using this
    have hst : (store ((⟨g, o, none⟩ : Addr).add i) v).run P w = .ok () (w.setRow g (cur.setIfInBounds (o + i) v)) := by
      rw [Addr.add_mid, run_store P w _ v _ (h1 v (by simp)), hcell]
      simp [hfro, setCell_eq_setRow w g (o + i) cur t fr v hg]
    have ih := storeCells_any P g o t fr rest (i + 1) (cur.setIfInBounds (o + i) v) (w.setRow g (cur.setIfInBounds (o + i) v)) (setRow_heap w g cur _ t _ hg) (by simp at hl ⊢; omega) (by simpa using hf) (fun x hx => h1 x (by simp [hx]))
    simp only [storeCells, Sem.run_bind, hst, Result.andThen_ok, ih, setRow_setRow]
    congr 3
    have e := list_seg_step cur.toList (o + i) v rest (by simp at hl ⊢; omega)
    simpa [Array.toList_setIfInBounds, Nat.add_assoc] using e

theorem storeAt_run (w : World) {b c : Nat} {xs : Array Value} {T : Nat} {fr : Nat × Nat} (hh : w.heap[b]? = some (.cells xs T fr)) (hf : ∀ j, j < xs.size → ¬ (fr.1 ≤ j ∧ j < fr.2)) {t : Nat} (hs : TISnd P B t (E.tyd t)) {v : Value}
    (hsz : v.cells.size = (E.tyd t).size) (hle : c + v.cells.size ≤ xs.size) (h1 : ∀ u ∈ v.cells.toList, u.oneCell' = true) :
    (Instr.storeAt t (.pointer (some ⟨b, c, none⟩)) v).run P w = .ok () (w.setRow b (xs.toList.take c ++ v.cells.toList ++ xs.toList.drop (c + v.cells.size)).toArray) := by
  have hst := storeCells_any P b c T fr v.cells.toList 0 xs w hh (by simpa using hle) hf h1
  simp only [Nat.add_zero, Array.length_toList] at hst
  simp [Instr.storeAt, Instr.sureAddr, storeVar, sizeOf_run hs, hsz, hst]

theorem putV_length {cs vs : List V} {n : Nat} (h : n + vs.length ≤ cs.length) : (putV cs n vs).length = cs.length := by
  rw [putV_eq cs n vs h]
  simp
  omega

theorem takeK_eq : ∀ (l : List Kd) (n : Nat), storeT.takeK l n = l.take n
  | l, 0 => by cases l <;> simp [storeT.takeK]
  | [], n + 1 => by simp [storeT.takeK]
  | x :: r, n + 1 => by simp [storeT.takeK, takeK_eq r n]
theorem dropK_eq : ∀ (l : List Kd) (n : Nat), storeT.dropK l n = l.drop n
  | l, 0 => by cases l <;> simp [storeT.dropK]
  | [], n + 1 => by simp [storeT.dropK]
  | x :: r, n + 1 => by simp [storeT.dropK, dropK_eq r n]

theorem freeze_other (h : Rel B nt w0 X γ st a w) (ns : List Nat) {m : Nat} (hm : m ∉ ns) : objOf (st.ups (freezeU st.o ns)).o m = objOf st.o m :=
  (freeze_rel st.o ns (FrzLe.refl _) h).2.2.2.2 m hm

/-- A row in which one element was written. -/
theorem row_put {O : Nat → Prop} {ag : Bool} {ks : List Kd} {l : List IV} {xs : List Value} (_ : 0 < ks.length) (hag : ag = false → ks.length = 1) (hr : ∀ i y, l[i]? = some y → Kd.RelAll w O ks (cellOf ag y) 0 (fun j u => xs[i * ks.length + j]? = some u))
    (hx : xs.length = l.length * ks.length) {i c : Nat} (hi : i < l.length) {ys : List IV} {us : List Value} (hc : c + us.length ≤ ks.length) (hy : ys.length = us.length) (hpos : 0 < us.length)
    (hw : ∀ j k, j < us.length → ks[c + j]? = some k → ∃ y u, ys[j]? = some y ∧ us[j]? = some u ∧ Kd.Rel w O k y u) :
    ∀ i' y, (l.set i (putIV ag ks (l.getD i default) c ys))[i']? = some y →
      Kd.RelAll w O ks (cellOf ag y) 0 (fun j u => (xs.take (i * ks.length + c) ++ us ++ xs.drop (i * ks.length + c + us.length))[i' * ks.length + j]? = some u) := by
  intro i' y hy'
  have hle : i * ks.length + ks.length ≤ xs.length := by
    rw [hx, ← Nat.succ_mul]
    exact Nat.mul_le_mul_right _ hi
  have hget : ∀ p, (xs.take (i * ks.length + c) ++ us ++ xs.drop (i * ks.length + c + us.length))[p]? = if i * ks.length + c ≤ p ∧ p < i * ks.length + c + us.length then us[p - (i * ks.length + c)]? else xs[p]? := by
    intro p
    rw [List.getElem?_append]
    simp only [List.length_append, List.length_take]
    rw [Nat.min_eq_left (by omega)]
    by_cases h1 : p < i * ks.length + c
    · rw [if_pos (by omega), List.getElem?_append, if_pos (by rw [List.length_take]; omega), List.getElem?_take, if_pos h1, if_neg (by omega)]
    · by_cases h2 : p < i * ks.length + c + us.length
      · rw [if_pos h2, List.getElem?_append, if_neg (by rw [List.length_take]; omega), if_pos (by omega)]
        congr 1
        rw [List.length_take]
        omega
      · rw [if_neg h2, List.getElem?_drop, if_neg (by omega)]
        congr 1
        omega
  rw [Kd.RelAll_iff]
  intro j k hj
  have hjl : j < ks.length := by
    rcases Nat.lt_or_ge j ks.length with h' | h'
    · exact h'
    · rw [List.getElem?_eq_none h'] at hj; cases hj
  simp only [Nat.zero_add]
  rw [List.getElem?_set] at hy'
  by_cases hii : i = i'
  · subst hii
    rw [if_pos rfl, if_pos hi, Option.some.injEq] at hy'
    subst hy'
    have hold := hr i (l.getD i default) (by simp [List.getD, List.getElem?_eq_getElem hi])
    rw [Kd.RelAll_iff] at hold
    by_cases hin : c ≤ j ∧ j < c + us.length
    · obtain ⟨y, u, h1, h2, h3⟩ := hw (j - c) k (by omega) (by rw [show c + (j - c) = j by omega]; exact hj)
      refine ⟨u, ?_, ?_⟩
      · rw [hget, if_pos (by omega), ← h2]
        congr 1
        omega
      · cases ag with
        | true =>
          simp only [putIV, cellOf, IV.cell, nth_eq, mapFrom_get _ _ _ _ hjl, Nat.zero_add, Option.getD_some]
          have hb : (Nat.ble c j && Nat.blt j (c + ys.length)) = true := by
            simp only [Bool.and_eq_true]
            exact ⟨Nat.ble_eq_true_of_le hin.1, Nat.ble_eq_true_of_le (by rw [hy]; exact hin.2)⟩
          rw [hb]
          simp only [h1, Option.getD_some]
          exact h3
        | false =>
          have h10 := hag rfl
          have hj0 : j = 0 := by omega
          have hc0 : c = 0 := by omega
          subst hj0
          subst hc0
          simp only [putIV, cellOf, nth_eq]
          simp only [Nat.sub_zero] at h1
          rw [h1]
          exact h3
    · obtain ⟨u, h1, h2⟩ := hold j k hj
      simp only [Nat.zero_add] at h1 h2
      refine ⟨u, ?_, ?_⟩
      · rw [hget, if_neg (by omega)]
        exact h1
      · cases ag with
        | true =>
          simp only [putIV, cellOf, IV.cell, nth_eq, mapFrom_get _ _ _ _ hjl, Nat.zero_add, Option.getD_some]
          have hb : (Nat.ble c j && Nat.blt j (c + ys.length)) = false := by
            rw [Bool.and_eq_false_iff]
            by_cases h3 : c ≤ j
            · right
              cases h4 : Nat.blt j (c + ys.length) with
              | false => rfl
              | true => have := Nat.le_of_ble_eq_true h4; omega
            · left
              cases h4 : Nat.ble c j with
              | false => rfl
              | true => have := Nat.le_of_ble_eq_true h4; omega
          rw [hb]
          simp only [cellOf] at h2
          cases hyy : l.getD i default with
          | agg q => rw [hyy] at h2; simpa [IV.cell, nth_eq] using h2
          | int q => rw [hyy] at h2; simpa [IV.cell, nth_eq] using h2
          | bool q => rw [hyy] at h2; simpa [IV.cell, nth_eq] using h2
          | str q => rw [hyy] at h2; simpa [IV.cell, nth_eq] using h2
          | list q => rw [hyy] at h2; simpa [IV.cell, nth_eq] using h2
        | false =>
          have h10 := hag rfl
          exfalso
          omega
  · rw [if_neg hii] at hy'
    have hold := hr i' y hy'
    rw [Kd.RelAll_iff] at hold
    obtain ⟨u, h1, h2⟩ := hold j k hj
    simp only [Nat.zero_add] at h1 h2
    refine ⟨u, ?_, h2⟩
    rw [hget, if_neg]
    · exact h1
    · rcases Nat.lt_or_gt_of_ne hii with h3 | h3
      · have : i * ks.length + ks.length ≤ i' * ks.length := by rw [← Nat.succ_mul]; exact Nat.mul_le_mul_right _ h3
        omega
      · have : i' * ks.length + ks.length ≤ i * ks.length := by rw [← Nat.succ_mul]; exact Nat.mul_le_mul_right _ h3
        omega

end
end Go.FM

/-
  THE SMALL MACHINE (14): stores, make, append, copy, a text's bytes.
-/
namespace Go.FM
open Go Go.RowKit

theorem take_seg {α : Type} (cs U : List α) (A n : Nat) (h1 : A + U.length ≤ n) (h2 : n ≤ cs.length) : (cs.take A ++ U ++ cs.drop (A + U.length)).take n = (cs.take n).take A ++ U ++ (cs.take n).drop (A + U.length) := by
  have e1 : (cs.take n).take A = cs.take A := by rw [List.take_take, Nat.min_eq_left (by omega)]
  have e2 : (cs.take n).drop (A + U.length) = (cs.drop (A + U.length)).take (n - (A + U.length)) := by rw [List.drop_take]
  have e3 : (cs.take A ++ U).length = A + U.length := by rw [List.length_append, List.length_take, Nat.min_eq_left (by omega)]
  rw [e1, e2, List.take_append, e3, List.take_of_length_le (by rw [e3]; exact h1)]

section
variable {B : BT} {nt : Nat} {w0 : World} {X : Zone} {γ : Nat → Value} {st st' : St} {a : Act} {w : World} {P : Program} {E : Env}

theorem op_store (hT : TiOK P B E) (h : Rel B nt w0 X γ st a w) (o : Oper) {t : Nat} {p x : Operand} (ho : o.op = .store t p x) {v : V} {us : List Upd}
    (he : (evOp E st.o (opd st) o.dst o.op).get = some (v, us)) : OpWp P B nt w0 X a w o st v us := by
  have hp := opd_rel h p
  have hx := opd_rel h x
  rw [ho] at he
  simp only [evOp, storeT] at he
  have hrun : ∀ w', (Instr.storeAt t (a.eval p) (a.eval x)).run P w = .ok () w' → (execOp a.eval o).run P w = .ok .skip w' := fun w' hy => by
    unfold execOp
    simp only [ho, Sem.run_bind, hy, Result.andThen_ok, Sem.run_pure]
  split at he
  · rename_i n i c hop
    rw [hop] at hp
    simp only [VRel] at hp
    split at he
    · rename_i cs hob
      rw [hob] at hp
      obtain ⟨rfl, b, hg, hpv⟩ := hp
      split at he
      · rename_i hc
        obtain ⟨hk, he⟩ := T.get_when he
        simp only [T.get, Option.some.injEq, Prod.mk.injEq] at he
        obtain ⟨rfl, rfl⟩ := he
        simp only [Bool.and_eq_true] at hc hk
        have h1 := Nat.le_of_ble_eq_true hc.1
        have h2 := beq_eq'.1 hc.2.1
        have hs := hT.size (Nat.le_of_ble_eq_true hk.2.2)
        have hcr := okV_cells h hx hk.1
        have hone := okAll_one h hcr hk.2.1
        have hlen := hcr.length
        have hor := h.ob n _ hob
        simp only [ObRel] at hor
        obtain ⟨b', xs, T, hg', hh, hr⟩ := hor
        rw [hg] at hg'
        simp only [Value.pointer.injEq, Option.some.injEq, Addr.mk.injEq, and_true] at hg'
        subst hg'
        have hrl := hr.length
        have hsz : (a.eval x).cells.size = (E.tyd t).size := by rw [← h2, hlen]; simp
        have hst := storeAt_run w (P := P) (B := B) (E := E) (c := c) hh (fun j _ => by simp) hs hsz (by simp at hrl; omega) hone
        rw [hpv] at hrun
        refine OpWp.skip (hrun _ hst) (γ' := γ) ?_
        simp only [St.ups]
        refine h.set hob (by simp only [Ob.fits]; rw [putV_length (by omega)]) (Keep.setRow w b _ ⟨_, hg, rfl⟩) (fun b' hb => hb) (fun hown hcmp => ?_)
        simp only [ObRel]
        refine ⟨b, _, T, hg, setRow_heap w b xs _ T (0, 0) hh, ?_⟩
        have hk' : Keep (Owned X γ st.o) w (w.setRow b (xs.toList.take c ++ (a.eval x).cells.toList ++ xs.toList.drop (c + (a.eval x).cells.size)).toArray) :=
          Keep.setRow w b _ (.inl ⟨n, _, hob, ⟨_, hg, rfl⟩⟩)
        refine VRels.mono hk' (fun b _ hb => hown b hb) (VRels.cmp hcmp ?_)
        have := hr.put hcr (n := c) (by omega)
        simpa using this
      · simp [T.get] at he
    · rename_i e ag ks l hob
      rw [hob] at hp
      obtain ⟨hi, b, off, len, cap, hg, hpv⟩ := hp
      split at he
      · rename_i hc
        split at he
        · rename_i vs hvs
          obtain ⟨hk, he⟩ := T.get_when he
          simp only [T.get, Option.some.injEq, Prod.mk.injEq] at he
          obtain ⟨rfl, rfl⟩ := he
          simp only [Bool.and_eq_true] at hc hk
          obtain ⟨⟨⟨hk1, hk2, hk3⟩, hk4⟩, hk5⟩ := hk
          have h1 := Nat.le_of_ble_eq_true hc.1
          have h2 := beq_eq'.1 hc.2
          have hpos := Nat.le_of_ble_eq_true hk3
          have hs := hT.size hpos
          have hcr := okV_cells h hx hk1
          have hone := okAll_one h hcr hk2
          have hlen := hcr.length
          have hsz : (a.eval x).cells.size = (E.tyd t).size := by rw [← h2, hlen]; simp
          have hz := Frz.of h (cells (opd st x))
          have hnm : n ∉ rowsIn (cells (opd st x)) := by
            intro hm
            rw [memB_iff.2 hm] at hk4
            simp at hk4
          have hob' : objOf (st.ups (freezeU st.o (rowsIn (cells (opd st x))))).o n = some (.row true e ag ks l) := by
            rw [freeze_other h _ hnm]; exact hob
          rw [takeK_eq, dropK_eq] at hvs
          obtain ⟨hl1, hl2, hl3⟩ := leavesIV_rel hz (fun v hv => hv) hvs hcr
          have hkl : ((ks.drop c).take (E.tyd t).size).length = (E.tyd t).size := by rw [List.length_take, List.length_drop]; omega
          rw [hkl] at hl1 hl2
          have hor := hz.rel.ob n _ hob'
          simp only [ObRel] at hor
          obtain ⟨hkp, hstr, xs, hxs, hr⟩ := hor
          rcases hxs.2 with ⟨h3, h4⟩ | ⟨g, cap', cur, T, fr, h3, h4, h5, h6, h7, h8, h9⟩
          · rw [hg] at h3; simp at h3
          rw [hg] at h3
          simp only [Value.slice.injEq, Option.some.injEq, Addr.mk.injEq, and_true] at h3
          obtain ⟨⟨rfl, rfl⟩, rfl, rfl⟩ := h3
          have hxl := hxs.1
          have hfrz : ∀ j, j < cur.size → ¬ (fr.1 ≤ j ∧ j < fr.2) := by
            intro j hj
            rcases h9 with ⟨_, _, rfl⟩ | ⟨_, h9⟩
            · simp
            · omega
          have hbnd : i * ks.length + ks.length ≤ cur.size := by
            have e1 : (i + 1) * ks.length ≤ cap * ks.length := Nat.mul_le_mul_right _ (by omega)
            rw [Nat.succ_mul] at e1
            omega
          have hst := storeAt_run w (P := P) (B := B) (E := E) (c := 0 + i * ks.length + c) h4 hfrz hs hsz (by omega) hone
          rw [hpv] at hrun
          refine OpWp.skip (hrun _ hst) (γ' := γ) ?_
          rw [ups_append]
          simp only [St.ups]
          refine hz.rel.set (ob' := .row true e ag ks (l.set i (putIV ag ks (l.getD i default) c vs))) hob' ⟨rfl, by simp⟩ (Keep.setRow w b _ (by show (γ n).ownBlock = some b; rw [hg]; rfl)) (fun b' hb => hb) (fun hown hcmp => ?_)
          simp only [ObRel]
          refine ⟨hkp, by simpa using hstr, xs.take (i * ks.length + c) ++ (a.eval x).cells.toList ++ xs.drop (i * ks.length + c + (a.eval x).cells.toList.length), ?_, ?_⟩
          · refine ⟨by simp only [List.length_append, List.length_take, List.length_drop, List.length_set, Array.length_toList]; rw [hsz]; have e1 : (i + 1) * ks.length ≤ l.length * ks.length := Nat.mul_le_mul_right _ hi; rw [Nat.succ_mul] at e1; omega, ?_⟩
            right
            refine ⟨b, cap, _, T, fr, by rw [hg]; simp, setRow_heap w b cur _ T fr h4, by simpa using h5, h6, ?_, ?_, ?_⟩
            · simp only [List.size_toArray, List.length_append, List.length_take, List.length_drop, Array.length_toList]
              rw [hsz]
              omega
            · simp only [List.length_set, Nat.zero_add, Array.length_toList]
              rw [← h8]
              have e1 : (i + 1) * ks.length ≤ l.length * ks.length := Nat.mul_le_mul_right _ hi
              rw [Nat.succ_mul] at e1
              have e2 : l.length * ks.length ≤ cur.size := by rw [h7]; exact Nat.mul_le_mul_right _ h5
              have hcl : (a.eval x).cells.toList.length = (a.eval x).cells.size := by simp
              rw [← hcl]
              exact take_seg cur.toList _ _ _ (by rw [hcl, hsz]; omega) (by simpa using e2)
            · rcases h9 with ⟨q1, q2, q3⟩ | ⟨q1, q2⟩
              · exact .inl ⟨q1, q2, q3⟩
              · refine .inr ⟨q1, ?_⟩
                simp only [List.size_toArray, List.length_append, List.length_take, List.length_drop, Array.length_toList]
                rw [hsz]
                omega
          · have hk' : Keep (Owned X γ (st.ups (freezeU st.o (rowsIn (cells (opd st x))))).o) w (w.setRow b (cur.toList.take (0 + i * ks.length + c) ++ (a.eval x).cells.toList ++ cur.toList.drop (0 + i * ks.length + c + (a.eval x).cells.size)).toArray) :=
              Keep.setRow w b _ (.inl ⟨n, _, hob', by show (γ n).ownBlock = some b; rw [hg]; rfl⟩)
            intro i' y hy
            refine Kd.RelAll.mono hk' (fun b _ hb => hown b hb) (fun _ _ h => h) ?_
            refine row_put hkp (fun hag => ?_) hr hxl hi (ys := vs) (us := (a.eval x).cells.toList) (c := c) (by rw [hl2]; exact h1) (by rw [hl1, hl2]) (by rw [hl2]; exact hpos) (fun j k hj hjk => ?_) i' y hy
            · rw [hag] at hk5
              simpa using beq_eq'.1 (by simpa using hk5)
            · refine hl3 j k ?_
              rw [List.getElem?_take, if_pos (by rw [hl2] at hj; exact hj), List.getElem?_drop]
              exact hjk
        · simp [T.get] at he
      · simp [T.get] at he
    · simp [T.get] at he
  · simp [T.get] at he

theorem op_makeSlice (hT : TiOK P B E) (h : Rel B nt w0 X γ st a w) (o : Oper) (hd9 : ∀ d, o.dst = some d → d ≠ 900000) {t : Nat} {n m : Operand} (ho : o.op = .makeSlice t n m) {v : V} {us : List Upd}
    (he : (evOp E st.o (opd st) o.dst o.op).get = some (v, us)) : OpWp P B nt w0 X a w o st v us := by
  have hn := opd_rel h n
  have hm := opd_rel h m
  rw [ho] at he
  simp only [evOp] at he
  split at he
  · rename_i d e k1 n1 k2 m1 hdst hd hn1 hm1
    rw [hn1] at hn
    rw [hm1] at hm
    simp only [VRel] at hn hm
    split at he
    · rename_i z zr hc
      obtain ⟨hk, he⟩ := T.get_when he
      simp only [T.get, Option.some.injEq, Prod.mk.injEq] at he
      obtain ⟨rfl, rfl⟩ := he
      simp only [Bool.and_eq_true, decide_eq_true_eq] at hk
      obtain ⟨⟨hk1, hk2, h0⟩, hnm, hbd⟩ := hk
      subst hnm
      have hpos := Nat.le_of_ble_eq_true hk1
      have he6 : e < 1000000 := Nat.le_of_ble_eq_true hk2
      have hs := hT.size (t := e) hpos
      have hb1 := hs.by1
      obtain ⟨i, zv, hi, hz, hzs, hsz, hby, hzr⟩ := zero_cells hs
      obtain ⟨dd, hd1, _, hd2⟩ := (hT.desc (t := t) (by rw [hd]; simp)).und
      rw [hd] at hd2
      subst hd2
      have hz' := Frz.of h (E.tyd e).zero
      obtain ⟨hl, hr⟩ := chunk_rel hz' hs.ks (fun ha => hs.one ha) (fun v hv => hv) hc (hzr γ st.o w (Owned X γ st.o))
      have hr0 := hr 0 z rfl
      have hn46 : n1 ≤ 70368744177664 := by
        have e1 : n1 * 1 ≤ n1 * ((E.tyd e).bytes : Int) := Int.mul_le_mul_of_nonneg_left (by omega) h0
        simp only [bytesMax] at hbd
        omega
      let xs : Array Value := (Array.range (n1.toNat * zv.cells.size)).map (zv.cells[· % zv.cells.size]!)
      have hxs : xs.size = n1.toNat * (E.tyd e).size := by simp [xs, hzs]
      have hrun : (execOp a.eval o).run P w = .ok (.value (.slice (some ⟨w.heap.size, 0, none⟩) n1.toNat n1.toNat)) (w.alloc (.cells xs e)) := by
        unfold execOp
        have hw : IntKind.i64.wrap n1 = n1 := by
          simp [IntKind.wrap, IntKind.signed, IntKind.bits]
          split <;> omega
        have hbig : ¬ ((E.tyd e).bytes : Int) * n1 > 2 ^ 48 := by
          rw [Int.mul_comm]
          simp only [bytesMax] at hbd
          omega
        have hbig' : ¬ 281474976710656 < ((i.bytes : Nat) : Int) * n1 := by rw [hby]; omega
        have hr0 : ∀ f : Nat → Value, (Array.range 0).map f = #[] := fun f => by apply Array.eq_empty_of_size_eq_zero; simp
        have hneg : ¬ n1 < 0 := by omega
        have hz0 : n1.toNat * (E.tyd e).size = 0 → xs = #[] := fun h0 => by
          apply Array.eq_empty_of_size_eq_zero
          rw [hxs, h0]
        by_cases hzero : n1.toNat * (E.tyd e).size = 0
        · simp [ho, hn.1, hm.1, Instr.makeSlice, run_underlying hd1, asInt, asIntOf, typeInfo, hi, hbig', hneg, hw, sizeOf, hsz, hzero, newRow, hz0 hzero, hr0]
        · simp [ho, hn.1, hm.1, Instr.makeSlice, run_underlying hd1, asInt, asIntOf, typeInfo, hi, hbig', hneg, hw, sizeOf, hsz, hzero, newRow, zeroValue, hz, xs, hzs]
      have hnn := Rel.new hz'.rel [] d (hd9 d hdst) (.row true e (E.tyd e).agg (E.tyd e).ks (List.replicate n1.toNat z)) (.slice (some ⟨w.heap.size, 0, none⟩) n1.toNat n1.toNat) (w' := w.alloc (.cells xs e)) (Keep.alloc _ w _)
        (by
          intro b hb
          simp only [blocksOf, Value.ownBlock, Option.some.injEq] at hb
          subst hb
          exact ⟨by simp, .inl (Nat.le_refl _)⟩)
        (by
          intro O' hO hcmp
          simp only [ObRel]
          refine ⟨by rw [hs.ks]; exact hpos, by rw [List.length_replicate]; unfold strMax; omega, xs.toList, ?_, fun i' y hy => ?_⟩
          · rw [List.length_replicate, hs.ks]
            refine ⟨by simp [hxs], .inr ⟨w.heap.size, n1.toNat, xs, e, (0, 0), rfl, heap_alloc_new w _, Nat.le_refl _, by unfold maxLen; omega, hxs, ?_, .inl ⟨he6, rfl, rfl⟩⟩⟩
            exact List.take_of_length_le (by rw [Array.length_toList, hxs]; exact Nat.le_refl _)
          · rw [List.getElem?_replicate] at hy
            split at hy
            · rename_i hlt
              simp only [Option.some.injEq] at hy
              subst hy
              refine Kd.RelAll.mono (Keep.alloc _ w _) hO (fun _ _ h => h) ?_
              rw [Kd.RelAll_iff] at hr0 ⊢
              intro j k hj
              obtain ⟨u, hu, hk⟩ := hr0 j k hj
              refine ⟨u, ?_, hk⟩
              have hjl : j < (E.tyd e).size := by
                rw [← hs.ks]
                rcases Nat.lt_or_ge j (E.tyd e).ks.length with h' | h'
                · exact h'
                · rw [List.getElem?_eq_none h'] at hj; cases hj
              have hjz : j < zv.cells.size := by rw [hzs]; exact hjl
              simp only [Nat.zero_add, Nat.zero_mul, Array.getElem?_toList] at hu ⊢
              rw [hs.ks]
              have hbnd : i' * (E.tyd e).size + j < n1.toNat * zv.cells.size := by
                rw [hzs]
                have e1 : (i' + 1) * (E.tyd e).size ≤ n1.toNat * (E.tyd e).size := Nat.mul_le_mul_right _ hlt
                rw [Nat.succ_mul] at e1
                omega
              have hmod : (i' * (E.tyd e).size + j) % zv.cells.size = j := by
                rw [hzs, Nat.mul_comm, Nat.mul_add_mod, Nat.mod_eq_of_lt hjl]
              simp only [xs, Array.getElem?_map]
              simp [hbnd, hmod]
              rw [getElem!_pos zv.cells j hjz]
              simpa [hjz] using hu
            · cases hy)
      refine OpWp.value (γ' := _) hrun (by rw [ups_append]; exact hnn) ?_
      rw [ups_append]
      simp only [St.ups, VRel, objOf_up_new, if_true, scrubO]
      refine ⟨by simp, _, n1.toNat, n1.toNat, _, rfl, by simp, Nat.zero_le _, Nat.le_refl _, Nat.le_refl _, by unfold maxLen; omega, .inl ?_, fun _ => rfl⟩
      simp [Addr.add]
    · simp [T.get] at he
  · simp [T.get] at he

end
end Go.FM

/-
  THE SMALL MACHINE (15): append and copy.
-/
namespace Go.FM
open Go Go.RowKit

/-- The model's append onto a row that is owned: what it gives lies where the row lay, or is new. (After the library's own law.) -/
theorem append_run {P : Program} (w : World) (t ty e : TypeId) (i : TypeInfo) (z : Value) (size bytes : Nat) (ht : P.underlying t = some (.slice e)) (hi : P.info? e = some i) (hz : i.zero = some z)
    (hsize : i.size = size) (hby : i.bytes = bytes) (hzs : z.cells.size = size) (hsz : 0 < size)
    (v : Value) (n : Nat) (xs : List Value) (hown : w.ownsRow 0 e size v n xs)
    (a : Addr) (m c : Nat) (news : List Value) (hl : news.length = m * size) (hnews : ∀ j u, news[j]? = some u → w.cell? (a.add j) = some u) (h1 : ∀ u ∈ news, u.oneCell' = true)
    (h63 : n + m ≤ maxLen) (hbytes : (n + m) * bytes ≤ 140737488355328) :
    ∃ v' w', (Builtin.append_ #[t, t] ty #[v, .slice (some a) m c]).run P w = .ok v' w' ∧ w'.ownsRow 0 e size v' (n + m) (xs ++ news) ∧ w.grownBy w' v.ownBlock ∧
      (∀ b, v'.ownBlock = some b → v.ownBlock = some b ∨ b = w.heap.size) := by
  subst hsize
  subst hby
  have hsmall : n + m ≤ 9223372036854775807 := by simp only [maxLen] at h63; omega
  have hlen : (xs ++ news).length = (n + m) * i.size := by rw [List.length_append, hown.1, hl, Nat.add_mul]
  have grown : ∀ (old : Nat), old < n + m → ∀ (row : Option Nat),
      (w.drew.alloc (.cells (xs.toArray ++ news.toArray ++ Builtin.zeroCells z.cells (grownCap w (n + m) old e - (n + m))) e)).ownsRow 0 e i.size
        (.slice (some ⟨w.heap.size, 0, none⟩) (n + m) (grownCap w (n + m) old e)) (n + m) (xs ++ news) ∧
      w.grownBy (w.drew.alloc (.cells (xs.toArray ++ news.toArray ++ Builtin.zeroCells z.cells (grownCap w (n + m) old e - (n + m))) e)) row := by
    intro old ho row
    have hge := grownCap_ge w (n + m) old e
    have hcm : grownCap w (n + m) old e ≤ maxLen := grownCap_le_maxLen w (n + m) old e h63
    refine ⟨⟨hlen, .inr ⟨w.heap.size, _, _, rfl, Nat.zero_le _, heap_alloc_new w.drew _, hge, hcm, ?_, ?_⟩⟩, ⟨rfl, rfl, rfl, by simp, fun k hk _ => heap_alloc_old w.drew _ k hk⟩⟩
    · simp only [Array.size_append, List.size_toArray, size_zeroCells, hzs, hown.1, hl, ← Nat.add_mul]
      congr 1
      omega
    · simp only [Array.toList_append, List.append_assoc]
      rw [← List.append_assoc, ← hlen]
      exact List.take_left
  have hnb : ∀ {len cap b : Nat}, (Value.slice (some ⟨w.heap.size, 0, none⟩) len cap).ownBlock = some b → b = w.heap.size := fun h => by
    simp only [Value.ownBlock, Option.some.injEq] at h
    exact h.symm
  rcases hown.2 with ⟨rfl, rfl⟩ | ⟨g, cap, cur, rfl, hbg, hg, hnc, hcm, hcs, htake⟩
  · have hx : xs = [] := List.eq_nil_of_length_eq_zero (by simpa using hown.1)
    subst hx
    by_cases hm : m = 0
    · subst hm
      have hn : news = [] := List.eq_nil_of_length_eq_zero (by simpa using hl)
      subst hn
      refine ⟨.slice none 0 0, w, ?_, World.ownsRow_nil w 0 e i.size, ⟨rfl, rfl, rfl, Nat.le_refl _, fun _ _ _ => rfl⟩, fun b hb => .inl hb⟩
      simp [Builtin.append_, run_underlying ht, Go.sizeOf, typeInfo, hi, Builtin.lenOf, Builtin.firstCells, loadCells, loadCellsFrom]
    · have hr := run_append_nil (P := P) w t ty e i z ht hi hz a m c news hl hnews (by omega) (by omega) (by have hb := hbytes; simp only [Nat.zero_add] at hb; omega)
      have hgr := grown 0 (by omega) (Value.ownBlock (.slice none 0 0))
      simp only [Nat.zero_add, List.nil_append, Array.empty_append] at hgr ⊢
      exact ⟨_, _, hr, hgr.1, hgr.2, fun b hb => .inr (hnb hb)⟩
  · by_cases hroom : n + m ≤ cap
    · have hfit : n * i.size + news.length ≤ cur.size := by rw [hl, hcs, ← Nat.add_mul]; exact Nat.mul_le_mul_right _ hroom
      have hr := run_append_room (P := P) w t ty e i ht hi g n cap cur hg a m c news hl hnews h1 hroom hfit
      refine ⟨_, _, hr, ⟨hlen, .inr ⟨g, cap, _, rfl, hbg, setRow_heap w g cur _ e _ hg, hroom, hcm, ?_, ?_⟩⟩, ⟨rfl, rfl, rfl, by simp, fun k _ hk => setRow_other w g k _ (fun e => hk (by simp [Value.ownBlock, e]))⟩, fun b hb => .inl hb⟩
      · simp only [List.size_toArray, List.length_append, List.length_take, List.length_drop, Array.length_toList]
        omega
      · rw [htake, ← hlen]
        exact List.take_left
    · have holds : ∀ j u, xs[j]? = some u → w.cell? ((⟨g, 0, none⟩ : Addr).add j) = some u := hown.cells (g := g) rfl
      have hr := run_append_grow (P := P) w t ty e i z ht hi hz ⟨g, 0, none⟩ n cap xs hown.1 holds a m c news hl hnews (by omega) (by omega) (growslice_fits (by omega) hbytes)
      have hgr := grown cap (by omega) (Value.ownBlock (.slice (some ⟨g, 0, none⟩) n cap))
      exact ⟨_, _, hr, hgr.1, hgr.2, fun b hb => .inr (hnb hb)⟩

theorem append_types {P : Program} {t t' ty e e' : TypeId} {w : World} (h : P.underlying t = some (.slice e)) (h' : P.underlying t' = some (.slice e')) {q p : Option Addr} {n cap m c : Nat} :
    (Builtin.append_ #[t, t'] ty #[.slice q n cap, .slice p m c]).run P w = (Builtin.append_ #[t, t] ty #[.slice q n cap, .slice p m c]).run P w := by
  cases hi : P.info? e <;> simp [Builtin.append_, run_underlying h, run_underlying h', Go.sizeOf, typeInfo, hi]

theorem append_nothing {P : Program} {w : World} {t ty e : TypeId} {i : TypeInfo} (ht : P.underlying t = some (.slice e)) (hi : P.info? e = some i) {p : Option Addr} {n cap c : Nat} (hc : n ≤ cap) :
    (Builtin.append_ #[t, t] ty #[.slice p n cap, .slice none 0 c]).run P w = .ok (.slice p n cap) w := by
  cases p <;> simp [Builtin.append_, run_underlying ht, Go.sizeOf, typeInfo, hi, Builtin.lenOf, Builtin.firstCells, hc, storeCells]

theorem Kd.Rel.one {w : World} {O : Nat → Prop} {k : Kd} {x : IV} {v : Value} (h : Kd.Rel w O k x v) : v.oneCell' = true := by
  cases k with
  | int k => simp only [Kd.Rel] at h; rw [h.1]; rfl
  | bool => simp only [Kd.Rel] at h; rw [h]; rfl
  | str => simp only [Kd.Rel] at h; rw [h.1]; rfl
  | list ag ks => simp only [Kd.Rel] at h; obtain ⟨p, c, hv, _⟩ := h; rw [hv]; rfl

/-- Elements that lie one behind the other: their cells. -/
def cellsAt (w : World) (b o n : Nat) : List Value := (List.range n).map fun q => (w.cell? ⟨b, o + q, none⟩).getD undef

theorem cellsAt_length (w : World) (b o n : Nat) : (cellsAt w b o n).length = n := by simp [cellsAt]
theorem cellsAt_get (w : World) (b o n q : Nat) (h : q < n) : (cellsAt w b o n)[q]? = some ((w.cell? ⟨b, o + q, none⟩).getD undef) := by simp [cellsAt, h]

theorem cellsAt_rel {w : World} {O : Nat → Prop} {ag : Bool} {ks : List Kd} {l : List IV} {b o : Nat} (hks : 0 < ks.length)
    (hr : ∀ i y, l[i]? = some y → Kd.RelAll w O ks (cellOf ag y) 0 (fun j u => w.cell? ⟨b, o + i * ks.length + j, none⟩ = some u)) :
    (∀ j u, (cellsAt w b o (l.length * ks.length))[j]? = some u → w.cell? ⟨b, o + j, none⟩ = some u) ∧ (∀ u ∈ cellsAt w b o (l.length * ks.length), u.oneCell' = true) ∧
      ∀ i y, l[i]? = some y → Kd.RelAll w O ks (cellOf ag y) 0 (fun j u => (cellsAt w b o (l.length * ks.length))[i * ks.length + j]? = some u) := by
  have key : ∀ q, q < l.length * ks.length → ∃ u, w.cell? ⟨b, o + q, none⟩ = some u ∧ u.oneCell' = true := by
    intro q hq
    have h1 : q / ks.length < l.length := (Nat.div_lt_iff_lt_mul hks).2 hq
    have h2 := hr (q / ks.length) l[q / ks.length] (List.getElem?_eq_getElem h1)
    rw [Kd.RelAll_iff] at h2
    have h3 : q % ks.length < ks.length := Nat.mod_lt _ hks
    obtain ⟨u, hu, hk⟩ := h2 (q % ks.length) ks[q % ks.length] (List.getElem?_eq_getElem h3)
    refine ⟨u, ?_, hk.one⟩
    rw [← hu]
    congr 2
    have := Nat.div_add_mod q ks.length
    rw [Nat.mul_comm] at this
    omega
  refine ⟨fun j u hj => ?_, fun u hu => ?_, fun i y hy => ?_⟩
  · have hjl : j < l.length * ks.length := by
      rcases Nat.lt_or_ge j (l.length * ks.length) with h' | h'
      · exact h'
      · rw [List.getElem?_eq_none (by rw [cellsAt_length]; exact h')] at hj; cases hj
    obtain ⟨u', hu', _⟩ := key j hjl
    rw [cellsAt_get _ _ _ _ _ hjl, hu', Option.getD_some, Option.some.injEq] at hj
    rw [hu', hj]
  · obtain ⟨j, hj⟩ := List.mem_iff_getElem?.1 hu
    have hjl : j < l.length * ks.length := by
      rcases Nat.lt_or_ge j (l.length * ks.length) with h' | h'
      · exact h'
      · rw [List.getElem?_eq_none (by rw [cellsAt_length]; exact h')] at hj; cases hj
    obtain ⟨u', hu', h1⟩ := key j hjl
    rw [cellsAt_get _ _ _ _ _ hjl, hu', Option.getD_some, Option.some.injEq] at hj
    rw [← hj]
    exact h1
  · have hil : i < l.length := by
      rcases Nat.lt_or_ge i l.length with h' | h'
      · exact h'
      · rw [List.getElem?_eq_none h'] at hy; cases hy
    have h2 := hr i y hy
    rw [Kd.RelAll_iff] at h2 ⊢
    intro j k hj
    obtain ⟨u, hu, hk⟩ := h2 j k hj
    have hjl : j < ks.length := by
      rcases Nat.lt_or_ge j ks.length with h' | h'
      · exact h'
      · rw [List.getElem?_eq_none h'] at hj; cases hj
    refine ⟨u, ?_, hk⟩
    have hq : i * ks.length + (0 + j) < l.length * ks.length := by
      have e1 : (i + 1) * ks.length ≤ l.length * ks.length := Nat.mul_le_mul_right _ hil
      rw [Nat.succ_mul] at e1
      omega
    rw [cellsAt_get _ _ _ _ _ hq, ← Nat.add_assoc o, hu]
    rfl

section
variable {B : BT} {nt : Nat} {w0 : World} {X : Zone} {γ : Nat → Value} {st st' : St} {a : Act} {w : World} {P : Program} {E : Env}

theorem own_shorter {e size n m cap : Nat} {p : Option Addr} {xs : List Value} (h : w.ownsRow 0 e size (.slice p n cap) n xs) (hm : m ≤ n) : w.ownsRow 0 e size (.slice p m cap) m (xs.take (m * size)) := by
  have hx := h.1
  refine ⟨by rw [List.length_take, hx, Nat.min_eq_left (Nat.mul_le_mul_right _ hm)], ?_⟩
  rcases h.2 with ⟨h1, rfl⟩ | ⟨g, cap', cur, h1, h2, h3, h4, h5, h6, h7⟩
  · simp only [Value.slice.injEq] at h1
    obtain ⟨rfl, _, rfl⟩ := h1
    obtain rfl : m = 0 := by omega
    exact .inl ⟨rfl, rfl⟩
  · simp only [Value.slice.injEq] at h1
    obtain ⟨rfl, _, rfl⟩ := h1
    refine .inr ⟨g, cap, cur, rfl, h2, h3, by omega, h5, h6, ?_⟩
    rw [← h7, List.take_take, Nat.min_eq_left (Nat.mul_le_mul_right _ hm)]

/-- append onto 's' of elements that lie in memory. -/
theorem appendT_core (hT : TiOK P B E) (h : Rel B nt w0 X γ st a w) {d ty e : Nat} (hd9 : d ≠ 900000) (hpos : 0 < (E.tyd e).size) (he6 : e < 1000000) {s : V} {sv : Value} (hs : VRel γ st.o w (Owned X γ st.o) s sv)
    {l : List IV} {v : V} {us : List Upd} (he : (appendT st.o d e (E.tyd e).agg (E.tyd e).ks (E.tyd e).bytes s l).get = some (v, us))
    {ts : Array TypeId} {av : Value}
    (hcore : ∀ (n : Nat) (xs : List Value), w.ownsRow 0 e (E.tyd e).size sv n xs → (n + l.length) * (E.tyd e).bytes ≤ bytesMax →
      ∃ x w' news, (Builtin.append_ ts ty #[sv, av]).run P w = .ok x w' ∧ w'.ownsRow 0 e (E.tyd e).size x (n + l.length) (xs ++ news) ∧ w.grownBy w' sv.ownBlock ∧
        (∀ b, x.ownBlock = some b → sv.ownBlock = some b ∨ b = w.heap.size) ∧ news.length = l.length * (E.tyd e).size ∧
        ∀ i y, l[i]? = some y → Kd.RelAll w (Owned X γ st.o) (E.tyd e).ks (cellOf (E.tyd e).agg y) 0 (fun j u => news[i * (E.tyd e).ks.length + j]? = some u)) :
    ∃ γ' x w', (Builtin.append_ ts ty #[sv, av]).run P w = .ok x w' ∧ Rel B nt w0 X γ' (st.ups us) a w' ∧ VRel γ' (st.ups us).o w' (Owned X γ' (st.ups us).o) v x := by
  have hsn := hT.size (t := e) hpos
  have hks := hsn.ks
  -- the row that is appended to, and what is given up for it
  have main : ∀ (n : Nat) (l0 : List IV) (xs : List Value) (kl : List Nat), w.ownsRow 0 e (E.tyd e).size sv n xs → l0.length = n →
      (∀ b, sv.ownBlock = some b → BlocksAt γ st.o kl b) → (∀ i y, l0[i]? = some y → Kd.RelAll w (Owned X γ st.o) (E.tyd e).ks (cellOf (E.tyd e).agg y) 0 (fun j u => xs[i * (E.tyd e).ks.length + j]? = some u)) →
      (n + l.length) * (E.tyd e).bytes ≤ bytesMax →
      ∃ x w', (Builtin.append_ ts ty #[sv, av]).run P w = .ok x w' ∧
        Rel B nt w0 X (fun m => if d = m then x else γ m) (St.up ⟨st.t, kills st.o kl⟩ (.new d (.row true e (E.tyd e).agg (E.tyd e).ks (l0 ++ l)))) a w' ∧
        ∃ p' cap, x = .slice p' (n + l.length) cap ∧ n + l.length ≤ cap ∧ cap ≤ maxLen := by
    intro n l0 xs kl hown hl0 hkl hr0 hbd
    have hb1 := hsn.by1
    have hle : n + l.length ≤ 70368744177664 := by
      have := Nat.le_mul_of_pos_right (n + l.length) (show 0 < (E.tyd e).bytes by omega)
      simp only [bytesMax] at hbd
      omega
    -- cells of what is appended
    obtain ⟨x, w', news, hrun, hown', hgrow, hblk, hnl, hnr⟩ := hcore n xs hown hbd
    have hown2 := hown'
    obtain ⟨p', cap, hx, hcap, hcm⟩ : ∃ p' cap, x = .slice p' (n + l.length) cap ∧ n + l.length ≤ cap ∧ cap ≤ maxLen := by
      rcases hown'.2 with ⟨h1, h2⟩ | ⟨g, cap, cur, h1, _, _, h4, h5, _⟩
      · exact ⟨none, 0, by rw [h1, h2], by omega, by simp [maxLen]⟩
      · exact ⟨_, cap, h1, h4, h5⟩
    refine ⟨x, w', hrun, Rel.new h kl d hd9 _ x (Keep.grown hgrow (fun g hg => hkl g hg)) (fun b hb => ?_) (fun O' hO hcmp => ?_), p', cap, hx, hcap, hcm⟩
    · refine ⟨(hown'.lt b hb).2, ?_⟩
      rcases hblk b hb with h1 | h1
      · exact .inr (hkl b h1)
      · exact .inl (by omega)
    · have hk' : Keep (Owned X γ st.o) w w' := Keep.grown hgrow (fun g hg => by obtain ⟨n', _, ob, h1, h2⟩ := hkl g hg; exact .inl ⟨n', ob, h1, h2⟩)
      simp only [ObRel]
      refine ⟨by rw [hks]; exact hpos, by rw [List.length_append, hl0]; unfold strMax; omega, xs ++ news, ?_, fun i y hy => ?_⟩
      · rw [List.length_append, hl0, hks]
        exact OwnRow.of hown' he6
      · refine Kd.RelAll.mono hk' hO (fun _ _ h => h) ?_
        rw [List.getElem?_append] at hy
        split at hy
        · rename_i hlt
          refine Kd.RelAll.mono (Keep.refl _ w) (fun _ _ h => h) (fun j u hu => ?_) (hr0 i y hy)
          rw [List.getElem?_append_left]
          · exact hu
          · rcases Nat.lt_or_ge (i * (E.tyd e).ks.length + j) xs.length with h' | h'
            · exact h'
            · rw [List.getElem?_eq_none h'] at hu; cases hu
        · rename_i hlt
          refine Kd.RelAll.mono (Keep.refl _ w) (fun _ _ h => h) (fun j u hu => ?_) (hnr (i - l0.length) y hy)
          have hxl := hown.1
          rw [List.getElem?_append_right]
          · rw [← hu]
            congr 1
            rw [hxl, hks, ← hl0, Nat.sub_mul]
            have : l0.length * (E.tyd e).size ≤ i * (E.tyd e).size := Nat.mul_le_mul_right _ (by omega)
            omega
          · rw [hxl, hks, ← hl0]
            have : l0.length * (E.tyd e).size ≤ i * (E.tyd e).size := Nat.mul_le_mul_right _ (by omega)
            omega
  unfold appendT at he
  split at he
  · obtain ⟨hk, he⟩ := T.get_when he
    simp only [T.get, Option.some.injEq, Prod.mk.injEq] at he
    obtain ⟨rfl, rfl⟩ := he
    simp only [decide_eq_true_eq] at hk
    simp only [VRel] at hs
    subst hs
    obtain ⟨x, w', h1, h2, p', cap, h3, h4, h5⟩ := main 0 [] [] [] (World.ownsRow_nil w 0 e _) rfl (fun b hb => by simp [Value.ownBlock] at hb) (fun i y hy => by simp at hy) (by simpa using hk)
    refine ⟨_, x, w', h1, h2, ?_⟩
    simp only [St.ups, VRel, objOf_up_new, if_true, scrubO]
    simp only [Nat.zero_add] at h3 h4
    refine ⟨Nat.le_refl _, p', _, cap, p', h3, by rw [h3]; simp, Nat.zero_le _, Nat.le_refl _, h4, h5, .inl ?_, fun _ => rfl⟩
    cases p' <;> simp [Addr.add]
  · rename_i n lo hi
    split at he
    · rename_i e' ag' ks' l0 hob
      split at he
      · rename_i hc
        obtain ⟨hk, he⟩ := T.get_when he
        simp only [T.get, Option.some.injEq, Prod.mk.injEq] at he
        obtain ⟨rfl, rfl⟩ := he
        simp only [decide_eq_true_eq] at hk
        simp only [Bool.and_eq_true] at hc
        obtain ⟨⟨⟨hc1, hc2⟩, hc3⟩, hc4⟩ := hc
        obtain rfl := beq_eq'.1 hc1
        obtain rfl := beq_eq'.1 hc2
        have hkk := kdEq_eq hc4
        simp only [Kd.list.injEq] at hkk
        obtain ⟨rfl, rfl⟩ := hkk
        simp only [VRel, hob] at hs
        obtain ⟨hlen, q, len, cap, q', hg, hv, _, h2, h3, hm, _, h5⟩ := hs
        rw [h5 rfl, Nat.sub_zero, Nat.sub_zero] at hv
        have hor := h.ob n _ hob
        simp only [ObRel] at hor
        obtain ⟨hkp, hstr, xs, hx, hrx⟩ := hor
        rw [hks] at hx
        have hx' := hx.plain he6
        have hlen' : len = l0.length := by
          rcases hx'.2 with ⟨h6, h7⟩ | ⟨g, cap', cur, h6, _⟩
          · rw [hg] at h6; simp only [Value.slice.injEq] at h6; omega
          · rw [hg] at h6; simp only [Value.slice.injEq] at h6; exact h6.2.1
        subst hlen'
        rw [hg] at hx'
        have hsh := own_shorter hx' hlen
        rw [← hv] at hsh
        obtain ⟨x, w', h1, h2, p', cap', h3, h4, h6⟩ := main hi (l0.take hi) (xs.take (hi * (E.tyd e).size)) [n] hsh (by rw [List.length_take, Nat.min_eq_left hlen])
          (fun b hb => ⟨n, by simp, _, hob, by simp only [blocksOf]; rw [hg]; rw [hv] at hb; cases q <;> first | (simp [Value.ownBlock] at hb; done) | simpa [Value.ownBlock] using hb⟩)
          (fun i y hy => by
            rw [List.getElem?_take] at hy
            split at hy
            · rename_i hlt
              have h7 := hrx i y hy
              rw [Kd.RelAll_iff] at h7 ⊢
              intro j k hj
              obtain ⟨u, hu, hk⟩ := h7 j k hj
              refine ⟨u, ?_, hk⟩
              have hjl : j < (E.tyd e).ks.length := by
                rcases Nat.lt_or_ge j (E.tyd e).ks.length with h' | h'
                · exact h'
                · rw [List.getElem?_eq_none h'] at hj; cases hj
              rw [List.getElem?_take, if_pos]
              · exact hu
              · have e1 : (i + 1) * (E.tyd e).ks.length ≤ hi * (E.tyd e).ks.length := Nat.mul_le_mul_right _ hlt
                rw [Nat.succ_mul] at e1
                rw [hks] at e1 hjl ⊢
                omega
            · cases hy) hk
        refine ⟨_, x, w', h1, h2, ?_⟩
        simp only [St.ups, St.up, VRel, objOf_cons, if_true]
        have hll : (l0.take hi ++ l).length = hi + l.length := by rw [List.length_append, List.length_take, Nat.min_eq_left hlen]
        refine ⟨by rw [hll]; exact Nat.le_refl _, p', _, cap', p', h3, by rw [h3]; simp, Nat.zero_le _, Nat.le_refl _, h4, h6, .inl ?_, fun _ => rfl⟩
        cases p' <;> simp [Addr.add]
      · simp [T.get] at he
    · simp [T.get] at he
  · simp [T.get] at he


/-- append onto 's' of elements that lie in memory. -/
theorem appendT_run (hT : TiOK P B E) (h : Rel B nt w0 X γ st a w) {d t t' ty e e' : Nat} (hd9 : d ≠ 900000) (ht : P.underlying t = some (.slice e)) (ht' : P.underlying t' = some (.slice e')) (hpos : 0 < (E.tyd e).size) (he6 : e < 1000000) {s : V} {sv : Value} (hs : VRel γ st.o w (Owned X γ st.o) s sv)
    {l : List IV} {v : V} {us : List Upd} (he : (appendT st.o d e (E.tyd e).agg (E.tyd e).ks (E.tyd e).bytes s l).get = some (v, us))
    {p : Option Addr} {c : Nat} (hp0 : 0 < l.length → ∃ b o, p = some ⟨b, o, none⟩)
    (hr : ∀ i y, l[i]? = some y → ∃ b o, p = some ⟨b, o, none⟩ ∧ b < w.heap.size ∧ Kd.RelAll w (Owned X γ st.o) (E.tyd e).ks (cellOf (E.tyd e).agg y) 0 (fun j u => w.cell? ⟨b, o + i * (E.tyd e).ks.length + j, none⟩ = some u)) :
    ∃ γ' x w', (Builtin.append_ #[t, t'] ty #[sv, .slice p l.length c]).run P w = .ok x w' ∧ Rel B nt w0 X γ' (st.ups us) a w' ∧ VRel γ' (st.ups us).o w' (Owned X γ' (st.ups us).o) v x := by
  have hsn := hT.size (t := e) hpos
  obtain ⟨i, z, hi, hz, hzs, hsz, hby, _⟩ := zero_cells hsn
  have hks := hsn.ks
  refine appendT_core hT h hd9 hpos he6 hs he (fun n xs hown hbd => ?_)
  have hb1 := hsn.by1
  have hle : n + l.length ≤ 70368744177664 := by
    have := Nat.le_mul_of_pos_right (n + l.length) (show 0 < (E.tyd e).bytes by omega)
    simp only [bytesMax] at hbd
    omega
  obtain ⟨q, cap0, hq, hqc⟩ : ∃ q cap, sv = .slice q n cap ∧ n ≤ cap := by
    rcases hown.2 with ⟨h1, h2⟩ | ⟨g, cap, cur, h1, _, _, h4, _⟩
    · exact ⟨none, 0, by rw [h1, h2], by omega⟩
    · exact ⟨_, cap, h1, h4⟩
  rw [hq, append_types ht ht', ← hq]
  cases hp : p with
  | none =>
    have hl0 : l = [] := by
      rcases Nat.eq_zero_or_pos l.length with h0 | h0
      · exact List.eq_nil_of_length_eq_zero h0
      · obtain ⟨b, o, h1⟩ := hp0 h0
        rw [hp] at h1
        cases h1
    subst hl0
    refine ⟨sv, w, [], ?_, by simpa using hown, ⟨rfl, rfl, rfl, Nat.le_refl _, fun _ _ _ => rfl⟩, fun b hb => .inl hb, by simp, fun i y hy => by simp at hy⟩
    rw [hq]
    exact append_nothing ht hi hqc
  | some ad =>
    obtain ⟨b, o, spot⟩ := ad
    by_cases hl0 : l = []
    · subst hl0
      obtain ⟨x, w', h1, h2, h3, h4⟩ := append_run w t ty e i z (E.tyd e).size (E.tyd e).bytes ht hi hz hsz hby hzs hpos sv n xs hown ⟨b, o, spot⟩ 0 c [] (by simp) (fun j u hj => by simp at hj) (fun u hu => by cases hu) (by unfold maxLen; omega) (by simp only [bytesMax] at hbd; simp only [List.length_nil, Nat.add_zero] at hbd ⊢; omega)
      exact ⟨x, w', [], h1, h2, h3, h4, by simp, fun i y hy => by simp at hy⟩
    · obtain ⟨b', o', hp'⟩ := hp0 (List.length_pos_iff.2 hl0)
      rw [hp] at hp'
      simp only [Option.some.injEq, Addr.mk.injEq] at hp'
      obtain ⟨rfl, rfl, rfl⟩ := hp'
      have hr' : ∀ i y, l[i]? = some y → Kd.RelAll w (Owned X γ st.o) (E.tyd e).ks (cellOf (E.tyd e).agg y) 0 (fun j u => w.cell? ⟨b, o + i * (E.tyd e).ks.length + j, none⟩ = some u) := by
        intro i y hy
        obtain ⟨b1, o1, h1, _, h2⟩ := hr i y hy
        rw [hp] at h1
        simp only [Option.some.injEq, Addr.mk.injEq] at h1
        obtain ⟨rfl, rfl, _⟩ := h1
        exact h2
      obtain ⟨c1, c2, c3⟩ := cellsAt_rel (by rw [hks]; exact hpos) hr'
      rw [hks] at c1 c2 c3
      obtain ⟨x, w', h1, h2, h3, h4⟩ := append_run w t ty e i z (E.tyd e).size (E.tyd e).bytes ht hi hz hsz hby hzs hpos sv n xs hown ⟨b, o, none⟩ l.length c (cellsAt w b o (l.length * (E.tyd e).size)) (cellsAt_length _ _ _ _)
        (fun j u hj => by rw [Addr.add_mid]; exact c1 j u hj) c2 (by unfold maxLen; omega) (by simp only [bytesMax] at hbd; omega)
      refine ⟨x, w', _, h1, h2, h3, h4, cellsAt_length _ _ _ _, fun i y hy => ?_⟩
      rw [hks]
      exact c3 i y hy

theorem zeroCells_get (z : Array Value) (n i j : Nat) (hi : i < n) (hj : j < z.size) : (Builtin.zeroCells z n).toList[i * z.size + j]? = z[j]? := by
  have hb : i * z.size + j < n * z.size := by
    have e1 : (i + 1) * z.size ≤ n * z.size := Nat.mul_le_mul_right _ hi
    rw [Nat.succ_mul] at e1
    omega
  have hm : (i * z.size + j) % z.size = j := by rw [Nat.mul_comm, Nat.mul_add_mod, Nat.mod_eq_of_lt hj]
  simp only [Builtin.zeroCells, Array.getElem?_toList, Array.getElem?_map]
  simp [hb, hm]
  rw [getElem!_pos z j hj]
  simp [hj]

/-- The model's append of zeros where there is room. -/
theorem append_room_zeros {P : Program} (w : World) (t tn ty e : TypeId) (i : TypeInfo) (z : Value) (kq kn : IntKind) (ht : P.underlying t = some (.slice e)) (htn : P.underlying tn = some (.int kn)) (hi : P.info? e = some i) (hz : i.zero = some z)
    (g sLen sCap : Nat) (cur : Array Value) (hg : w.heap[g]? = some (.cells cur e (0, 0))) (k : Nat) (h0 : 0 < k) (hs : 0 < i.size) (hk : k ≤ 1000) (h48 : k * i.bytes ≤ 281474976710656) (h1 : ∀ u ∈ (Builtin.zeroCells z.cells k).toList, u.oneCell' = true)
    (hroom : sLen + k ≤ sCap) (hfit : sLen * i.size + (Builtin.zeroCells z.cells k).toList.length ≤ cur.size) :
    (Builtin.append_ #[t, tn] ty #[.slice (some ⟨g, 0, none⟩) sLen sCap, .int kq k]).run P w =
      .ok (.slice (some ⟨g, 0, none⟩) (sLen + k) sCap) (w.setRow g (cur.toList.take (sLen * i.size) ++ (Builtin.zeroCells z.cells k).toList ++ cur.toList.drop (sLen * i.size + (Builtin.zeroCells z.cells k).toList.length)).toArray) := by
  have hk0 : k ≠ 0 := by omega
  have hw : IntKind.i64.wrap (k : Int) = k := by simp [IntKind.wrap, IntKind.signed, IntKind.bits]; omega
  have h48i : ¬ (281474976710656 < (k : Int) * (i.bytes : Int)) := by
    rw [← Int.natCast_mul]
    omega
  have hneg : ¬ ((k : Int) < 0) := by omega
  have hns : ¬ (k * i.size = 0) := Nat.mul_ne_zero hk0 (by omega)
  have hst := run_storeCells_at P g (sLen * i.size) e (Builtin.zeroCells z.cells k).toList 0 cur w hg (by simpa using hfit) h1
  simp only [Nat.add_zero] at hst
  simp [Builtin.append_, run_underlying ht, run_underlying htn, sizeOf, typeInfo, zeroValue, hi, hz, asInt, asIntOf, hw, hroom, hneg, hns, h48i, Addr.add_lit, hst]

theorem leafIV_nil {k : Kd} {v : V} {x : IV} (h : leafIV [] k v = some x) (o : Store) : leafIV o k v = some x := by
  cases k <;> cases v <;> simp only [leafIV] at h ⊢ <;> first | exact h | (simp [objOf, lkd] at h)
theorem leavesIV_nil : ∀ {ks : List Kd} {vs : List V} {l : List IV}, leavesIV [] ks vs = some l → ∀ o : Store, leavesIV o ks vs = some l
  | [], [], _, h, _ => h
  | k :: ks, v :: vs, l, h, o => by
    simp only [leavesIV] at h ⊢
    split at h
    · rename_i x hx
      rw [leafIV_nil hx o]
      simp only
      split at h
      · rename_i r hr
        rw [leavesIV_nil hr o]
        exact h
      · cases h
    · cases h
  | [], _ :: _, _, h, _ => by simp [leavesIV] at h
  | _ :: _, [], _, h, _ => by simp [leavesIV] at h
theorem elemIV_nil {ag : Bool} {ks : List Kd} {v : V} {x : IV} (h : elemIV [] ag ks v = some x) (o : Store) : elemIV o ag ks v = some x := by
  unfold elemIV at h ⊢
  split at h
  · split at h
    · rename_i l hl
      rw [leavesIV_nil hl o]
      exact h
    · cases h
  · split at h
    · rename_i y l hl
      rw [leavesIV_nil hl o]
      exact h
    · cases h
  · cases h
theorem chunk_nil {ag : Bool} {ks : List Kd} {sz : Nat} : ∀ {n : Nat} {cs : List V} {l : List IV}, chunk ag ks [] cs sz n = some l → ∀ o : Store, chunk ag ks o cs sz n = some l
  | 0, _, _, h, _ => h
  | n + 1, cs, l, h, o => by
    simp only [chunk] at h ⊢
    split at h
    · rename_i x r hx hr
      rw [elemIV_nil hx o, chunk_nil hr o]
      exact h
    · cases h

/-- append of zeros. -/
theorem appendZ_run (hT : TiOK P B E) (h : Rel B nt w0 X γ st a w) {d t t' ty e : Nat} (hd9 : d ≠ 900000) (ht : P.underlying t = some (.slice e)) (ht' : ∀ k, (E.tyd t').ks = [.int k] → P.underlying t' = some (.int k)) {s x : V} {sv xv : Value} (hs : VRel γ st.o w (Owned X γ st.o) s sv) (hx : VRel γ st.o w (Owned X γ st.o) x xv)
    {v : V} {us : List Upd} (he : (appendZ st.o d e (E.tyd e) (E.tyd t').ks s x).get = some (v, us)) :
    ∃ γ' y w', (Builtin.append_ #[t, t'] ty #[sv, xv]).run P w = .ok y w' ∧ Rel B nt w0 X γ' (st.ups us) a w' ∧ VRel γ' (st.ups us).o w' (Owned X γ' (st.ups us).o) v y := by
  unfold appendZ at he
  split at he
  · rename_i kn kq k z zr hks' hc
    split at he
    · rename_i hk
      simp only [Bool.and_eq_true, decide_eq_true_eq, List.isEmpty_iff] at hk
      obtain ⟨hk1, hk2, hk3, hk4, hk5⟩ := hk
      simp only [VRel] at hx
      obtain ⟨rfl, _⟩ := hx
      obtain ⟨m, rfl⟩ : ∃ m : Nat, k = m := ⟨k.toNat, by omega⟩
      simp only [Int.toNat_natCast] at he
      have hpos := Nat.le_of_ble_eq_true hk1
      have he6 : e < 1000000 := Nat.le_of_ble_eq_true hk2
      have hsn := hT.size (t := e) hpos
      have hb1 := hsn.by1
      obtain ⟨i, zv, hi, hz, hzs, hsz, hby, hzr⟩ := zero_cells hsn
      have hks := hsn.ks
      have hz' := Frz.of h (E.tyd e).zero
      rw [hk5] at hz'
      obtain ⟨_, hr⟩ := chunk_rel hz' hsn.ks (fun ha => hsn.one ha) (fun v hv => hv) (chunk_nil hc st.o) (hzr γ st.o w (Owned X γ st.o))
      have hr0 := hr 0 z rfl
      refine appendT_core hT h hd9 hpos he6 hs he (fun n xs hown hbd => ?_)
      rw [List.length_replicate] at hbd ⊢
      have hle : n + m ≤ 70368744177664 := by
        have := Nat.le_mul_of_pos_right (n + m) (show 0 < (E.tyd e).bytes by omega)
        simp only [bytesMax] at hbd
        omega
      have hmb : m * (E.tyd e).bytes ≤ 70368744177664 := by
        have := Nat.mul_le_mul_right (E.tyd e).bytes (Nat.le_add_left m n)
        simp only [bytesMax] at hbd
        omega
      have hnl : (Builtin.zeroCells zv.cells m).toList.length = m * (E.tyd e).size := by rw [Array.length_toList, size_zeroCells, hzs]
      have hone : ∀ u ∈ (Builtin.zeroCells zv.cells m).toList, u.oneCell' = true := fun u hu => by
        obtain ⟨q, hq⟩ := List.getElem?_of_mem hu
        have hql : q < m * (E.tyd e).size := by
          rcases Nat.lt_or_ge q (m * (E.tyd e).size) with h' | h'
          · exact h'
          · rw [List.getElem?_eq_none (by rw [hnl]; exact h')] at hq; cases hq
        have hdiv : q / (E.tyd e).size < m := (Nat.div_lt_iff_lt_mul hpos).2 hql
        have hmod : q % (E.tyd e).size < (E.tyd e).size := Nat.mod_lt _ hpos
        have hqe : q = q / (E.tyd e).size * zv.cells.size + q % (E.tyd e).size := by rw [hzs, Nat.mul_comm]; exact (Nat.div_add_mod q _).symm
        rw [hqe, zeroCells_get _ _ _ _ hdiv (by rw [hzs]; exact hmod)] at hq
        rw [Kd.RelAll_iff] at hr0
        obtain ⟨kd, hkd⟩ : ∃ kd, (E.tyd e).ks[q % (E.tyd e).size]? = some kd := ⟨_, List.getElem?_eq_getElem (by rw [hks]; exact hmod)⟩
        obtain ⟨u', hu', hrel⟩ := hr0 _ kd hkd
        simp only [Nat.zero_mul, Nat.zero_add, Array.getElem?_toList] at hu'
        rw [hq] at hu'
        simp only [Option.some.injEq] at hu'
        subst hu'
        exact Kd.Rel.one hrel
      have hnr : ∀ i' y, (List.replicate m z)[i']? = some y → Kd.RelAll w (Owned X γ st.o) (E.tyd e).ks (cellOf (E.tyd e).agg y) 0 (fun j u => (Builtin.zeroCells zv.cells m).toList[i' * (E.tyd e).ks.length + j]? = some u) := fun i' y hy => by
        rw [List.getElem?_replicate] at hy
        split at hy
        · rename_i hlt
          simp only [Option.some.injEq] at hy
          subst hy
          rw [Kd.RelAll_iff] at hr0 ⊢
          intro j kd hj
          obtain ⟨u, hu, hkr⟩ := hr0 j kd hj
          refine ⟨u, ?_, hkr⟩
          have hjl : j < (E.tyd e).size := by
            rw [← hks]
            rcases Nat.lt_or_ge j (E.tyd e).ks.length with h' | h'
            · exact h'
            · rw [List.getElem?_eq_none h'] at hj; cases hj
          simp only [Nat.zero_add, Nat.zero_mul, Array.getElem?_toList] at hu ⊢
          rw [hks, ← hzs, ← Array.getElem?_toList, zeroCells_get _ _ _ _ hlt (by rw [hzs]; exact hjl)]
          exact hu
        · cases hy
      have htn := ht' kn hks'
      have hxs := hown.1
      have grown : ∀ (old : Nat), (w.drew.alloc (.cells (xs.toArray ++ Builtin.zeroCells zv.cells m ++ Builtin.zeroCells zv.cells (grownCap w (n + m) old e - (n + m))) e)).ownsRow 0 e (E.tyd e).size
            (.slice (some ⟨w.heap.size, 0, none⟩) (n + m) (grownCap w (n + m) old e)) (n + m) (xs ++ (Builtin.zeroCells zv.cells m).toList) := fun old => by
        have hge := grownCap_ge w (n + m) old e
        have hcm : grownCap w (n + m) old e ≤ maxLen := grownCap_le_maxLen w (n + m) old e (by unfold maxLen; omega)
        have hlen : (xs ++ (Builtin.zeroCells zv.cells m).toList).length = (n + m) * (E.tyd e).size := by rw [List.length_append, hxs, hnl, Nat.add_mul]
        refine ⟨hlen, .inr ⟨w.heap.size, _, _, rfl, Nat.zero_le _, heap_alloc_new w.drew _, hge, hcm, ?_, ?_⟩⟩
        · simp only [Array.size_append, List.size_toArray, size_zeroCells, hzs, hxs, ← Nat.add_mul]
          congr 1
          omega
        · simp only [Array.toList_append]
          rw [← hlen]
          exact List.take_left
      have gb : ∀ (old : Nat) (row : Option Nat), w.grownBy (w.drew.alloc (.cells (xs.toArray ++ Builtin.zeroCells zv.cells m ++ Builtin.zeroCells zv.cells (grownCap w (n + m) old e - (n + m))) e)) row := fun old row =>
        ⟨rfl, rfl, rfl, by simp, fun k hk _ => heap_alloc_old w.drew _ k hk⟩
      have hnb : ∀ {len cap b : Nat}, (Value.slice (some ⟨w.heap.size, 0, none⟩) len cap).ownBlock = some b → b = w.heap.size := fun h => by
        simp only [Value.ownBlock, Option.some.injEq] at h
        exact h.symm
      rcases hown.2 with ⟨rfl, rfl⟩ | ⟨g, cap, cur, rfl, hbg, hg, hnc, hcm, hcs, htake⟩
      · have hxn : xs = [] := List.eq_nil_of_length_eq_zero (by simpa using hxs)
        subst hxn
        have hrun := Lib.run_append_nil_zeros (P := P) w t t' ty e i zv kq kn ht htn hi hz m (by omega) (by rw [hsz]; exact hpos) (by omega) (by rw [hby]; omega)
        have g0 := grown 0
        have g1 := gb 0 (Value.ownBlock (.slice none 0 0))
        simp only [Nat.zero_add, List.nil_append, Array.empty_append] at g0 g1 ⊢
        exact ⟨_, _, _, hrun, g0, g1, fun b hb => .inr (hnb hb), hnl, hnr⟩
      · by_cases hroom : n + m ≤ cap
        · have hfit : n * i.size + (Builtin.zeroCells zv.cells m).toList.length ≤ cur.size := by rw [hnl, hcs, hsz, ← Nat.add_mul]; exact Nat.mul_le_mul_right _ hroom
          have hrun := append_room_zeros (P := P) w t t' ty e i zv kq kn ht htn hi hz g n cap cur hg m (by omega) (by rw [hsz]; exact hpos) (by omega) (by rw [hby]; omega) hone hroom hfit
          have hlen : (xs ++ (Builtin.zeroCells zv.cells m).toList).length = (n + m) * (E.tyd e).size := by rw [List.length_append, hxs, hnl, Nat.add_mul]
          refine ⟨_, _, _, hrun, ⟨hlen, .inr ⟨g, cap, _, rfl, hbg, setRow_heap w g cur _ e _ hg, hroom, hcm, ?_, ?_⟩⟩, ⟨rfl, rfl, rfl, by simp, fun k _ hk => setRow_other w g k _ (fun e => hk (by simp [Value.ownBlock, e]))⟩, fun b hb => .inl hb, hnl, hnr⟩
          · simp only [List.size_toArray, List.length_append, List.length_take, List.length_drop]
            rw [Array.length_toList (xs := cur)]
            omega
          · rw [hsz, htake, ← hlen]
            exact List.take_left
        · have holds : ∀ j u, xs[j]? = some u → w.cell? ((⟨g, 0, none⟩ : Addr).add j) = some u := hown.cells (g := g) rfl
          have hf := run_firstCells_some (P := P) w.drew i.size n ⟨g, 0, none⟩ n cap xs (by rw [hsz]; exact hxs) (by simpa using holds)
          have hrun := Lib.run_append_grow_zeros (P := P) w t t' ty e i zv kq kn ht htn hi hz (some ⟨g, 0, none⟩) n cap xs hf m (by omega) (by rw [hsz]; exact hpos) (by omega) (by omega) (by rw [hby]; omega) (by rw [hby]; exact growslice_fits (by omega) (by simp only [bytesMax] at hbd; omega))
          exact ⟨_, _, _, hrun, grown cap, gb cap _, fun b hb => .inr (hnb hb), hnl, hnr⟩
    · simp [T.get] at he
  · simp [T.get] at he

end
end Go.FM

/-
  THE SMALL MACHINE (16): calls of builtins.
-/
namespace Go.FM
open Go Go.RowKit

section
variable {B : BT} {nt : Nat} {w0 : World} {X : Zone} {γ : Nat → Value} {st st' : St} {a : Act} {w : World} {P : Program} {E : Env}

theorem appendX_run (hT : TiOK P B E) (h : Rel B nt w0 X γ st a w) {d t t' ty e e' : Nat} (hd9 : d ≠ 900000) (ht : P.underlying t = some (.slice e)) (ht' : P.underlying t' = some (.slice e')) {s x : V} {sv xv : Value}
    (hs : VRel γ st.o w (Owned X γ st.o) s sv) (hx : VRel γ st.o w (Owned X γ st.o) x xv)
    {v : V} {us : List Upd} (he : (appendX st.o d e (E.tyd e) s x).get = some (v, us)) (hpos : 0 < (E.tyd e).size) (he6 : e < 1000000) :
    ∃ γ' y w', (Builtin.append_ #[t, t'] ty #[sv, xv]).run P w = .ok y w' ∧ Rel B nt w0 X γ' (st.ups us) a w' ∧ VRel γ' (st.ups us).o w' (Owned X γ' (st.ups us).o) v y := by
  have hsn := hT.size (t := e) hpos
  have hks := hsn.ks
  unfold appendX at he
  split at he
  · rename_i n c cap sz len
    split at he
    · rename_i cs hob
      split at he
      · rename_i hc
        simp only [Bool.and_eq_true, List.isEmpty_iff] at hc
        obtain ⟨hc1, hc2⟩ := hc
        obtain rfl := beq_eq'.1 hc1
        obtain ⟨m, _, hm, hml, he'⟩ := fork_get he
        clear he
        simp only [VRel, hob] at hx
        obtain ⟨hlc, hcm, hfit, b, hg, rfl⟩ := hx
        have hor := h.ob n _ hob
        simp only [ObRel] at hor
        obtain ⟨b', xs, T, hg', hh, hr⟩ := hor
        rw [hg] at hg'
        simp only [Value.pointer.injEq, Option.some.injEq, Addr.mk.injEq, and_true] at hg'
        subst hg'
        split at he'
        · rename_i l hl
          have hz := Frz.of h cs
          rw [hc2] at hz
          simp only [freezeU, St.ups] at hz
          obtain ⟨h1, h2⟩ := chunk_rel hz hks (fun ha => hsn.one ha) (fun v hv => by rw [dropV_eq] at hv; exact List.mem_of_mem_drop hv) hl (by rw [dropV_eq]; exact hr.drop c)
          obtain rfl : len = l.length := by omega
          refine appendT_run hT h hd9 ht ht' hpos he6 hs he' (fun _ => ⟨b, c, rfl⟩) (fun i y hy => ⟨b, c, rfl, (Array.getElem?_eq_some_iff.1 hh).1, ?_⟩)
          refine Kd.RelAll.mono (Keep.refl _ w) (fun _ _ h => h) (fun j u hu => ?_) (h2 i y hy)
          simp only [List.getElem?_drop, Array.getElem?_toList] at hu
          simp [World.cell?, hh, ← hu, hks, Nat.add_assoc]
        · simp [FM.T.get] at he'
      · simp [T.get] at he
    · simp [T.get] at he
  · simp only [VRel] at hx
    subst hx
    exact appendT_run hT h hd9 ht ht' hpos he6 hs he (l := []) (fun h0 => absurd h0 (by simp)) (fun i y hy => by simp at hy)
  · split at he
    · rename_i l ag ks hl hsh
      split at he
      · rename_i hkd
        have hkk := kdEq_eq hkd
        simp only [Kd.list.injEq] at hkk
        obtain ⟨rfl, rfl⟩ := hkk
        obtain ⟨p, c, rfl, _, _, hp, hr⟩ := elems_rel h hx hl hsh
        exact appendT_run hT h hd9 ht ht' hpos he6 hs he hp hr
      · simp [T.get] at he
    · simp [T.get] at he

theorem copyT_run (hT : TiOK P B E) (h : Rel B nt w0 X γ st a w) {t t' ty : Nat} {x y : V} {xv yv : Value}
    (hx : VRel γ st.o w (Owned X γ st.o) x xv) (hy : VRel γ st.o w (Owned X γ st.o) y yv)
    {v : V} {us : List Upd} (he : (copyT E st.o t x y).get = some (v, us)) :
    ∃ γ' z w', (Builtin.copy_ #[t, t'] ty #[xv, yv]).run P w = .ok z w' ∧ Rel B nt w0 X γ' (st.ups us) a w' ∧ VRel γ' (st.ups us).o w' (Owned X γ' (st.ups us).o) v z := by
  unfold copyT at he
  split at he
  · rename_i n c cap sz len n' c' cap' sz' len'
    split at he
    · rename_i cs cs' e hob hob' hd
      split at he
      · rename_i hc
        obtain ⟨hok, he⟩ := T.get_when he
        simp only [Bool.and_eq_true] at hc
        obtain ⟨hc1, hc2⟩ := hc
        obtain rfl := beq_eq'.1 hc2
        obtain ⟨rfl, hpos⟩ := szOK_spec hc1
        obtain ⟨m, _, hm, hml, he⟩ := fork_get he
        simp only [T.get, Option.some.injEq, Prod.mk.injEq] at he
        obtain ⟨rfl, rfl⟩ := he
        simp only [VRel, hob] at hx
        obtain ⟨hlc, hcm, hfit, b, hg, rfl⟩ := hx
        simp only [VRel, hob'] at hy
        obtain ⟨hlc', hcm', hfit', b', hg', rfl⟩ := hy
        have hor := h.ob n _ hob
        simp only [ObRel] at hor
        obtain ⟨b1, xs, T, hg1, hh, hr⟩ := hor
        rw [hg] at hg1
        simp only [Value.pointer.injEq, Option.some.injEq, Addr.mk.injEq, and_true] at hg1
        subst hg1
        have hor' := h.ob n' _ hob'
        simp only [ObRel] at hor'
        obtain ⟨b1, ys, T', hg1, hh', hr'⟩ := hor'
        rw [hg'] at hg1
        simp only [Value.pointer.injEq, Option.some.injEq, Addr.mk.injEq, and_true] at hg1
        subst hg1
        have hsn := hT.size (t := e) hpos
        obtain ⟨i, z, hi, _, _, hsz, _, _⟩ := zero_cells hsn
        have hd1 : P.underlying t = some (.slice e) := by
          obtain ⟨d, hd1, _, hd2⟩ := (hT.desc (t := t) (by rw [hd]; simp)).und
          rw [hd] at hd2
          rw [hd1, hd2]
        have hmn : Nat.min len' len = m := by
          have : min len' len = m := by omega
          exact this
        have hm' : m ≤ len' ∧ m ≤ len := by
          have : min len' len = m := hmn
          omega
        have hxl := hr.length
        have hyl := hr'.length
        simp only [Array.length_toList] at hxl hyl
        have hb1 : c' + m * (E.tyd e).size ≤ ys.size := by
          have := Nat.mul_le_mul_right (E.tyd e).size (show m ≤ cap' by omega)
          omega
        have hb2 : c + m * (E.tyd e).size ≤ xs.size := by
          have := Nat.mul_le_mul_right (E.tyd e).size (show m ≤ cap by omega)
          omega
        let src := (ys.toList.drop c').take (m * (E.tyd e).size)
        have hsl : src.length = m * (E.tyd e).size := by simp only [src, List.length_take, List.length_drop, Array.length_toList]; omega
        have hsrc : ∀ j u, src[j]? = some u → w.cell? ((⟨b', c', none⟩ : Addr).add j) = some u := by
          intro j u hj
          simp only [src, List.getElem?_take, List.getElem?_drop, Array.getElem?_toList] at hj
          split at hj
          · simp [Addr.add_mid, World.cell?, hh', hj]
          · cases hj
        have hone := okAll_one h hr' hok
        have h1 : ∀ u ∈ src, u.oneCell' = true := fun u hu => hone u (List.mem_of_mem_drop (List.mem_of_mem_take hu))
        have hl := run_loadCells_list (P := P) w ⟨b', c', none⟩ src hsrc
        rw [hsl] at hl
        have hst := run_storeCells_at P b c T src 0 xs w hh (by rw [hsl]; omega) h1
        have hrun : (Builtin.copy_ #[t, t'] ty #[.slice (some ⟨b, c, none⟩) len cap, .slice (some ⟨b', c', none⟩) len' cap']).run P w = .ok (goInt m) (w.setRow b (xs.toList.take c ++ src ++ xs.toList.drop (c + src.length)).toArray) := by
          simp [Builtin.copy_, run_underlying hd1, Builtin.lenOf, Builtin.firstCells, sizeOf, typeInfo, hi, hsz, hmn, hl, hst]
        have hsrcR : VRels γ st.o w (Owned X γ st.o) (takeV (dropV cs' c') (m * (E.tyd e).size)) src := by
          rw [takeV_eq, dropV_eq]
          exact (hr'.drop c').take _
        have hvl : (takeV (dropV cs' c') (m * (E.tyd e).size)).length = m * (E.tyd e).size := by rw [hsrcR.length, hsl]
        have hfit2 : c + (takeV (dropV cs' c') (m * (E.tyd e).size)).length ≤ cs.length := by rw [hvl]; omega
        have hO : blocksOf (γ n) (.box cs) b := ⟨_, hg, rfl⟩
        have hk1 : Keep (blocksOf (γ n) (.box cs)) w (w.setRow b (xs.toList.take c ++ src ++ xs.toList.drop (c + src.length)).toArray) := Keep.setRow w b _ hO
        have hset := Rel.set h hob (ob' := .box (putV cs c (takeV (dropV cs' c') (m * (E.tyd e).size)))) (by simp only [Ob.fits]; rw [putV_length hfit2]) hk1 (fun b hb => hb) (by
          intro hO' hcmp
          simp only [ObRel]
          refine ⟨b, _, _, hg, setRow_heap w b xs _ T _ hh, ?_⟩
          have hp := hr.put hsrcR hfit2
          simp only
          refine VRels.mono (hk1.mono (O' := Owned X γ st.o) (fun b' _ hb' => .inl ⟨n, _, hob, hb'⟩)) (fun b' _ hb' => hO' b' hb') (VRels.cmp hcmp hp))
        refine ⟨γ, _, _, hrun, hset, ?_⟩
        simp only [VRel, goInt]
        have hmb : (m : Int) ≤ 9223372036854775807 := by
          have : maxLen ≤ 9223372036854775807 := by simp [maxLen]
          omega
        refine ⟨trivial, by simp [IntKind.min, IntKind.signed, IntKind.bits], by simpa [IntKind.max, IntKind.signed, IntKind.bits] using hmb⟩
      · simp [T.get] at he
    · simp [T.get] at he
  · simp [T.get] at he
end
end Go.FM

/-
  THE SMALL MACHINE (17): builtins as operations.
-/
namespace Go.FM
open Go Go.RowKit

section
variable {B : BT} {nt : Nat} {w0 : World} {X : Zone} {γ : Nat → Value} {st st' : St} {a : Act} {w : World} {P : Program} {E : Env}

theorem mapO_eq (ρ : Operand → V) : ∀ l : List Operand, mapO ρ l = l.map ρ
  | [] => rfl
  | x :: r => by simp [mapO, mapO_eq ρ r]

theorem slice_und (hT : TiOK P B E) {t e : Nat} (hd : (E.tyd t).d = .slice e) : P.underlying t = some (.slice e) := by
  obtain ⟨d, hd1, _, hd2⟩ := (hT.desc (t := t) (by rw [hd]; simp)).und
  rw [hd] at hd2
  rw [hd1, hd2]

theorem strMax_le : FM.strMax ≤ maxLen := by unfold FM.strMax maxLen; omega

theorem lenT_run (hT : TiOK P B E) (h : Rel B nt w0 X γ st a w) {t ty : Nat} {x : V} {xv : Value} (hx : VRel γ st.o w (Owned X γ st.o) x xv)
    {v : V} {us : List Upd} (he : (lenT E st.o t x).get = some (v, us)) :
    us = [] ∧ ∃ n : Nat, v = .int .i64 (n : Int) ∧ n ≤ maxLen ∧ (Builtin.len_ #[t] ty #[xv]).run P w = .ok (goInt n) w := by
  unfold lenT at he
  split at he
  · rename_i ag ks l
    split at he
    · rename_i e hd
      simp only [T.get, Option.some.injEq, Prod.mk.injEq] at he
      obtain ⟨rfl, rfl⟩ := he
      simp only [VRel, Kd.Rel, IV.toList] at hx
      obtain ⟨p, c, rfl, _, _, hl, _⟩ := hx
      exact ⟨rfl, _, rfl, Nat.le_trans hl strMax_le, by simp [Builtin.len_, run_underlying (slice_und hT hd)]⟩
    · simp [T.get] at he
  · rename_i s
    split at he
    · rename_i hd hk
      simp only [T.get, Option.some.injEq, Prod.mk.injEq] at he
      obtain ⟨rfl, rfl⟩ := he
      simp only [VRel] at hx
      obtain ⟨rfl, hs⟩ := hx
      obtain ⟨d, hd1, _, hd2⟩ := (hT.kinds (t := t) (by rw [hk]; simp)).und
      rw [hd] at hd2
      have := hd2.2.1 hk
      subst this
      exact ⟨rfl, _, rfl, Nat.le_trans hs strMax_le, by simp [Builtin.len_, run_underlying hd1]⟩
    · simp [T.get] at he
  · split at he
    · rename_i e hd
      simp only [T.get, Option.some.injEq, Prod.mk.injEq] at he
      obtain ⟨rfl, rfl⟩ := he
      simp only [VRel] at hx
      subst hx
      exact ⟨rfl, 0, rfl, Nat.zero_le _, by simp [Builtin.len_, run_underlying (slice_und hT hd)]⟩
    · simp [T.get] at he
  · rename_i n lo hi
    split at he
    · rename_i e own e' ag ks l hd hob
      simp only [T.get, Option.some.injEq, Prod.mk.injEq] at he
      obtain ⟨rfl, rfl⟩ := he
      simp only [VRel, hob] at hx
      obtain ⟨hl, p, len, cap, p', hg, rfl, h1, h2, h3, h4, _⟩ := hx
      refine ⟨rfl, _, rfl, ?_, by simp [Builtin.len_, run_underlying (slice_und hT hd)]⟩
      have hor := h.ob n _ hob
      have : l.length ≤ strMax := by
        cases own with
        | true => simp only [ObRel] at hor; exact hor.2.1
        | false => simp only [ObRel, Kd.Rel, IV.toList] at hor; obtain ⟨_, p, c, _, _, _, h5, _⟩ := hor; exact h5
      have := strMax_le
      omega
    · simp [T.get] at he
  · rename_i n c cap sz len
    split at he
    · rename_i e cs hd hob
      simp only [T.get, Option.some.injEq, Prod.mk.injEq] at he
      obtain ⟨rfl, rfl⟩ := he
      simp only [VRel, hob] at hx
      obtain ⟨h1, h2, h3, b, hg, rfl⟩ := hx
      refine ⟨rfl, _, rfl, ?_, by simp [Builtin.len_, run_underlying (slice_und hT hd)]⟩
      omega
    · simp [T.get] at he
  · split at he
    · rename_i n e hd
      split at he
      · rename_i hn
        simp only [T.get, Option.some.injEq, Prod.mk.injEq] at he
        obtain ⟨rfl, rfl⟩ := he
        obtain ⟨d, hd1, _, hd2⟩ := (hT.desc (t := t) (by rw [hd]; simp)).und
        rw [hd] at hd2
        subst hd2
        refine ⟨rfl, n, rfl, ?_, by simp [Builtin.len_, run_underlying hd1]⟩
        have := Nat.le_of_ble_eq_true hn
        unfold maxLen
        omega
      · simp [T.get] at he
    · simp [T.get] at he

theorem int_rel {o : Store} {O : Nat → Prop} {n : Nat} (h : n ≤ maxLen) : VRel γ o w O (.int .i64 (n : Int)) (goInt n) := by
  simp only [VRel, goInt]
  have hmb : (n : Int) ≤ 9223372036854775807 := by
    have : maxLen ≤ 9223372036854775807 := by simp [maxLen]
    omega
  refine ⟨trivial, by simp [IntKind.min, IntKind.signed, IntKind.bits], by simpa [IntKind.max, IntKind.signed, IntKind.bits] using hmb⟩

/-- A call of a builtin. -/
theorem op_builtin (hT : TiOK P B E) (h : Rel B nt w0 X γ st a w) (o : Oper) (hd9 : ∀ d, o.dst = some d → d ≠ 900000) {b : Go.Builtin} {args : Array Operand} {ats : Array TypeId} (ho : o.op = .call ⟨.builtin b, args, ats⟩) {v : V} {us : List Upd}
    (he : (evOp E st.o (opd st) o.dst o.op).get = some (v, us)) : OpWp P B nt w0 X a w o st v us := by
  rw [ho] at he
  simp only [evOp, callOf] at he
  obtain ⟨args⟩ := args
  obtain ⟨ats⟩ := ats
  have hex : (execOp a.eval o) = builtin b ats.toArray o.type ((args.map fun | .const _ => true | _ => false)).toArray (args.map a.eval).toArray := by
    obtain ⟨dst, op, type, pos, after, guard⟩ := o
    simp only at ho
    subst ho
    rw [BigFrame.execOp_builtin]
    simp
    rfl
  split at he
  · rename_i hb
    cases hb
    split at he
    · rename_i x t hx ht
      simp only at hx ht
      subst hx ht
      obtain ⟨rfl, n, rfl, hn, hr⟩ := lenT_run (ty := o.type) hT h (opd_rel h x) he
      refine OpWp.pure h (x := goInt n) ?_ (int_rel hn)
      rw [hex, BigFrame.builtin_len]
      simp only [List.map_cons, List.map_nil, Sem.run_bind, hr, Result.andThen_ok, Sem.run_pure]
    · simp [T.get] at he
  · rename_i d hb hd0
    cases hb
    split at he
    · rename_i s x t t' hx ht
      simp only at hx ht
      subst hx ht
      split at he
      · rename_i e e' hd hd'
        split at he
        · rename_i hk
          simp only [Bool.and_eq_true] at hk
          obtain ⟨γ', y, w', hr, h1, h2⟩ := appendX_run (ty := o.type) hT h (hd9 _ hd0) (slice_und hT hd) (slice_und hT hd') (opd_rel h s) (opd_rel h x) he (Nat.le_of_ble_eq_true hk.1) (Nat.le_of_ble_eq_true hk.2)
          refine OpWp.value (x := y) (w' := w') ?_ h1 h2
          rw [hex, BigFrame.builtin_append]
          simp only [List.map_cons, List.map_nil, Sem.run_bind, hr, Result.andThen_ok, Sem.run_pure]
        · simp [T.get] at he
      · rename_i e hd hd'
        obtain ⟨γ', y, w', hr, h1, h2⟩ := appendZ_run (ty := o.type) hT h (hd9 _ hd0) (slice_und hT hd) (fun k hk => by
          obtain ⟨dd, hd1, _, hd2⟩ := (hT.kinds (t := t') (by rw [hk]; simp)).und
          rw [hd'] at hd2
          rw [hd1, hd2.1 k hk]) (opd_rel h s) (opd_rel h x) he
        refine OpWp.value (x := y) (w' := w') ?_ h1 h2
        rw [hex, BigFrame.builtin_append]
        simp only [List.map_cons, List.map_nil, Sem.run_bind, hr, Result.andThen_ok, Sem.run_pure]
      · simp [T.get] at he
    · simp [T.get] at he
  · rename_i hb
    cases hb
    split at he
    · rename_i x y t t' hx ht
      simp only at hx ht
      subst hx ht
      obtain ⟨γ', z, w', hr, h1, h2⟩ := copyT_run (t' := t') (ty := o.type) hT h (opd_rel h x) (opd_rel h y) he
      refine OpWp.value (x := z) (w' := w') ?_ h1 h2
      rw [hex, BigFrame.builtin_copy]
      simp only [List.map_cons, List.map_nil, Sem.run_bind, hr, Result.andThen_ok, Sem.run_pure]
    · simp [T.get] at he
  · rename_i hb
    cases hb
    simp only [mapO_eq] at he
    split at he
    · rename_i k x k' y hxy
      split at he
      · rename_i hkk
        simp only [T.get, Option.some.injEq, Prod.mk.injEq] at he
        obtain ⟨rfl, rfl⟩ := he
        obtain rfl : k = k' := by simpa using hkk
        obtain ⟨p, q, rfl, hp1, hq1⟩ : ∃ p q, args = [p, q] ∧ opd st p = .int k x ∧ opd st q = .int k y := by
          cases args with
          | nil => simp at hxy
          | cons p r => cases r with
            | nil => simp at hxy
            | cons q r => cases r with
              | nil =>
                simp only [List.map_cons, List.map_nil, List.cons.injEq, and_true] at hxy
                exact ⟨p, q, rfl, hxy.1, hxy.2⟩
              | cons _ _ => simp at hxy
        have hp := opd_rel h p
        have hq := opd_rel h q
        rw [hp1] at hp
        rw [hq1] at hq
        simp only [VRel] at hp hq
        refine OpWp.pure h (x := .int k (min x y)) ?_ ?_
        · rw [hex, BigFrame.builtin_min]
          have e1 : (if y < x then y else x) = min x y := by split <;> omega
          simp [Builtin.min_, Builtin.min2, hp.1, hq.1, e1]
        · simp only [VRel]
          exact ⟨trivial, by omega, by omega⟩
      · simp [T.get] at he
    · simp [T.get] at he
  · rename_i hb
    cases hb
    simp only [mapO_eq] at he
    split at he
    · rename_i k x k' y hxy
      split at he
      · rename_i hkk
        simp only [T.get, Option.some.injEq, Prod.mk.injEq] at he
        obtain ⟨rfl, rfl⟩ := he
        obtain rfl : k = k' := by simpa using hkk
        obtain ⟨p, q, rfl, hp1, hq1⟩ : ∃ p q, args = [p, q] ∧ opd st p = .int k x ∧ opd st q = .int k y := by
          cases args with
          | nil => simp at hxy
          | cons p r => cases r with
            | nil => simp at hxy
            | cons q r => cases r with
              | nil =>
                simp only [List.map_cons, List.map_nil, List.cons.injEq, and_true] at hxy
                exact ⟨p, q, rfl, hxy.1, hxy.2⟩
              | cons _ _ => simp at hxy
        have hp := opd_rel h p
        have hq := opd_rel h q
        rw [hp1] at hp
        rw [hq1] at hq
        simp only [VRel] at hp hq
        refine OpWp.pure h (x := .int k (max x y)) ?_ ?_
        · rw [hex, BigFrame.builtin_max]
          have e1 : (if x < y then y else x) = max x y := by split <;> omega
          simp [Builtin.max_, Builtin.max2, hp.1, hq.1, e1]
        · simp only [VRel]
          exact ⟨trivial, by omega, by omega⟩
      · simp [T.get] at he
    · simp [T.get] at he
  · rename_i hb
    cases hb
  · rename_i hb _
    cases hb
  · simp [T.get] at he

end
end Go.FM

/-
  THE SMALL MACHINE (18): what a call does to the caller's memory, step by step: what is lent lies far away; it comes back.
-/
namespace Go.FM
open Go Go.RowKit

section
variable {B : BT} {nt : Nat} {w0 : World} {X : Zone} {γ : Nat → Value} {st st' : St} {a : Act} {w : World} {P : Program} {E : Env}

/-- Less is far. -/
theorem Rel.shrink (h : Rel B nt w0 X γ st a w) {F : Nat → Prop} (hF : ∀ b, F b → X.far b) : Rel B nt w0 ⟨X.own, F⟩ γ st a w := by
  have hO : ∀ b, b < w.heap.size → Owned ⟨X.own, F⟩ γ st.o b → Owned X γ st.o b := fun b _ hb => hb.imp_right (hF b)
  exact ⟨h.sz, h.df, fun i => VRel.mono (Keep.refl _ w) hO (h.tm i), fun n ob hn => (h.ob n ob hn).later (fun _ _ => rfl) (Keep.refl _ w) hO (Cmp.refl _ _), h.lt, h.dis, h.keep, fun b hb hf => h.nr b hb (hF b hf), fun b hb => h.fl b (hF b hb), h.pn⟩

def BlockOf (γ : Nat → Value) (o : Store) (n b : Nat) : Prop := ∃ ob, objOf o n = some ob ∧ blocksOf (γ n) ob b

/-- An object is given up: its blocks are far. -/
theorem Rel.kill (h : Rel B nt w0 X γ st a w) (n : Nat) : Rel B nt w0 ⟨X.own, fun b => X.far b ∨ BlockOf γ st.o n b⟩ γ (st.up (.kill n)) a w := by
  have hP : ∀ b, OwnedP γ ((n, none) :: st.o) b → OwnedP γ st.o b ∧ ¬ BlockOf γ st.o n b := by
    rintro b ⟨m, ob, hm, hb⟩
    rw [objOf_cons] at hm
    split at hm
    · cases hm
    · rename_i hne
      exact ⟨⟨m, ob, hm, hb⟩, fun ⟨ob', hn, hb'⟩ => h.dis n m ob' ob b hne hn hm hb' hb⟩
  have hO : ∀ b, b < w.heap.size → Owned ⟨X.own, fun b => X.far b ∨ BlockOf γ st.o n b⟩ γ ((n, none) :: st.o) b → Owned X γ st.o b := by
    rintro b _ (hb | hb | ⟨ob, h1, h2⟩)
    · exact .inl (hP b hb).1
    · exact .inr hb
    · exact .inl ⟨n, ob, h1, h2⟩
  have hc : Cmp γ st.o γ ((n, none) :: st.o) := by
    intro m ob hm
    rw [objOf_cons] at hm
    split at hm
    · cases hm
    · exact ⟨rfl, ob, hm, ob.fits_refl⟩
  refine ⟨h.sz, h.df, fun i => VRel.mono (Keep.refl _ w) hO (VRel.cmp hc (h.tm i)), fun m ob hm => ?_, fun b hb => h.lt b (hP b hb).1, ?_, h.keep, ?_, ?_, fun p hp ob hm => ?_⟩
  · simp only [St.up] at hm ⊢
    have hm' := hm
    rw [objOf_cons] at hm
    split at hm
    · cases hm
    · exact (h.ob m ob hm).later (fun _ _ => rfl) (Keep.refl _ w) hO hc
  · intro m1 m2 ob1 ob2 b hne h1 h2 hb1 hb2
    simp only [St.up] at h1 h2
    rw [objOf_cons] at h1 h2
    split at h1
    · cases h1
    · split at h2
      · cases h2
      · exact h.dis m1 m2 ob1 ob2 b hne h1 h2 hb1 hb2
  · intro b hb hf
    rcases hf with hf | hf
    · exact h.nr b (hP b hb).1 hf
    · exact (hP b hb).2 hf
  · intro b hb
    rcases hb with hb | ⟨ob, h1, h2⟩
    · exact h.fl b hb
    · exact (h.lt b ⟨n, ob, h1, h2⟩).1
  · simp only [St.up] at hm
    rw [objOf_cons] at hm
    split at hm
    · cases hm
    · exact h.pn p hp ob hm

/-- The world goes on: what turns is far; what is new is far. -/
theorem Rel.fresh (h : Rel B nt w0 X γ st a w) {w' : World} {K : Nat → Prop} (hk : Keep K w w') (hK : ∀ b, b < w.heap.size → K b → X.far b ∧ (w0.heap.size ≤ b ∨ X.own b)) :
    Rel B nt w0 ⟨X.own, fun b => X.far b ∨ (w.heap.size ≤ b ∧ b < w'.heap.size)⟩ γ st a w' := by
  have hkf : Keep (Owned X γ st.o) w w' := hk.mono (fun b hb h1 => .inr (hK b hb h1).1)
  have hO : ∀ b, b < w.heap.size → Owned ⟨X.own, fun b => X.far b ∨ (w.heap.size ≤ b ∧ b < w'.heap.size)⟩ γ st.o b → Owned X γ st.o b := by
    rintro b hlt (hb | hb | hb)
    · exact .inl hb
    · exact .inr hb
    · omega
  refine ⟨h.sz, h.df, fun i => VRel.mono hkf hO (h.tm i), fun n ob hn => (h.ob n ob hn).later (fun b hb => ?_) hkf hO (Cmp.refl _ _), fun b hb => ⟨Nat.lt_of_lt_of_le (h.lt b hb).1 hk.size, (h.lt b hb).2⟩, h.dis, ?_, ?_, ?_, h.pn⟩
  · exact hk.block b (h.lt b ⟨n, ob, hn, hb⟩).1 (fun h1 => h.nr b ⟨n, ob, hn, hb⟩ (hK b (h.lt b ⟨n, ob, hn, hb⟩).1 h1).1)
  · refine h.keep.trans (hk.mono (fun b hb h1 => (show w0.heap.size ≤ b ∨ X.own b from (hK b hb h1).2))) (fun b hb h1 => ?_)
    rcases h1 with h1 | h1
    · omega
    · exact h1
  · rintro b hb (hf | hf)
    · exact h.nr b hb hf
    · have := (h.lt b hb).1
      omega
  · rintro b (hb | hb)
    · exact Nat.lt_of_lt_of_le (h.fl b hb) hk.size
    · exact hb.2

theorem VRels.each {γ γ' : Nat → Value} {o o' : Store} {w : World} {O : Nat → Prop} (hv : ∀ v x, VRel γ o w O v x → VRel γ' o' w O v x) : ∀ {l : List V} {xs : List Value}, VRels γ o w O l xs → VRels γ' o' w O l xs
  | [], [], _ => by simp only [VRels]
  | [], _ :: _, h => by simp only [VRels] at h
  | _ :: _, [], h => by simp only [VRels] at h
  | v :: vs, x :: xs, h => by
    simp only [VRels] at h ⊢
    exact ⟨hv v x h.1, VRels.each hv h.2⟩

theorem ObRel.after {γ γ' : Nat → Value} {o o' : Store} {w w' : World} {O O' : Nat → Prop} {g : Value} {ob : Ob} (h : ObRel B γ o w O g ob) (hb : ∀ b, blocksOf g ob b → w'.heap[b]? = w.heap[b]?) (hk : Keep O w w') (hO : ∀ b, b < w.heap.size → O' b → O b)
    (hv : ∀ v x, VRel γ o w O v x → VRel γ' o' w O v x) : ObRel B γ' o' w' O' g ob := by
  cases ob with
  | box l =>
    simp only [ObRel] at h ⊢
    obtain ⟨b, c, T, rfl, hh, hr⟩ := h
    exact ⟨b, c, T, rfl, by rw [hb b ⟨_, rfl, rfl⟩]; exact hh, VRels.mono hk hO (hr.each hv)⟩
  | row own e ag ks l =>
    cases own with
    | true =>
      simp only [ObRel] at h ⊢
      obtain ⟨h1, h2, xs, hx, hr⟩ := h
      exact ⟨h1, h2, xs, ownsRow_of_block hx hb, fun i y hy => Kd.RelAll.mono hk hO (fun _ _ hu => hu) (hr i y hy)⟩
    | false =>
      simp only [ObRel] at h ⊢
      exact ⟨h.1, Kd.Rel.mono hk hO h.2⟩
  | bld s =>
    simp only [ObRel] at h ⊢
    obtain ⟨b, v, p, rfl, hp, h1, h2, h3⟩ := h
    exact ⟨b, v, p, rfl, hp, by rw [hb b ⟨_, _, rfl, .inl rfl⟩]; exact h1, ownsRowF_of_block h2 (fun b' hb' => hb b' ⟨_, _, rfl, .inr hb'⟩), h3⟩

/-- An object is written by another one; its blocks may be others. -/
theorem Rel.lend (h : Rel B nt w0 X γ st a w) {n : Nat} {ob ob' : Ob} {g' : Value} (ho : objOf st.o n = some ob) (had : addrOf g' = addrOf (γ n)) {w' : World} {K : Nat → Prop} (hk : Keep K w w')
    (hK : ∀ b, b < w.heap.size → K b → BlockOf γ st.o n b ∨ (X.far b ∧ (w0.heap.size ≤ b ∨ X.own b)))
    (hb : ∀ b, blocksOf g' ob' b → b < w'.heap.size ∧ (BlockOf γ st.o n b ∨ w.heap.size ≤ b))
    (hv : ∀ O v x, VRel γ st.o w O v x → VRel (fun m => if n = m then g' else γ m) ((n, some ob') :: st.o) w O v x)
    (hr : ObRel B (fun m => if n = m then g' else γ m) ((n, some ob') :: st.o) w' (Owned ⟨X.own, fun b => (X.far b ∨ (w.heap.size ≤ b ∧ b < w'.heap.size)) ∧ ¬ blocksOf g' ob' b⟩ (fun m => if n = m then g' else γ m) ((n, some ob') :: st.o)) g' ob') :
    Rel B nt w0 ⟨X.own, fun b => (X.far b ∨ (w.heap.size ≤ b ∧ b < w'.heap.size)) ∧ ¬ blocksOf g' ob' b⟩ (fun m => if n = m then g' else γ m) (st.up (.set n ob')) a w' := by
  have hnof : ∀ m, n ≠ m → objOf ((n, some ob') :: st.o) m = objOf st.o m := fun m e => by rw [objOf_cons, if_neg e]
  have hP : ∀ b, OwnedP (fun m => if n = m then g' else γ m) ((n, some ob') :: st.o) b → blocksOf g' ob' b ∨ ∃ m ob1, n ≠ m ∧ objOf st.o m = some ob1 ∧ blocksOf (γ m) ob1 b := by
    rintro b ⟨m, ob1, hm, hb1⟩
    by_cases e : n = m
    · subst e
      rw [objOf_cons, if_pos rfl, Option.some.injEq] at hm
      subst hm
      simp only [if_true] at hb1
      exact .inl hb1
    · rw [hnof m e] at hm
      simp only [if_neg e] at hb1
      exact .inr ⟨m, ob1, e, hm, hb1⟩
  have hkf : Keep (Owned X γ st.o) w w' := hk.mono (fun b hb h1 => by
    rcases hK b hb h1 with ⟨ob1, h2, h3⟩ | h2
    · exact .inl ⟨n, ob1, h2, h3⟩
    · exact .inr h2.1)
  have hO : ∀ b, b < w.heap.size → Owned ⟨X.own, fun b => (X.far b ∨ (w.heap.size ≤ b ∧ b < w'.heap.size)) ∧ ¬ blocksOf g' ob' b⟩ (fun m => if n = m then g' else γ m) ((n, some ob') :: st.o) b → Owned X γ st.o b := by
    rintro b hlt (h1 | ⟨h1, h2⟩)
    · rcases hP b h1 with h3 | ⟨m, ob1, _, h3, h4⟩
      · rcases (hb b h3).2 with ⟨ob1, h5, h6⟩ | h5
        · exact .inl ⟨n, ob1, h5, h6⟩
        · omega
      · exact .inl ⟨m, ob1, h3, h4⟩
    · rcases h1 with h1 | h1
      · exact .inr h1
      · omega
  have hother : ∀ m ob1, n ≠ m → objOf st.o m = some ob1 → ∀ b, blocksOf (γ m) ob1 b → ¬ K b := by
    intro m ob1 e hm b hb1 hKb
    have hlt := (h.lt b ⟨m, ob1, hm, hb1⟩).1
    rcases hK b hlt hKb with ⟨ob2, h2, h3⟩ | h2
    · exact h.dis n m ob2 ob1 b e h2 hm h3 hb1
    · exact h.nr b ⟨m, ob1, hm, hb1⟩ h2.1
  have hnew : ∀ m ob1, n ≠ m → objOf st.o m = some ob1 → ∀ b, blocksOf (γ m) ob1 b → ¬ blocksOf g' ob' b := by
    intro m ob1 e hm b hb1 hb2
    rcases (hb b hb2).2 with ⟨ob2, h2, h3⟩ | h2
    · exact h.dis n m ob2 ob1 b e h2 hm h3 hb1
    · have := (h.lt b ⟨m, ob1, hm, hb1⟩).1
      omega
  refine ⟨h.sz, h.df, fun i => VRel.mono hkf hO (hv _ _ _ (h.tm i)), fun m ob1 hm => ?_, fun b hb1 => ?_, ?_, ?_, ?_, ?_, fun p hp ob1 hm => ?_⟩
  case refine_7 =>
    simp only [St.up] at hm
    by_cases e : n = 900000
    · simp only [if_pos e]
      rw [had, e]
      exact h.pn p hp ob (by rw [← e]; exact ho)
    · rw [hnof _ e] at hm
      simp only [if_neg e]
      exact h.pn p hp ob1 hm
  · by_cases e : n = m
    · subst e
      simp only [St.up] at hm ⊢
      rw [objOf_cons, if_pos rfl, Option.some.injEq] at hm
      subst hm
      simp only [if_true]
      exact hr
    · simp only [St.up] at hm ⊢
      rw [hnof m e] at hm
      simp only [if_neg e]
      exact (h.ob m ob1 hm).after (fun b hb1 => hk.block b (h.lt b ⟨m, ob1, hm, hb1⟩).1 (hother m ob1 e hm b hb1)) hkf hO (hv _)
  · rcases hP b hb1 with h3 | ⟨m, ob1, _, h3, h4⟩
    · refine ⟨(hb b h3).1, ?_⟩
      rcases (hb b h3).2 with ⟨ob1, h5, h6⟩ | h5
      · exact (h.lt b ⟨n, ob1, h5, h6⟩).2
      · exact .inl (Nat.le_trans h.keep.size h5)
    · exact ⟨Nat.lt_of_lt_of_le (h.lt b ⟨m, ob1, h3, h4⟩).1 hk.size, (h.lt b ⟨m, ob1, h3, h4⟩).2⟩
  · intro m1 m2 ob1 ob2 b hne h1 h2 hb1 hb2
    simp only [St.up] at h1 h2
    by_cases e1 : n = m1
    · subst e1
      rw [objOf_cons, if_pos rfl, Option.some.injEq] at h1
      subst h1
      simp only [if_true] at hb1
      rw [hnof m2 hne] at h2
      simp only [if_neg hne] at hb2
      exact hnew m2 ob2 hne h2 b hb2 hb1
    · rw [hnof m1 e1] at h1
      simp only [if_neg e1] at hb1
      by_cases e2 : n = m2
      · subst e2
        rw [objOf_cons, if_pos rfl, Option.some.injEq] at h2
        subst h2
        simp only [if_true] at hb2
        exact hnew m1 ob1 e1 h1 b hb1 hb2
      · rw [hnof m2 e2] at h2
        simp only [if_neg e2] at hb2
        exact h.dis m1 m2 ob1 ob2 b hne h1 h2 hb1 hb2
  · have hk2 : Keep (fun b => w0.heap.size ≤ b ∨ X.own b) w w' := hk.mono (fun b hlt h1 => by
      rcases hK b hlt h1 with ⟨ob1, h2, h3⟩ | h2
      · exact (h.lt b ⟨n, ob1, h2, h3⟩).2
      · exact h2.2)
    refine h.keep.trans hk2 (fun b hlt h1 => ?_)
    rcases h1 with h1 | h1
    · omega
    · exact h1
  · rintro b h1 ⟨h2, h3⟩
    rcases hP b h1 with h4 | ⟨m, ob1, _, h4, h5⟩
    · exact h3 h4
    · rcases h2 with h2 | h2
      · exact h.nr b ⟨m, ob1, h4, h5⟩ h2
      · have := (h.lt b ⟨m, ob1, h4, h5⟩).1
        omega
  · rintro b ⟨h1 | h1, _⟩
    · exact Nat.lt_of_lt_of_le (h.fl b h1) hk.size
    · exact h1.2

/-- What was far is an object. -/
theorem Rel.add (h : Rel B nt w0 X γ st a w) (d : Nat) (hd9 : d ≠ 900000) (ob' : Ob) (g : Value) (hb : ∀ b, blocksOf g ob' b → X.far b ∧ (w0.heap.size ≤ b ∨ X.own b))
    (hr : ∀ O' : Nat → Prop, (∀ b, O' b → Owned X γ st.o b) → ObRel B (fun n => if d = n then g else γ n) (st.up (.new d ob')).o w O' g ob') :
    Rel B nt w0 ⟨X.own, fun b => X.far b ∧ ¬ blocksOf g ob' b⟩ (fun n => if d = n then g else γ n) (st.up (.new d ob')) a w := by
  have hP : ∀ b, OwnedP (fun n => if d = n then g else γ n) (st.up (.new d ob')).o b → OwnedP γ st.o b ∨ blocksOf g ob' b := by
    rintro b ⟨m, ob1, hm, hb1⟩
    rw [objOf_up_new] at hm
    split at hm
    · rename_i e
      subst e
      simp only [Option.some.injEq] at hm
      subst hm
      simp only [if_true] at hb1
      exact .inr hb1
    · rename_i e
      obtain ⟨ob0, h0, hs⟩ := scrubO_some hm
      simp only [if_neg e] at hb1
      exact .inl ⟨m, ob0, h0, ((scrubO_fits hs).2 _ _).1 hb1⟩
  have hO : ∀ b, Owned ⟨X.own, fun b => X.far b ∧ ¬ blocksOf g ob' b⟩ (fun n => if d = n then g else γ n) (st.up (.new d ob')).o b → Owned X γ st.o b := by
    rintro b (h1 | h1)
    · rcases hP b h1 with h2 | h2
      · exact .inl h2
      · exact .inr (hb b h2).1
    · exact .inr h1.1
  have hcmp : CmpBut d γ st.o (fun n => if d = n then g else γ n) (st.up (.new d ob')).o := by
    intro m ob1 hmd hm
    rw [objOf_up_new, if_neg (fun e => hmd e.symm)] at hm
    obtain ⟨ob0, h0, hs⟩ := scrubO_some hm
    exact ⟨if_neg (fun e => hmd e.symm), ob0, h0, (scrubO_fits hs).1⟩
  refine ⟨h.sz, h.df, fun i => ?_, fun m ob1 hm => ?_, fun b hb1 => ?_, ?_, h.keep, ?_, fun b hb => h.fl b hb.1, fun p hp ob1 h1 => ?_⟩
  case refine_6 =>
    rw [objOf_up_new, if_neg hd9] at h1
    obtain ⟨ob0, h0, _⟩ := scrubO_some h1
    simp only [if_neg hd9]
    exact h.pn p hp ob0 h0
  · rw [get_up_new]
    exact VRel.mono (Keep.refl _ w) (fun b _ => hO b) (scrub_rel hcmp (h.tm i))
  · by_cases e : d = m
    · subst e
      rw [objOf_up_new, if_pos rfl, Option.some.injEq] at hm
      subst hm
      simp only [if_true]
      exact hr _ hO
    · rw [objOf_up_new, if_neg e] at hm
      obtain ⟨ob0, h0, hs⟩ := scrubO_some hm
      simp only [if_neg e]
      have hor := h.ob m ob0 h0
      cases ob0 with
      | box l =>
        simp only [scrubO, Option.some.injEq] at hs
        subst hs
        simp only [ObRel] at hor ⊢
        obtain ⟨b, c, T, hg, hh, hr1⟩ := hor
        exact ⟨b, c, T, hg, hh, VRels.mono (Keep.refl _ w) (fun b _ => hO b) (scrubs_rel hcmp hr1)⟩
      | row own e' ag ks' l =>
        simp only [scrubO, Option.some.injEq] at hs
        subst hs
        cases own with
        | true =>
          simp only [ObRel] at hor ⊢
          obtain ⟨h1, h2, xs, hx, hr1⟩ := hor
          exact ⟨h1, h2, xs, hx, fun i y hy => Kd.RelAll.mono (Keep.refl _ w) (fun b _ => hO b) (fun _ _ hu => hu) (hr1 i y hy)⟩
        | false =>
          simp only [ObRel] at hor ⊢
          exact ⟨hor.1, Kd.Rel.mono (Keep.refl _ w) (fun b _ => hO b) hor.2⟩
      | bld s =>
        simp only [scrubO, Option.some.injEq] at hs
        subst hs
        simpa only [ObRel] using hor
  · rcases hP b hb1 with h2 | h2
    · exact h.lt b h2
    · exact ⟨h.fl b (hb b h2).1, (hb b h2).2⟩
  · intro m1 m2 ob1 ob2 b hne h1 h2 hb1 hb2
    have key : ∀ m ob, objOf (st.up (.new d ob')).o m = some ob → blocksOf (if d = m then g else γ m) ob b → (d = m ∧ blocksOf g ob' b) ∨ (d ≠ m ∧ ∃ ob0, objOf st.o m = some ob0 ∧ blocksOf (γ m) ob0 b) := by
      intro m ob hm hb1
      rw [objOf_up_new] at hm
      split at hm
      · rename_i e
        subst e
        simp only [Option.some.injEq] at hm
        subst hm
        simp only [if_true] at hb1
        exact .inl ⟨rfl, hb1⟩
      · rename_i e
        obtain ⟨ob0, h0, hs⟩ := scrubO_some hm
        simp only [if_neg e] at hb1
        exact .inr ⟨e, ob0, h0, ((scrubO_fits hs).2 _ _).1 hb1⟩
    rcases key m1 ob1 h1 hb1 with ⟨e1, k1⟩ | ⟨e1, o1, p1, q1⟩ <;> rcases key m2 ob2 h2 hb2 with ⟨e2, k2⟩ | ⟨e2, o2, p2, q2⟩
    · exact hne (e1.symm.trans e2)
    · exact h.nr b ⟨m2, o2, p2, q2⟩ (hb b k1).1
    · exact h.nr b ⟨m1, o1, p1, q1⟩ (hb b k2).1
    · exact h.dis m1 m2 o1 o2 b hne p1 p2 q1 q2
  · rintro b h1 ⟨h2, h3⟩
    rcases hP b h1 with h4 | h4
    · exact h.nr b h4 h2
    · exact h3 h4

end
end Go.FM

/-
  THE SMALL MACHINE (19): a variable that is lent: its cells, as the one who is called sees them.
-/
namespace Go.FM
open Go Go.RowKit

theorem occ_append (m : Nat) : ∀ a b : List Nat, occ m (a ++ b) = occ m a + occ m b
  | [], b => by simp [occ]
  | x :: r, b => by
    simp only [List.cons_append, occ, occ_append m r b]
    cases Nat.beq x m <;> simp <;> omega
theorem occ_pos {m : Nat} : ∀ {l : List Nat}, m ∈ l → 1 ≤ occ m l
  | x :: r, h => by
    simp only [occ]
    cases hb : Nat.beq x m with
    | true => simp
    | false =>
      rcases List.mem_cons.1 h with h1 | h1
      · subst h1
        rw [Nat.beq_refl] at hb
        cases hb
      · exact occ_pos h1
theorem row_in {m lo hi : Nat} : ∀ {cs : List V} {j : Nat}, cs[j]? = some (.row m lo hi) → m ∈ rowsIn cs := fun h => mem_rowsIn (List.mem_of_getElem? h)
theorem occ_two {m lo hi lo' hi' : Nat} : ∀ {cs : List V} {i j : Nat}, i < j → cs[i]? = some (.row m lo hi) → cs[j]? = some (.row m lo' hi') → 2 ≤ occ m (rowsIn cs)
  | [], i, j, _, h, _ => by simp at h
  | v :: r, 0, 0, h, _, _ => by omega
  | v :: r, 0, j + 1, _, h1, h2 => by
    simp only [List.getElem?_cons_zero, Option.some.injEq] at h1
    subst h1
    have := occ_pos (row_in (cs := r) (j := j) (by simpa using h2))
    simp only [rowsIn, occ, Nat.beq_refl]
    omega
  | v :: r, i + 1, 0, h, _, _ => by omega
  | v :: r, i + 1, j + 1, h, h1, h2 => by
    have := occ_two (cs := r) (i := i) (j := j) (by omega) (by simpa using h1) (by simpa using h2)
    cases v <;> simp only [rowsIn] <;> try exact this
    simp only [occ]
    split <;> omega

/-- Leaves that speak of no object. -/
def freeL : V → Bool
  | .any | .int _ _ | .bool _ | .str _ | .list _ _ _ | .zs | .err _ | .nilp => true
  | _ => false
def okC : V → Bool
  | .vec _ _ _ _ => true
  | v => freeL v

theorem freeL_rel {γ γ' : Nat → Value} {o o' : Store} {w : World} {O : Nat → Prop} {v : V} (hf : freeL v = true) {x : Value} (h : VRel γ o w O v x) : VRel γ' o' w O v x := by
  cases v <;> simp only [freeL] at hf <;> first | (cases hf; done) | (simp only [VRel] at h ⊢; try exact h)

theorem backV_get (nm : Nat) : ∀ (cs : List V) (j : Nat), (backV nm cs)[j]? = (cs[j]?).map fun v => match v with | .vec _ _ _ l => .row (nm + j) 0 l.length | v => v
  | [], j => by simp [backV]
  | v :: r, 0 => by cases v <;> simp [backV]
  | v :: r, j + 1 => by
    have := backV_get (nm + 1) r j
    rw [show nm + 1 + j = nm + (j + 1) by omega] at this
    cases v <;> simpa [backV] using this
theorem backV_length (nm : Nat) : ∀ cs : List V, (backV nm cs).length = cs.length
  | [] => rfl
  | v :: r => by cases v <;> simp [backV, backV_length (nm + 1) r]

theorem rowsO_get : ∀ {cs : List V} {nr m : Nat} {ob : Ob}, objOf (rowsO nr cs) m = some ob → ∃ j e ag ks l, m = nr + j ∧ cs[j]? = some (.vec e ag ks l) ∧ ob = .row true e ag ks l
  | [], nr, m, ob, h => by simp [rowsO, objOf, lkd] at h
  | v :: r, nr, m, ob, h => by
    have key : objOf (rowsO (nr + 1) r) m = some ob → ∃ j e ag ks l, m = nr + j ∧ (v :: r)[j]? = some (.vec e ag ks l) ∧ ob = .row true e ag ks l := fun h' => by
      obtain ⟨j, e, ag, ks, l, h1, h2, h3⟩ := rowsO_get h'
      exact ⟨j + 1, e, ag, ks, l, by omega, by simpa using h2, h3⟩
    cases v <;> simp only [rowsO] at h <;> try exact key h
    rw [objOf_cons] at h
    split at h
    · rename_i e ag ks l hn
      simp only [Option.some.injEq] at h
      exact ⟨0, e, ag, ks, l, by omega, by simp, h.symm⟩
    · exact key h
theorem rowsO_at : ∀ {cs : List V} {nr j e : Nat} {ag : Bool} {ks : List Kd} {l : List IV}, cs[j]? = some (.vec e ag ks l) → objOf (rowsO nr cs) (nr + j) = some (.row true e ag ks l)
  | [], nr, j, _, _, _, _, h => by simp at h
  | v :: r, nr, 0, e, ag, ks, l, h => by
    simp only [List.getElem?_cons_zero, Option.some.injEq] at h
    subst h
    simp [rowsO, objOf_cons]
  | v :: r, nr, j + 1, e, ag, ks, l, h => by
    have := rowsO_at (cs := r) (nr := nr + 1) (j := j) (by simpa using h)
    rw [show nr + 1 + j = nr + (j + 1) by omega] at this
    cases v <;> simp only [rowsO] <;> try exact this
    rw [objOf_cons, if_neg (by omega)]
    exact this

theorem entO_box {cs : List V} (h : ∀ s, cs ≠ [.bld s]) : entO cs = (900000, some (.box (backV 900001 cs))) :: rowsO 900001 cs := by
  unfold entO
  split
  · rename_i s
    exact absurd rfl (h s)
  · rfl

def act0 : Act := ⟨#[], []⟩

section
variable {B : BT} {nt : Nat} {w0 : World} {X : Zone} {γ : Nat → Value} {st st' : St} {a : Act} {w : World} {P : Program} {E : Env}

/-- An object lies as an object, whatever names there are: a row that is owned. -/
theorem row_any {B B' : BT} {γ γ' : Nat → Value} {o o' : Store} {O : Nat → Prop} {g : Value} {e : Nat} {ag : Bool} {ks : List Kd} {l : List IV} (h : ObRel B γ o w O g (.row true e ag ks l)) : ObRel B' γ' o' w O g (.row true e ag ks l) := by
  simpa only [ObRel] using h

def RowOf (γ : Nat → Value) (o : Store) (n b : Nat) : Prop := ∃ e ag ks l, objOf o n = some (.row true e ag ks l) ∧ (γ n).ownBlock = some b
theorem RowOf.block {γ : Nat → Value} {o : Store} {n b : Nat} (h : RowOf γ o n b) : BlockOf γ o n b := by
  obtain ⟨e, ag, ks, l, h1, h2⟩ := h
  exact ⟨_, h1, h2⟩

/-- A part of a row as what can't change. -/
theorem part_list (h : Rel B nt w0 X γ st a w) {n lo hi : Nat} {own : Bool} {e : Nat} {ag : Bool} {ks : List Kd} {l : List IV} (hob : objOf st.o n = some (.row own e ag ks l)) {x : Value}
    (hx : VRel γ st.o w (Owned X γ st.o) (.row n lo hi) x) {O' : Nat → Prop} (hO : ∀ b, b < w.heap.size → O' b → Owned X γ st.o b) (hn : ∀ b, RowOf γ st.o n b → ¬ O' b) :
    Kd.Rel w O' (.list ag ks) (.list ((l.take hi).drop lo)) x := by
  simp only [VRel, hob] at hx
  obtain ⟨h1, h2⟩ := row_frozen h hob hO (fun ho b hb => hn b ⟨e, ag, ks, l, by subst ho; exact hob, hb⟩)
  exact sub_rel h2 hx.2 hx.1

/-- The start of a row that is owned, as a row of its own. -/
theorem part_row (h : Rel B nt w0 X γ st a w) {n hi : Nat} {e : Nat} {ag : Bool} {ks : List Kd} {l : List IV} (hob : objOf st.o n = some (.row true e ag ks l)) {x : Value}
    (hx : VRel γ st.o w (Owned X γ st.o) (.row n 0 hi) x) {γ' : Nat → Value} {o' : Store} : ObRel B γ' o' w (Owned X γ st.o) x (.row true e ag ks (l.take hi)) ∧ (∀ b, blocksOf x (.row true e ag ks (l.take hi)) b → BlockOf γ st.o n b) := by
  have hx0 := hx
  simp only [VRel, hob] at hx
  obtain ⟨hl, p, len, cap, p', hg, hv, _, h2, h3, hm, _, h5⟩ := hx
  rw [h5 rfl, Nat.sub_zero, Nat.sub_zero] at hv
  have hor := h.ob n _ hob
  simp only [ObRel] at hor ⊢
  obtain ⟨hkp, hstr, xs, hxs, hr⟩ := hor
  have htl : (l.take hi).length = hi := by rw [List.length_take, Nat.min_eq_left hl]
  refine ⟨⟨hkp, by rw [htl]; omega, xs.take (hi * ks.length), ?_, fun i y hy => ?_⟩, fun b hb => ⟨_, hob, ?_⟩⟩
  · have hx1 := hxs.1
    refine ⟨by rw [List.length_take, hx1, htl, Nat.min_eq_left (Nat.mul_le_mul_right _ hl)], ?_⟩
    rcases hxs.2 with ⟨h6, h7⟩ | ⟨g, cap', cur, T, fr, h6, h7, h8, h9, h10, h11, h12⟩
    · rw [hg] at h6
      simp only [Value.slice.injEq] at h6
      obtain ⟨rfl, rfl, rfl⟩ := h6
      obtain rfl : hi = 0 := by omega
      exact .inl ⟨hv, htl⟩
    · rw [hg] at h6
      simp only [Value.slice.injEq] at h6
      obtain ⟨rfl, rfl, rfl⟩ := h6
      refine .inr ⟨g, cap, cur, T, fr, by rw [hv, htl], h7, by rw [htl]; omega, h9, h10, ?_, h12⟩
      rw [htl, ← h11, List.take_take, Nat.min_eq_left (Nat.mul_le_mul_right _ hl)]
  · rw [List.getElem?_take] at hy
    split at hy
    · rename_i hlt
      have h6 := hr i y hy
      rw [Kd.RelAll_iff] at h6 ⊢
      intro j k hj
      obtain ⟨u, hu, hk⟩ := h6 j k hj
      refine ⟨u, ?_, hk⟩
      have hjl : j < ks.length := by
        rcases Nat.lt_or_ge j ks.length with h' | h'
        · exact h'
        · rw [List.getElem?_eq_none h'] at hj; cases hj
      rw [List.getElem?_take, if_pos]
      · exact hu
      · have e1 : (i + 1) * ks.length ≤ hi * ks.length := Nat.mul_le_mul_right _ hlt
        rw [Nat.succ_mul] at e1
        omega
    · cases hy
  · simp only [blocksOf] at hb ⊢
    rw [hv] at hb
    rw [hg]
    cases p <;> first | (simp [Value.ownBlock] at hb; done) | simpa [Value.ownBlock] using hb

end
end Go.FM

/-
  THE SMALL MACHINE (20): arguments and results, as the other side sees them.
-/
namespace Go.FM
open Go Go.RowKit

section
variable {B : BT} {nt : Nat} {w0 : World} {X : Zone} {γ : Nat → Value} {st st' : St} {a : Act} {w : World} {P : Program} {E : Env}

/-- Which objects a pointer may lead to on the other side. -/
def Lends (γ : Nat → Value) (o : Store) (γb : Nat → Value) (bo : Store) (n : Nat) : Prop :=
  γb 900000 = γ n ∧ ((∃ cs cs', objOf o n = some (.box cs) ∧ objOf bo 900000 = some (.box cs')) ∨ (∃ s s', objOf o n = some (.bld s) ∧ objOf bo 900000 = some (.bld s')))

theorem argL_rel (h : Rel B nt w0 X γ st a w) {v : V} {x : Value} (hv : VRel γ st.o w (Owned X γ st.o) v x) {γb : Nat → Value} {bo : Store} {O' : Nat → Prop} (hO : ∀ b, b < w.heap.size → O' b → Owned X γ st.o b)
    (hrow : ∀ m ∈ rowsIn [v], ∀ b, RowOf γ st.o m b → ¬ O' b) (hl : ∀ m ∈ lent.lentC [v], Lends γ st.o γb bo m) (bs : List V) (tk : Option Kd) :
    VRel γb bo w O' (entV.go (argL st.o bs tk v)) x := by
  cases v with
  | any => simp only [argL, entV.go, VRel]
  | int k n => simp only [argL, entV.go]; exact freeL_rel rfl (VRel.mono (Keep.refl _ w) hO hv)
  | bool b => simp only [argL, entV.go]; exact freeL_rel rfl (VRel.mono (Keep.refl _ w) hO hv)
  | str s => simp only [argL, entV.go]; exact freeL_rel rfl (VRel.mono (Keep.refl _ w) hO hv)
  | list ag ks l => simp only [argL, entV.go]; exact freeL_rel rfl (VRel.mono (Keep.refl _ w) hO hv)
  | zs =>
    simp only [argL]
    split
    · simp only [entV.go, VRel, Kd.Rel, IV.toList]
      simp only [VRel] at hv
      exact ⟨none, 0, by rw [hv]; rfl, Nat.le_refl _, by simp [maxLen], by simp [FM.strMax], fun i y hy => by simp at hy⟩
    · simp only [entV.go, VRel]
  | row n lo hi =>
    simp only [argL]
    split
    · rename_i own e ag ks l hob
      simp only [entV.go, VRel]
      exact part_list h hob hv hO (hrow n (by simp [rowsIn]))
    · simp only [entV.go, VRel]
  | ptr n i c =>
    simp only [argL]
    split
    · simp only [entV.go, VRel]
    · rename_i ob hnr hob
      split
      · rename_i hic
        simp only [Bool.and_eq_true] at hic
        obtain ⟨h1, h2⟩ := hic
        obtain rfl := beq_eq'.1 h1
        obtain rfl := beq_eq'.1 h2
        obtain ⟨hg, h3⟩ := hl n (by simp [lent.lentC])
        simp only [entV.go, VRel]
        simp only [VRel] at hv
        rcases h3 with ⟨cs, cs', h4, h5⟩ | ⟨s, s', h4, h5⟩
        · rw [h4] at hv
          rw [h5, hg]
          exact hv
        · rw [h4] at hv
          rw [h5, hg]
          exact hv
      · simp only [entV.go, VRel]
    · simp only [entV.go, VRel]
  | iptr ks f c => simp only [argL, entV.go, VRel]
  | bview n c cap sz len => simp only [argL, entV.go, VRel]
  | agg l => simp only [argL, entV.go, VRel]
  | tup l => simp only [argL, entV.go, VRel]
  | err b => simp only [argL, entV.go]; exact freeL_rel rfl (VRel.mono (Keep.refl _ w) hO hv)
  | nilp => simp only [argL, entV.go]; exact freeL_rel rfl (VRel.mono (Keep.refl _ w) hO hv)
  | clo f l => simp only [argL, entV.go, VRel]
  | bor l => simp only [argL, entV.go, VRel]
  | vec e ag ks l => simp only [argL, entV.go, VRel]
  | bld s => simp only [argL, entV.go, VRel]

theorem argL_nob {o : Store} {bs : List V} {tk : Option Kd} {v : V} {γb : Nat → Value} {bo : Store} {w : World} {O' : Nat → Prop} {x : Value} (h : VRel γb bo w O' (entV.go (argL o bs tk v)) x) : VRel γb bo w O' (noBor (argL o bs tk v)) x := by
  cases hv : argL o bs tk v <;> rw [hv] at h <;> simp only [entV.go, noBor] at h ⊢ <;> first | exact h | simp only [VRel]

theorem rowsIn_cons (v : V) (r : List V) : ∀ m, m ∈ rowsIn [v] ∨ m ∈ rowsIn r → m ∈ rowsIn (v :: r) := by
  intro m hm
  cases v <;> simp_all [rowsIn]
theorem lentC_cons (v : V) (r : List V) : ∀ m, m ∈ lent.lentC [v] ∨ m ∈ lent.lentC r → m ∈ lent.lentC (v :: r) := by
  intro m hm
  cases v <;> simp_all [lent.lentC]

theorem argN_rel (h : Rel B nt w0 X γ st a w) {v : V} {x : Value} (hv : VRel γ st.o w (Owned X γ st.o) v x) {γb : Nat → Value} {bo : Store} {O' : Nat → Prop} (hO : ∀ b, b < w.heap.size → O' b → Owned X γ st.o b)
    (hrow : ∀ m ∈ rowsIn [v], ∀ b, RowOf γ st.o m b → ¬ O' b) (bs : List V) (tk : Option Kd) : VRel γb bo w O' (noBor (argL st.o bs tk v)) x := by
  by_cases hp : lent.lentC [v] = []
  · exact argL_nob (argL_rel h hv hO hrow (by rw [hp]; simp) bs tk)
  · cases v <;> simp only [lent.lentC, not_true_eq_false] at hp
    simp only [argL]
    split
    · simp only [noBor, VRel]
    · split <;> simp only [noBor, VRel]
    · simp only [noBor, VRel]

theorem mapK_rel (h : Rel B nt w0 X γ st a w) {γb : Nat → Value} {bo : Store} {O' : Nat → Prop} (hO : ∀ b, b < w.heap.size → O' b → Owned X γ st.o b) (bs : List V) :
    ∀ {l : List V} {ks : List Kd} {xs : List Value}, VRels γ st.o w (Owned X γ st.o) l xs → (∀ m ∈ rowsIn l, ∀ b, RowOf γ st.o m b → ¬ O' b) →
      VRels γb bo w O' (mapK (fun k v => noBor (argL st.o bs k v)) ks l) xs
  | [], ks, [], _, _ => by cases ks <;> simp only [mapK, VRels]
  | [], ks, x :: xs, hv, _ => by simp only [VRels] at hv
  | v :: l, ks, [], hv, _ => by simp only [VRels] at hv
  | v :: l, ks, x :: xs, hv, hr => by
    simp only [VRels] at hv
    have h1 : ∀ tk, VRel γb bo w O' (noBor (argL st.o bs tk v)) x := fun tk => argN_rel h hv.1 hO (fun m hm => hr m (rowsIn_cons v l m (.inl hm))) bs tk
    have h2 : ∀ ks, VRels γb bo w O' (mapK (fun k v => noBor (argL st.o bs k v)) ks l) xs := fun ks => mapK_rel h hO bs hv.2 (fun m hm => hr m (rowsIn_cons v l m (.inr hm)))
    cases ks with
    | nil => simp only [mapK, VRels]; exact ⟨h1 _, h2 _⟩
    | cons k ks => simp only [mapK, VRels]; exact ⟨h1 _, h2 _⟩

theorem caps_rel (h : Rel B nt w0 X γ st a w) {γb : Nat → Value} {bo : Store} {O' : Nat → Prop} (hO : ∀ b, b < w.heap.size → O' b → Owned X γ st.o b) (bs : List V) :
    ∀ {l : List V} {xs : List Value}, VRels γ st.o w (Owned X γ st.o) l xs → (∀ m ∈ rowsIn l, ∀ b, RowOf γ st.o m b → ¬ O' b) → (∀ m ∈ lent.lentC l, Lends γ st.o γb bo m) →
      VRels γb bo w O' ((l.map (argL st.o bs none)).map entV.go) xs
  | [], [], _, _, _ => by simp only [List.map_nil, VRels]
  | [], x :: xs, hv, _, _ => by simp only [VRels] at hv
  | v :: l, [], hv, _, _ => by simp only [VRels] at hv
  | v :: l, x :: xs, hv, hr, hl => by
    simp only [VRels, List.map_cons] at hv ⊢
    exact ⟨argL_rel h hv.1 hO (fun m hm => hr m (rowsIn_cons v l m (.inl hm))) (fun m hm => hl m (lentC_cons v l m (.inl hm))) bs none,
      caps_rel h hO bs hv.2 (fun m hm => hr m (rowsIn_cons v l m (.inr hm))) (fun m hm => hl m (lentC_cons v l m (.inr hm)))⟩

theorem argV_rel (h : Rel B nt w0 X γ st a w) {v : V} {x : Value} (hv : VRel γ st.o w (Owned X γ st.o) v x) {γb : Nat → Value} {bo : Store} {O' : Nat → Prop} (hO : ∀ b, b < w.heap.size → O' b → Owned X γ st.o b)
    (hrow : ∀ m ∈ vRows v, ∀ b, RowOf γ st.o m b → ¬ O' b) (hl : ∀ m ∈ lent [v], Lends γ st.o γb bo m) (bs : List V) (ks : List Kd) :
    VRel γb bo w O' (entV (argV st.o bs ks v)) x := by
  by_cases hc : (∃ l, v = .agg l) ∨ (∃ f l, v = .clo f l)
  · rcases hc with ⟨l, rfl⟩ | ⟨f, l, rfl⟩
    · simp only [argV, entV, VRel] at hv ⊢
      obtain ⟨cs, hx, hr⟩ := hv
      exact ⟨cs, hx, mapK_rel h hO bs hr hrow⟩
    · simp only [argV, entV, VRel] at hv ⊢
      obtain ⟨cs, hx, hr⟩ := hv
      exact ⟨cs, hx, caps_rel h hO bs hr hrow (fun m hm => hl m (by simpa [lent] using hm))⟩
  · have h1 : argV st.o bs ks v = argL st.o bs ks.head? v := by
      cases v <;> first | rfl | exact absurd (.inl ⟨_, rfl⟩) hc | exact absurd (.inr ⟨_, _, rfl⟩) hc
    have h2 : entV (argL st.o bs ks.head? v) = entV.go (argL st.o bs ks.head? v) := by
      cases v <;> simp only [argL] <;> repeat' split
      all_goals rfl
    rw [h1, h2]
    refine argL_rel h hv hO (fun m hm => hrow m ?_) (fun m hm => hl m ?_) bs _
    · cases v <;> simp_all [rowsIn, vRows]
    · cases v <;> simp_all [lent, lent.lentC]

theorem argVs_rel (h : Rel B nt w0 X γ st a w) {γb : Nat → Value} {bo : Store} {O' : Nat → Prop} (hO : ∀ b, b < w.heap.size → O' b → Owned X γ st.o b) (bs : List V) :
    ∀ {l : List V} {tks : List (List Kd)} {xs : List Value}, VRels γ st.o w (Owned X γ st.o) l xs → (∀ m ∈ vsRows l, ∀ b, RowOf γ st.o m b → ¬ O' b) → (∀ m ∈ lent l, Lends γ st.o γb bo m) →
      VRels γb bo w O' ((argVs st.o bs tks l).map entV) xs
  | [], tks, [], _, _, _ => by cases tks <;> simp only [argVs, List.map_nil, VRels]
  | [], tks, x :: xs, hv, _, _ => by simp only [VRels] at hv
  | v :: l, tks, [], hv, _, _ => by simp only [VRels] at hv
  | v :: l, tks, x :: xs, hv, hr, hl => by
    simp only [VRels] at hv
    have h1 : ∀ ks, VRel γb bo w O' (entV (argV st.o bs ks v)) x := fun ks => argV_rel h hv.1 hO (fun m hm => hr m (by simp only [vsRows, List.mem_append]; exact .inl hm)) (fun m hm => hl m (by
      cases v <;> simp_all [lent])) bs ks
    have h2 : ∀ tks, VRels γb bo w O' ((argVs st.o bs tks l).map entV) xs := fun tks => argVs_rel h hO bs hv.2 (fun m hm => hr m (by simp only [vsRows, List.mem_append]; exact .inr hm)) (fun m hm => hl m (by
      cases v <;> simp_all [lent]))
    cases tks with
    | nil => simp only [argVs, List.map_cons, VRels]; exact ⟨h1 _, h2 _⟩
    | cons k ks => simp only [argVs, List.map_cons, VRels]; exact ⟨h1 _, h2 _⟩

end
end Go.FM

/-
  THE SMALL MACHINE (21): the memory that a call is about.
-/
namespace Go.FM
open Go Go.RowKit

section
variable {B : BT} {nt : Nat} {w0 : World} {X : Zone} {γ : Nat → Value} {st st' : St} {a : Act} {w : World} {P : Program} {E : Env}

theorem resE_rel (h : Rel B nt w0 X γ st a w) {v : V} {x : Value} (hv : VRel γ st.o w (Owned X γ st.o) v x) {γb : Nat → Value} {bo : Store} {O' : Nat → Prop} (hO : ∀ b, b < w.heap.size → O' b → Owned X γ st.o b)
    (hrow : ∀ m ∈ vRows v, ∀ b, RowOf γ st.o m b → ¬ O' b) (ks : List Kd) : VRel γb bo w O' (resE st.o ks v) x := by
  by_cases hc : ∃ l, v = .agg l
  · obtain ⟨l, rfl⟩ := hc
    simp only [resE, VRel] at hv ⊢
    obtain ⟨cs, hx, hr⟩ := hv
    exact ⟨cs, hx, mapK_rel h hO [] hr hrow⟩
  · have h1 : resE st.o ks v = noBor (argL st.o [] ks.head? v) := by
      cases v <;> first | rfl | exact absurd ⟨_, rfl⟩ hc
    rw [h1]
    refine argN_rel h hv hO (fun m hm => hrow m ?_) [] _
    cases v <;> simp_all [rowsIn, vRows]

theorem resV_rel (h : Rel B nt w0 X γ st a w) {v : V} {x : Value} (hv : VRel γ st.o w (Owned X γ st.o) v x) {γb : Nat → Value} {bo : Store} {O' : Nat → Prop} (hO : ∀ b, b < w.heap.size → O' b → Owned X γ st.o b)
    (hrow : ∀ m ∈ vRows v, ∀ b, RowOf γ st.o m b → ¬ O' b) (ks : List (List Kd)) : VRel γb bo w O' (resV st.o ks v) x := by
  by_cases hc : ∃ l, v = .tup l
  · obtain ⟨l, rfl⟩ := hc
    simp only [resV, VRel] at hv ⊢
    obtain ⟨cs, hx, hr⟩ := hv
    refine ⟨cs, hx, ?_⟩
    have key : ∀ (l : List V) (ks : List (List Kd)) (xs : List Value), VRels γ st.o w (Owned X γ st.o) l xs → (∀ m ∈ vRows.go l, ∀ b, RowOf γ st.o m b → ¬ O' b) → VRels γb bo w O' (resV.go st.o ks l) xs := by
      intro l
      induction l with
      | nil =>
        intro ks xs h1 _
        cases xs with
        | nil => cases ks <;> simp only [resV.go, VRels]
        | cons _ _ => simp only [VRels] at h1
      | cons v l ih =>
        intro ks xs h1 h2
        cases xs with
        | nil => simp only [VRels] at h1
        | cons x xs =>
          simp only [VRels] at h1
          have h3 : ∀ ks, VRel γb bo w O' (resE st.o ks v) x := by
            intro ks
            by_cases hq : (∃ f l', v = .clo f l') ∨ (∃ l', v = .tup l')
            · rcases hq with ⟨f, l', rfl⟩ | ⟨l', rfl⟩ <;> simp only [resE, argL, noBor, VRel]
            · refine resE_rel h h1.1 hO (fun m hm => h2 m ?_) ks
              cases v <;> simp_all [vRows, vRows.go]
          have h4 : ∀ ks, VRels γb bo w O' (resV.go st.o ks l) xs := fun ks => ih ks xs h1.2 (fun m hm => h2 m (by
            cases v <;> simp_all [vRows.go]))
          cases ks with
          | nil => simp only [resV.go, VRels]; exact ⟨h3 _, h4 _⟩
          | cons k ks => simp only [resV.go, VRels]; exact ⟨h3 _, h4 _⟩
    exact key l ks _ hr hrow
  · have h1 : resV st.o ks v = resE st.o (ks.headD []) v := by
      cases v <;> first | rfl | exact absurd ⟨_, rfl⟩ hc
    rw [h1]
    exact resE_rel h hv hO hrow _

/-- A cell of a variable that is lent. -/
theorem cellB_cases (o : Store) (all : List Nat) (v : V) : (∃ m hi e ag ks l, v = .row m 0 hi ∧ objOf o m = some (.row true e ag ks l) ∧ occ m all = 1 ∧ cellB o all v = .vec e ag ks (l.take hi)) ∨
    (freeL (cellB o all v) = true ∧ ∀ m lo hi, v = .row m lo hi → ∀ own e ag ks l, objOf o m = some (.row own e ag ks l) → cellB o all v = .list ag ks ((l.take hi).drop lo) ∧ (own && (Nat.beq lo 0 && Nat.beq (occ m all) 1)) = false) := by
  cases v
  case row m lo hi =>
    simp only [cellB]
    split
    · rename_i own e ag ks l hob
      cases hb : (own && (Nat.beq lo 0 && Nat.beq (occ m all) 1)) with
      | true =>
        simp only [Bool.and_eq_true] at hb
        obtain ⟨rfl, h1, h2⟩ := hb
        obtain rfl := beq_eq'.1 h1
        exact .inl ⟨m, hi, e, ag, ks, l, rfl, hob, beq_eq'.1 h2, by simp only⟩
      | false =>
        refine .inr ⟨rfl, fun m' lo' hi' he own' e' ag' ks' l' hob' => ?_⟩
        simp only [V.row.injEq] at he
        obtain ⟨rfl, rfl, rfl⟩ := he
        rw [hob] at hob'
        simp only [Option.some.injEq, Ob.row.injEq] at hob'
        obtain ⟨rfl, rfl, rfl, rfl, rfl⟩ := hob'
        exact ⟨rfl, hb⟩
    · rename_i hno
      refine .inr ⟨rfl, fun m' lo' hi' he own' e' ag' ks' l' hob' => ?_⟩
      simp only [V.row.injEq] at he
      obtain ⟨rfl, rfl, rfl⟩ := he
      exact absurd hob' (hno _ _ _ _ _)
  all_goals exact .inr ⟨rfl, fun _ _ _ he => by cases he⟩

theorem handed_mem {o : Store} {all : List Nat} {n : Nat} : ∀ {cs : List V}, n ∈ handed o all cs ↔ ∃ hi e ag ks l, .row n 0 hi ∈ cs ∧ objOf o n = some (.row true e ag ks l) ∧ occ n all = 1
  | [] => by simp [handed]
  | v :: r => by
    have ih := handed_mem (o := o) (all := all) (n := n) (cs := r)
    have skip : (∀ hi e ag ks l, v = .row n 0 hi → objOf o n = some (.row true e ag ks l) → occ n all = 1 → False) → (n ∈ handed o all r ↔ ∃ hi e ag ks l, V.row n 0 hi ∈ v :: r ∧ objOf o n = some (.row true e ag ks l) ∧ occ n all = 1) := by
      intro hs
      rw [ih]
      constructor
      · rintro ⟨hi, e, ag, ks, l, h1, h2, h3⟩
        exact ⟨hi, e, ag, ks, l, List.mem_cons_of_mem _ h1, h2, h3⟩
      · rintro ⟨hi, e, ag, ks, l, h1, h2, h3⟩
        rcases List.mem_cons.1 h1 with h4 | h4
        · exact (hs hi e ag ks l h4.symm h2 h3).elim
        · exact ⟨hi, e, ag, ks, l, h4, h2, h3⟩
    cases v
    case row m lo hi =>
      simp only [handed]
      split
      · rename_i own e ag ks l hob
        split
        · rename_i hb
          simp only [Bool.and_eq_true] at hb
          obtain ⟨rfl, h1, h2⟩ := hb
          obtain rfl := beq_eq'.1 h1
          by_cases hm : n = m
          · subst hm
            exact ⟨fun _ => ⟨hi, e, ag, ks, l, List.mem_cons_self .., hob, beq_eq'.1 h2⟩, fun _ => List.mem_cons_self ..⟩
          · have h3 := skip (fun hi' e' ag' ks' l' he _ _ => by simp only [V.row.injEq] at he; exact hm he.1.symm)
            rw [← h3]
            simp [hm]
        · rename_i hb
          refine skip (fun hi' e' ag' ks' l' he ho hc => ?_)
          simp only [V.row.injEq] at he
          obtain ⟨rfl, rfl, rfl⟩ := he
          rw [hob] at ho
          simp only [Option.some.injEq, Ob.row.injEq] at ho
          rw [hc, ho.1] at hb
          simp at hb
      · rename_i hno
        refine skip (fun hi' e' ag' ks' l' he ho hc => ?_)
        simp only [V.row.injEq] at he
        obtain ⟨rfl, rfl, rfl⟩ := he
        exact hno _ _ _ _ _ ho
    all_goals exact skip (fun _ _ _ _ _ he _ _ => by cases he)

theorem shared_mem {o : Store} {all : List Nat} {n lo hi : Nat} {own : Bool} {e : Nat} {ag : Bool} {ks : List Kd} {l : List IV} (ho : objOf o n = some (.row own e ag ks l)) (hb : (own && (Nat.beq lo 0 && Nat.beq (occ n all) 1)) = false) :
    ∀ {cs : List V}, .row n lo hi ∈ cs → n ∈ shared o all cs
  | v :: r, hm => by
    rcases List.mem_cons.1 hm with h1 | h1
    · subst h1
      simp only [shared, ho, hb]
      exact List.mem_cons_self ..
    · have ih := shared_mem ho hb h1
      cases v <;> simp only [shared] <;> try exact ih
      split
      · split
        · exact ih
        · exact List.mem_cons_of_mem _ ih
      · exact ih

/-- What the one who is called gets of the caller's memory: a variable, and the rows that lie in it alone. -/
theorem Rel.bound (h : Rel B nt w0 X γ st a w) {n : Nat} {cs : List V} (ho : objOf st.o n = some (.box cs)) (extra : List Nat) {w1 : World} {own1 F : Nat → Prop} (hk : Keep own1 w1 w)
    (hF : ∀ b, F b → Owned X γ st.o b ∧ ¬ BlockOf γ st.o n b ∧ (∀ m ∈ handed st.o (rowsIn cs ++ extra) cs, ¬ BlockOf γ st.o m b) ∧ (∀ m ∈ shared st.o (rowsIn cs ++ extra) cs, ¬ BlockOf γ st.o m b))
    (hown : ∀ b, BlockOf γ st.o n b ∨ (∃ m ∈ handed st.o (rowsIn cs ++ extra) cs, BlockOf γ st.o m b) → w1.heap.size ≤ b ∨ own1 b) :
    ∃ γb, Rel B.base 0 w1 ⟨own1, F⟩ γb ⟨[], entO (cs.map (cellB st.o (rowsIn cs ++ extra)))⟩ act0 w ∧ γb 900000 = γ n ∧
      ∀ b, OwnedP γb (entO (cs.map (cellB st.o (rowsIn cs ++ extra)))) b → BlockOf γ st.o n b ∨ ∃ m ∈ handed st.o (rowsIn cs ++ extra) cs, BlockOf γ st.o m b := by
  generalize hall : rowsIn cs ++ extra = all at *
  have hor := h.ob n _ ho
  simp only [ObRel] at hor
  obtain ⟨b0, c, T, hg, hh, hr⟩ := hor
  have hbs : ∀ s, cs.map (cellB st.o all) ≠ [.bld s] := by
    intro s he
    cases cs with
    | nil => simp at he
    | cons v r =>
      simp only [List.map_cons, List.cons.injEq] at he
      rcases cellB_cases st.o all v with ⟨_, _, _, _, _, _, _, _, _, h1⟩ | ⟨h1, _⟩
      · rw [h1] at he; cases he.1
      · rw [he.1] at h1; cases h1
  rw [entO_box hbs]
  let γb : Nat → Value := fun m => if 900000 = m then γ n else c.toList.getD (m - 900001) undef
  have hγ0 : γb 900000 = γ n := by simp [γb]
  have hγ1 : ∀ j u, c.toList[j]? = some u → γb (900001 + j) = u := by
    intro j u hu
    simp only [γb]
    rw [if_neg (by omega), show 900001 + j - 900001 = j by omega, List.getD_eq_getElem?_getD, hu]
    rfl
  have hob0 : objOf ((900000, some (.box (backV 900001 (cs.map (cellB st.o all))))) :: rowsO 900001 (cs.map (cellB st.o all))) 900000 = some (.box (backV 900001 (cs.map (cellB st.o all)))) := by
    rw [objOf_cons, if_pos rfl]
  -- which rows there are
  have hrow : ∀ m ob, 900000 ≠ m → objOf ((900000, some (.box (backV 900001 (cs.map (cellB st.o all))))) :: rowsO 900001 (cs.map (cellB st.o all))) m = some ob →
      ∃ j m' hi e ag ks l u, m = 900001 + j ∧ cs[j]? = some (.row m' 0 hi) ∧ objOf st.o m' = some (.row true e ag ks l) ∧ occ m' all = 1 ∧ ob = .row true e ag ks (l.take hi) ∧ c.toList[j]? = some u ∧ γb m = u ∧
        VRel γ st.o w (Owned X γ st.o) (.row m' 0 hi) u ∧ m' ∈ handed st.o all cs := by
    intro m ob hne hm
    rw [objOf_cons, if_neg hne] at hm
    obtain ⟨j, e, ag, ks, l, rfl, hj, rfl⟩ := rowsO_get hm
    rw [List.getElem?_map] at hj
    cases hv : cs[j]? with
    | none => rw [hv] at hj; cases hj
    | some v =>
      rw [hv] at hj
      simp only [Option.map_some, Option.some.injEq] at hj
      rcases cellB_cases st.o all v with ⟨m', hi, e', ag', ks', l', rfl, h1, h2, h3⟩ | ⟨h1, _⟩
      · rw [h3] at hj
        simp only [V.vec.injEq] at hj
        obtain ⟨rfl, rfl, rfl, rfl⟩ := hj
        obtain ⟨u, hu, hvr⟩ := hr.get hv
        exact ⟨j, m', hi, e', ag', ks', l', u, rfl, hv, h1, h2, rfl, hu, hγ1 j u hu, hvr, handed_mem.2 ⟨hi, e', ag', ks', l', List.mem_of_getElem? hv, h1, h2⟩⟩
      · rw [hj] at h1; cases h1
  have hblk : ∀ m ob, 900000 ≠ m → objOf ((900000, some (.box (backV 900001 (cs.map (cellB st.o all))))) :: rowsO 900001 (cs.map (cellB st.o all))) m = some ob → ∀ b, blocksOf (γb m) ob b →
      ∃ j m' hi, m = 900001 + j ∧ cs[j]? = some (.row m' 0 hi) ∧ occ m' all = 1 ∧ m' ∈ handed st.o all cs ∧ BlockOf γ st.o m' b := by
    intro m ob hne hm b hb
    obtain ⟨j, m', hi, e, ag, ks, l, u, h1, h2, h3, h4, h5, h6, h7, h8, h9⟩ := hrow m ob hne hm
    refine ⟨j, m', hi, h1, h2, h4, h9, ?_⟩
    rw [h7, h5] at hb
    exact (part_row (γ' := γb) (o' := []) h h3 h8).2 b hb
  have hP : ∀ b, OwnedP γb ((900000, some (.box (backV 900001 (cs.map (cellB st.o all))))) :: rowsO 900001 (cs.map (cellB st.o all))) b → BlockOf γ st.o n b ∨ ∃ m ∈ handed st.o all cs, BlockOf γ st.o m b := by
    rintro b ⟨m, ob, hm, hb⟩
    by_cases e : 900000 = m
    · subst e
      rw [hob0, Option.some.injEq] at hm
      subst hm
      rw [hγ0] at hb
      exact .inl ⟨_, ho, hb⟩
    · obtain ⟨j, m', hi, _, _, _, h9, h10⟩ := hblk m ob e hm b hb
      exact .inr ⟨m', h9, h10⟩
  have hPO : ∀ b, BlockOf γ st.o n b ∨ (∃ m ∈ handed st.o all cs, BlockOf γ st.o m b) → OwnedP γ st.o b := by
    rintro b (⟨ob, h1, h2⟩ | ⟨m, _, ob, h1, h2⟩)
    · exact ⟨n, ob, h1, h2⟩
    · exact ⟨m, ob, h1, h2⟩
  have hO : ∀ b, b < w.heap.size → Owned ⟨own1, F⟩ γb ((900000, some (.box (backV 900001 (cs.map (cellB st.o all))))) :: rowsO 900001 (cs.map (cellB st.o all))) b → Owned X γ st.o b := by
    rintro b _ (hb | hb)
    · exact .inl (hPO b (hP b hb))
    · exact (hF b hb).1
  refine ⟨γb, ⟨rfl, rfl, fun i => by simp only [St.get, lkd, VRel], fun m ob hm => ?_, fun b hb => ⟨(h.lt b (hPO b (hP b hb))).1, hown b (hP b hb)⟩, ?_, hk, ?_, ?_, fun p hp => by cases hp⟩, hγ0, hP⟩
  · by_cases e : 900000 = m
    · subst e
      rw [hob0, Option.some.injEq] at hm
      subst hm
      simp only [ObRel]
      refine ⟨b0, c, T, by rw [hγ0, hg], hh, ?_⟩
      refine VRels.of_get (by rw [backV_length, List.length_map, hr.length]) (fun j v x hv hx => ?_)
      rw [backV_get, List.getElem?_map] at hv
      cases hcj : cs[j]? with
      | none => rw [hcj] at hv; cases hv
      | some u =>
        rw [hcj] at hv
        simp only [Option.map_some, Option.some.injEq] at hv
        have hux := hr.get' hcj hx
        rcases cellB_cases st.o all u with ⟨m', hi, e', ag', ks', l', rfl, h1, h2, h3⟩ | ⟨h1, h2⟩
        · rw [h3] at hv
          simp only at hv
          subst hv
          have hv2 : cs.map (cellB st.o all) = cs.map (cellB st.o all) := rfl
          have hat := rowsO_at (cs := cs.map (cellB st.o all)) (nr := 900001) (j := j) (e := e') (ag := ag') (ks := ks') (l := l'.take hi) (by rw [List.getElem?_map, hcj]; simp [h3])
          simp only [VRel]
          rw [objOf_cons, if_neg (by omega), hat]
          simp only
          refine ⟨Nat.le_refl _, ?_⟩
          rw [hγ1 j x hx]
          have hux0 := hux
          simp only [VRel, h1] at hux
          obtain ⟨hl, p, len, cap, p', hgm, hxx, _, h22, h33, hm4, _, h5⟩ := hux
          have htl : (l'.take hi).length = hi := by rw [List.length_take, Nat.min_eq_left hl]
          rw [htl]
          rw [Nat.sub_zero, Nat.sub_zero] at hxx
          refine ⟨p', hi, cap, p', hxx, by rw [hxx]; simp, Nat.zero_le _, Nat.le_refl _, by omega, hm4, .inl ?_, fun _ => rfl⟩
          cases p' <;> simp [Addr.add]
        · have hv' : v = cellB st.o all u := by
            rw [← hv]
            cases hcc : cellB st.o all u <;> first | rfl | (rw [hcc] at h1; cases h1)
          subst hv'
          by_cases hrw : ∃ m' lo hi, u = .row m' lo hi
          · obtain ⟨m', lo, hi, rfl⟩ := hrw
            cases hob' : objOf st.o m' with
            | none => simp only [cellB, hob', VRel]
            | some ob' =>
              by_cases hrr : ∃ own e ag ks l, ob' = .row own e ag ks l
              · obtain ⟨own, e, ag, ks, l, rfl⟩ := hrr
                obtain ⟨h3, h4⟩ := h2 m' lo hi rfl own e ag ks l hob'
                rw [h3]
                simp only [VRel]
                refine part_list h hob' hux hO (fun b hb hb' => ?_)
                replace hb := hb.block
                have hsh := shared_mem (cs := cs) (all := all) (hi := hi) hob' h4 (List.mem_of_getElem? hcj)
                rcases hb' with hb' | hb'
                · rcases hP b hb' with ⟨ob1, h5, h6⟩ | ⟨m2, h5, ob1, h6, h7⟩
                  · obtain ⟨ob2, h8, h9⟩ := hb
                    have hne : n ≠ m' := by
                      rintro rfl
                      rw [ho] at hob'
                      cases hob'
                    exact h.dis n m' ob1 ob2 b hne h5 h8 h6 h9
                  · obtain ⟨ob2, h8, h9⟩ := hb
                    by_cases hne : m2 = m'
                    · subst hne
                      obtain ⟨hi2, e2, ag2, ks2, l2, k1, k2, k3⟩ := handed_mem.1 h5
                      obtain ⟨j2, hj2⟩ := List.mem_iff_getElem?.1 k1
                      have hocc : 2 ≤ occ m2 all := by
                        rw [← hall, occ_append]
                        rcases Nat.lt_trichotomy j j2 with hlt | hlt | hlt
                        · have := occ_two hlt hcj hj2
                          omega
                        · subst hlt
                          rw [hcj] at hj2
                          simp only [Option.some.injEq, V.row.injEq, true_and] at hj2
                          obtain ⟨rfl, rfl⟩ := hj2
                          rw [k2] at hob'
                          simp only [Option.some.injEq, Ob.row.injEq] at hob'
                          rw [← hob'.1, k3] at h4
                          simp at h4
                        · have := occ_two hlt hj2 hcj
                          omega
                      omega
                    · exact h.dis m2 m' ob1 ob2 b hne h6 h8 h7 h9
                · exact (hF b hb').2.2.2 m' hsh hb
              · have : cellB st.o all (.row m' lo hi) = .any := by
                  simp only [cellB, hob']
                  split
                  · rename_i own e ag ks l heq
                    simp only [Option.some.injEq] at heq
                    exact absurd ⟨_, _, _, _, _, heq⟩ hrr
                  · rfl
                rw [this]
                simp only [VRel]
          · have hfree : cellB st.o all u = u ∨ cellB st.o all u = .any := by
              cases u <;> first | exact .inl rfl | exact .inr rfl | exact absurd ⟨_, _, _, rfl⟩ hrw
            rcases hfree with h3 | h3
            · rw [h3] at h1 ⊢
              exact freeL_rel h1 (VRel.mono (Keep.refl _ w) hO hux)
            · rw [h3]
              simp only [VRel]
    · obtain ⟨j, m', hi, e', ag, ks, l, u, h1, h2, h3, h4, h5, h6, h7, h8, h9⟩ := hrow m ob e hm
      rw [h5, h7]
      have := (part_row (γ' := γb) (o' := []) h h3 h8).1
      simp only [ObRel] at this ⊢
      obtain ⟨k1, k2, xs, k3, k4⟩ := this
      exact ⟨k1, k2, xs, k3, fun i y hy => Kd.RelAll.mono (Keep.refl _ w) hO (fun _ _ hu => hu) (k4 i y hy)⟩
  · intro m1 m2 ob1 ob2 b hne h1 h2 hb1 hb2
    by_cases e1 : 900000 = m1
    · subst e1
      rw [hob0, Option.some.injEq] at h1
      subst h1
      rw [hγ0] at hb1
      obtain ⟨j, m', hi, k1, k2, k3, k4, ob3, k5, k6⟩ := hblk m2 ob2 hne h2 b hb2
      have hne' : n ≠ m' := by
        rintro rfl
        obtain ⟨_, _, _, _, _, _, q, _⟩ := handed_mem.1 k4
        rw [ho] at q
        cases q
      exact h.dis n m' _ ob3 b hne' ho k5 hb1 k6
    · obtain ⟨j1, m1', hi1, k1, k2, k3, k4, ob3, k5, k6⟩ := hblk m1 ob1 e1 h1 b hb1
      by_cases e2 : 900000 = m2
      · subst e2
        rw [hob0, Option.some.injEq] at h2
        subst h2
        rw [hγ0] at hb2
        have hne' : n ≠ m1' := by
          rintro rfl
          obtain ⟨_, _, _, _, _, _, q, _⟩ := handed_mem.1 k4
          rw [ho] at q
          cases q
        exact h.dis n m1' _ ob3 b hne' ho k5 hb2 k6
      · obtain ⟨j2, m2', hi2, p1, p2, p3, p4, ob4, p5, p6⟩ := hblk m2 ob2 e2 h2 b hb2
        by_cases hmm : m1' = m2'
        · subst hmm
          have hocc : 2 ≤ occ m1' all := by
            rw [← hall, occ_append]
            rcases Nat.lt_trichotomy j1 j2 with hlt | hlt | hlt
            · have := occ_two hlt k2 p2
              omega
            · omega
            · have := occ_two hlt p2 k2
              omega
          omega
        · exact h.dis m1' m2' ob3 ob4 b hmm k5 p5 k6 p6
  · rintro b hb hf
    obtain ⟨_, f1, f2, _⟩ := hF b hf
    rcases hP b hb with h1 | ⟨m, h1, h2⟩
    · exact f1 h1
    · exact f2 m h1 h2
  · intro b hb
    rcases (hF b hb).1 with h1 | h1
    · exact (h.lt b h1).1
    · exact h.fl b h1
end
end Go.FM

/-
  THE SMALL MACHINE (22): what comes back from a call.
-/
namespace Go.FM
open Go Go.RowKit

theorem anys_eq : ∀ l : List V, anys l = l.map fun _ => .any
  | [] => rfl
  | _ :: r => by simp [anys, anys_eq r]

section
variable {B : BT} {nt : Nat} {w0 : World} {X : Zone} {γ : Nat → Value} {st st' : St} {a : Act} {w : World} {P : Program} {E : Env}

/-- Rows that come back are rows of the call's own. -/
theorem adopt_rows {B' : BT} {own : Nat → Prop} {O1 : Nat → Prop} {g : Nat → Value} (nm : Nat) : ∀ (r : List V) (j0 : Nat) {γ : Nat → Value} {st : St} {F : Nat → Prop}, nm + j0 + r.length ≤ 900000 → Rel B nt w0 ⟨own, F⟩ γ st a w →
    (∀ b, Owned ⟨own, F⟩ γ st.o b → O1 b) →
    (∀ j e ag ks l, r[j]? = some (.vec e ag ks l) → ObRel B' γ [] w O1 (g (j0 + j)) (.row true e ag ks l) ∧ ∀ b, (g (j0 + j)).ownBlock = some b → F b ∧ (w0.heap.size ≤ b ∨ own b)) →
    (∀ i j e ag ks l e' ag' ks' l' b, i ≠ j → r[i]? = some (.vec e ag ks l) → r[j]? = some (.vec e' ag' ks' l') → (g (j0 + i)).ownBlock = some b → (g (j0 + j)).ownBlock = some b → False) →
    ∃ γd F', Rel B nt w0 ⟨own, F'⟩ γd (st.ups (backU (nm + j0) r)) a w ∧ (∀ b, F' b → F b) ∧ (∀ b, F b → (∀ j e ag ks l, r[j]? = some (.vec e ag ks l) → (g (j0 + j)).ownBlock ≠ some b) → F' b) ∧
      (∀ b, Owned ⟨own, F'⟩ γd (st.ups (backU (nm + j0) r)).o b → Owned ⟨own, F⟩ γ st.o b) ∧
      (∀ j e ag ks l, r[j]? = some (.vec e ag ks l) → γd (nm + j0 + j) = g (j0 + j) ∧ objOf (st.ups (backU (nm + j0) r)).o (nm + j0 + j) = some (.row true e ag ks l)) ∧
      (∀ m, (m < nm + j0 ∨ nm + j0 + r.length ≤ m) → γd m = γ m ∧ (∀ cs : List V, objOf st.o m = some (.box (anys cs)) → objOf (st.ups (backU (nm + j0) r)).o m = some (.box (anys cs))) ∧
        (∀ e ag ks l, objOf st.o m = some (.row true e ag ks l) → objOf (st.ups (backU (nm + j0) r)).o m = some (.row true e ag ks l)))
  | [], j0, γ, st, F, _, h, hO, hr, hd => ⟨γ, F, h, fun _ h => h, fun _ h _ => h, fun _ h => h, fun j e ag ks l hj => by simp at hj, fun m _ => ⟨rfl, fun _ h => h, fun _ _ _ _ h => h⟩⟩
  | v :: r, j0, γ, st, F, h9, h, hO, hr, hd => by
    rw [List.length_cons] at h9
    by_cases hv : ∃ e ag ks l, v = .vec e ag ks l
    · obtain ⟨e, ag, ks, l, rfl⟩ := hv
      obtain ⟨hr0, hb0⟩ := hr 0 e ag ks l (by simp)
      rw [Nat.add_zero] at hr0 hb0
      have h1 := h.add (nm + j0) (by omega) (.row true e ag ks l) (g j0) (fun b hb => hb0 b hb) (fun O' hO' => by
        simp only [ObRel] at hr0 ⊢
        obtain ⟨k1, k2, xs, k3, k4⟩ := hr0
        exact ⟨k1, k2, xs, k3, fun i y hy => Kd.RelAll.mono (Keep.refl _ w) (fun b _ hb => hO b (hO' b hb)) (fun _ _ hu => hu) (k4 i y hy)⟩)
      have hO2 : ∀ b, Owned ⟨own, fun b => F b ∧ ¬ blocksOf (g j0) (.row true e ag ks l) b⟩ (fun m => if nm + j0 = m then g j0 else γ m) (st.up (.new (nm + j0) (.row true e ag ks l))).o b → Owned ⟨own, F⟩ γ st.o b := by
        rintro b (⟨m, ob1, hm, hb1⟩ | hb)
        · rw [objOf_up_new] at hm
          split at hm
          · rename_i e1
            subst e1
            simp only [Option.some.injEq] at hm
            subst hm
            simp only [if_true] at hb1
            exact .inr (hb0 b hb1).1
          · rename_i e1
            obtain ⟨ob0, h0, hs⟩ := scrubO_some hm
            simp only [if_neg e1] at hb1
            exact .inl ⟨m, ob0, h0, ((scrubO_fits hs).2 _ _).1 hb1⟩
        · exact .inr hb.1
      obtain ⟨γd, F', r1, r2, r3, r4, r5, r6⟩ := adopt_rows (B' := B') nm r (j0 + 1) (by omega) h1 (fun b hb => hO b (hO2 b hb)) (fun j e' ag' ks' l' hj => by
          obtain ⟨q1, q2⟩ := hr (j + 1) e' ag' ks' l' (by simpa using hj)
          rw [show j0 + (j + 1) = j0 + 1 + j by omega] at q1 q2
          refine ⟨row_any q1, fun b hb => ⟨⟨(q2 b hb).1, fun hb' => ?_⟩, (q2 b hb).2⟩⟩
          exact hd 0 (j + 1) e ag ks l e' ag' ks' l' b (by omega) (by simp) (by simpa using hj) hb' (by rw [show j0 + (j + 1) = j0 + 1 + j by omega]; exact hb))
        (fun i j e1 ag1 ks1 l1 e2 ag2 ks2 l2 b hij h1 h2 hb1 hb2 => hd (i + 1) (j + 1) e1 ag1 ks1 l1 e2 ag2 ks2 l2 b (by omega) (by simpa using h1) (by simpa using h2) (by rw [show j0 + (i + 1) = j0 + 1 + i by omega]; exact hb1) (by rw [show j0 + (j + 1) = j0 + 1 + j by omega]; exact hb2))
      refine ⟨γd, F', r1, fun b hb => (r2 b hb).1, fun b hb hn => r3 b ⟨hb, fun hb' => hn 0 e ag ks l (by simp) hb'⟩ (fun j e' ag' ks' l' hj => by
          have := hn (j + 1) e' ag' ks' l' (by simpa using hj)
          rwa [show j0 + (j + 1) = j0 + 1 + j by omega] at this), fun b hb => hO2 b (r4 b hb), ?_, ?_⟩
      · intro j e' ag' ks' l' hj
        cases j with
        | zero =>
          simp only [List.getElem?_cons_zero, Option.some.injEq, V.vec.injEq] at hj
          obtain ⟨rfl, rfl, rfl, rfl⟩ := hj
          obtain ⟨p1, _, p3⟩ := r6 (nm + j0) (.inl (by omega))
          refine ⟨by rw [Nat.add_zero, Nat.add_zero, p1]; simp, ?_⟩
          rw [Nat.add_zero]
          exact p3 e ag ks l (by rw [objOf_up_new, if_pos rfl])
        | succ j =>
          obtain ⟨p1, p2⟩ := r5 j e' ag' ks' l' (by simpa using hj)
          rw [show nm + (j0 + 1) + j = nm + j0 + (j + 1) by omega] at p1 p2
          exact ⟨by rw [p1]; congr 1; omega, p2⟩
      · intro m hm
        have hne : nm + j0 ≠ m := by
          simp only [List.length_cons] at hm
          omega
        obtain ⟨p1, p2, p3⟩ := r6 m (by simp only [List.length_cons] at hm; omega)
        refine ⟨by rw [p1, if_neg hne], fun cs hc => p2 cs ?_, fun e' ag' ks' l' hc => p3 e' ag' ks' l' ?_⟩
        · rw [objOf_up_new, if_neg hne, hc]
          simp only [scrubO, anys_eq, List.map_map, Option.some.injEq, Ob.box.injEq]
          rfl
        · rw [objOf_up_new, if_neg hne, hc]
          rfl
    · have hu : backU (nm + j0) (v :: r) = backU (nm + (j0 + 1)) r := by
        cases v <;> first | rfl | exact absurd ⟨_, _, _, _, rfl⟩ hv
      rw [hu]
      obtain ⟨γd, F', r1, r2, r3, r4, r5, r6⟩ := adopt_rows (B' := B') nm r (j0 + 1) (by omega) h hO (fun j e' ag' ks' l' hj => by
          obtain ⟨q1, q2⟩ := hr (j + 1) e' ag' ks' l' (by simpa using hj)
          rw [show j0 + (j + 1) = j0 + 1 + j by omega] at q1 q2
          exact ⟨q1, q2⟩)
        (fun i j e1 ag1 ks1 l1 e2 ag2 ks2 l2 b hij h1 h2 hb1 hb2 => hd (i + 1) (j + 1) e1 ag1 ks1 l1 e2 ag2 ks2 l2 b (by omega) (by simpa using h1) (by simpa using h2) (by rw [show j0 + (i + 1) = j0 + 1 + i by omega]; exact hb1) (by rw [show j0 + (j + 1) = j0 + 1 + j by omega]; exact hb2))
      refine ⟨γd, F', r1, r2, fun b hb hn => r3 b hb (fun j e' ag' ks' l' hj => by
          have := hn (j + 1) e' ag' ks' l' (by simpa using hj)
          rwa [show j0 + (j + 1) = j0 + 1 + j by omega] at this), r4, ?_, ?_⟩
      · intro j e' ag' ks' l' hj
        cases j with
        | zero =>
          simp only [List.getElem?_cons_zero, Option.some.injEq] at hj
          exact absurd ⟨_, _, _, _, hj⟩ hv
        | succ j =>
          obtain ⟨p1, p2⟩ := r5 j e' ag' ks' l' (by simpa using hj)
          rw [show nm + (j0 + 1) + j = nm + j0 + (j + 1) by omega] at p1 p2
          exact ⟨by rw [p1]; congr 1; omega, p2⟩
      · intro m hm
        exact r6 m (by simp only [List.length_cons] at hm; omega)

end
end Go.FM

/-
  THE SMALL MACHINE (23): what a function is said to do; a call of it.
-/
namespace Go.FM
open Go Go.RowKit

def freeV : V → Bool
  | .agg l => l.all freeL
  | .tup l => l.all fun v => match v with | .agg l => l.all freeL | v => freeL v
  | v => freeL v
def okR : V → Bool
  | .bor cs => cs.all okC
  | .vec _ _ _ _ => true
  | v => freeV v
def sameKind : List V → List V → Bool
  | [.bld _], [.bld _] => true
  | [.bld _], _ => false
  | _, cs => cs.all okC

def backOK (vs : List V) (r : V) (out : List (List V)) (g g' : Value) : Prop :=
  match borOf vs, out with
  | none, [] => okR r = true
  | some cs, [cs'] => freeV r = true ∧ sameKind cs cs' = true ∧ addrOf g' = addrOf g
  | _, _ => False

/-- A call of a function, whatever it is made of. -/
def Does (P : Program) (f : FuncId) (xs : List Value) (w : World) (R : Ending → World → Prop) : Prop :=
  match (callFunc f xs.toArray).run P w with
  | .ok (.enter g args) w' => Calls P g args w' R
  | .ok (.value x) w' => R (.returned x) w'
  | .ok (.row row args) w' => Rows P row args w' fun x w'' => R (.returned x) w''
  | _ => False

theorem Does.mono {P : Program} {f : FuncId} {xs : List Value} {w : World} {R R' : Ending → World → Prop} (h : Does P f xs w R) (hr : ∀ e w', R e w' → R' e w') : Does P f xs w R' := by
  unfold Does at h ⊢
  split at h
  · exact Calls.mono h hr
  · exact hr _ _ h
  · exact Rows.mono h (fun v w' => hr _ _)
  · exact h.elim

theorem Does.enter {P : Program} {f : FuncId} {fn : Func} (hf : P.funcs[f]? = some fn) (hn : (fn.name == "runtime.NumGoroutine") = false) (hb : fn.body.isNone = false) {xs : List Value} {w : World} {R : Ending → World → Prop} (h : Calls P f xs.toArray w R) : Does P f xs w R := by
  have : (callFunc f xs.toArray).run P w = .ok (.enter f xs.toArray) w := by
    unfold callFunc
    have hn' : ¬ fn.name = "runtime.NumGoroutine" := by simpa using hn
    have hb' : ¬ fn.body = none := fun h => by rw [h] at hb; cases hb
    simp [hf, hn', hb']
  unfold Does
  rw [this]
  exact h

/-- A function does as its contract says. -/
def Snd (P : Program) (B : BT) (f : FuncId) (sp : Spec) : Prop :=
  ∀ (w : World) (X : Zone) (γ : Nat → Value) (vs : List V) (xs : List Value) (r : V) (out : List (List V)), sp vs = some (r, out) → Glob B w → (∀ b, X.own b → B.ng ≤ b) →
    Rel B.base 0 w X γ ⟨[], memIn vs⟩ act0 w → VRels γ (memIn vs) w (Owned X γ (memIn vs)) (vs.map entV) xs →
    Does P f xs w fun e w' => ∃ x, e = .returned x ∧ ∃ γ', Rel B.base 0 w X γ' ⟨[], memOut r out⟩ act0 w' ∧ VRel γ' (memOut r out) w' (Owned X γ' (memOut r out)) (retV r) x ∧ backOK vs r out (γ 900000) (γ' 900000)

theorem freeL_any {γ γ' : Nat → Value} {o o' : Store} {w : World} {O O' : Nat → Prop} {v : V} (hf : freeL v = true) (hO : isL v = true → ∀ b, b < w.heap.size → O' b → O b) {x : Value} (h : VRel γ o w O v x) : VRel γ' o' w O' v x := by
  cases v <;> simp only [freeL] at hf <;> first | (cases hf; done) | (exact freeL_rel rfl (VRel.mono (Keep.refl _ w) (hO rfl) h)) | (simp only [VRel] at h ⊢; try exact h)

theorem anyL_mem : ∀ {l : List V} {v : V}, v ∈ l → isL v = true → anyL l = true
  | u :: r, v, hm, hv => by
    simp only [anyL]
    cases hu : isL u with
    | true => rfl
    | false =>
      rcases List.mem_cons.1 hm with h1 | h1
      · subst h1
        rw [hv] at hu
        cases hu
      · exact anyL_mem h1 hv

theorem freeLs_any {γ γ' : Nat → Value} {o o' : Store} {w : World} {O O' : Nat → Prop} : ∀ {l : List V} {xs : List Value}, l.all freeL = true → (anyL l = true → ∀ b, b < w.heap.size → O' b → O b) → VRels γ o w O l xs → VRels γ' o' w O' l xs
  | [], [], _, _, _ => by simp only [VRels]
  | [], _ :: _, _, _, h => by simp only [VRels] at h
  | _ :: _, [], _, _, h => by simp only [VRels] at h
  | v :: l, x :: xs, hf, hO, h => by
    simp only [VRels] at h ⊢
    simp only [List.all_cons, Bool.and_eq_true] at hf
    exact ⟨freeL_any hf.1 (fun hv => hO (anyL_mem (List.mem_cons_self ..) hv)) h.1, freeLs_any hf.2 (fun hl => hO (by simp only [anyL]; split <;> first | rfl | exact hl)) h.2⟩

theorem freeV_any {γ γ' : Nat → Value} {o o' : Store} {w : World} {O O' : Nat → Prop} {v : V} (hf : freeV v = true) (hO : hasList v = true → ∀ b, b < w.heap.size → O' b → O b) {x : Value} (h : VRel γ o w O v x) : VRel γ' o' w O' v x := by
  by_cases ha : ∃ l, v = .agg l
  · obtain ⟨l, rfl⟩ := ha
    simp only [VRel] at h ⊢
    obtain ⟨cs, hx, hr⟩ := h
    exact ⟨cs, hx, freeLs_any hf hO hr⟩
  by_cases ht : ∃ l, v = .tup l
  · obtain ⟨l, rfl⟩ := ht
    simp only [VRel] at h ⊢
    obtain ⟨cs, hx, hr⟩ := h
    refine ⟨cs, hx, ?_⟩
    simp only [freeV] at hf
    have key : ∀ (l : List V) (xs : List Value), (l.all fun v => match v with | .agg l => l.all freeL | v => freeL v) = true → (hasList.go l = true → ∀ b, b < w.heap.size → O' b → O b) → VRels γ o w O l xs → VRels γ' o' w O' l xs := by
      intro l
      induction l with
      | nil =>
        intro xs _ _ h
        cases xs with
        | nil => simp only [VRels]
        | cons _ _ => simp only [VRels] at h
      | cons v l ih =>
        intro xs hf hO h
        cases xs with
        | nil => simp only [VRels] at h
        | cons x xs =>
          simp only [VRels] at h ⊢
          simp only [List.all_cons, Bool.and_eq_true] at hf
          have h2 : hasList.go l = true → hasList.go (v :: l) = true := fun hl => by cases v <;> simp only [hasList.go] <;> first | exact hl | (split <;> first | rfl | exact hl)
          refine ⟨?_, ih xs hf.2 (fun hl => hO (h2 hl)) h.2⟩
          by_cases hv : ∃ l', v = .agg l'
          · obtain ⟨l', rfl⟩ := hv
            have h1 := h.1
            simp only [VRel] at h1 ⊢
            obtain ⟨cs, hx, hr⟩ := h1
            exact ⟨cs, hx, freeLs_any hf.1 (fun hl => hO (by simp only [hasList.go, hl])) hr⟩
          · have hf1 : freeL v = true := by
              have := hf.1
              split at this
              · exact absurd ⟨_, rfl⟩ hv
              · exact this
            exact freeL_any hf1 (fun hl => hO (by cases v <;> simp_all [hasList.go])) h.1
    exact key l _ hf hO hr
  have h1 : freeL v = true := by cases v <;> first | exact hf | exact absurd ⟨_, rfl⟩ ha | exact absurd ⟨_, rfl⟩ ht
  exact freeL_any h1 (fun hl => hO (by cases v <;> first | exact hl | (simp only [isL] at hl; cases hl))) h

theorem entV_free {v : V} (h : freeV v = true) : entV v = v := by
  cases v <;> first | rfl | (simp only [freeV, freeL] at h; cases h)

theorem retV_free {v : V} (h : freeV v = true) : retV v = v := by
  cases v <;> first | rfl | (simp only [freeV, freeL] at h; cases h)

theorem argL_bor {o : Store} {bs : List V} {tk : Option Kd} {v : V} (h : lent.lentC [v] = []) : ∀ cs, argL o bs tk v ≠ .bor cs := by
  intro cs hc
  cases v
  case ptr n i c => simp [lent.lentC] at h
  all_goals simp only [argL] at hc
  all_goals (repeat' split at hc)
  all_goals (cases hc)
theorem argL_bors {o : Store} {bs : List V} {tk : Option Kd} {v : V} {cs : List V} (h : argL o bs tk v = .bor cs) : cs = bs := by
  cases v <;> simp only [argL] at h <;> try (cases h; done)
  all_goals (repeat' split at h)
  all_goals first | (cases h; done) | (cases h; rfl)

theorem borC_argL {o : Store} {bs : List V} : ∀ {l : List V}, (borOf.borC (l.map (argL o bs none)) = none ∨ borOf.borC (l.map (argL o bs none)) = some bs) ∧ (lent.lentC l = [] → borOf.borC (l.map (argL o bs none)) = none)
  | [] => by simp [borOf.borC]
  | v :: r => by
    have ih := borC_argL (o := o) (bs := bs) (l := r)
    have hl : lent.lentC (v :: r) = [] → lent.lentC [v] = [] ∧ lent.lentC r = [] := by cases v <;> simp [lent.lentC]
    simp only [List.map_cons]
    cases hv : argL o bs none v
    case bor cs =>
      simp only [borOf.borC]
      refine ⟨.inr (by rw [argL_bors hv]), fun h => absurd hv (argL_bor (hl h).1 cs)⟩
    all_goals (simp only [borOf.borC]; exact ⟨ih.1, fun h => ih.2 (hl h).2⟩)

theorem borOf_argVs {o : Store} {bs : List V} : ∀ {l : List V} {tks : List (List Kd)}, (borOf (argVs o bs tks l) = none ∨ borOf (argVs o bs tks l) = some bs) ∧ (lent l = [] → borOf (argVs o bs tks l) = none)
  | [], tks => by cases tks <;> simp [argVs, borOf]
  | v :: r, tks => by
    obtain ⟨ks, tks', he⟩ : ∃ ks tks', argVs o bs tks (v :: r) = argV o bs ks v :: argVs o bs tks' r := by
      cases tks with
      | nil => exact ⟨[], [], rfl⟩
      | cons k ks => exact ⟨k, ks, rfl⟩
    have ih := borOf_argVs (o := o) (bs := bs) (l := r) (tks := tks')
    rw [he]
    have hl : lent (v :: r) = [] → lent [v] = [] ∧ lent r = [] := by cases v <;> simp [lent]
    by_cases hc : ∃ f l, v = .clo f l
    · obtain ⟨f, l, rfl⟩ := hc
      have hb := borC_argL (o := o) (bs := bs) (l := l)
      simp only [argV, borOf]
      cases hx : borOf.borC (l.map (argL o bs none)) with
      | none => exact ⟨ih.1, fun h => ih.2 (hl h).2⟩
      | some cs =>
        simp only
        refine ⟨.inr ?_, fun h => ?_⟩
        · rcases hb.1 with h1 | h1 <;> rw [hx] at h1
          · cases h1
          · exact h1
        · have := hb.2 (by have := (hl h).1; simpa [lent] using this)
          rw [hx] at this
          cases this
    · by_cases ha : ∃ l, v = .agg l
      · obtain ⟨l, rfl⟩ := ha
        simp only [argV, borOf]
        exact ⟨ih.1, fun h => ih.2 (hl h).2⟩
      · have h1 : argV o bs ks v = argL o bs ks.head? v := by
          cases v <;> first | rfl | exact absurd ⟨_, rfl⟩ ha | exact absurd ⟨_, _, rfl⟩ hc
        rw [h1]
        cases hv : argL o bs ks.head? v
        case bor cs =>
          simp only [borOf]
          refine ⟨.inr (by rw [argL_bors hv]), fun h => absurd hv (argL_bor (v := v) ?_ cs)⟩
          have := (hl h).1
          cases v <;> simp_all [lent, lent.lentC]
        case clo f l =>
          exfalso
          cases v <;> simp only [argL] at hv <;> try (cases hv; done)
          all_goals (repeat' split at hv)
          all_goals (cases hv)
        all_goals (simp only [borOf]; exact ⟨ih.1, fun h => ih.2 (hl h).2⟩)

end Go.FM

/-
  THE SMALL MACHINE (24): a call.
-/
namespace Go.FM
open Go Go.RowKit

section
variable {B : BT} {nt : Nat} {w0 : World} {X : Zone} {γ : Nat → Value} {st st' : St} {a : Act} {w : World} {P : Program} {E : Env}

/-- Rows that were frozen are nobody's. -/
theorem freeze_owned (h : Rel B nt w0 X γ st a w) (ns : List Nat) {b : Nat} (hb : Owned X γ (st.ups (freezeU st.o ns)).o b) : Owned X γ st.o b ∧ ∀ m ∈ ns, ¬ RowOf γ st.o m b := by
  obtain ⟨h1, h2, h3, h4, h5⟩ := freeze_rel st.o ns (FrzLe.refl _) h
  refine ⟨h2.owned hb, ?_⟩
  rintro m hm ⟨e, ag, ks, l, ho, hob⟩
  rcases hb with ⟨m', ob', hm', hb'⟩ | hb
  · by_cases e1 : m = m'
    · subst e1
      rcases h2 m with h6 | ⟨e', ag', ks', l', h6, h7⟩
      · rw [h6, ho] at hm'
        have := h4 m hm true e ag ks l (by rw [h6, ho])
        cases this
      · rw [h7, Option.some.injEq] at hm'
        subst hm'
        exact hb'.elim
    · rcases h2 m' with h6 | ⟨e', ag', ks', l', h6, h7⟩
      · rw [h6] at hm'
        exact h.dis m m' _ ob' b e1 ho hm' hob hb'
      · rw [h7, Option.some.injEq] at hm'
        subst hm'
        exact hb'.elim
  · exact h.near ⟨m, _, ho, hob⟩ hb

/-- A call that lends nothing. -/
theorem call_plain (h : Rel B nt w0 X γ st a w) (hg : GX B w0 X) {f : FuncId} {sp : Spec} (hS : Snd P B f sp) {vs : List V} {xs : List Value} (hv : VRels γ st.o w (Owned X γ st.o) vs xs) (hl : lent vs = []) {tks : List (List Kd)} {v : V} {out : List (List V)}
    (hsp : sp (argVs st.o [] tks vs) = some (v, out)) :
    Does P f xs w fun e w' => ∃ x, e = .returned x ∧ ∃ γ', Rel B.base 0 w ⟨fun _ => False, fun b => Owned X γ st.o b ∧ ∀ m ∈ vsRows vs, ¬ RowOf γ st.o m b⟩ γ' ⟨[], memOut v out⟩ act0 w' ∧
      VRel γ' (memOut v out) w' (Owned ⟨fun _ => False, fun b => Owned X γ st.o b ∧ ∀ m ∈ vsRows vs, ¬ RowOf γ st.o m b⟩ γ' (memOut v out)) (retV v) x ∧ okR v = true ∧ out = [] := by
  have hb : borOf (argVs st.o [] tks vs) = none := borOf_argVs.2 hl
  have hm : memIn (argVs st.o [] tks vs) = [] := by simp only [memIn, hb]
  have hR : Rel B.base 0 w ⟨fun _ => False, fun b => Owned X γ st.o b ∧ ∀ m ∈ vsRows vs, ¬ RowOf γ st.o m b⟩ γ ⟨[], []⟩ act0 w := by
    refine ⟨rfl, rfl, fun i => by simp only [St.get, lkd, VRel], fun n ob hn => ?_, ?_, ?_, Keep.refl _ w, ?_, ?_, fun p hp => by cases hp⟩
    · simp only [objOf, lkd] at hn; cases hn
    · rintro b ⟨n, ob, hn, _⟩; simp only [objOf, lkd] at hn; cases hn
    · intro n m ob ob' b _ hn; simp only [objOf, lkd] at hn; cases hn
    · rintro b ⟨n, ob, hn, _⟩; simp only [objOf, lkd] at hn; cases hn
    · rintro b ⟨hb | hb, _⟩
      · exact (h.lt b hb).1
      · exact h.fl b hb
  have := hS w ⟨fun _ => False, fun b => Owned X γ st.o b ∧ ∀ m ∈ vsRows vs, ¬ RowOf γ st.o m b⟩ γ (argVs st.o [] tks vs) xs v out hsp (h.glob hg) (fun _ hf => hf.elim) (by rw [hm]; exact hR) (by
    rw [hm]
    refine argVs_rel h (fun b _ hb => ?_) [] hv (fun m hm b hr hb => ?_) (fun m hm => by rw [hl] at hm; cases hm)
    · rcases hb with ⟨n, ob, hn, _⟩ | hb
      · simp only [objOf, lkd] at hn; cases hn
      · exact hb.1
    · rcases hb with ⟨n, ob, hn, _⟩ | hb
      · simp only [objOf, lkd] at hn; cases hn
      · exact hb.2 m hm hr)
  refine this.mono ?_
  rintro e w' ⟨x, he, γ', h1, h2, h3⟩
  refine ⟨x, he, γ', h1, h2, ?_⟩
  simp only [backOK, hb] at h3
  cases out with
  | nil => exact ⟨h3, rfl⟩
  | cons _ _ => exact h3.elim

/-- What the caller has of memory, behind a call that lent nothing. -/
theorem plain_after (h : Rel B nt w0 X γ st a w) {w' : World} {X' : Zone} (hX : ∀ b, ¬ X'.own b) {γ' : Nat → Value} {st' : St} {a' : Act} (hc : Rel B.base 0 w X' γ' st' a' w') (F : Nat → Prop) (hF : ∀ b, F b → X.far b ∨ (w.heap.size ≤ b ∧ b < w'.heap.size)) : Rel B nt w0 ⟨X.own, F⟩ γ st a w' :=
  (h.fresh (hc.keep) (fun b _ hb => (hX b hb).elim)).shrink hF

theorem entO_one {cs : List V} (h : cs.all okC = true) : entO cs = (900000, some (.box (backV 900001 cs))) :: rowsO 900001 cs := by
  refine entO_box (fun s he => ?_)
  subst he
  simp [okC, freeL] at h

/-- The cells of a variable that comes back. -/
theorem cells_back {w' : World} {X' : Zone} {γ' : Nat → Value} {cs : List V} (hok : cs.all okC = true) (_ : Rel B.base 0 w X' γ' ⟨[], entO cs⟩ act0 w') {c : Array Value}
    (hr : VRels γ' (entO cs) w' (Owned X' γ' (entO cs)) (backV 900001 cs) c.toList) {γf : Nat → Value} {of : Store} {nm : Nat}
    (hrow : ∀ j e ag ks l, cs[j]? = some (.vec e ag ks l) → γf (nm + j) = γ' (900001 + j) ∧ objOf of (nm + j) = some (.row true e ag ks l)) {O' : Nat → Prop} (hO : anyL cs = true → ∀ b, b < w'.heap.size → O' b → Owned X' γ' (entO cs) b) :
    VRels γf of w' O' (backV nm cs) c.toList := by
  have hl := hr.length
  rw [backV_length] at hl
  refine VRels.of_get (by rw [backV_length, hl]) (fun j v x hv hx => ?_)
  rw [backV_get] at hv
  cases hcj : cs[j]? with
  | none => rw [hcj] at hv; cases hv
  | some u =>
    rw [hcj] at hv
    simp only [Option.map_some, Option.some.injEq] at hv
    have hb : (backV 900001 cs)[j]? = some (match (generalizing := false) u with | .vec _ _ _ l => .row (900001 + j) 0 l.length | v => v) := by rw [backV_get, hcj]; rfl
    have hux := hr.get' hb hx
    have huok : okC u = true := List.all_eq_true.1 hok u (List.mem_of_getElem? hcj)
    by_cases hvec : ∃ e ag ks l, u = .vec e ag ks l
    · obtain ⟨e, ag, ks, l, rfl⟩ := hvec
      simp only at hv hux
      subst hv
      obtain ⟨h1, h2⟩ := hrow j e ag ks l hcj
      have hat := rowsO_at (nr := 900001) hcj
      have hat' : objOf (entO cs) (900001 + j) = some (.row true e ag ks l) := by
        rw [entO_one hok, objOf_cons, if_neg (by omega)]
        exact hat
      simp only [VRel, hat'] at hux
      simp only [VRel, h2, h1]
      exact hux
    · have hf : freeL u = true := by cases u <;> first | exact huok | exact absurd ⟨_, _, _, _, rfl⟩ hvec
      have hvu : v = u := by cases u <;> first | exact hv.symm | exact absurd ⟨_, _, _, _, rfl⟩ hvec
      have hux' : VRel γ' (entO cs) w' (Owned X' γ' (entO cs)) u x := by cases u <;> first | exact hux | exact absurd ⟨_, _, _, _, rfl⟩ hvec
      subst hvu
      exact freeL_any hf (fun hv => hO (anyL_mem (List.mem_of_getElem? hcj) hv)) hux'

/-- What 'adopt_rows' wants of what comes back. -/
theorem back_rows {w' : World} {X' : Zone} {γ' : Nat → Value} {cs : List V} (hok : cs.all okC = true) (hc : Rel B.base 0 w X' γ' ⟨[], entO cs⟩ act0 w') :
    (∀ (γ : Nat → Value) j e ag ks l, cs[j]? = some (.vec e ag ks l) → ObRel B.base γ [] w' (fun b => anyL cs = true → Owned X' γ' (entO cs) b) (γ' (900001 + j)) (.row true e ag ks l) ∧ ∀ b, (γ' (900001 + j)).ownBlock = some b → OwnedP γ' (entO cs) b) ∧
    (∀ i j e ag ks l e' ag' ks' l' b, i ≠ j → cs[i]? = some (.vec e ag ks l) → cs[j]? = some (.vec e' ag' ks' l') → (γ' (900001 + i)).ownBlock = some b → (γ' (900001 + j)).ownBlock = some b → False) ∧
    (∀ j e ag ks l b, cs[j]? = some (.vec e ag ks l) → (γ' (900001 + j)).ownBlock = some b → BlockOf γ' (entO cs) 900000 b → False) := by
  have hat : ∀ {j e ag ks l}, cs[j]? = some (V.vec e ag ks l) → objOf (entO cs) (900001 + j) = some (.row true e ag ks l) := by
    intro j e ag ks l hj
    rw [entO_one hok, objOf_cons, if_neg (by omega)]
    exact rowsO_at hj
  refine ⟨fun γ j e ag ks l hj => ⟨?_, fun b hb => ⟨_, _, hat hj, hb⟩⟩, ?_, ?_⟩
  · have hr := hc.ob _ _ (hat hj)
    simp only [ObRel] at hr ⊢
    obtain ⟨k1, k2, xs, k3, k4⟩ := hr
    refine ⟨k1, k2, xs, k3, fun i y hy => Kd.RelAll.mono (Keep.refl _ w') (fun b _ hb => ?_) (fun _ _ hu => hu) (k4 i y hy)⟩
    exact hb (anyL_mem (List.mem_of_getElem? hj) rfl)
  · intro i j e ag ks l e' ag' ks' l' b hij h1 h2 hb1 hb2
    exact hc.dis _ _ _ _ b (by omega) (hat h1) (hat h2) hb1 hb2
  · rintro j e ag ks l b hj hb ⟨ob, h1, h2⟩
    exact hc.dis _ _ _ _ b (by omega) (hat hj) h1 hb h2

/-- A call that lends nothing, and what comes back of it is a value. -/
theorem call_value (h : Rel B nt w0 X γ st a w) (hg : GX B w0 X) {f : FuncId} {sp : Spec} (hS : Snd P B f sp) {vs : List V} {xs : List Value} (hv : VRels γ st.o w (Owned X γ st.o) vs xs) (hl : lent vs = []) {tks : List (List Kd)} {v : V} {out : List (List V)}
    (hsp : sp (argVs st.o [] tks vs) = some (v, out)) (hnb : ∀ cs, v ≠ .bor cs) (hnv : ∀ e ag ks l, v ≠ .vec e ag ks l) :
    Does P f xs w fun e w' => ∃ x, e = .returned x ∧ ∃ γ', Rel B nt w0 X γ' (st.ups (freezeU st.o (match hasList v with | true => vsRows vs | false => []))) a w' ∧
      VRel γ' (st.ups (freezeU st.o (match hasList v with | true => vsRows vs | false => []))).o w' (Owned X γ' (st.ups (freezeU st.o (match hasList v with | true => vsRows vs | false => []))).o) v x := by
  refine (call_plain h hg hS hv hl hsp).mono ?_
  rintro e w' ⟨x, he, γ', h1, h2, h3, rfl⟩
  have hf : freeV v = true := by cases v <;> first | exact h3 | exact absurd rfl (hnb _) | exact absurd rfl (hnv _ _ _ _)
  have hmo : memOut v [] = [] := by cases v <;> first | rfl | exact absurd rfl (hnb _) | exact absurd rfl (hnv _ _ _ _)
  rw [hmo] at h1 h2
  rw [retV_free hf] at h2
  have hz := (freeze_rel st.o (match hasList v with | true => vsRows vs | false => []) (FrzLe.refl _) h).1
  have hp := plain_after hz (fun b hb => hb) h1 X.far (fun b hb => .inl hb)
  refine ⟨x, he, γ, hp, freeV_any hf (fun hhl b _ hb => ?_) h2⟩
  have := freeze_owned h _ hb
  rw [hhl] at this
  exact .inr this

/-- A call that lends nothing, and makes a variable. -/
theorem call_made (h : Rel B nt w0 X γ st a w) (hg : GX B w0 X) {f : FuncId} {sp : Spec} (hS : Snd P B f sp) {vs : List V} {xs : List Value} (hv : VRels γ st.o w (Owned X γ st.o) vs xs) (hl : lent vs = []) {tks : List (List Kd)} {cs : List V} {out : List (List V)}
    (hsp : sp (argVs st.o [] tks vs) = some (.bor cs, out)) (d : Nat) (hd9 : d ≠ 900000) (hn9 : 1000 * (d + 1) + cs.length ≤ 900000) :
    Does P f xs w fun e w' => ∃ x, e = .returned x ∧ ∃ γ', Rel B nt w0 X γ' (st.ups (freezeU st.o (match anyL cs with | true => vsRows vs | false => []) ++ (backU (1000 * (d + 1)) cs ++ [.new d (.box (backV (1000 * (d + 1)) cs))]))) a w' ∧
      VRel γ' (st.ups (freezeU st.o (match anyL cs with | true => vsRows vs | false => []) ++ (backU (1000 * (d + 1)) cs ++ [.new d (.box (backV (1000 * (d + 1)) cs))]))).o w'
        (Owned X γ' (st.ups (freezeU st.o (match anyL cs with | true => vsRows vs | false => []) ++ (backU (1000 * (d + 1)) cs ++ [.new d (.box (backV (1000 * (d + 1)) cs))]))).o) (.ptr d 0 0) x := by
  refine (call_plain h hg hS hv hl hsp).mono ?_
  rintro e w' ⟨x, he, γ', h1, h2, h3, rfl⟩
  simp only [okR] at h3
  have hmo : memOut (.bor cs) [] = entO cs := rfl
  rw [hmo] at h1 h2
  generalize hX' : (⟨fun _ => False, fun b => Owned X γ st.o b ∧ ∀ m ∈ vsRows vs, ¬ RowOf γ st.o m b⟩ : Zone) = X' at h1 h2
  have hXo : ∀ b, ¬ X'.own b := fun b hb => by rw [← hX'] at hb; exact hb
  have hz := (freeze_rel st.o (match anyL cs with | true => vsRows vs | false => []) (FrzLe.refl _) h).1
  have hPf : ∀ b, OwnedP γ' (entO cs) b → w.heap.size ≤ b ∧ b < w'.heap.size := fun b hb => by
    obtain ⟨q1, q2⟩ := h1.lt b hb
    exact ⟨q2.resolve_right (hXo b), q1⟩
  have hp := plain_after hz hXo h1 (fun b => X.far b ∨ OwnedP γ' (entO cs) b) (fun b hb => hb.imp_right (hPf b))
  obtain ⟨br1, br2, br3⟩ := back_rows h3 h1
  have hO1 : ∀ b, Owned ⟨X.own, fun b => X.far b ∨ OwnedP γ' (entO cs) b⟩ γ (st.ups (freezeU st.o (match anyL cs with | true => vsRows vs | false => []))).o b → (anyL cs = true → Owned X' γ' (entO cs) b) := by
    intro b hb hal
    rw [hal] at hb
    have key : Owned X γ (st.ups (freezeU st.o (vsRows vs))).o b ∨ OwnedP γ' (entO cs) b := by
      rcases hb with hb | hb | hb
      · exact .inl (.inl hb)
      · exact .inl (.inr hb)
      · exact .inr hb
    rcases key with hb | hb
    · have := freeze_owned h _ hb
      exact .inr (by rw [← hX']; exact this)
    · exact .inl hb
  obtain ⟨γd, F', r1, r2, r3, r4, r5, r6⟩ := adopt_rows (B' := B.base) (g := fun j => γ' (900001 + j)) (1000 * (d + 1)) cs 0 (by omega) hp hO1 (fun j e ag ks l hj => by
      rw [Nat.zero_add]
      obtain ⟨q1, q2⟩ := br1 γ j e ag ks l hj
      exact ⟨q1, fun b hb => ⟨.inr (q2 b hb), .inl (Nat.le_trans h.keep.size (hPf b (q2 b hb)).1)⟩⟩)
    (fun i j e ag ks l e' ag' ks' l' b hij q1 q2 q3 q4 => by
      rw [Nat.zero_add] at q3 q4
      exact br2 i j e ag ks l e' ag' ks' l' b hij q1 q2 q3 q4)
  simp only [Nat.add_zero, Nat.zero_add] at r1 r3 r4 r5 r6
  have hob0 : objOf (entO cs) 900000 = some (.box (backV 900001 cs)) := by rw [entO_one h3, objOf_cons, if_pos rfl]
  have hor := h1.ob _ _ hob0
  simp only [ObRel] at hor
  obtain ⟨b0, c, T, hg, hh, hr⟩ := hor
  have hb0P : OwnedP γ' (entO cs) b0 := ⟨900000, _, hob0, ⟨_, hg, rfl⟩⟩
  have hadd := r1.add d hd9 (.box (backV (1000 * (d + 1)) cs)) (γ' 900000) (fun b hb => by
      obtain ⟨ad, q1, q2⟩ := hb
      rw [hg] at q1
      simp only [Value.pointer.injEq, Option.some.injEq] at q1
      subst q1
      simp only at q2
      subst q2
      exact ⟨r3 b0 (.inr hb0P) (fun j e ag ks l hj hb => br3 j e ag ks l b0 hj hb ⟨_, hob0, _, hg, rfl⟩), .inl (Nat.le_trans h.keep.size (hPf b0 hb0P).1)⟩)
    (fun O' hO' => by
      simp only [ObRel]
      refine ⟨b0, c, T, hg, hh, cells_back h3 h1 hr (fun j e ag ks l hj => ?_) (fun hal b _ hb => hO1 b (r4 b (hO' b hb)) hal)⟩
      obtain ⟨q1, q2⟩ := r5 j e ag ks l hj
      refine ⟨by rw [if_neg (by omega)]; exact q1, ?_⟩
      rw [objOf_up_new, if_neg (by omega), q2]
      rfl)
  have hfin := hadd.shrink (F := X.far) (fun b hb => by
      have hlt := h.fl b hb
      refine ⟨r3 b (.inl hb) (fun j e ag ks l hj hbj => ?_), fun hbb => ?_⟩
      · have := hPf b ((br1 γ j e ag ks l hj).2 b hbj)
        omega
      · obtain ⟨ad, q1, q2⟩ := hbb
        rw [hg] at q1
        simp only [Value.pointer.injEq, Option.some.injEq] at q1
        subst q1
        simp only at q2
        subst q2
        have := hPf b0 hb0P
        omega)
  refine ⟨x, he, _, by rw [ups_append, ups_append]; exact hfin, ?_⟩
  rw [ups_append, ups_append]
  simp only [St.ups, VRel, objOf_up_new, if_true]
  simp only [retV, entV, VRel, hob0] at h2
  exact h2

/-- A call that lends nothing, and hands a row over. -/
theorem call_vec (h : Rel B nt w0 X γ st a w) (hg : GX B w0 X) {f : FuncId} {sp : Spec} (hS : Snd P B f sp) {vs : List V} {xs : List Value} (hv : VRels γ st.o w (Owned X γ st.o) vs xs) (hl : lent vs = []) {tks : List (List Kd)} {e : Nat} {ag : Bool} {ks : List Kd} {l : List IV} {out : List (List V)}
    (hsp : sp (argVs st.o [] tks vs) = some (.vec e ag ks l, out)) (d : Nat) (hd9 : d ≠ 900000) :
    Does P f xs w fun e' w' => ∃ x, e' = .returned x ∧ ∃ γ', Rel B nt w0 X γ' (st.ups (freezeU st.o (vsRows vs) ++ [.new d (.row true e ag ks l)])) a w' ∧
      VRel γ' (st.ups (freezeU st.o (vsRows vs) ++ [.new d (.row true e ag ks l)])).o w' (Owned X γ' (st.ups (freezeU st.o (vsRows vs) ++ [.new d (.row true e ag ks l)])).o) (.row d 0 l.length) x := by
  refine (call_plain h hg hS hv hl hsp).mono ?_
  rintro e' w' ⟨x, he, γ', h1, h2, h3, rfl⟩
  have hmo : memOut (.vec e ag ks l) [] = [(900000, some (.row true e ag ks l))] := rfl
  rw [hmo] at h1 h2
  generalize hX' : (⟨fun _ => False, fun b => Owned X γ st.o b ∧ ∀ m ∈ vsRows vs, ¬ RowOf γ st.o m b⟩ : Zone) = X' at h1 h2
  have hXo : ∀ b, ¬ X'.own b := fun b hb => by rw [← hX'] at hb; exact hb
  have hz := (freeze_rel st.o (vsRows vs) (FrzLe.refl _) h).1
  have hPf : ∀ b, OwnedP γ' [(900000, some (.row true e ag ks l))] b → w.heap.size ≤ b ∧ b < w'.heap.size := fun b hb => by
    obtain ⟨q1, q2⟩ := h1.lt b hb
    exact ⟨q2.resolve_right (hXo b), q1⟩
  have hp := plain_after hz hXo h1 (fun b => X.far b ∨ OwnedP γ' [(900000, some (.row true e ag ks l))] b) (fun b hb => hb.imp_right (hPf b))
  have hO1 : ∀ b, Owned ⟨X.own, fun b => X.far b ∨ OwnedP γ' [(900000, some (.row true e ag ks l))] b⟩ γ (st.ups (freezeU st.o (vsRows vs))).o b → Owned X' γ' [(900000, some (.row true e ag ks l))] b := by
    intro b hb
    have key : Owned X γ (st.ups (freezeU st.o (vsRows vs))).o b ∨ OwnedP γ' [(900000, some (.row true e ag ks l))] b := by
      rcases hb with hb | hb | hb
      · exact .inl (.inl hb)
      · exact .inl (.inr hb)
      · exact .inr hb
    rcases key with hb | hb
    · have := freeze_owned h _ hb
      exact .inr (by rw [← hX']; exact this)
    · exact .inl hb
  have hob0 : objOf [(900000, some (.row true e ag ks l))] 900000 = some (.row true e ag ks l) := by rw [objOf_cons, if_pos rfl]
  have hor := h1.ob _ _ hob0
  simp only [ObRel] at hor
  obtain ⟨k1, k2, ys, k3, k4⟩ := hor
  have hg0 : ∀ b, blocksOf (γ' 900000) (.row true e ag ks l) b → OwnedP γ' [(900000, some (.row true e ag ks l))] b := fun b hb => ⟨900000, _, hob0, hb⟩
  have hadd := hp.add d hd9 (.row true e ag ks l) (γ' 900000) (fun b hb => ⟨.inr (hg0 b hb), .inl (Nat.le_trans h.keep.size (hPf b (hg0 b hb)).1)⟩)
    (fun O' hO' => by
      simp only [ObRel]
      exact ⟨k1, k2, ys, k3, fun i y hy => Kd.RelAll.mono (Keep.refl _ w') (fun b _ hb => hO1 b (hO' b hb)) (fun _ _ hu => hu) (k4 i y hy)⟩)
  have hfin := hadd.shrink (F := X.far) (fun b hb => by
      have hlt := h.fl b hb
      refine ⟨.inl hb, fun hbb => ?_⟩
      have := hPf b (hg0 b hbb)
      omega)
  refine ⟨x, he, _, by rw [ups_append]; exact hfin, ?_⟩
  rw [ups_append]
  simp only [St.ups, VRel, objOf_up_new, if_true]
  simp only [retV, VRel, hob0] at h2
  exact h2

end
end Go.FM

/-
  THE SMALL MACHINE (25): a call that lends a variable.
-/
namespace Go.FM
open Go Go.RowKit

mutual
theorem VRel.leaves {γ γ' : Nat → Value} {o o' : Store} {w : World} {O : Nat → Prop} (h1 : ∀ n lo hi x, VRel γ o w O (.row n lo hi) x → VRel γ' o' w O (.row n lo hi) x) (h2 : ∀ n i c x, VRel γ o w O (.ptr n i c) x → VRel γ' o' w O (.ptr n i c) x)
    (h3 : ∀ n c cap sz len x, VRel γ o w O (.bview n c cap sz len) x → VRel γ' o' w O (.bview n c cap sz len) x) : ∀ {v : V} {x : Value}, VRel γ o w O v x → VRel γ' o' w O v x
  | .any, _, _ => by simp only [VRel]
  | .int _ _, _, h => by simpa only [VRel] using h
  | .bool _, _, h => by simpa only [VRel] using h
  | .str _, _, h => by simpa only [VRel] using h
  | .list _ _ _, _, h => by simpa only [VRel] using h
  | .zs, _, h => by simpa only [VRel] using h
  | .row _ _ _, _, h => h1 _ _ _ _ h
  | .ptr _ _ _, _, h => h2 _ _ _ _ h
  | .iptr _ _ _, _, h => by simpa only [VRel] using h
  | .bview _ _ _ _ _, _, h => h3 _ _ _ _ _ _ h
  | .agg l, x, h => by
    simp only [VRel] at h ⊢
    obtain ⟨cs, hx, hr⟩ := h
    exact ⟨cs, hx, VRels.leaves h1 h2 h3 hr⟩
  | .tup l, x, h => by
    simp only [VRel] at h ⊢
    obtain ⟨cs, hx, hr⟩ := h
    exact ⟨cs, hx, VRels.leaves h1 h2 h3 hr⟩
  | .err _, _, h => by simpa only [VRel] using h
  | .nilp, _, h => by simpa only [VRel] using h
  | .clo _ l, x, h => by
    simp only [VRel] at h ⊢
    obtain ⟨cs, hx, hr⟩ := h
    exact ⟨cs, hx, VRels.leaves h1 h2 h3 hr⟩
  | .bor _, _, h => by simp only [VRel] at h
  | .vec _ _ _ _, _, h => by simp only [VRel] at h
  | .bld _, _, h => by simp only [VRel] at h
theorem VRels.leaves {γ γ' : Nat → Value} {o o' : Store} {w : World} {O : Nat → Prop} (h1 : ∀ n lo hi x, VRel γ o w O (.row n lo hi) x → VRel γ' o' w O (.row n lo hi) x) (h2 : ∀ n i c x, VRel γ o w O (.ptr n i c) x → VRel γ' o' w O (.ptr n i c) x)
    (h3 : ∀ n c cap sz len x, VRel γ o w O (.bview n c cap sz len) x → VRel γ' o' w O (.bview n c cap sz len) x) : ∀ {l : List V} {xs : List Value}, VRels γ o w O l xs → VRels γ' o' w O l xs
  | [], [], _ => by simp only [VRels]
  | [], _ :: _, h => by simp only [VRels] at h
  | _ :: _, [], h => by simp only [VRels] at h
  | v :: vs, x :: xs, h => by
    simp only [VRels] at h ⊢
    exact ⟨VRel.leaves h1 h2 h3 h.1, VRels.leaves h1 h2 h3 h.2⟩
end

section
variable {B : BT} {nt : Nat} {w0 : World} {X : Zone} {γ : Nat → Value} {st st' : St} {a : Act} {w : World} {P : Program} {E : Env}

theorem kills_rel : ∀ (hs : List Nat) {st : St} {X : Zone}, Rel B nt w0 X γ st a w →
    Rel B nt w0 ⟨X.own, fun b => X.far b ∨ ∃ m ∈ hs, BlockOf γ st.o m b⟩ γ (st.ups (killsU hs)) a w ∧ (st.ups (killsU hs)).t = st.t ∧ ∀ m, objOf (st.ups (killsU hs)).o m = if m ∈ hs then none else objOf st.o m
  | [], st, X, h => ⟨h.shrink (fun b hb => by simpa using hb), rfl, fun m => by simp [killsU, St.ups]⟩
  | n :: r, st, X, h => by
    obtain ⟨h1, h2, h3⟩ := kills_rel r (h.kill n)
    have hob : ∀ m, objOf (st.up (.kill n)).o m = if n = m then none else objOf st.o m := fun m => by simp only [St.up, objOf_cons]
    refine ⟨?_, h2, fun m => ?_⟩
    · simp only [killsU, St.ups]
      refine h1.shrink (fun b hb => ?_)
      rcases hb with hb | ⟨m, hm, hb⟩
      · exact .inl (.inl hb)
      · by_cases e : n = m
        · subst e
          exact .inl (.inr hb)
        · rcases List.mem_cons.1 hm with h4 | h4
          · exact absurd h4.symm e
          · obtain ⟨ob, p1, p2⟩ := hb
            exact .inr ⟨m, h4, ob, by rw [hob, if_neg e]; exact p1, p2⟩
    · simp only [killsU, St.ups]
      rw [h3, hob]
      by_cases h4 : m ∈ r
      · simp [h4]
      · by_cases h5 : n = m
        · subst h5
          simp
        · have : ¬ m = n := fun e => h5 e.symm
          simp [h4, h5, this]

theorem freeze_box (h : Rel B nt w0 X γ st a w) (ns : List Nat) {n : Nat} {ob : Ob} (ho : objOf st.o n = some ob) (hb : ∀ e ag ks l, ob ≠ .row true e ag ks l) : objOf (st.ups (freezeU st.o ns)).o n = some ob := by
  obtain ⟨_, h2, _⟩ := freeze_rel st.o ns (FrzLe.refl _) h
  rcases h2 n with h3 | ⟨e, ag, ks, l, h3, _⟩
  · rw [h3, ho]
  · rw [ho, Option.some.injEq] at h3
    exact absurd h3 (hb _ _ _ _)

/-- What the one who is called gets of the caller's memory: a builder. -/
theorem Rel.boundB (h : Rel B nt w0 X γ st a w) {n : Nat} {s : ByteArray} (ho : objOf st.o n = some (.bld s)) {w1 : World} {own1 F : Nat → Prop} (hk : Keep own1 w1 w)
    (hF : ∀ b, F b → Owned X γ st.o b ∧ ¬ BlockOf γ st.o n b) (hown : ∀ b, BlockOf γ st.o n b → w1.heap.size ≤ b ∨ own1 b) :
    Rel B.base 0 w1 ⟨own1, F⟩ (fun _ => γ n) ⟨[], entO [.bld s]⟩ act0 w ∧ ∀ b, OwnedP (fun _ => γ n) (entO [.bld s]) b → BlockOf γ st.o n b := by
  have hP : ∀ b, OwnedP (fun _ => γ n) (entO [.bld s]) b → BlockOf γ st.o n b := by
    rintro b ⟨m, ob, hm, hb⟩
    simp only [entO] at hm
    rw [objOf_cons] at hm
    split at hm
    · simp only [Option.some.injEq] at hm
      subst hm
      exact ⟨_, ho, hb⟩
    · simp only [objOf, lkd] at hm; cases hm
  refine ⟨⟨rfl, rfl, fun i => by simp only [St.get, lkd, VRel], fun m ob hm => ?_, fun b hb => ?_, ?_, hk, ?_, ?_, fun p hp => by cases hp⟩, hP⟩
  · simp only [entO] at hm
    rw [objOf_cons] at hm
    split at hm
    · simp only [Option.some.injEq] at hm
      subst hm
      have := h.ob n _ ho
      simpa only [ObRel, BT.base] using this
    · simp only [objOf, lkd] at hm; cases hm
  · obtain ⟨ob, h1, h2⟩ := hP b hb
    exact ⟨(h.lt b ⟨n, ob, h1, h2⟩).1, hown b (hP b hb)⟩
  · intro m1 m2 ob1 ob2 b hne h1 h2 _ _
    simp only [entO] at h1 h2
    rw [objOf_cons] at h1 h2
    split at h1
    · split at h2
      · omega
      · simp only [objOf, lkd] at h2; cases h2
    · simp only [objOf, lkd] at h1; cases h1
  · intro b hb hf
    exact (hF b hf).2 (hP b hb)
  · intro b hb
    rcases (hF b hb).1 with h1 | h1
    · exact (h.lt b h1).1
    · exact h.fl b h1

/-- A call that lends a builder. -/
theorem call_bld (h : Rel B nt w0 X γ st a w) (hg : GX B w0 X) {f : FuncId} {sp : Spec} (hS : Snd P B f sp) {vs : List V} {xs : List Value} (hv : VRels γ st.o w (Owned X γ st.o) vs xs) {n : Nat} (hl : lent vs = [n]) {s s' : ByteArray} (ho : objOf st.o n = some (.bld s))
    {tks : List (List Kd)} {v : V} (hsp : sp (argVs st.o [.bld s] tks vs) = some (v, [[.bld s']])) (hib : isBor (borOf (argVs st.o [.bld s] tks vs)) = true) :
    Does P f xs w fun e w' => ∃ x, e = .returned x ∧ ∃ γ', Rel B nt w0 X γ' (st.ups (freezeU st.o (match hasList v with | true => vsRows vs | false => []) ++ [.set n (.bld s')])) a w' ∧
      VRel γ' (st.ups (freezeU st.o (match hasList v with | true => vsRows vs | false => []) ++ [.set n (.bld s')])).o w' (Owned X γ' (st.ups (freezeU st.o (match hasList v with | true => vsRows vs | false => []) ++ [.set n (.bld s')])).o) v x := by
  have hL : ∀ b, BlockOf γ st.o n b → w.heap.size ≤ b ∨ BlockOf γ st.o n b := fun b hb => .inr hb
  obtain ⟨hR, hP⟩ := h.boundB ho (w1 := w) (own1 := BlockOf γ st.o n) (F := fun b => Owned X γ st.o b ∧ ¬ BlockOf γ st.o n b ∧ ∀ m ∈ vsRows vs, ¬ RowOf γ st.o m b) (Keep.refl _ w) (fun b hb => ⟨hb.1, hb.2.1⟩) hL
  generalize hX' : (⟨BlockOf γ st.o n, fun b => Owned X γ st.o b ∧ ¬ BlockOf γ st.o n b ∧ ∀ m ∈ vsRows vs, ¬ RowOf γ st.o m b⟩ : Zone) = X' at hR
  have hXf : ∀ b, X'.far b ↔ (Owned X γ st.o b ∧ ¬ BlockOf γ st.o n b ∧ ∀ m ∈ vsRows vs, ¬ RowOf γ st.o m b) := fun b => by rw [← hX']
  have hXo : ∀ b, X'.own b ↔ BlockOf γ st.o n b := fun b => by rw [← hX']
  have hnP : ∀ b, BlockOf γ st.o n b → OwnedP γ st.o b := fun b ⟨ob, h1, h2⟩ => ⟨n, ob, h1, h2⟩
  rcases (borOf_argVs (o := st.o) (bs := [.bld s]) (l := vs) (tks := tks)).1 with hb | hb
  · rw [hb] at hib
    cases hib
  · have hm : memIn (argVs st.o [.bld s] tks vs) = entO [.bld s] := by simp only [memIn, hb]
    have hcall := hS w X' (fun _ => γ n) (argVs st.o [.bld s] tks vs) xs v [[.bld s']] hsp (h.glob hg) (fun b hb => h.high hg (hnP b ((hXo b).1 hb))) (by rw [hm]; exact hR) (by
      rw [hm]
      refine argVs_rel h (fun b _ hb => ?_) [.bld s] hv (fun m hm b hr hb => ?_) (fun m hm => ?_)
      · rcases hb with hb | hb
        · exact .inl (hnP b (hP b hb))
        · exact ((hXf b).1 hb).1
      · rcases hb with hb | hb
        · obtain ⟨e, ag, ks, l, h5, h6⟩ := hr
          obtain ⟨ob, h7, h8⟩ := hP b hb
          have hne : n ≠ m := by
            rintro rfl
            rw [ho] at h5
            cases h5
          exact h.dis n m ob _ b hne h7 h5 h8 h6
        · exact ((hXf b).1 hb).2.2 m hm hr
      · rw [hl] at hm
        simp only [List.mem_singleton] at hm
        subst hm
        exact ⟨rfl, .inr ⟨s, s, ho, by simp [entO, objOf_cons]⟩⟩)
    refine hcall.mono ?_
    rintro e w' ⟨x, he, γ', h1, h2, h3⟩
    simp only [backOK, hb] at h3
    obtain ⟨hf, _, had⟩ := h3
    have hmo : memOut v [[.bld s']] = entO [.bld s'] := by cases v <;> rfl
    rw [hmo] at h1 h2
    rw [retV_free hf] at h2
    refine ⟨x, he, ?_⟩
    generalize hF0 : (match hasList v with | true => vsRows vs | false => []) = F0
    have hz := (freeze_rel st.o F0 (FrzLe.refl _) h).1
    have hon := freeze_box h F0 ho (fun _ _ _ _ => by simp)
    have hob0 : objOf (entO [.bld s']) 900000 = some (.bld s') := by simp [entO, objOf_cons]
    have hor := h1.ob _ _ hob0
    have hor0 := h.ob _ _ ho
    simp only [ObRel] at hor hor0
    obtain ⟨b1, v1, p1, hg1, _⟩ := hor
    obtain ⟨b0, v0, p0, hg0, _⟩ := hor0
    have hbb : b1 = b0 := by
      rw [hg1, hg0] at had
      simpa [addrOf] using had
    subst hbb
    have hbl : ∀ b, BlockOf γ (st.ups (freezeU st.o F0)).o n b ↔ BlockOf γ st.o n b := fun b => by simp only [BlockOf, hon, ho]
    have hOP : ∀ b, blocksOf (γ' 900000) (.bld s') b → OwnedP γ' (entO [.bld s']) b := fun b hb => ⟨_, _, hob0, hb⟩
    have hsz := h1.keep.size
    have hlend := hz.lend (n := n) (ob' := .bld s') (g' := γ' 900000) hon had h1.keep (K := X'.own) (fun b _ hb => .inl ((hbl b).2 ((hXo b).1 hb)))
      (fun b hb => by
        obtain ⟨q1, q2⟩ := h1.lt b (hOP b hb)
        exact ⟨q1, q2.elim .inr (fun hb => .inl ((hbl b).2 ((hXo b).1 hb)))⟩)
      (fun O v x hvx => VRel.leaves (fun m lo hi x hx => by
          simp only [VRel] at hx ⊢
          rw [objOf_cons]
          by_cases e : n = m
          · subst e; simp only [if_true]
          · simp only [if_neg e]; exact hx) (fun m i c x hx => by
          simp only [VRel] at hx ⊢
          rw [objOf_cons]
          by_cases e : n = m
          · subst e
            simp only [if_true]
            rw [hon] at hx
            obtain ⟨rfl, b, v', hg, hxx⟩ := hx
            rw [hg0] at hg
            simp only [Value.tuple.injEq, Array.mk.injEq, List.cons.injEq, Value.pointer.injEq, Option.some.injEq, Addr.mk.injEq, and_true] at hg
            refine ⟨rfl, b1, v1, hg1, ?_⟩
            rw [hxx, hg.1]
          · simp only [if_neg e]; exact hx) (fun m c cap sz len x hx => by
          simp only [VRel] at hx ⊢
          rw [objOf_cons]
          by_cases e : n = m
          · subst e; simp only [if_true]
          · simp only [if_neg e]; exact hx) hvx)
      (by
        have hor := h1.ob _ _ hob0
        simpa only [ObRel, BT.base] using hor)
    have hfin := hlend.shrink (F := X.far) (fun b hb => ⟨.inl hb, fun hbb => by
      obtain ⟨q1, q2⟩ := h1.lt b (hOP b hbb)
      have := h.fl b hb
      rcases q2 with q2 | q2
      · omega
      · exact h.nr b (hnP b ((hXo b).1 q2)) hb⟩)
    refine ⟨_, by rw [ups_append]; exact hfin, ?_⟩
    rw [ups_append]
    refine freeV_any hf (fun hhl b hlt hb => ?_) h2
    rw [hhl] at hF0
    simp only at hF0
    rcases hb with ⟨m, ob, hm, hbm⟩ | hb
    · simp only [St.ups, St.up] at hm
      rw [objOf_cons] at hm
      by_cases e : n = m
      · subst e
        simp only [if_true, Option.some.injEq] at hm hbm
        subst hm
        exact .inl (hOP b hbm)
      · simp only [if_neg e] at hm hbm
        obtain ⟨q1, q2⟩ := freeze_owned h F0 (b := b) (.inl ⟨m, ob, hm, hbm⟩)
        refine .inr ((hXf b).2 ⟨q1, fun hbn => ?_, by rw [hF0]; exact q2⟩)
        obtain ⟨ob2, q3, q4⟩ := (hbl b).2 hbn
        exact hz.dis n m ob2 ob b e q3 hm q4 hbm
    · refine .inr ((hXf b).2 ⟨.inr hb, fun hbn => h.nr b (hnP b hbn) hb, fun m _ ⟨e, ag, ks, l, q1, q2⟩ => h.nr b ⟨m, _, q1, q2⟩ hb⟩)

theorem shared_inv {o : Store} {all : List Nat} {n : Nat} : ∀ {cs : List V}, n ∈ shared o all cs → ∃ lo hi own e ag ks l, .row n lo hi ∈ cs ∧ objOf o n = some (.row own e ag ks l) ∧ (own && (Nat.beq lo 0 && Nat.beq (occ n all) 1)) = false
  | [], h => by simp [shared] at h
  | v :: r, h => by
    have up : n ∈ shared o all r → ∃ lo hi own e ag ks l, .row n lo hi ∈ v :: r ∧ objOf o n = some (.row own e ag ks l) ∧ (own && (Nat.beq lo 0 && Nat.beq (occ n all) 1)) = false := fun h' => by
      obtain ⟨lo, hi, own, e, ag, ks, l, h1, h2, h3⟩ := shared_inv h'
      exact ⟨lo, hi, own, e, ag, ks, l, List.mem_cons_of_mem _ h1, h2, h3⟩
    cases v
    case row m lo hi =>
      simp only [shared] at h
      split at h
      · rename_i own e ag ks l hob
        split at h
        · exact up h
        · rename_i hb
          rcases List.mem_cons.1 h with h1 | h1
          · subst h1
            exact ⟨lo, hi, own, e, ag, ks, l, List.mem_cons_self .., hob, hb⟩
          · exact up h1
      · exact up h
    all_goals exact up h

/-- A call that lends a variable. -/
theorem call_box (h : Rel B nt w0 X γ st a w) (hg : GX B w0 X) {f : FuncId} {sp : Spec} (hS : Snd P B f sp) {vs : List V} {xs : List Value} (hv : VRels γ st.o w (Owned X γ st.o) vs xs) {n : Nat} (hl : lent vs = [n]) {cs : List V} (ho : objOf st.o n = some (.box cs)) {all : List Nat} (hall : rowsIn cs ++ vsRows vs = all)
    {tks : List (List Kd)} {v : V} {out : List V} (hsp : sp (argVs st.o (cs.map (cellB st.o all)) tks vs) = some (v, [out])) (hib : isBor (borOf (argVs st.o (cs.map (cellB st.o all)) tks vs)) = true) {nm : Nat} (hlen : out.length = cs.length) (hnm : n < nm ∨ nm + out.length ≤ n) (hn9 : nm + out.length ≤ 900000) :
    Does P f xs w fun e w' => ∃ x, e = .returned x ∧ ∃ γ', Rel B nt w0 X γ' (st.ups (freezeU st.o (shared st.o all cs ++ (match hasList v || anyL out with | true => vsRows vs | false => [])) ++
          (killsU (handed st.o all cs) ++ (.set n (.box (anys cs)) :: (backU nm out ++ [.set n (.box (backV nm out))]))))) a w' ∧
      VRel γ' (st.ups (freezeU st.o (shared st.o all cs ++ (match hasList v || anyL out with | true => vsRows vs | false => [])) ++
          (killsU (handed st.o all cs) ++ (.set n (.box (anys cs)) :: (backU nm out ++ [.set n (.box (backV nm out))]))))).o w' (Owned X γ' (st.ups (freezeU st.o (shared st.o all cs ++ (match hasList v || anyL out with | true => vsRows vs | false => [])) ++
          (killsU (handed st.o all cs) ++ (.set n (.box (anys cs)) :: (backU nm out ++ [.set n (.box (backV nm out))]))))).o) v x := by
  let L : Nat → Prop := fun b => BlockOf γ st.o n b ∨ ∃ m ∈ handed st.o all cs, BlockOf γ st.o m b
  have hLP : ∀ b, L b → OwnedP γ st.o b := by
    rintro b (⟨ob, h1, h2⟩ | ⟨m, _, ob, h1, h2⟩)
    · exact ⟨n, ob, h1, h2⟩
    · exact ⟨m, ob, h1, h2⟩
  have hbound := h.bound ho (vsRows vs) (w1 := w) (own1 := L) (F := fun b => Owned X γ st.o b ∧ ¬ L b ∧ (∀ m ∈ shared st.o all cs, ¬ BlockOf γ st.o m b) ∧ ∀ m ∈ vsRows vs, ¬ RowOf γ st.o m b) (Keep.refl _ w)
    (fun b hb => ⟨hb.1, fun h1 => hb.2.1 (.inl h1), fun m hm h1 => hb.2.1 (.inr ⟨m, by rw [← hall]; exact hm, h1⟩), by rw [hall]; exact hb.2.2.1⟩) (fun b hb => .inr (by rw [hall] at hb; exact hb))
  rw [hall] at hbound
  obtain ⟨γb, hR, hg0, hP⟩ := hbound
  generalize hX' : (⟨L, fun b => Owned X γ st.o b ∧ ¬ L b ∧ (∀ m ∈ shared st.o all cs, ¬ BlockOf γ st.o m b) ∧ ∀ m ∈ vsRows vs, ¬ RowOf γ st.o m b⟩ : Zone) = X' at hR
  have hXf : ∀ b, X'.far b ↔ (Owned X γ st.o b ∧ ¬ L b ∧ (∀ m ∈ shared st.o all cs, ¬ BlockOf γ st.o m b) ∧ ∀ m ∈ vsRows vs, ¬ RowOf γ st.o m b) := fun b => by rw [← hX']
  have hXo : ∀ b, X'.own b ↔ L b := fun b => by rw [← hX']
  have hb : borOf (argVs st.o (cs.map (cellB st.o all)) tks vs) = some (cs.map (cellB st.o all)) := by
    rcases (borOf_argVs (o := st.o) (bs := cs.map (cellB st.o all)) (l := vs) (tks := tks)).1 with hb | hb
    · rw [hb] at hib; cases hib
    · exact hb
  have hm : memIn (argVs st.o (cs.map (cellB st.o all)) tks vs) = entO (cs.map (cellB st.o all)) := by simp only [memIn, hb]
  -- rows of the arguments are not handed over
  have hargs : ∀ m ∈ vsRows vs, ∀ b, RowOf γ st.o m b → ¬ L b := by
    intro m hm b hr hLb
    obtain ⟨e, ag, ks, l, h5, h6⟩ := hr
    rcases hLb with ⟨ob, h7, h8⟩ | ⟨m2, h9, ob, h7, h8⟩
    · have hne : n ≠ m := by
        rintro rfl
        rw [ho] at h5
        cases h5
      exact h.dis n m ob _ b hne h7 h5 h8 h6
    · by_cases hne : m2 = m
      · subst hne
        obtain ⟨hi2, e2, ag2, ks2, l2, k1, k2, k3⟩ := handed_mem.1 h9
        rw [← hall, occ_append] at k3
        have q1 := occ_pos (mem_rowsIn k1)
        have q2 := occ_pos hm
        omega
      · exact h.dis m2 m ob _ b hne h7 h5 h8 h6
  have hok0 : ∀ v, okC (cellB st.o all v) = true := by
    intro v
    rcases cellB_cases st.o all v with ⟨_, _, _, _, _, _, _, _, _, h1⟩ | ⟨h1, _⟩
    · rw [h1]; rfl
    · cases hcc : cellB st.o all v <;> first | rfl | (rw [hcc] at h1; cases h1)
  have hcall := hS w X' γb (argVs st.o (cs.map (cellB st.o all)) tks vs) xs v [out] hsp (h.glob hg) (fun b hb => h.high hg (hLP b ((hXo b).1 hb))) (by rw [hm]; exact hR) (by
    rw [hm]
    refine argVs_rel h (fun b _ hb => ?_) _ hv (fun m hm b hr hb => ?_) (fun m hm => ?_)
    · rcases hb with hb | hb
      · exact .inl (hLP b (hP b hb))
      · exact ((hXf b).1 hb).1
    · rcases hb with hb | hb
      · exact hargs m hm b hr (hP b hb)
      · exact ((hXf b).1 hb).2.2.2 m hm hr
    · rw [hl] at hm
      simp only [List.mem_singleton] at hm
      subst hm
      exact ⟨hg0, .inl ⟨cs, _, ho, by rw [entO_one (List.all_eq_true.2 (fun v hv => by obtain ⟨u, _, rfl⟩ := List.mem_map.1 hv; exact hok0 u)), objOf_cons, if_pos rfl]⟩⟩)
  refine hcall.mono ?_
  rintro e w' ⟨x, he, γ', h1, h2, h3⟩
  simp only [backOK, hb] at h3
  obtain ⟨hf, hsk, had⟩ := h3
  have hok : out.all okC = true := by
    unfold sameKind at hsk
    split at hsk
    · rename_i s s' hcs
      cases cs with
      | nil => simp at hcs
      | cons u r =>
        simp only [List.map_cons, List.cons.injEq] at hcs
        have := hok0 u
        rw [hcs.1] at this
        cases this
    · cases hsk
    · exact hsk
  have hmo : memOut v [out] = entO out := by cases v <;> rfl
  rw [hmo] at h1 h2
  rw [retV_free hf] at h2
  refine ⟨x, he, ?_⟩
  generalize hF0 : shared st.o all cs ++ (match hasList v || anyL out with | true => vsRows vs | false => []) = F0
  have hz := (freeze_rel st.o F0 (FrzLe.refl _) h).1
  have hzf := (freeze_rel st.o F0 (FrzLe.refl _) h).2.1
  have hon := freeze_box h F0 ho (fun _ _ _ _ => by simp)
  obtain ⟨hk, hkt, hko⟩ := kills_rel (handed st.o all cs) hz
  have hnh : n ∉ handed st.o all cs := by
    intro hn
    obtain ⟨_, _, _, _, _, _, q, _⟩ := handed_mem.1 hn
    rw [ho] at q
    cases q
  have hon2 : objOf ((st.ups (freezeU st.o F0)).ups (killsU (handed st.o all cs))).o n = some (.box cs) := by rw [hko, if_neg hnh]; exact hon
  have hor0 := h.ob _ _ ho
  simp only [ObRel] at hor0
  obtain ⟨b0, c0, T0, hgn, hh0, hr0⟩ := hor0
  have hob0 : objOf (entO out) 900000 = some (.box (backV 900001 out)) := by rw [entO_one hok, objOf_cons, if_pos rfl]
  have hor := h1.ob _ _ hob0
  simp only [ObRel] at hor
  obtain ⟨b1, c, T, hg, hh, hr⟩ := hor
  have hbb : b1 = b0 := by
    rw [hg, hg0, hgn] at had
    simpa [addrOf] using had
  subst hbb
  have hg' : γ' 900000 = γ n := by rw [hg, hgn]
  have hsz := h1.keep.size
  have hbn : ∀ b, BlockOf γ st.o n b ↔ b = b1 := by
    intro b
    constructor
    · rintro ⟨ob, h5, h6⟩
      rw [ho] at h5
      cases h5
      obtain ⟨ad, h7, h8⟩ := h6
      rw [hgn] at h7
      cases h7
      exact h8.symm
    · rintro rfl
      exact ⟨_, ho, _, hgn, rfl⟩
  have hbn2 : ∀ b, BlockOf γ ((st.ups (freezeU st.o F0)).ups (killsU (handed st.o all cs))).o n b ↔ b = b1 := by
    intro b
    rw [← hbn b]
    simp only [BlockOf, hon2, ho]
  have hbx : ∀ l b, blocksOf (γ n) (.box l) b ↔ b = b1 := by
    intro l b
    rw [← hbn b]
    simp only [BlockOf, ho, Option.some.injEq, exists_eq_left', blocksOf]
  -- handed rows were not frozen
  have hhb : ∀ m ∈ handed st.o all cs, ∀ b, BlockOf γ st.o m b → BlockOf γ (st.ups (freezeU st.o F0)).o m b := by
    rintro m hm b ⟨ob, h5, h6⟩
    obtain ⟨hi2, e2, ag2, ks2, l2, k1, k2, k3⟩ := handed_mem.1 hm
    refine ⟨ob, ?_, h6⟩
    rw [(freeze_rel st.o F0 (FrzLe.refl _) h).2.2.2.2 m ?_]
    · exact h5
    · intro hmF
      rw [← hF0] at hmF
      rcases List.mem_append.1 hmF with h7 | h7
      · obtain ⟨lo3, hi3, own3, e3, ag3, ks3, l3, q1, q2, q3⟩ := shared_inv h7
        obtain ⟨i1, hi1⟩ := List.mem_iff_getElem?.1 k1
        obtain ⟨i2, hi2⟩ := List.mem_iff_getElem?.1 q1
        rw [← hall, occ_append] at k3
        rcases Nat.lt_trichotomy i1 i2 with hlt | hlt | hlt
        · have := occ_two hlt hi1 hi2
          omega
        · subst hlt
          rw [hi1] at hi2
          simp only [Option.some.injEq, V.row.injEq, true_and] at hi2
          obtain ⟨rfl, rfl⟩ := hi2
          rw [k2] at q2
          simp only [Option.some.injEq, Ob.row.injEq] at q2
          obtain ⟨rfl, _⟩ := q2
          rw [← hall, occ_append, k3] at q3
          simp at q3
        · have := occ_two hlt hi2 hi1
          omega
      · have q1 : m ∈ vsRows vs := by
          split at h7
          · exact h7
          · cases h7
        rw [← hall, occ_append] at k3
        have := occ_pos (mem_rowsIn k1)
        have := occ_pos q1
        omega
  have hlend := hk.lend (n := n) (ob' := .box (anys cs)) (g' := γ n) hon2 rfl h1.keep (K := X'.own)
    (fun b hlt hb => by
      have hLb := (hXo b).1 hb
      rcases hLb with h5 | ⟨m, h6, h7⟩
      · exact .inl ((hbn2 b).2 ((hbn b).1 h5))
      · refine .inr ⟨.inr ⟨m, h6, hhb m h6 b h7⟩, ?_⟩
        exact (h.lt b (hLP b (.inr ⟨m, h6, h7⟩))).2)
    (fun b hb => by
      have := (hbx _ b).1 hb
      subst this
      exact ⟨Nat.lt_of_lt_of_le (h.lt _ ⟨n, _, ho, (hbx _ _).2 rfl⟩).1 hsz, .inl ((hbn2 _).2 rfl)⟩)
    (fun O v x hvx => by
      refine VRel.cmp ?_ hvx
      intro m ob1 hm
      refine ⟨by by_cases e : n = m <;> simp [e], ?_⟩
      rw [objOf_cons] at hm
      by_cases e : n = m
      · subst e
        simp only [if_true, Option.some.injEq] at hm
        subst hm
        exact ⟨_, hon2, by simp [Ob.fits, anys_eq]⟩
      · rw [if_neg e] at hm
        exact ⟨ob1, hm, ob1.fits_refl⟩)
    (by
      simp only [ObRel]
      refine ⟨b1, c, T, hgn, hh, ?_⟩
      have hcl := hr.length
      rw [backV_length, hlen] at hcl
      refine VRels.of_get (by rw [anys_eq, List.length_map, hcl]) (fun j v x hv hx => ?_)
      rw [anys_eq, List.getElem?_map] at hv
      cases hcj : cs[j]? with
      | none => rw [hcj] at hv; cases hv
      | some u =>
        rw [hcj] at hv
        simp only [Option.map_some, Option.some.injEq] at hv
        subst hv
        simp only [VRel])
  obtain ⟨br1, br2, br3⟩ := back_rows hok h1
  have hPf : ∀ b, OwnedP γ' (entO out) b → (w.heap.size ≤ b ∧ b < w'.heap.size) ∨ L b := fun b hb => by
    obtain ⟨q1, q2⟩ := h1.lt b hb
    rcases q2 with q2 | q2
    · exact .inl ⟨q2, q1⟩
    · exact .inr ((hXo b).1 q2)
  have hb1P : OwnedP γ' (entO out) b1 := ⟨900000, _, hob0, ⟨_, hg, rfl⟩⟩
  have hLb1 : L b1 := .inl ((hbn b1).2 rfl)
  have hsh := hlend.shrink (F := fun b => (X.far b ∨ OwnedP γ' (entO out) b) ∧ b ≠ b1) (fun b hb => by
    refine ⟨?_, fun hbb => hb.2 ((hbx _ b).1 hbb)⟩
    rcases hb.1 with h5 | h5
    · exact .inl (.inl h5)
    · rcases hPf b h5 with h6 | h6 | ⟨m, h6, h7⟩
      · exact .inr h6
      · exact absurd ((hbn b).1 h6) hb.2
      · exact .inl (.inr ⟨m, h6, hhb m h6 b h7⟩))
  have hfarX : ∀ b, X.far b → X'.far b := fun b hb => (hXf b).2 ⟨.inr hb, fun hL => h.nr b (hLP b hL) hb, fun m _ ⟨ob, q1, q2⟩ => h.nr b ⟨m, ob, q1, q2⟩ hb, fun m _ ⟨e, ag, ks, l, q1, q2⟩ => h.nr b ⟨m, _, q1, q2⟩ hb⟩
  have hO1 : ∀ b, Owned ⟨X.own, fun b => (X.far b ∨ OwnedP γ' (entO out) b) ∧ b ≠ b1⟩ (fun m => if n = m then γ n else γ m) (((st.ups (freezeU st.o F0)).ups (killsU (handed st.o all cs))).up (.set n (.box (anys cs)))).o b →
      ((hasList v || anyL out) = true → Owned X' γ' (entO out) b) := by
    intro b hb hflag
    rcases hb with ⟨m, ob, hm, hbm⟩ | ⟨hb | hb, _⟩
    · simp only [St.up] at hm
      rw [objOf_cons] at hm
      by_cases e : n = m
      · subst e
        simp only [if_true, Option.some.injEq] at hm hbm
        subst hm
        have := (hbx _ b).1 hbm
        subst this
        exact .inl hb1P
      · simp only [if_neg e] at hm hbm
        rw [hko] at hm
        split at hm
        · cases hm
        rename_i hmh
        obtain ⟨q1, q2⟩ := freeze_owned h F0 (b := b) (.inl ⟨m, ob, hm, hbm⟩)
        refine .inr ((hXf b).2 ⟨q1, fun hL => ?_, fun m' hm' hbl => ?_, fun m' hm' => ?_⟩)
        · rcases hL with h5 | ⟨m2, h5, h6⟩
          · obtain ⟨ob2, q3, q4⟩ : BlockOf γ (st.ups (freezeU st.o F0)).o n b := ⟨_, hon, (hbx _ b).2 ((hbn b).1 h5)⟩
            exact hz.dis n m ob2 ob b e q3 hm q4 hbm
          · obtain ⟨ob2, q3, q4⟩ := hhb m2 h5 b h6
            exact hz.dis m2 m ob2 ob b (fun e => hmh (e ▸ h5)) q3 hm q4 hbm
        · obtain ⟨lo3, hi3, own3, e3, ag3, ks3, l3, p1, p2, p3⟩ := shared_inv hm'
          obtain ⟨ob2, q3, q4⟩ := hbl
          rw [p2, Option.some.injEq] at q3
          subst q3
          cases own3 with
          | false => exact q4.elim
          | true => exact q2 m' (by rw [← hF0]; exact List.mem_append_left _ hm') ⟨e3, ag3, ks3, l3, p2, q4⟩
        · refine q2 m' ?_
          rw [← hF0, hflag]
          exact List.mem_append_right _ hm'
    · exact .inr (hfarX b hb)
    · exact .inl hb
  have hrows := adopt_rows (B' := B.base) (O1 := fun b => anyL out = true → Owned X' γ' (entO out) b) (g := fun j => γ' (900001 + j)) nm out 0 (by omega) hsh (fun b hb hal => hO1 b hb (by simp [hal])) (fun j e ag ks l hj => by
      rw [Nat.zero_add]
      obtain ⟨q1, q2⟩ := br1 (fun m => if n = m then γ n else γ m) j e ag ks l hj
      refine ⟨q1, fun b hb => ⟨⟨.inr (q2 b hb), ?_⟩, ?_⟩⟩
      · rintro rfl
        exact br3 j e ag ks l _ hj hb ⟨_, hob0, _, hg, rfl⟩
      · rcases hPf b (q2 b hb) with h5 | h5
        · exact .inl (Nat.le_trans h.keep.size h5.1)
        · exact (h.lt b (hLP b h5)).2)
    (fun i j e ag ks l e' ag' ks' l' b hij q1 q2 q3 q4 => by
      rw [Nat.zero_add] at q3 q4
      exact br2 i j e ag ks l e' ag' ks' l' b hij q1 q2 q3 q4)
  obtain ⟨γ4, F4, r1, r2, r3, r4, r5, r6⟩ := hrows
  simp only [Nat.add_zero, Nat.zero_add] at r1 r3 r4 r5 r6
  obtain ⟨hγn, hobn, _⟩ := r6 n hnm
  have hon4 := hobn cs (by simp only [St.up, objOf_cons, if_true])
  simp only [if_true] at hγn
  have hset := r1.set (n := n) (ob' := .box (backV nm out)) hon4 (by simp only [Ob.fits, anys_eq, List.length_map, backV_length, hlen]) (Keep.refl _ w') (fun b hb => hb) (fun hown hcmp => by
    simp only [ObRel]
    refine ⟨b1, c, T, by rw [hγn, hgn], hh, cells_back hok h1 hr (fun j e ag ks l hj => ?_) (fun hal b _ hb => hO1 b (r4 b (hown b hb)) (by simp [hal]))⟩
    obtain ⟨q1, q2⟩ := r5 j e ag ks l hj
    refine ⟨q1, ?_⟩
    have hjl : j < out.length := by
      rcases Nat.lt_or_ge j out.length with h' | h'
      · exact h'
      · rw [List.getElem?_eq_none h'] at hj; cases hj
    rw [objOf_cons, if_neg (by omega)]
    exact q2)
  have hfin := hset.shrink (F := X.far) (fun b hb => by
    refine r3 b ⟨.inl hb, fun e => h.nr b (hLP b (e ▸ hLb1)) hb⟩ (fun j e ag ks l hj hbj => ?_)
    rcases hPf b ((br1 γ j e ag ks l hj).2 b hbj) with h5 | h5
    · have := h.fl b hb
      omega
    · exact h.nr b (hLP b h5) hb)
  have hst : (st.ups (freezeU st.o F0 ++ (killsU (handed st.o all cs) ++ (.set n (.box (anys cs)) :: (backU nm out ++ [.set n (.box (backV nm out))]))))) =
      (((((st.ups (freezeU st.o F0)).ups (killsU (handed st.o all cs))).up (.set n (.box (anys cs)))).ups (backU nm out)).up (.set n (.box (backV nm out)))) := by
    rw [ups_append, ups_append]
    simp only [St.ups]
    rw [ups_append]
    rfl
  rw [hst]
  refine ⟨_, hfin, freeV_any hf (fun hhl b _ hb => ?_) h2⟩
  rcases hb with ⟨m, ob, hm, hbm⟩ | hb
  · simp only [St.up] at hm
    rw [objOf_cons] at hm
    refine hO1 b (r4 b (.inl ?_)) (by simp [hhl])
    by_cases e : n = m
    · subst e
      simp only [if_true, Option.some.injEq] at hm
      subst hm
      exact ⟨n, _, hon4, hbm⟩
    · rw [if_neg e] at hm
      exact ⟨m, ob, hm, hbm⟩
  · exact .inr (hfarX b hb)

end
end Go.FM
