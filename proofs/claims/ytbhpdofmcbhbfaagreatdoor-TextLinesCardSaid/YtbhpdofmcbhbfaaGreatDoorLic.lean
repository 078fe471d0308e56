/-
  What the functions of Go's library on the road come to (2): contracts over this program; under each contract's own premises.
-/
import Derived.Test.YtbhpdofmcbhbfaaGreatDoorLib
import Derived.Shelf.Strings.BuilderK
import Derived.Lib.AppendIntMem
import Derived.Shelf.Vars
import Derived.Lib.LaidU8
import Derived.Lib.LaidTab
import Derived.Carry

/-
  THE LIBRARY's strings.Builder AS THE SMALL MACHINE SEES IT: copyCheck, WriteString, WriteByte, String: contracts with the frame that the small machine asks; after the shelf's own proofs.
-/
namespace Go.FM
open Go Go.Proofs Go.RowKit
theorem Keep.freeze {O : Nat → Prop} (w : World) (a : Addr) (n : Nat) (h : O a.block) : Keep O w (w.freeze a n) := by
  unfold World.freeze
  split
  · exact Keep.refl _ _
  · exact ⟨rfl, rfl, rfl, by simp, fun b _ hn => by simp only [Array.getElem?_modify]; rw [if_neg (fun e : a.block = b => hn (e ▸ h))]⟩

theorem Keep.setCell {O : Nat → Prop} (w : World) (a : Addr) (v : Value) (h : O a.block) : Keep O w (w.setCell a v) :=
  ⟨rfl, rfl, rfl, by simp [World.setCell], fun b _ hn => Below.heap_setCell _ _ _ _ (fun e => hn (e ▸ h))⟩

theorem lt_of_heap {w : World} {b : Nat} {o : Obj} (h : w.heap[b]? = some o) : b < w.heap.size := (Array.getElem?_eq_some_iff.1 h).1

theorem bld_lies : liesAt PR PR.depth 68 (2 / PR.cellsOf 68) 0 68 1 = true := by kernel_rfl
theorem bld_size : (PR.info? 68).map (·.size) = some 2 := by kernel_rfl
theorem u8_info : (PR.info? 5).map (fun i => (i.zero, i.size, i.bytes)) = some (some (.int .u8 0), 1, 1) := by kernel_rfl

set_option maxHeartbeats 1000000 in
set_option maxRecDepth 100000 in
theorem bld_copy_used (b : Nat) (w : World) (h0 : w.cell? ⟨b, 0, none⟩ = some (.pointer (some ⟨b, 0, none⟩))) :
    Calls Tryz.prog 77 #[.pointer (some ⟨b, 0, none⟩)] w fun e w' => e = .returned (.tuple #[]) ∧ w' = w := by
  obtain ⟨j, hj, _⟩ := Option.map_eq_some_iff.1 bld_size
  go_enter Tryz.func77, Tryz.ntmps77
  go_wp2
  rw [Lib.run_neq_ptr_same w _ Tryz.underlying66 hj]
  go_wp2
  go_end0
  exact ⟨rfl, rfl⟩

set_option maxHeartbeats 1000000 in
set_option maxRecDepth 100000 in
theorem bld_copy_fresh (b : Nat) (w : World) (h0 : w.cell? ⟨b, 0, none⟩ = some (.pointer none)) (hsh : w.shape? b = some (68, 2)) (hfz : w.frozen? ⟨b, 0, none⟩ = false) :
    Calls Tryz.prog 77 #[.pointer (some ⟨b, 0, none⟩)] w fun e w' => e = .returned (.tuple #[]) ∧ w' = w.setCell ⟨b, 0, none⟩ (.pointer (some ⟨b, 0, none⟩)) := by
  obtain ⟨j, hj, hjs⟩ := Option.map_eq_some_iff.1 bld_size
  go_enter Tryz.func77, Tryz.ntmps77
  go_wp2
  rw [Lib.run_to_unsafe w ⟨b, 0, none⟩ Tryz.underlying66 Tryz.underlying137 hj (by rw [hjs]; decide) hsh (Nat.zero_lt_succ 1)]
  simp only [Result.andThen]
  rw [Oper.upon_value]
  go_wp2
  rw [run_callFunc_extern Tryz.func104 (by kernel_rfl) (by kernel_rfl) (by kernel_rfl) (e := Extern.AbiNoEscape.same) (by kernel_rfl)]
  rw [Lib.run_noEscape]
  simp only [Result.andThen]
  rw [Oper.upon_value]
  go_wp2
  rw [Lib.run_from_unsafe w ⟨b, 0, none⟩ Tryz.underlying137 Tryz.underlying66 hj hsh bld_lies]
  simp only [Result.andThen]
  rw [Oper.upon_value]
  go_wp2
  go_end0
  exact ⟨rfl, rfl⟩

/-- copyCheck: the builder's own address is laid; else nothing turns. -/
theorem bld_copy (b : Nat) (p v : Value) (w : World) (hp : p = .pointer none ∨ p = .pointer (some ⟨b, 0, none⟩)) (hbk : w.heap[b]? = some (.cells #[p, v] 68 (0, 0))) :
    Calls Tryz.prog 77 #[.pointer (some ⟨b, 0, none⟩)] w fun e w' => e = .returned (.tuple #[]) ∧ w'.heap[b]? = some (.cells #[.pointer (some ⟨b, 0, none⟩), v] 68 (0, 0)) ∧ Keep (fun k => k = b) w w' ∧ w'.heap.size = w.heap.size := by
  have hc0 : w.cell? ⟨b, 0, none⟩ = some p := by rw [Lib.cell_of_heap hbk]; rfl
  rcases hp with rfl | rfl
  · refine (bld_copy_fresh b w hc0 (by simp [World.shape?, hbk]) (Lib.frozen_of_heap hbk 0)).mono ?_
    rintro e w' ⟨rfl, rfl⟩
    exact ⟨rfl, by simp [World.setCell, Array.getElem?_modify, hbk], Keep.setCell w ⟨b, 0, none⟩ _ rfl, by simp [World.setCell]⟩
  · refine (bld_copy_used b w hc0).mono ?_
    rintro e w' ⟨rfl, rfl⟩
    exact ⟨rfl, hbk, Keep.refl _ _, rfl⟩

/-- What a writing method leaves. -/
def BldPost (b : Nat) (v : Value) (bs : List Value) (w w' : World) : Prop :=
  ∃ v', w'.heap[b]? = some (.cells #[.pointer (some ⟨b, 0, none⟩), v'] 68 (0, 0)) ∧ w'.ownsRowF 0 5 1 v' bs.length bs ∧ v'.ownBlock ≠ some b ∧
    Keep (fun k => k = b ∨ v.ownBlock = some k) w w' ∧ ∀ k, v'.ownBlock = some k → v.ownBlock = some k ∨ w.heap.size ≤ k

theorem bld_post {b : Nat} {v v' : Value} {bs : List Value} {w w1 w2 : World} (hs1 : w1.heap.size = w.heap.size) (hk1 : Keep (fun k => k = b) w w1)
    (hb2 : w2.heap[b]? = some (.cells #[.pointer (some ⟨b, 0, none⟩), v] 68 (0, 0))) (hown : w2.ownsRowF 0 5 1 v' bs.length bs) (hk2 : Keep (fun k => v.ownBlock = some k) w1 w2) (hv : ∀ k, v'.ownBlock = some k → v.ownBlock = some k ∨ w1.heap.size ≤ k) :
    BldPost b v bs w (w2.setCell ⟨b, 1, none⟩ v') := by
  have hput := Lib.BuilderAtF.put (T := 68) (e := 5) (Nat.zero_le b) hb2 hown (by decide)
  obtain ⟨_, v2, q1, q2, q3⟩ := hput
  have e2 : v2 = v' := by
    have : (w2.setCell ⟨b, 1, none⟩ v').heap[b]? = some (.cells #[.pointer (some ⟨b, 0, none⟩), v'] 68 (0, 0)) := by simp [World.setCell, Array.getElem?_modify, hb2]
    rw [this] at q1
    simp at q1
    exact q1.symm
  subst e2
  refine ⟨v2, q1, q2, q3, ?_, fun k hk => by rw [← hs1]; exact hv k hk⟩
  have h3 : Keep (fun k => k = b) w2 (w2.setCell ⟨b, 1, none⟩ v2) := Keep.setCell w2 ⟨b, 1, none⟩ v2 rfl
  refine (hk1.mono (fun _ _ h => Or.inl h)).trans ((hk2.mono (O' := fun k => k = b ∨ v.ownBlock = some k) (fun _ _ h => Or.inr h)).trans h3 (fun _ _ h => Or.inl h)) (fun _ _ h => h)

theorem grown_own {w w' : World} {v : Value} (hg : w.grownBy w' v.ownBlock) : Keep (fun k => v.ownBlock = some k) w w' :=
  ⟨hg.os, hg.tape, hg.output, hg.size, fun b hb hn => hg.block b hb (fun h => hn h.symm)⟩

theorem own_slice {g n c k : Nat} (h : (Value.slice (some ⟨g, 0, none⟩) n c).ownBlock = some k) : k = g := by
  simp only [Value.ownBlock, Option.some.injEq] at h
  exact h.symm

/-- 'append' of a string behind what a builder holds: in place, or in a new block. -/
theorem append_str {P : Program} (w : World) (t u ty e : TypeId) (i : TypeInfo) (ht : P.underlying t = some (.slice e)) (hu : P.underlying u = some .string) (hi : P.info? e = some i) (hz : i.zero = some (.int .u8 0)) (hsize : i.size = 1) (hby : i.bytes = 1)
    (v : Value) (n : Nat) (xs : List Value) (hown : w.ownsRowF 0 e 1 v n xs) (s : ByteArray) (hbytes : n + s.size ≤ 140737488355328) :
    ∃ v' w', (Builtin.append_ #[t, u] ty #[v, .string s]).run P w = .ok v' w' ∧ w'.ownsRowF 0 e 1 v' (n + s.size) (xs ++ Lib.strCells s) ∧ w.grownBy w' v.ownBlock ∧ ∀ k, v'.ownBlock = some k → v.ownBlock = some k ∨ w.heap.size ≤ k := by
  have h63 : n + s.size ≤ maxLen := by unfold maxLen; omega
  rcases hown.2 with ⟨rfl, rfl⟩ | ⟨g, cap, cur, fz, rfl, hbg, hg, hfz, hnc, hcm, hcs, htake⟩
  · obtain ⟨v', w', h1, h2, h3, _⟩ := Lib.run_append_own_string (P := P) w w.heap.size t u ty e i ht hu hi hz hsize hby (.slice none 0 0) 0 xs ⟨hown.1, .inl ⟨rfl, rfl⟩⟩ s h63 hbytes (Nat.le_refl _)
    refine ⟨v', w', h1, ⟨h2.1, ?_⟩, h3, fun k hk => .inr ?_⟩
    · rcases h2.2 with q | ⟨g, cap, cur, q1, _, q2, q3, q4, q5, q6⟩
      · exact .inl q
      · exact .inr ⟨g, cap, cur, (0, 0), q1, Nat.zero_le _, q2, Nat.zero_le _, q3, q4, q5, q6⟩
    · rcases h2.2 with ⟨rfl, _⟩ | ⟨g, cap, cur, rfl, q1, _⟩
      · simp [Value.ownBlock] at hk
      · rw [own_slice hk]; exact q1
  · obtain ⟨v', w', h1, h2, h3, _⟩ := Lib.run_append_own_stringF (P := P) w 0 t u ty e i ht hu hi hz hsize hby _ n xs hown s h63 hbytes (Nat.zero_le _)
    refine ⟨v', w', h1, h2, h3, fun k hk => ?_⟩
    have hsmall : n + s.size ≤ 9223372036854775807 := by omega
    by_cases hroom : n + s.size ≤ cap
    · have hr := Lib.run_append_room_stringF (P := P) w t u ty e i ht hu hi hsize g n cap cur fz hg (by simpa using hfz) s hroom (by simp at hcs; omega)
      rw [h1] at hr
      simp only [Result.ok.injEq] at hr
      obtain ⟨rfl, _⟩ := hr
      exact .inl (by rw [own_slice hk]; rfl)
    · have hxl : xs.length = n := by simpa using hown.1
      have hr := Lib.run_append_grow_string (P := P) w t u ty e i (.int .u8 0) ht hu hi hz ⟨g, 0, none⟩ n cap xs (by rw [hsize]; simpa using hxl) (hown.cells (g := g) rfl) s (by omega) (by omega) (by rw [hby]; exact growslice_fits (by omega) (by omega))
      rw [h1] at hr
      simp only [Result.ok.injEq] at hr
      obtain ⟨rfl, _⟩ := hr
      exact .inr (by rw [own_slice hk]; exact Nat.le_refl _)

theorem wpList_append_str {P : Program} {w : World} {ops : Array Oper} {rest : List Oper} {o : Oper} {a : Act} {Q : Exit → Act → World → Prop} (hgd : o.guard = none) (sl x : Operand) (t u : TypeId)
    (ho : o.op = .call { callee := .builtin .append, args := #[sl, x], argTypes := #[t, u] })
    (e : TypeId) (i : TypeInfo) (ht : P.underlying t = some (.slice e)) (hu : P.underlying u = some .string) (hi : P.info? e = some i) (hz : i.zero = some (.int .u8 0)) (hsize : i.size = 1) (hby : i.bytes = 1)
    (v : Value) (n : Nat) (xs : List Value) (hs : a.eval sl = v) (hown : w.ownsRowF 0 e 1 v n xs) (s : ByteArray) (hx : a.eval x = .string s) (hbytes : n + s.size ≤ 140737488355328)
    (h : ∀ v' w', w'.ownsRowF 0 e 1 v' (n + s.size) (xs ++ Lib.strCells s) → w.grownBy w' v.ownBlock → (∀ k, v'.ownBlock = some k → v.ownBlock = some k ∨ w.heap.size ≤ k) → wpList P ops Q rest (a.put o.dst v') w') : wpList P ops Q (o :: rest) a w := by
  refine wpList_plain hgd fun K hK => ?_
  obtain ⟨v', w', hr, h2, h3, h4⟩ := append_str (P := P) w t u o.type e i ht hu hi hz hsize hby v n xs hown s hbytes
  unfold Oper.wp execOp
  simp only [ho, resolve, invoke, builtin, Sem.run_bind, Sem.run_pure, Result.andThen_ok, List.map_toArray, List.map_cons, List.map_nil, hs, hx, hr]
  exact hK _ _ (h v' w' h2 h3 h4)

/-- 'append' of one byte. -/
theorem append_byte {P : Program} (w : World) (t ty e : TypeId) (i : TypeInfo) (ht : P.underlying t = some (.slice e)) (hi : P.info? e = some i) (hz : i.zero = some (.int .u8 0)) (hsize : i.size = 1) (hby : i.bytes = 1)
    (v : Value) (n : Nat) (xs : List Value) (hown : w.ownsRowF 0 e 1 v n xs) (ad : Addr) (c : Nat) (x : Int) (hx : w.cell? ad = some (.int .u8 x)) (hbytes : n + 1 ≤ 140737488355328) :
    ∃ v' w', (Builtin.append_ #[t, t] ty #[v, .slice (some ad) 1 c]).run P w = .ok v' w' ∧ w'.ownsRowF 0 e 1 v' (n + 1) (xs ++ [.int .u8 x]) ∧ w.grownBy w' v.ownBlock ∧ ∀ k, v'.ownBlock = some k → v.ownBlock = some k ∨ w.heap.size ≤ k := by
  have h63 : n + 1 ≤ maxLen := by unfold maxLen; omega
  have hnews : ∀ j u, [Value.int .u8 x][j]? = some u → w.cell? (ad.add j) = some u := by
    intro j u hj
    match j, hj with
    | 0, hj => simp at hj; subst hj; obtain ⟨b, o, p⟩ := ad; cases p <;> simpa [Addr.add] using hx
  have h1c : ∀ u ∈ [Value.int .u8 x], u.oneCell' = true := fun u hu => by simp at hu; subst hu; rfl
  rcases hown.2 with ⟨rfl, rfl⟩ | ⟨g, cap, cur, fz, rfl, hbg, hg, hfz, hnc, hcm, hcs, htake⟩
  · obtain ⟨v', w', h1, h2, h3, _⟩ := run_append_own (P := P) w w.heap.size t ty e i (.int .u8 0) 1 1 ht hi hz hsize hby rfl (by decide) (.slice none 0 0) 0 xs ⟨hown.1, .inl ⟨rfl, rfl⟩⟩ ad 1 c [.int .u8 x] rfl hnews h1c h63 (by omega) (Nat.le_refl _)
    refine ⟨v', w', h1, ⟨h2.1, ?_⟩, h3, fun k hk => .inr ?_⟩
    · rcases h2.2 with q | ⟨g, cap, cur, q1, _, q2, q3, q4, q5, q6⟩
      · exact .inl q
      · exact .inr ⟨g, cap, cur, (0, 0), q1, Nat.zero_le _, q2, Nat.zero_le _, q3, q4, q5, q6⟩
    · rcases h2.2 with ⟨rfl, _⟩ | ⟨g, cap, cur, rfl, q1, _⟩
      · simp [Value.ownBlock] at hk
      · rw [own_slice hk]; exact q1
  · obtain ⟨v', w', h1, h2, h3, _⟩ := run_append_ownF (P := P) w 0 t ty e i (.int .u8 0) 1 1 ht hi hz hsize hby rfl (by decide) _ n xs hown ad 1 c [.int .u8 x] rfl hnews h1c h63 (by omega) (Nat.zero_le _)
    refine ⟨v', w', h1, h2, h3, fun k hk => ?_⟩
    by_cases hroom : n + 1 ≤ cap
    · have hr := run_append_roomF (P := P) w t ty e i ht hi g n cap cur fz hg (by rw [hsize]; simpa using hfz) ad 1 c [.int .u8 x] (by rw [hsize]; rfl) hnews h1c hroom (by rw [hsize]; simp at hcs ⊢; omega)
      rw [h1] at hr
      simp only [Result.ok.injEq] at hr
      obtain ⟨rfl, _⟩ := hr
      exact .inl (by rw [own_slice hk]; rfl)
    · have hxl : xs.length = n := by simpa using hown.1
      have hr := run_append_grow (P := P) w t ty e i (.int .u8 0) ht hi hz ⟨g, 0, none⟩ n cap xs (by rw [hsize]; simpa using hxl) (hown.cells (g := g) rfl) ad 1 c [.int .u8 x] (by rw [hsize]; rfl) hnews (by omega) (by omega) (by rw [hby]; exact growslice_fits (by omega) (by omega))
      rw [h1] at hr
      simp only [Result.ok.injEq] at hr
      obtain ⟨rfl, _⟩ := hr
      exact .inr (by rw [own_slice hk]; exact Nat.le_refl _)

theorem wpList_append_byte {P : Program} {w : World} {ops : Array Oper} {rest : List Oper} {o : Oper} {a : Act} {Q : Exit → Act → World → Prop} (hgd : o.guard = none) (sl x : Operand) (t : TypeId)
    (ho : o.op = .call { callee := .builtin .append, args := #[sl, x], argTypes := #[t, t] })
    (e : TypeId) (i : TypeInfo) (ht : P.underlying t = some (.slice e)) (hi : P.info? e = some i) (hz : i.zero = some (.int .u8 0)) (hsize : i.size = 1) (hby : i.bytes = 1)
    (v : Value) (n : Nat) (xs : List Value) (hs : a.eval sl = v) (hown : w.ownsRowF 0 e 1 v n xs) (ad : Addr) (c : Nat) (y : Int) (hx : a.eval x = .slice (some ad) 1 c) (hc : w.cell? ad = some (.int .u8 y)) (hbytes : n + 1 ≤ 140737488355328)
    (h : ∀ v' w', w'.ownsRowF 0 e 1 v' (n + 1) (xs ++ [.int .u8 y]) → w.grownBy w' v.ownBlock → (∀ k, v'.ownBlock = some k → v.ownBlock = some k ∨ w.heap.size ≤ k) → wpList P ops Q rest (a.put o.dst v') w') : wpList P ops Q (o :: rest) a w := by
  refine wpList_plain hgd fun K hK => ?_
  obtain ⟨v', w', hr, h2, h3, h4⟩ := append_byte (P := P) w t o.type e i ht hi hz hsize hby v n xs hown ad c y hc hbytes
  unfold Oper.wp execOp
  simp only [ho, resolve, invoke, builtin, Sem.run_bind, Sem.run_pure, Result.andThen_ok, List.map_toArray, List.map_cons, List.map_nil, hs, hx, hr]
  exact hK _ _ (h v' w' h2 h3 h4)

theorem own_lt {w : World} {e : Nat} {v : Value} {bs : List Value} {n k : Nat} (hown : w.ownsRowF 0 e 1 v n bs) (hk : v.ownBlock = some k) : k < w.heap.size := by
  rcases hown.2 with ⟨rfl, _⟩ | ⟨g, cap, cur, fz, rfl, _, hg, _⟩
  · simp [Value.ownBlock] at hk
  · rw [own_slice hk]
    exact lt_of_heap hg

set_option maxHeartbeats 2000000 in
set_option maxRecDepth 100000 in
theorem bld_writeString (b : Nat) (p v : Value) (bs : List Value) (s : ByteArray) (w : World) (hp : p = .pointer none ∨ p = .pointer (some ⟨b, 0, none⟩)) (hbk : w.heap[b]? = some (.cells #[p, v] 68 (0, 0)))
    (hown : w.ownsRowF 0 5 1 v bs.length bs) (hne : v.ownBlock ≠ some b) (hlen : bs.length + s.size ≤ 140737488355328) :
    Calls Tryz.prog 50 #[.pointer (some ⟨b, 0, none⟩), .string s] w fun e w' => e = .returned (.tuple #[.int .i64 s.size, .nilIface]) ∧ BldPost b v (bs ++ Lib.strCells s) w w' := by
  obtain ⟨i0, hi, hz0, hz1, hz2⟩ := info_parts u8_info
  go_enter Tryz.func50, Tryz.ntmps50
  go_wp2_with (go_at_call 77; refine (bld_copy b p v _ hp hbk).mono ?_)
  rintro e w1 ⟨rfl, hb1, hk1, hs1⟩
  have HS : Hid (w1.heap.size = w.heap.size) := hs1
  clear hs1
  have hown1 : w1.ownsRowF 0 5 1 v bs.length bs := ownsRowF_of_block hown (fun k hk => hk1.block k (own_lt hown hk) (fun e => hne (e ▸ hk)))
  have c0 : w1.cell? ⟨b, 0, none⟩ = some (.pointer (some ⟨b, 0, none⟩)) := by rw [Lib.cell_of_heap hb1]; rfl
  have c1 : w1.cell? ⟨b, 1, none⟩ = some v := by rw [Lib.cell_of_heap hb1]; rfl
  go_wp2_with (at_builtin; refine wpList_append_str rfl _ _ 46 9 rfl 5 i0 Tryz.underlying46 Tryz.underlying9 hi hz0 hz1 hz2 _ _ _ rfl hown1 s rfl hlen ?_)
  intro v' w2 hown' hgrow hblk
  have hlt : b < w1.heap.size := lt_of_heap hb1
  have hb2 : w2.heap[b]? = some (.cells #[.pointer (some ⟨b, 0, none⟩), v] 68 (0, 0)) := by
    rw [hgrow.block b hlt (fun e => hne e.symm)]
    exact hb1
  have d0 : w2.cell? ⟨b, 0, none⟩ = some (.pointer (some ⟨b, 0, none⟩)) := by rw [Lib.cell_of_heap hb2]; rfl
  have d1 : w2.cell? ⟨b, 1, none⟩ = some v := by rw [Lib.cell_of_heap hb2]; rfl
  have f1 : w2.frozen? ⟨b, 1, none⟩ = false := Lib.frozen_of_heap hb2 1
  have hX : Hid (BldPost b v (bs ++ Lib.strCells s) w (w2.setCell ⟨b, 1, none⟩ v')) := bld_post HS hk1 hb2 (by simpa [Lib.strCells_length] using hown') (grown_own hgrow) hblk
  clear hblk HS
  obtain ⟨ao, n', cap, rfl⟩ : ∃ ao n' cap, v' = .slice ao n' cap := by
    rcases hown'.2 with ⟨hv, _⟩ | ⟨g, cap, cur, fz, hv, _⟩
    · exact ⟨_, _, _, hv⟩
    · exact ⟨_, _, _, hv⟩
  go_wp2
  go_ret2
  exact ⟨rfl, hX⟩

set_option maxHeartbeats 2000000 in
set_option maxRecDepth 100000 in
theorem bld_writeByte (b : Nat) (p v : Value) (bs : List Value) (c : Int) (w : World) (hp : p = .pointer none ∨ p = .pointer (some ⟨b, 0, none⟩)) (hbk : w.heap[b]? = some (.cells #[p, v] 68 (0, 0)))
    (hown : w.ownsRowF 0 5 1 v bs.length bs) (hne : v.ownBlock ≠ some b) (hlen : bs.length + 1 ≤ 140737488355328) :
    Calls Tryz.prog 52 #[.pointer (some ⟨b, 0, none⟩), .int .u8 c] w fun e w' => e = .returned .nilIface ∧ BldPost b v (bs ++ [.int .u8 c]) w w' := by
  obtain ⟨i0, hi, hz0, hz1, hz2⟩ := info_parts u8_info
  go_enter Tryz.func52, Tryz.ntmps52
  go_wp2_with (go_at_call 77; refine (bld_copy b p v _ hp hbk).mono ?_)
  rintro e w1 ⟨rfl, hb1, hk1, hs1⟩
  have HS : Hid (w1.heap.size = w.heap.size) := hs1
  clear hs1
  have hown1 : w1.ownsRowF 0 5 1 v bs.length bs := ownsRowF_of_block hown (fun k hk => hk1.block k (own_lt hown hk) (fun e => hne (e ▸ hk)))
  have c0 : w1.cell? ⟨b, 0, none⟩ = some (.pointer (some ⟨b, 0, none⟩)) := by rw [Lib.cell_of_heap hb1]; rfl
  have c1 : w1.cell? ⟨b, 1, none⟩ = some v := by rw [Lib.cell_of_heap hb1]; rfl
  have hlt : b < w1.heap.size := lt_of_heap hb1
  go_wp2_with (at_builtin; refine wpList_append_byte rfl _ _ 46 rfl 5 i0 Tryz.underlying46 hi hz0 hz1 hz2 _ _ _ rfl (hown1.alloc _) ⟨w1.heap.size, 0, none⟩ 1 c rfl (by rw [Lib.cell_of_heap (heap_alloc_new w1 _)]; rfl) hlen ?_)
  intro v' w2 hown' hgrow hblk
  have hb2 : w2.heap[b]? = some (.cells #[.pointer (some ⟨b, 0, none⟩), v] 68 (0, 0)) := by
    rw [hgrow.block b (by simp; omega) (fun e => hne e.symm), Lib.alloc_old w1 _ b hlt]
    exact hb1
  have d0 : w2.cell? ⟨b, 0, none⟩ = some (.pointer (some ⟨b, 0, none⟩)) := by rw [Lib.cell_of_heap hb2]; rfl
  have d1 : w2.cell? ⟨b, 1, none⟩ = some v := by rw [Lib.cell_of_heap hb2]; rfl
  have f1 : w2.frozen? ⟨b, 1, none⟩ = false := Lib.frozen_of_heap hb2 1
  have hX : Hid (BldPost b v (bs ++ [.int .u8 c]) w (w2.setCell ⟨b, 1, none⟩ v')) := bld_post HS hk1 hb2 (by simpa using hown') (((Keep.alloc (fun k => v.ownBlock = some k) w1 _)).trans (grown_own hgrow) (fun _ _ h => h)) (fun k hk => (hblk k hk).imp_right (fun h => by first | omega | (simp at h; omega)))
  clear hblk HS
  obtain ⟨ao, n', cap, rfl⟩ : ∃ ao n' cap, v' = .slice ao n' cap := by
    rcases hown'.2 with ⟨hv, _⟩ | ⟨g, cap, cur, fz, hv, _⟩
    · exact ⟨_, _, _, hv⟩
    · exact ⟨_, _, _, hv⟩
  go_wp2
  go_ret
  exact ⟨rfl, hX⟩



/-- What 'String' leaves. -/
def StrPost (b : Nat) (p v : Value) (n : Nat) (bs : List Value) (w w' : World) : Prop :=
  w'.heap[b]? = some (.cells #[p, v] 68 (0, 0)) ∧ w'.ownsRowF 0 5 1 v n bs ∧ Keep (fun k => k = b ∨ v.ownBlock = some k) w w'

theorem strPost_froze {b g cap : Nat} {p : Value} {bs : List Value} {w : World} (hbk : w.heap[b]? = some (.cells #[p, .slice (some ⟨g, 0, none⟩) bs.length cap] 68 (0, 0))) (hown : w.ownsRowF 0 5 1 (.slice (some ⟨g, 0, none⟩) bs.length cap) bs.length bs) (hne : (Value.slice (some ⟨g, 0, none⟩) bs.length cap).ownBlock ≠ some b) :
    StrPost b p (.slice (some ⟨g, 0, none⟩) bs.length cap) bs.length bs w (w.drew.freeze ⟨g, 0, none⟩ bs.length) := by
  have hA : Lib.BuilderAtF 68 5 0 b p bs w.drew := ⟨Nat.zero_le _, _, hbk, hown, hne⟩
  have c1 : w.drew.cell? ⟨b, 1, none⟩ = some (.slice (some ⟨g, 0, none⟩) bs.length cap) := by
    have : w.drew.heap[b]? = some (.cells #[p, .slice (some ⟨g, 0, none⟩) bs.length cap] 68 (0, 0)) := hbk
    rw [Lib.cell_of_heap this]; rfl
  obtain ⟨_, v', q1, q2, q3⟩ := hA.froze c1
  have hk : Keep (fun k => k = g) w (w.drew.freeze ⟨g, 0, none⟩ bs.length) := (Keep.drew _ w).trans (Keep.freeze (O := fun k => k = g) w.drew ⟨g, 0, none⟩ _ rfl) (fun _ _ h => h)
  have hgb : b ≠ g := fun e => hne (by simp [Value.ownBlock, e])
  have hb2 : (w.drew.freeze ⟨g, 0, none⟩ bs.length).heap[b]? = some (.cells #[p, .slice (some ⟨g, 0, none⟩) bs.length cap] 68 (0, 0)) := (hk.block b (lt_of_heap hbk) hgb).trans hbk
  have e : v' = .slice (some ⟨g, 0, none⟩) bs.length cap := by
    rw [hb2] at q1
    simp at q1
    exact q1.symm
  subst e
  exact ⟨hb2, q2, hk.mono (fun k _ h => .inr (by rw [h]; rfl))⟩

set_option maxHeartbeats 1000000 in
set_option maxRecDepth 100000 in
theorem bld_string_some (b g cap : Nat) (p : Value) (l : List UInt8) (w : World) (h0 : l ≠ []) (hbk : w.heap[b]? = some (.cells #[p, .slice (some ⟨g, 0, none⟩) l.length cap] 68 (0, 0)))
    (hown : w.ownsRowF 0 5 1 (.slice (some ⟨g, 0, none⟩) l.length cap) l.length (Lib.byteCells l)) (hne : (Value.slice (some ⟨g, 0, none⟩) l.length cap).ownBlock ≠ some b) :
    Calls Tryz.prog 30 #[.pointer (some ⟨b, 0, none⟩)] w fun e w' => e = .returned (.string ⟨l.toArray⟩) ∧ StrPost b p (.slice (some ⟨g, 0, none⟩) l.length cap) l.length (Lib.byteCells l) w w' := by
  have hl0 : l.length ≠ 0 := by simpa using h0
  obtain ⟨cur, fz, hg, hnc, hcm, hcs⟩ : ∃ cur fz, w.heap[g]? = some (.cells cur 5 fz) ∧ l.length ≤ cap ∧ cap ≤ maxLen ∧ cur.size = cap * 1 := by
    rcases hown.2 with ⟨hv, _⟩ | ⟨g', cap', cur, fz, hv, _, q1, _, q2, q3, q4, _⟩
    · cases hv
    · injection hv with ha _ hc
      injection ha with ha
      injection ha with hgg
      subst hgg; subst hc
      exact ⟨cur, fz, q1, q2, q3, q4⟩
  have c1 : w.drew.cell? ⟨b, 1, none⟩ = some (.slice (some ⟨g, 0, none⟩) l.length cap) := by
    have : w.drew.heap[b]? = some (.cells #[p, .slice (some ⟨g, 0, none⟩) l.length cap] 68 (0, 0)) := hbk
    rw [Lib.cell_of_heap this]; rfl
  have hSD : (Builtin.unsafeSliceData_ #[46] 97 #[.slice (some ⟨g, 0, none⟩) l.length cap]).run Tryz.prog w.drew = .ok (.pointer (some ⟨g, 0, none⟩)) w.drew :=
    Lib.run_unsafeSliceData_row _ _ _ _ _ _ (by omega)
  have hcells : PR.cellsOf 5 = 1 := by kernel_rfl
  have hUS : (Builtin.unsafeString_ #[97, 3] 9 #[.pointer (some ⟨g, 0, none⟩), .int .i64 l.length]).run Tryz.prog w.drew = .ok (.string ⟨l.toArray⟩) (w.drew.freeze ⟨g, 0, none⟩ l.length) := by
    refine Lib.run_unsafeString_row w.drew 97 3 9 5 Tryz.underlying97 hcells g cur.size (by have hg' : w.drew.heap[g]? = some (.cells cur 5 fz) := hg; simp [World.shape?, hg']) l h0 (by omega) (by unfold maxLen at hcm; omega) ?_
    intro j x hx
    have := hown.cells (g := g) rfl j (.int .u8 x.toNat) (by simp [Lib.byteCells, hx])
    exact this
  have hP : Hid (StrPost b p (.slice (some ⟨g, 0, none⟩) l.length cap) l.length (Lib.byteCells l) w (w.drew.freeze ⟨g, 0, none⟩ l.length)) := by
    have := strPost_froze (bs := Lib.byteCells l) (by rw [Lib.byteCells_length]; exact hbk) (by rw [Lib.byteCells_length]; exact hown) (by rw [Lib.byteCells_length]; exact hne)
    rw [Lib.byteCells_length] at this
    exact this
  clear hcells hcs hg hnc hcm hl0
  go_enter Tryz.func30, Tryz.ntmps30
  go_wp2
  go_region
  all_goals (go_wp2; go_ret; exact ⟨rfl, hP⟩)

set_option maxHeartbeats 2000000 in
set_option maxRecDepth 100000 in
theorem bld_string_nil (b : Nat) (p : Value) (w : World) (hbk : w.heap[b]? = some (.cells #[p, .slice none 0 0] 68 (0, 0))) :
    Calls Tryz.prog 30 #[.pointer (some ⟨b, 0, none⟩)] w fun e w' => e = .returned (.string ⟨#[]⟩) ∧ StrPost b p (.slice none 0 0) 0 [] w w' := by
  have hUS : ∀ (W : World) (q : Option Addr), (Builtin.unsafeString_ #[97, 3] 9 #[.pointer q, .int .i64 0]).run Tryz.prog W = .ok (.string .empty) W := fun W q => Lib.run_unsafeString_none W _ _ _ q
  have c1 : w.drew.cell? ⟨b, 1, none⟩ = some (.slice none 0 0) := by
    have : w.drew.heap[b]? = some (.cells #[p, .slice none 0 0] 68 (0, 0)) := hbk
    rw [Lib.cell_of_heap this]; rfl
  have hSD : (Builtin.unsafeSliceData_ #[46] 97 #[.slice none 0 0]).run Tryz.prog w.drew = .ok (.pointer none) w.drew := rfl
  have hP : Hid (StrPost b p (.slice none 0 0) 0 [] w w.drew) := ⟨hbk, ⟨rfl, .inl ⟨rfl, rfl⟩⟩, Keep.drew _ w⟩
  go_enter Tryz.func30, Tryz.ntmps30
  go_wp2
  go_region
  all_goals (go_wp2; go_ret; exact ⟨rfl, hP⟩)

set_option maxHeartbeats 2000000 in
set_option maxRecDepth 100000 in
theorem bld_string_noroom (b g : Nat) (p : Value) (cur : Array Value) (fz : Nat × Nat) (w : World) (hbk : w.heap[b]? = some (.cells #[p, .slice (some ⟨g, 0, none⟩) 0 0] 68 (0, 0))) (hg : w.heap[g]? = some (.cells cur 5 fz)) (hown : w.ownsRowF 0 5 1 (.slice (some ⟨g, 0, none⟩) 0 0) 0 []) :
    Calls Tryz.prog 30 #[.pointer (some ⟨b, 0, none⟩)] w fun e w' => e = .returned (.string ⟨#[]⟩) ∧ StrPost b p (.slice (some ⟨g, 0, none⟩) 0 0) 0 [] w w' := by
  have hUS : ∀ (W : World) (q : Option Addr), (Builtin.unsafeString_ #[97, 3] 9 #[.pointer q, .int .i64 0]).run Tryz.prog W = .ok (.string .empty) W := fun W q => Lib.run_unsafeString_none W _ _ _ q
  have hlt : b < w.heap.size := lt_of_heap hbk
  have c1 : w.drew.cell? ⟨b, 1, none⟩ = some (.slice (some ⟨g, 0, none⟩) 0 0) := by
    have : w.drew.heap[b]? = some (.cells #[p, .slice (some ⟨g, 0, none⟩) 0 0] 68 (0, 0)) := hbk
    rw [Lib.cell_of_heap this]; rfl
  have hSD : (Builtin.unsafeSliceData_ #[46] 97 #[.slice (some ⟨g, 0, none⟩) 0 0]).run Tryz.prog w.drew = .ok (.pointer (some ⟨w.drew.heap.size, 0, none⟩)) (w.drew.alloc (.view ⟨g, 0, none⟩ 5)) :=
    Lib.run_unsafeSliceData_zero w.drew _ _ 5 Tryz.underlying97 ⟨g, 0, none⟩ 0 (5, cur.size) (by have hg' : w.drew.heap[g]? = some (.cells cur 5 fz) := hg; simp [World.shape?, hg'])
  have c2 : (w.drew.alloc (.view ⟨g, 0, none⟩ 5)).cell? ⟨b, 1, none⟩ = some (.slice (some ⟨g, 0, none⟩) 0 0) := by
    have : (w.drew.alloc (.view ⟨g, 0, none⟩ 5)).heap[b]? = _ := (Lib.alloc_old w.drew _ b hlt).trans hbk
    rw [Lib.cell_of_heap this]; rfl
  have c3 : (w.alloc (.view ⟨g, 0, none⟩ 5)).drew.cell? ⟨b, 1, none⟩ = some (.slice (some ⟨g, 0, none⟩) 0 0) := c2
  have c0 : w.cell? ⟨b, 1, none⟩ = some (.slice (some ⟨g, 0, none⟩) 0 0) := c1
  have hP : ∀ W : World, W.heap = (w.drew.alloc (.view ⟨g, 0, none⟩ 5)).heap → W.os = w.os → W.tape = w.tape → W.output = w.output → StrPost b p (.slice (some ⟨g, 0, none⟩) 0 0) 0 [] w W := by
    intro W h1 h2 h3 h4
    have hk : Keep (fun k => k = b ∨ (Value.slice (some ⟨g, 0, none⟩) 0 0).ownBlock = some k) w W := by
      have := Keep.alloc (fun _ => False) w.drew (.view ⟨g, 0, none⟩ 5)
      exact ⟨h2, h3, h4, by rw [h1]; exact this.size, fun k hk _ => by rw [h1]; exact this.block k hk (fun h => h)⟩
    have hblk : ∀ k, k < w.heap.size → W.heap[k]? = w.heap[k]? := fun k hk => by
      rw [h1]; exact (Keep.alloc (fun _ => False) w.drew (.view ⟨g, 0, none⟩ 5)).block k hk (fun h => h)
    exact ⟨(hblk b hlt).trans hbk, ownsRowF_of_block hown (fun k hk => hblk k (own_lt hown hk)), hk⟩
  have hP : Hid (∀ W : World, W.heap = (w.drew.alloc (.view ⟨g, 0, none⟩ 5)).heap → W.os = w.os → W.tape = w.tape → W.output = w.output → StrPost b p (.slice (some ⟨g, 0, none⟩) 0 0) 0 [] w W) := hP
  go_enter Tryz.func30, Tryz.ntmps30
  go_wp2
  go_region
  all_goals (go_wp2; go_ret; exact ⟨rfl, hP _ rfl rfl rfl rfl⟩)

set_option maxHeartbeats 2000000 in
set_option maxRecDepth 100000 in
theorem bld_string_room (b g cap : Nat) (p : Value) (w : World) (hc0 : cap ≠ 0) (hbk : w.heap[b]? = some (.cells #[p, .slice (some ⟨g, 0, none⟩) 0 cap] 68 (0, 0))) (hown : w.ownsRowF 0 5 1 (.slice (some ⟨g, 0, none⟩) 0 cap) 0 []) :
    Calls Tryz.prog 30 #[.pointer (some ⟨b, 0, none⟩)] w fun e w' => e = .returned (.string ⟨#[]⟩) ∧ StrPost b p (.slice (some ⟨g, 0, none⟩) 0 cap) 0 [] w w' := by
  have hUS : ∀ (W : World) (q : Option Addr), (Builtin.unsafeString_ #[97, 3] 9 #[.pointer q, .int .i64 0]).run Tryz.prog W = .ok (.string .empty) W := fun W q => Lib.run_unsafeString_none W _ _ _ q
  have c1 : w.drew.cell? ⟨b, 1, none⟩ = some (.slice (some ⟨g, 0, none⟩) 0 cap) := by
    have : w.drew.heap[b]? = some (.cells #[p, .slice (some ⟨g, 0, none⟩) 0 cap] 68 (0, 0)) := hbk
    rw [Lib.cell_of_heap this]; rfl
  have hSD : (Builtin.unsafeSliceData_ #[46] 97 #[.slice (some ⟨g, 0, none⟩) 0 cap]).run Tryz.prog w.drew = .ok (.pointer (some ⟨g, 0, none⟩)) w.drew :=
    Lib.run_unsafeSliceData_row _ _ _ _ _ _ hc0
  clear hc0
  have hP : Hid (StrPost b p (.slice (some ⟨g, 0, none⟩) 0 cap) 0 [] w w.drew) := ⟨hbk, hown, Keep.drew _ w⟩
  go_enter Tryz.func30, Tryz.ntmps30
  go_wp2
  go_region
  all_goals (go_wp2; go_ret; exact ⟨rfl, hP⟩)

theorem strCells_bytes (s : ByteArray) : Lib.strCells s = Lib.byteCells s.data.toList := by
  simp [Lib.strCells, Lib.byteCells]

/-- String: what the builder holds. -/
theorem bld_string (b : Nat) (p v : Value) (s : ByteArray) (w : World) (hbk : w.heap[b]? = some (.cells #[p, v] 68 (0, 0))) (hown : w.ownsRowF 0 5 1 v s.size (Lib.strCells s)) (hne : v.ownBlock ≠ some b) :
    Calls Tryz.prog 30 #[.pointer (some ⟨b, 0, none⟩)] w fun e w' => e = .returned (.string s) ∧ StrPost b p v s.size (Lib.strCells s) w w' := by
  obtain ⟨⟨l⟩⟩ := s
  rw [strCells_bytes] at hown ⊢
  change w.ownsRowF 0 5 1 v l.length (Lib.byteCells l) at hown
  change Calls Tryz.prog 30 #[.pointer (some ⟨b, 0, none⟩)] w fun e w' => e = .returned (.string ⟨l.toArray⟩) ∧ StrPost b p v l.length (Lib.byteCells l) w w'
  by_cases h0 : l = []
  · subst h0
    rcases hown.2 with ⟨rfl, _⟩ | ⟨g, cap, cur, fz, rfl, _, hg, _⟩
    · exact bld_string_nil b p w hbk
    · by_cases hc : cap = 0
      · subst hc
        exact bld_string_noroom b g p cur fz w hbk hg hown
      · exact bld_string_room b g cap p w hc hbk hown
  · rcases hown.2 with ⟨rfl, hz⟩ | ⟨g, cap, cur, fz, rfl, _⟩
    · exact absurd (List.eq_nil_of_length_eq_zero hz) h0
    · exact bld_string_some b g cap p l w h0 hbk hown hne
end Go.FM

/-
  THE LIBRARY's strconv.FormatUint AT BASE 10: the number's decimal numeral: a contract over this program; after the shelf's own proofs of its sisters.
-/
namespace Go.FM
open Go Go.Proofs Go.RowKit Go.Sort Go.Lib

set_option maxHeartbeats 12800000 in
set_option maxRecDepth 100000 in
theorem fmtu_int (u : Nat) (hu64 : u < 18446744073709551616) (w : World) (htab : Lib.TabIs Tryz.prog w "internal/strconv.uint64pow10" .u64 Lib.pow10Tab) :
    Calls Tryz.prog 80 #[.int .u64 u, .int .i64 10] w fun e w' => e = .returned (.string ⟨(Lib.decDigits u).toArray⟩) ∧ ∃ k os, w' = grow (w.drewN k) os := by
  by_cases hs : u < 100
  · have hwr : IntKind.i64.wrap (u : Int) = (u : Int) := by rw [IntKind.wrap_i64]; omega
    have iu : (u : Int) < 100 := by omega
    go_enter Tryz.func80, Tryz.ntmps80
    go_wp2_with (go_at_call 106; refine (Tryz.internal_strconv_small u hs _).mono ?_; rintro e w' ⟨rfl, rfl⟩)
    go_ret
    exact ⟨rfl, 0, #[], by simp [World.drewN_zero]⟩
  · have hu1 : 1 ≤ u := by omega
    have hnd20 : Lib.nDigits u ≤ 20 := by have := Lib.numDigits_eq u hu1 hu64; split at this <;> omega
    have hal : Tryz.prog.arrayLen 139 = 24 := by simp [Program.arrayLen, Tryz.underlying139]
    have hsl : ∀ W, (Instr.sliceAt 139 (.pointer (some ⟨w.heap.size, 0, none⟩)) none (some (.int .i64 (Lib.nDigits u : Int))) none).run Tryz.prog W = .ok (.slice (some ⟨w.heap.size, 0, none⟩) (Lib.nDigits u) 24) W := fun W => by
      rw [run_sliceAt_array_h W 139 ⟨w.heap.size, 0, none⟩ (by simp [Program.arrayLen, Program.elem, Tryz.underlying139]) .i64 (Lib.nDigits u : Int) (by omega) (by rw [hal]; omega)]
      go_simp
    have hH0 := Lib.holds_zero0 w 139 (Lib.nDigits u) (by omega)
    have hfmt := Tryz.internal_strconv_formatBase10 w.heap.size 0 24 u (Array.replicate (Lib.nDigits u) 0) (w.alloc (.cells Lib.zeros24 139)) hH0 (by rw [Array.size_replicate]; exact Lib.lt_pow_nDigits u) hu64 (by rw [Array.size_replicate]; omega)
    rw [Array.size_replicate] at hfmt
    have HH0 := Lib.hid hH0
    have iu : ¬ (u : Int) < 100 := by omega
    clear hH0 hal hs
    go_enter Tryz.func80, Tryz.ntmps80
    go_wp2_with (first
      | (go_at_call 107; refine (Tryz.internal_strconv_numDigits u hu1 hu64 _ (Lib.tabIs_alloc htab _)).mono ?_; rintro e w' ⟨rfl, rfl⟩))
    go_at_call 108
    refine hfmt.mono ?_
    rintro e w' ⟨rfl, k, v', dk, rfl, hF⟩
    have hcv : (convert 46 9 (.slice (some ⟨w.heap.size, 0, none⟩) (Lib.nDigits u) 24)).run Tryz.prog ((putRow (fun (b : UInt8) => Value.int .u8 (b.toNat : Int)) (w.alloc (.cells Lib.zeros24 139)) w.heap.size 0 dk).drewN k) = .ok (.string ⟨(Lib.decDigits u).toArray⟩) ((putRow (fun (b : UInt8) => Value.int .u8 (b.toNat : Int)) (w.alloc (.cells Lib.zeros24 139)) w.heap.size 0 dk).drewN k) := by
      have h := run_convert_bytes_back (P := Tryz.prog) ((putRow (fun (b : UInt8) => Value.int .u8 (b.toNat : Int)) (w.alloc (.cells Lib.zeros24 139)) w.heap.size 0 dk).drewN k) 46 9 5 ⟨w.heap.size, 0, none⟩ 24 (Lib.decDigits u) Tryz.underlying46 Tryz.underlying5 Tryz.underlying9 (fun j hj => by
        rw [Lib.row_is_numeral hF j hj, Lib.add_plain, World.cell?_drewN]
        exact cell?_putRow (fun (b : UInt8) => Value.int .u8 (b.toNat : Int)) _ w.heap.size 0 _ dk HH0.out (by rw [hF.size, Array.size_replicate]) j (by rw [hF.size]; rw [Lib.decDigits_length] at hj; exact hj))
      rw [Lib.decDigits_length] at h
      exact h
    go_wp2
    go_ret
    obtain ⟨os, eo⟩ := Lib.fin_at w (.cells Lib.zeros24 139) dk k 0
    exact ⟨rfl, k, os, eo⟩

set_option maxHeartbeats 1600000 in
set_option maxRecDepth 100000 in
theorem fmtu (u : Nat) (hu64 : u < 18446744073709551616) (w : World) (htab : Lib.TabIs Tryz.prog w "internal/strconv.uint64pow10" .u64 Lib.pow10Tab) :
    Calls Tryz.prog 54 #[.int .u64 u, .int .i64 10] w fun e w' => e = .returned (.string ⟨(Lib.decDigits u).toArray⟩) ∧ ∃ k os, w' = grow (w.drewN k) os := by
  go_enter Tryz.func54, Tryz.ntmps54
  go_wp2_with (go_at_call 80; refine (fmtu_int u hu64 _ htab).mono ?_; rintro e w' ⟨rfl, hw⟩)
  go_ret
  exact ⟨rfl, hw⟩
end Go.FM

/-
  THE LIBRARY's FUNCTIONS AS THE SMALL MACHINE SEES THEM: strings.Builder, strconv.Itoa, strconv.Atoi, strings.Cut, strings.Split: contracts over this program, out of the shelf's.
-/
namespace Go.FM
open Go Go.Proofs Go.RowKit

/-- What the calls ask of the package-level variables. -/
structure GF (h : Nat → Option Obj) : Prop where
  unit : True
  gm : ∃ c T fr m, h 0 = some (.cells c T fr) ∧ c[0]? = some (.int .i64 m)
  gp : ∃ T fr, h 3 = some (.cells (Lib.pow10Tab.map fun z => Value.int .u64 z).toArray T fr)
  gs : ∃ c T fr te pe, h 1 = some (.cells c T fr) ∧ c[0]? = some (.iface te pe)
  gr : ∃ c T fr te pe, h 2 = some (.cells c T fr) ∧ c[0]? = some (.iface te pe)
def B0 : BT := { T := 68, e := 5, ng := 4, F := GF }

theorem glob_cell {w : World} {h : Nat → Option Obj} (hh : h = fun b => if b < B0.ng then w.heap[b]? else none) {g : Nat} (hg : g < 4) {o : Obj} (ho : h g = some o) : w.heap[g]? = some o := by
  rw [hh] at ho
  simp only at ho
  rw [if_pos (show g < B0.ng from hg)] at ho
  exact ho

theorem glob_max {w : World} (h : Glob B0 w) : ∃ m, w.cell? ⟨0, 0, none⟩ = some (.int .i64 m) := by
  obtain ⟨c, T, fr, m, h1, h2⟩ := h.2.gm
  exact ⟨m, by simp only [World.cell?, glob_cell rfl (by decide) h1]; exact h2⟩
theorem glob_pow {w : World} (h : Glob B0 w) : Lib.TabIs Tryz.prog w "internal/strconv.uint64pow10" .u64 Lib.pow10Tab := by
  obtain ⟨T, fr, h1⟩ := h.2.gp
  have hn : Tryz.prog.globalNamed "internal/strconv.uint64pow10" = some 3 := by kernel_rfl
  unfold Lib.TabIs World.var?
  rw [hn]
  simp only [Option.bind_some, glob_cell rfl (by decide) h1]
theorem glob_syn {w : World} (h : Glob B0 w) : ∃ ev, w.cell? ⟨1, 0, none⟩ = some ev ∧ (ev = .nilIface ∨ ∃ te pe, ev = .iface te pe) := by
  obtain ⟨c, T, fr, te, pe, h1, h2⟩ := h.2.gs
  exact ⟨_, by simp only [World.cell?, glob_cell rfl (by decide) h1]; exact h2, .inr ⟨te, pe, rfl⟩⟩
theorem glob_ran {w : World} (h : Glob B0 w) : ∃ ev, w.cell? ⟨2, 0, none⟩ = some ev ∧ (ev = .nilIface ∨ ∃ te pe, ev = .iface te pe) := by
  obtain ⟨c, T, fr, te, pe, h1, h2⟩ := h.2.gr
  exact ⟨_, by simp only [World.cell?, glob_cell rfl (by decide) h1]; exact h2, .inr ⟨te, pe, rfl⟩⟩
theorem Keep.below {w w' : World} (h : Below w.heap.size w w') : Keep (fun _ => False) w w' := ⟨h.os, h.tape, h.output, h.size, fun b hb _ => h.block b hb⟩
theorem Keep.drewN {O : Nat → Prop} (w : World) : ∀ n, Keep O w (w.drewN n) := fun _ => ⟨rfl, rfl, rfl, Nat.le_refl _, fun _ _ _ => rfl⟩
theorem Keep.grow (w : World) (os : Array Obj) : Keep (fun _ => False) w (Go.Sort.grow w os) := ⟨rfl, rfl, rfl, by simp [Go.Sort.grow], fun b hb _ => by simp [Go.Sort.grow, Array.getElem?_append_left hb]⟩

/-! ### strings.Builder -/
set_option maxRecDepth 100000 in
theorem snd_strings_Builder_WriteString : SndR PR B0 50 S_strings_Builder_WriteString := by
  intro w X γ vs xs r out hsp hg hx hR hV
  unfold S_strings_Builder_WriteString at hsp
  simp only at hsp
  split at hsp
  · rename_i s t
    cases hc : decide (s.size + t.size ≤ strMax) with
    | false => rw [hc] at hsp; simp [R.get] at hsp
    | true =>
      rw [hc] at hsp
      simp only [R.get, Option.some.injEq, Prod.mk.injEq] at hsp
      obtain ⟨rfl, rfl⟩ := hsp
      have hle : s.size + t.size ≤ strMax := of_decide_eq_true hc
      refine snd_bld hR rfl rfl (fun γ' o w' O x h => by
        simp only [VRel] at h ⊢
        obtain ⟨cs, rfl, h⟩ := h
        refine ⟨cs, rfl, ?_⟩
        match cs, h with
        | ⟨[a, b]⟩, h => simp only [VRels, VRel] at h ⊢; exact h) (fun b v p hgm hB => ?_)
      obtain ⟨x0, x1, rfl⟩ : ∃ x0 x1, xs = [x0, x1] := by
        have := hV.length
        simp at this
        match xs, this with
        | [a, b], _ => exact ⟨a, b, rfl⟩
      simp only [List.map_cons, List.map_nil, entV, VRels] at hV
      have h0 := bld_ptr hgm hV.1
      have h1 := hV.2.1
      simp only [VRel] at h1
      obtain ⟨rfl, ht⟩ := h1
      subst h0
      refine Does.of_calls Tryz.func50 (by kernel_rfl) (by kernel_rfl) ((bld_writeString b p v (Lib.strCells s) t w hB.self hB.heap (by rw [Lib.strCells_length]; exact hB.own) hB.ne (by rw [Lib.strCells_length]; unfold strMax at hle; omega)).mono ?_)
      rintro e w' ⟨rfl, v', q1, q2, q3, q4, q5⟩
      refine ⟨_, rfl, ⟨_, v', ⟨.inr rfl, q1, ?_, q3, ?_⟩, q4, q5⟩, fun O => ?_⟩
      · have e1 : Lib.strCells (s ++ t) = Lib.strCells s ++ Lib.strCells t := by simp [Lib.strCells]
        have e2 : (s ++ t).size = (Lib.strCells s ++ Lib.strCells t).length := by simp [Lib.strCells_length]
        rw [e1, e2]
        exact q2
      · simp only [ByteArray.size_append]; exact hle
      · simp only [VRel]
        refine ⟨_, rfl, ?_⟩
        simp only [VRels, VRel, ic, and_true]
        refine ⟨trivial, ?_, ?_⟩
        · have : IntKind.i64.min = -9223372036854775808 := rfl
          omega
        · have : IntKind.i64.max = 9223372036854775807 := rfl
          unfold strMax at hle
          omega
  · simp [R.get] at hsp

theorem byteOf_cell {c : Int} (h0 : IntKind.u8.min ≤ c) (h1 : c ≤ IntKind.u8.max) : (Value.int .u8 ((byteOf c).toNat : Int)) = .int .u8 c := by
  have e1 : IntKind.u8.min = 0 := rfl
  have e2 : IntKind.u8.max = 255 := rfl
  have : ((byteOf c).toNat : Int) = c := by
    unfold byteOf
    rw [UInt8.toNat_ofNat_of_lt' (by simp [UInt8.size]; omega)]
    omega
  rw [this]

set_option maxRecDepth 100000 in
theorem snd_strings_Builder_WriteByte : SndR PR B0 52 S_strings_Builder_WriteByte := by
  intro w X γ vs xs r out hsp hg hx hR hV
  unfold S_strings_Builder_WriteByte at hsp
  simp only at hsp
  split at hsp
  · rename_i s c
    cases hc : decide (s.size + 1 ≤ strMax) with
    | false => rw [hc] at hsp; simp [R.get] at hsp
    | true =>
      rw [hc] at hsp
      simp only [R.get, Option.some.injEq, Prod.mk.injEq] at hsp
      obtain ⟨rfl, rfl⟩ := hsp
      have hle : s.size + 1 ≤ strMax := of_decide_eq_true hc
      refine snd_bld hR rfl rfl (fun γ' o w' O x h => by simp only [VRel] at h ⊢; exact h) (fun b v p hgm hB => ?_)
      obtain ⟨x0, x1, rfl⟩ : ∃ x0 x1, xs = [x0, x1] := by
        have := hV.length
        simp at this
        match xs, this with
        | [a, b], _ => exact ⟨a, b, rfl⟩
      simp only [List.map_cons, List.map_nil, entV, VRels] at hV
      have h0 := bld_ptr hgm hV.1
      have h1 := hV.2.1
      simp only [VRel] at h1
      obtain ⟨rfl, hc0, hc1⟩ := h1
      subst h0
      refine Does.of_calls Tryz.func52 (by kernel_rfl) (by kernel_rfl) ((bld_writeByte b p v (Lib.strCells s) c w hB.self hB.heap (by rw [Lib.strCells_length]; exact hB.own) hB.ne (by rw [Lib.strCells_length]; unfold strMax at hle; omega)).mono ?_)
      rintro e w' ⟨rfl, v', q1, q2, q3, q4, q5⟩
      refine ⟨_, rfl, ⟨_, v', ⟨.inr rfl, q1, ?_, q3, ?_⟩, q4, q5⟩, fun O => by simp only [VRel]⟩
      · have e1 : Lib.strCells (s.push (byteOf c)) = Lib.strCells s ++ [.int .u8 c] := by
          rw [← byteOf_cell hc0 hc1]
          simp [Lib.strCells]
        have e2 : (s.push (byteOf c)).size = (Lib.strCells s ++ [Value.int .u8 c]).length := by simp [Lib.strCells_length]
        rw [e1, e2]
        exact q2
      · simp only [ByteArray.size_push]; exact hle
  · simp [R.get] at hsp

set_option maxRecDepth 100000 in
theorem snd_strings_Builder_String : SndR PR B0 30 S_strings_Builder_String := by
  intro w X γ vs xs r out hsp hg hx hR hV
  unfold S_strings_Builder_String at hsp
  simp only at hsp
  split at hsp
  · rename_i s
    simp only [R.get, Option.some.injEq, Prod.mk.injEq] at hsp
    obtain ⟨rfl, rfl⟩ := hsp
    refine snd_bld hR rfl rfl (fun γ' o w' O x h => by simp only [VRel] at h ⊢; exact h) (fun b v p hgm hB => ?_)
    obtain ⟨x0, rfl⟩ : ∃ x0, xs = [x0] := by
      have := hV.length
      simp at this
      match xs, this with
      | [a], _ => exact ⟨a, rfl⟩
    simp only [List.map_cons, List.map_nil, entV, VRels] at hV
    have h0 := bld_ptr hgm hV.1
    subst h0
    refine Does.of_calls Tryz.func30 (by kernel_rfl) (by kernel_rfl) ((bld_string b p v s w hB.heap hB.own hB.ne).mono ?_)
    rintro e w' ⟨rfl, q1, q2, q3⟩
    exact ⟨_, rfl, ⟨p, v, ⟨hB.self, q1, q2, hB.ne, hB.size⟩, q3, fun k hk => .inl hk⟩, fun O => by simp only [VRel]; exact ⟨trivial, hB.size⟩⟩
  · simp [R.get] at hsp

/-! ### strconv -/
set_option maxRecDepth 100000 in
theorem snd_strconv_Itoa : SndR PR B0 27 S_strconv_Itoa := by
  intro w X γ vs xs r out hsp hg hx hR hV
  unfold S_strconv_Itoa at hsp
  simp only at hsp
  split at hsp
  · rename_i n
    simp only [R.get, Option.some.injEq, Prod.mk.injEq] at hsp
    obtain ⟨rfl, rfl⟩ := hsp
    obtain ⟨x0, rfl⟩ : ∃ x0, xs = [x0] := by
      have := hV.length
      simp at this
      match xs, this with
      | [a], _ => exact ⟨a, rfl⟩
    simp only [List.map_cons, List.map_nil, entV, VRels, VRel, and_true] at hV
    obtain ⟨rfl, h0, h1⟩ := hV
    refine snd_plain hR rfl rfl (Does.of_calls Tryz.func27 (by kernel_rfl) (by kernel_rfl) ((Tryz.strconv_Itoa n h0 h1 w (glob_pow hg)).mono ?_))
    rintro e w' ⟨rfl, k, os, rfl⟩
    exact ⟨_, rfl, ((Keep.drewN w k).trans (Keep.grow _ os) (fun _ _ h => h)), fun O _ => by
      simp only [VRel]
      exact ⟨rfl, by have := itoaB_size h0 h1; unfold strMax; omega⟩⟩
  · simp [R.get] at hsp

set_option maxRecDepth 100000 in
theorem snd_strconv_Atoi : SndR PR B0 43 S_strconv_Atoi := by
  intro w X γ vs xs r out hsp hg hx hR hV
  unfold S_strconv_Atoi at hsp
  simp only at hsp
  split at hsp
  · rename_i s
    simp only [R.get, Option.some.injEq, Prod.mk.injEq] at hsp
    obtain ⟨rfl, rfl⟩ := hsp
    obtain ⟨x0, rfl⟩ : ∃ x0, xs = [x0] := by
      have := hV.length
      simp at this
      match xs, this with
      | [a], _ => exact ⟨a, rfl⟩
    simp only [List.map_cons, List.map_nil, entV, VRels, VRel, and_true] at hV
    obtain ⟨rfl, hs⟩ := hV
    unfold strMax at hs
    have hb := atoiV_bound s
    refine snd_plain hR rfl rfl (Does.of_calls Tryz.func43 (by kernel_rfl) (by kernel_rfl) ?_)
    cases ha : Lib.atoiAll s.data.toList
    · rename_i v
      refine (Tryz.strconv_Atoi_ok s (by omega) v ha w).mono ?_
      rintro e w' ⟨rfl, hw⟩
      have e1 : atoiV s = v := by unfold atoiV; rw [ha]
      have e2 : atoiN s = true := by unfold atoiN; rw [ha]
      rw [e1] at hb ⊢
      rw [e2]
      refine ⟨_, rfl, ?_, fun O _ => ?_⟩
      · rcases hw with rfl | ⟨t, rfl⟩
        · exact Keep.refl _ _
        · unfold Lib.bytesWorld
          have h1 := Keep.alloc (fun _ => False) w.drew (.cells (Lib.bytesCells w 5 t) 5)
          refine ((Keep.drew (fun _ => False) w).trans h1 (fun _ _ h => h)).trans (Keep.freeze (O := fun k => k = w.heap.size) _ ⟨w.heap.size, _, none⟩ 1 rfl) (fun b hb h => ?_)
          subst h
          exact absurd hb (Nat.lt_irrefl _)
      · simp only [VRel]
        exact ⟨_, rfl, by simp only [VRels, VRel, and_true, true_and]; exact hb⟩
    · skip
      obtain ⟨ev, h1, h2⟩ := glob_syn hg
      refine (Tryz.strconv_Atoi_syntax s (by omega) ha ev w h1 h2).mono ?_
      rintro e w' ⟨N, rfl, _, _, hw⟩
      have e1 : atoiV s = 0 := by unfold atoiV; rw [ha]
      have e2 : atoiN s = false := by unfold atoiN; rw [ha]
      rw [e1] at hb ⊢
      rw [e2]
      refine ⟨_, rfl, Keep.below hw, fun O _ => ?_⟩
      simp only [VRel]
      exact ⟨_, rfl, by simp only [VRels, VRel, and_true]; exact ⟨⟨trivial, hb⟩, _, _, rfl⟩⟩
    · skip
      obtain ⟨ev, h1, h2⟩ := glob_ran hg
      refine (Tryz.strconv_Atoi_range s (by omega) ha ev w h1 h2).mono ?_
      rintro e w' ⟨N, rfl, _, _, hw⟩
      have e1 : atoiV s = Lib.atoiSat s.data.toList := by unfold atoiV; rw [ha]
      have e2 : atoiN s = false := by unfold atoiN; rw [ha]
      rw [e1] at hb ⊢
      rw [e2]
      refine ⟨_, rfl, Keep.below hw, fun O _ => ?_⟩
      simp only [VRel]
      exact ⟨_, rfl, by simp only [VRels, VRel, and_true]; exact ⟨⟨trivial, hb⟩, _, _, rfl⟩⟩
  · simp [R.get] at hsp

set_option maxRecDepth 100000 in
theorem snd_strconv_FormatUint : SndR PR B0 54 S_strconv_FormatUint := by
  intro w X γ vs xs r out hsp hg hx hR hV
  unfold S_strconv_FormatUint at hsp
  simp only at hsp
  split at hsp
  · rename_i n b
    cases hc : decide (b = 10) with
    | false => rw [hc] at hsp; simp [R.get] at hsp
    | true =>
      rw [hc] at hsp
      have hb := of_decide_eq_true hc
      subst hb
      simp only [R.get, Option.some.injEq, Prod.mk.injEq] at hsp
      obtain ⟨rfl, rfl⟩ := hsp
      obtain ⟨x0, x1, rfl⟩ : ∃ x0 x1, xs = [x0, x1] := by
        have := hV.length
        simp at this
        match xs, this with
        | [a, b], _ => exact ⟨a, b, rfl⟩
      simp only [List.map_cons, List.map_nil, entV, VRels, VRel, and_true] at hV
      obtain ⟨⟨rfl, h0, h1⟩, rfl, _⟩ := hV
      have e0 : IntKind.u64.min = 0 := rfl
      have e1 : IntKind.u64.max = 18446744073709551615 := rfl
      rw [e0] at h0
      rw [e1] at h1
      obtain ⟨u, rfl⟩ : ∃ u : Nat, n = u := ⟨n.toNat, by omega⟩
      refine snd_plain hR rfl rfl (Does.of_calls Tryz.func54 (by kernel_rfl) (by kernel_rfl) ((fmtu u (by omega) w (glob_pow hg)).mono ?_))
      rintro e w' ⟨rfl, k, os, rfl⟩
      refine ⟨_, rfl, ((Keep.drewN w k).trans (Keep.grow _ os) (fun _ _ h => h)), fun O _ => ?_⟩
      simp only [VRel]
      have hz := numB_size h0 h1
      exact ⟨by simp [numB], by unfold strMax; omega⟩
  · simp [R.get] at hsp

set_option maxRecDepth 100000 in
theorem snd_strconv_ParseUint : SndR PR B0 102 S_strconv_ParseUint := by
  intro w X γ vs xs r out hsp hg hx hR hV
  unfold S_strconv_ParseUint at hsp
  simp only at hsp
  split at hsp
  · rename_i s b c
    cases hc : (decide (b = 10) && decide (c = 64)) with
    | false => rw [hc] at hsp; simp [R.get] at hsp
    | true =>
      rw [hc] at hsp
      simp only [Bool.and_eq_true, decide_eq_true_eq] at hc
      obtain ⟨rfl, rfl⟩ := hc
      simp only [R.get, Option.some.injEq, Prod.mk.injEq] at hsp
      obtain ⟨rfl, rfl⟩ := hsp
      obtain ⟨x0, x1, x2, rfl⟩ : ∃ x0 x1 x2, xs = [x0, x1, x2] := by
        have := hV.length
        simp at this
        match xs, this with
        | [a, b, c], _ => exact ⟨a, b, c, rfl⟩
      simp only [List.map_cons, List.map_nil, entV, VRels, VRel, and_true] at hV
      obtain ⟨⟨rfl, hs⟩, ⟨rfl, _⟩, rfl, _⟩ := hV
      unfold strMax at hs
      have hb := puV_bound s
      refine snd_plain hR rfl rfl (Does.of_calls Tryz.func102 (by kernel_rfl) (by kernel_rfl) ?_)
      cases ha : Lib.parseMag s.data.toList
      · rename_i v
        refine (Tryz.strconv_ParseUint_10_at64_ok s (by omega) v (by rw [Lib.parseUintB_64]; exact ha) w).mono ?_
        rintro e w' ⟨rfl, hw⟩
        have e1 : puV s = v := by unfold puV; rw [ha]
        have e2 : puN s = true := by unfold puN; rw [ha]
        rw [e1] at hb ⊢
        rw [e2]
        refine ⟨_, rfl, ?_, fun O _ => ?_⟩
        · rcases hw with rfl | rfl
          · exact Keep.refl _ _
          · unfold Lib.bytesWorld
            have h1 := Keep.alloc (fun _ => False) w.drew (.cells (Lib.bytesCells w 5 s) 5)
            refine ((Keep.drew (fun _ => False) w).trans h1 (fun _ _ h => h)).trans (Keep.freeze (O := fun k => k = w.heap.size) _ ⟨w.heap.size, _, none⟩ 1 rfl) (fun b hb h => ?_)
            subst h
            exact absurd hb (Nat.lt_irrefl _)
        · simp only [VRel]
          exact ⟨_, rfl, by simp only [VRels, VRel, and_true, true_and]; exact hb⟩
      · skip
        obtain ⟨ev, h1, h2⟩ := glob_syn hg
        refine (Tryz.strconv_ParseUint_10_at64_syntax s (by omega) (by rw [Lib.parseUintB_64]; exact ha) ev w h1 h2).mono ?_
        rintro e w' ⟨N, rfl, _, _, hw⟩
        have e1 : puV s = 0 := by unfold puV; rw [ha]
        have e2 : puN s = false := by unfold puN; rw [ha]
        rw [e1] at hb ⊢
        rw [e2]
        refine ⟨_, rfl, Keep.below hw, fun O _ => ?_⟩
        simp only [VRel]
        exact ⟨_, rfl, by simp only [VRels, VRel, and_true]; exact ⟨⟨trivial, hb⟩, _, _, rfl⟩⟩
      · skip
        obtain ⟨ev, h1, h2⟩ := glob_ran hg
        refine (Tryz.strconv_ParseUint_10_at64_range s (by omega) (by rw [Lib.parseUintB_64]; exact ha) ev w h1 h2).mono ?_
        rintro e w' ⟨N, rfl, _, _, hw⟩
        have e1 : puV s = 18446744073709551615 := by unfold puV; rw [ha]
        have e2 : puN s = false := by unfold puN; rw [ha]
        rw [e1] at hb ⊢
        rw [e2]
        refine ⟨_, rfl, Keep.below hw, fun O _ => ?_⟩
        simp only [VRel]
        exact ⟨_, rfl, by simp only [VRels, VRel, and_true]; exact ⟨⟨trivial, hb⟩, _, _, rfl⟩⟩
  · simp [R.get] at hsp

/-! ### strings -/
set_option maxRecDepth 100000 in
theorem snd_strings_TrimRight : SndR PR B0 56 S_strings_TrimRight := by
  intro w X γ vs xs r out hsp hg hx hR hV
  unfold S_strings_TrimRight at hsp
  simp only at hsp
  split at hsp
  · rename_i s cs
    cases hc : (decide (cs.size = 1) && decide ((cs.data.toList.headD 0).toNat < 128)) with
    | false => rw [hc] at hsp; simp [R.get] at hsp
    | true =>
      rw [hc] at hsp
      simp only [Bool.and_eq_true, decide_eq_true_eq] at hc
      simp only [R.get, Option.some.injEq, Prod.mk.injEq] at hsp
      obtain ⟨rfl, rfl⟩ := hsp
      obtain ⟨c, rfl⟩ : ∃ c, cs = ⟨#[c]⟩ := by
        obtain ⟨⟨l⟩⟩ := cs
        have h1 : l.length = 1 := hc.1
        match l, h1 with
        | [c], _ => exact ⟨c, rfl⟩
      obtain ⟨x0, x1, rfl⟩ : ∃ x0 x1, xs = [x0, x1] := by
        have := hV.length
        simp at this
        match xs, this with
        | [a, b], _ => exact ⟨a, b, rfl⟩
      simp only [List.map_cons, List.map_nil, entV, VRels, VRel, and_true] at hV
      obtain ⟨⟨rfl, hs⟩, rfl, _⟩ := hV
      have hz := trimRB_size s ⟨#[c]⟩
      unfold strMax at hs
      refine snd_plain hR rfl rfl (Does.of_calls Tryz.func56 (by kernel_rfl) (by kernel_rfl) ((Tryz.strings_TrimRight_one s c hc.2 w (by omega)).mono ?_))
      rintro e w' ⟨rfl, rfl⟩
      refine ⟨_, rfl, Keep.refl _ _, fun O _ => ?_⟩
      simp only [VRel]
      exact ⟨rfl, by unfold strMax; omega⟩
  · simp [R.get] at hsp

set_option maxRecDepth 100000 in
theorem snd_strings_Repeat : SndR PR B0 57 S_strings_Repeat := by
  intro w X γ vs xs r out hsp hg hx hR hV
  unfold S_strings_Repeat at hsp
  simp only at hsp
  split at hsp
  · rename_i s n
    cases hc : (decide (0 ≤ n) && decide (s.size * n.toNat ≤ strMax)) with
    | false => rw [hc] at hsp; simp [R.get] at hsp
    | true =>
      rw [hc] at hsp
      simp only [Bool.and_eq_true, decide_eq_true_eq] at hc
      simp only [R.get, Option.some.injEq, Prod.mk.injEq] at hsp
      obtain ⟨rfl, rfl⟩ := hsp
      obtain ⟨x0, x1, rfl⟩ : ∃ x0 x1, xs = [x0, x1] := by
        have := hV.length
        simp at this
        match xs, this with
        | [a, b], _ => exact ⟨a, b, rfl⟩
      simp only [List.map_cons, List.map_nil, entV, VRels, VRel, and_true] at hV
      obtain ⟨⟨rfl, hs⟩, rfl, _, hn1⟩ := hV
      have e1 : IntKind.i64.max = 9223372036854775807 := rfl
      rw [e1] at hn1
      obtain ⟨c, rfl⟩ : ∃ c : Nat, n = c := ⟨n.toNat, by omega⟩
      have hz := repB_size s c
      have hle := hc.2
      simp only [Int.toNat_natCast] at hle ⊢
      unfold strMax at hle
      refine snd_plain hR rfl rfl (Does.of_calls Tryz.func57 (by kernel_rfl) (by kernel_rfl) ((Tryz.strings_Repeat s c w (by omega) (by omega)).mono ?_))
      rintro e w' ⟨rfl, hw⟩
      refine ⟨_, rfl, Keep.below hw, fun O _ => ?_⟩
      simp only [VRel]
      exact ⟨rfl, by rw [hz]; unfold strMax; omega⟩
  · simp [R.get] at hsp

set_option maxRecDepth 100000 in
theorem snd_strings_CutPrefix : SndR PR B0 71 S_strings_CutPrefix := by
  intro w X γ vs xs r out hsp hg hx hR hV
  unfold S_strings_CutPrefix at hsp
  simp only at hsp
  split at hsp
  · rename_i s p
    simp only [R.get, Option.some.injEq, Prod.mk.injEq] at hsp
    obtain ⟨rfl, rfl⟩ := hsp
    obtain ⟨x0, x1, rfl⟩ : ∃ x0 x1, xs = [x0, x1] := by
      have := hV.length
      simp at this
      match xs, this with
      | [a, b], _ => exact ⟨a, b, rfl⟩
    simp only [List.map_cons, List.map_nil, entV, VRels, VRel, and_true] at hV
    obtain ⟨⟨rfl, hs⟩, rfl, _⟩ := hV
    have hz := trimPreB_size s p
    refine snd_plain hR rfl rfl (Does.of_calls Tryz.func71 (by kernel_rfl) (by kernel_rfl) ((Tryz.strings_CutPrefix s p w).mono ?_))
    rintro e w' ⟨rfl, rfl⟩
    refine ⟨_, rfl, Keep.refl _ _, fun O _ => ?_⟩
    simp only [VRel]
    exact ⟨_, rfl, by simp only [VRels, VRel, and_true]; exact ⟨⟨rfl, by omega⟩, rfl⟩⟩
  · simp [R.get] at hsp

set_option maxRecDepth 100000 in
theorem snd_strings_Cut : SndR PR B0 72 S_strings_Cut := by
  intro w X γ vs xs r out hsp hg hx hR hV
  unfold S_strings_Cut at hsp
  simp only at hsp
  split at hsp
  · rename_i s sep
    cases hc : decide (s.size < 4294967281) with
    | false => rw [hc] at hsp; simp [R.get] at hsp
    | true =>
      rw [hc] at hsp
      simp only [R.get, Option.some.injEq, Prod.mk.injEq] at hsp
      obtain ⟨rfl, rfl⟩ := hsp
      obtain ⟨x0, x1, rfl⟩ : ∃ x0 x1, xs = [x0, x1] := by
        have := hV.length
        simp at this
        match xs, this with
        | [a, b], _ => exact ⟨a, b, rfl⟩
      simp only [List.map_cons, List.map_nil, entV, VRels, VRel, and_true] at hV
      obtain ⟨⟨rfl, hs⟩, rfl, hsep⟩ := hV
      obtain ⟨m, hm⟩ := glob_max hg
      refine snd_plain hR rfl rfl (Does.of_calls Tryz.func72 (by kernel_rfl) (by kernel_rfl) ((Tryz.strings_Cut s sep m w (of_decide_eq_true hc) hm).mono ?_))
      rintro e w' ⟨rfl, n, rfl⟩
      have hsz := cut_sizes s sep
      refine ⟨_, rfl, Keep.drewN w n, fun O _ => ?_⟩
      simp only [VRel]
      exact ⟨_, rfl, by simp only [VRels, VRel, and_true]; exact ⟨⟨rfl, by omega⟩, ⟨rfl, by omega⟩, rfl⟩⟩
  · simp [R.get] at hsp

set_option maxRecDepth 100000 in
theorem snd_strings_Split : SndR PR B0 18 S_strings_Split := by
  intro w X γ vs xs r out hsp hg hx hR hV
  unfold S_strings_Split at hsp
  simp only at hsp
  split at hsp
  · rename_i s sep
    cases hc : (decide (s.size < 4294967281) && decide (1 ≤ sep.size)) with
    | false => rw [hc] at hsp; simp [R.get] at hsp
    | true =>
      rw [hc] at hsp
      simp only [Bool.and_eq_true, decide_eq_true_eq] at hc
      simp only [R.get, Option.some.injEq, Prod.mk.injEq] at hsp
      obtain ⟨rfl, rfl⟩ := hsp
      obtain ⟨x0, x1, rfl⟩ : ∃ x0 x1, xs = [x0, x1] := by
        have := hV.length
        simp at this
        match xs, this with
        | [a, b], _ => exact ⟨a, b, rfl⟩
      simp only [List.map_cons, List.map_nil, entV, VRels, VRel, and_true] at hV
      obtain ⟨⟨rfl, hs⟩, rfl, hsep⟩ := hV
      obtain ⟨m, hm⟩ := glob_max hg
      have hlen := Lib.splitB_all sep hc.2 0 _ s rfl
      have hcnt := Lib.countB_le sep hc.2 s.size s (Nat.le_refl _)
      refine snd_plain hR rfl rfl (Does.of_calls Tryz.func18 (by kernel_rfl) (by kernel_rfl) ((Tryz.strings_Split s sep m w hc.1 hm hc.2).mono ?_))
      rintro e w' ⟨rfl, rfl⟩
      refine ⟨_, rfl, Keep.alloc _ w _, fun O hO => ?_⟩
      simp only [VRel]
      have := strs_rel (w := w) (w' := w.alloc (.cells ((splitL s sep).map Value.string).toArray 9)) hO (g := w.heap.size) (Nat.le_refl _) (heap_alloc_new w _) (l := splitL s sep) (c := Lib.countB s sep + 1) (by unfold splitL; omega) (by unfold maxLen; omega) (by unfold splitL strMax; omega) (fun p hp => Nat.le_trans ((splitB_sizes sep _ s).2 p hp) hs)
      unfold splitL at this ⊢
      rw [hlen] at this
      exact this
  · simp [R.get] at hsp

theorem str_cells {w : World} {O : Nat → Prop} {l : List IV} {x : Value} (h : Kd.Rel w O (.list false [.str]) (.list l) x) : ∃ p c, x = .slice p l.length c ∧ l.length ≤ c ∧ c ≤ maxLen ∧ l.length ≤ strMax ∧ ∀ j y, l[j]? = some y → ∃ b o, p = some ⟨b, o, none⟩ ∧ b < w.heap.size ∧ w.cell? ⟨b, o + j, none⟩ = some (.string y.toStr) ∧ y.toStr.size ≤ strMax := by
  simp only [Kd.Rel, IV.toList] at h
  obtain ⟨p, c, rfl, hc, hm, hl, hi⟩ := h
  refine ⟨p, c, rfl, hc, hm, hl, fun j y hy => ?_⟩
  obtain ⟨b, o, rfl, _, hb, hr⟩ := hi j y hy
  simp only [Kd.RelAll, List.length_cons, List.length_nil, Nat.zero_add, Nat.mul_one, Nat.add_zero, and_true] at hr
  obtain ⟨u, hu, hs⟩ := hr
  simp only [Kd.Rel, cellOf] at hs
  obtain ⟨rfl, hs⟩ := hs
  exact ⟨b, o, rfl, hb, hu, hs⟩

set_option maxRecDepth 100000 in
theorem snd_strings_Join : SndR PR B0 51 S_strings_Join := by
  intro w X γ vs xs r out hsp hg hx hR hV
  unfold S_strings_Join at hsp
  simp only at hsp
  split at hsp
  · rename_i l sep
    cases hc : (decide (l.length ≤ strMax) && decide ((joinB (l.map IV.toStr) sep).size ≤ strMax)) with
    | false => rw [hc] at hsp; simp [R.get] at hsp
    | true =>
      rw [hc] at hsp
      simp only [Bool.and_eq_true, decide_eq_true_eq] at hc
      simp only [R.get, Option.some.injEq, Prod.mk.injEq] at hsp
      obtain ⟨rfl, rfl⟩ := hsp
      obtain ⟨x0, x1, rfl⟩ : ∃ x0 x1, xs = [x0, x1] := by
        have := hV.length
        simp at this
        match xs, this with
        | [a, b], _ => exact ⟨a, b, rfl⟩
      simp only [List.map_cons, List.map_nil, entV, VRels, VRel, and_true] at hV
      obtain ⟨h0, rfl, _⟩ := hV
      obtain ⟨p, c, rfl, hc1, hc2, hc3, hcell⟩ := str_cells h0
      have hz : (joinB (l.map IV.toStr) sep).size = (Lib.join ((l.map IV.toStr).map (·.data.toList)) sep.data.toList).length := by
        show (Array.size (List.toArray _)) = _
        rw [List.size_toArray]
      have hle := hc.2
      rw [hz] at hle
      unfold strMax at hle hc3
      refine snd_plain hR rfl rfl (Does.of_calls Tryz.func51 (by kernel_rfl) (by kernel_rfl) (Calls.mono (R := fun e w' => e = .returned (.string (joinB (l.map IV.toStr) sep)) ∧ Below w.heap.size w w') ?_ ?_))
      · cases l with
        | nil =>
          refine (Tryz.strings_Join_none p c sep w).mono ?_
          rintro e w' ⟨rfl, rfl⟩
          exact ⟨rfl, Below.refl _ _⟩
        | cons y r =>
          obtain ⟨b, o, rfl, hb, _⟩ := hcell 0 y rfl
          have := Tryz.strings_Join b o c ((y :: r).map IV.toStr) sep w (fun j x hj => by
            rw [List.getElem?_map, Option.map_eq_some_iff] at hj
            obtain ⟨y', hj, rfl⟩ := hj
            obtain ⟨b', o', hp, _, hu, _⟩ := hcell j y' hj
            simp only [Option.some.injEq, Addr.mk.injEq, and_true] at hp
            obtain ⟨rfl, rfl⟩ := hp
            exact hu) hb (by rw [List.length_map]; omega) (by rw [List.length_map]; omega) (by omega)
          rw [List.length_map] at this
          exact this
      · rintro e w' ⟨rfl, hw⟩
        refine ⟨_, rfl, Keep.below hw, fun O _ => ?_⟩
        simp only [VRel]
        exact ⟨trivial, by rw [hz]; unfold strMax; omega⟩
  · simp [R.get] at hsp


/-! ### contracts out of runs -/
def SpsOK : List (Nat × RSpec) → Prop
  | [] => True
  | (f, sp) :: r => SndR PR B0 f sp ∧ SpsOK r

set_option maxRecDepth 100000 in
theorem SpsOK.get : ∀ {l : List (Nat × RSpec)}, SpsOK l → ∀ f sp, lk l f = some sp → SndR PR B0 f sp
  | [], _, f, sp, h => by simp [lk] at h
  | (g, sg) :: r, hs, f, sp, h => by
    simp only [lk] at h
    split at h
    · rename_i hb
      simp only [Option.some.injEq] at h
      subst h
      rw [← beq_eq'.1 hb]
      exact hs.1
    · exact SpsOK.get hs.2 f sp h

set_option maxRecDepth 100000 in
theorem snd_mk {f : Nat} {fn : Func} {code : Code} {rs : List ResultVar} {nt : Nat} (sps : List (Nat × RSpec)) (lp : List (Nat × KP)) (sp : RSpec) (rks : List (List Kd)) (hf : PR.funcs[f]? = some fn)
    (hc : (fn.name == "runtime.NumGoroutine") = false ∧ fn.body = some code ∧ fn.ntmps = nt ∧ Nat.ble nt 900000 = true ∧ fn.results.toList = rs) (hs : SpsOK sps)
    (h : ∀ vs r, (oneBor vs (borOf vs) → wfVs vs) → (sp vs).get = some r → ∃ N, evFun (mkE sps lp nt N) code rs rks vs = some r) : SndR PR B0 f sp :=
  snd_fun (mkE sps lp nt) sp rks hf hc (fun _ => rfl) mo_ok (fun _ => tisB_ok rfl ti_ok) (fun _ => eqsB_ok rfl eq_ok) (fun _ => hs.get) (fun _ _ => bld_ok) h

end Go.FM

/-
  SMALL LEMMAS FOR NORMAL FORMS: counters, bounds.
-/
namespace Go.FM
open Go Go.RowKit

theorem wrap_id {n : Int} (h0 : -9223372036854775808 ≤ n) (h1 : n ≤ 9223372036854775807) : IntKind.wrap .i64 n = n := by
  have e : IntKind.wrap .i64 n = (n + 9223372036854775808) % 18446744073709551616 - 9223372036854775808 := by
    simp [IntKind.wrap, IntKind.bits, IntKind.signed]
    omega
  rw [e]
  omega
theorem idx_lt {α : Type} {l : List α} {i : Nat} (h : i < l.length) : decide ((i : Int) < ic l.length) = true := by simp [ic]; omega
theorem idx_ge {α : Type} {l : List α} {i : Nat} (h : l.length ≤ i) : decide ((i : Int) < ic l.length) = false := by simp [ic]; omega
theorem idx_0 {i : Nat} : decide (0 ≤ (i : Int)) = true := by simp
theorem succ_w {i : Nat} (h : i < 9223372036854775807) : IntKind.wrap .i64 ((i : Int) + 1) = ((i + 1 : Nat) : Int) := by rw [wrap_id (by omega) (by omega)]; rfl
theorem getD_i {α : Type} [Inhabited α] {l : List α} {i : Nat} (h : i < l.length) : l.getD (i : Int).toNat default = l[i] := by simp [h]
theorem int_lt {i n : Nat} (h : i < n) : decide ((i : Int) < ic n) = true := by simp [ic]; omega
theorem int_ge {i n : Nat} (h : n ≤ i) : decide ((i : Int) < ic n) = false := by simp [ic]; omega
theorem dec_le_not (a b : Int) : decide (a ≤ b) = !decide (b < a) := by rw [Bool.eq_iff_iff]; simp
theorem dec_ge_not (a b : Int) : decide (a ≥ b) = !decide (a < b) := by rw [Bool.eq_iff_iff]; simp
theorem dec_gt (a b : Int) : decide (a > b) = decide (b < a) := rfl
theorem beq_dec (a b : Int) : (a == b) = decide (a = b) := rfl
theorem bne_dec (a b : Int) : (a != b) = !decide (a = b) := rfl

/-- (no rfl-lemmas: the kernel is not to unfold what stands under them) -/
theorem condT {α : Type _} (a b : α) : cond true a b = a := Eq.trans (Eq.refl a) (Eq.refl a)
theorem condF {α : Type _} (a b : α) : cond false a b = b := Eq.trans (Eq.refl b) (Eq.refl b)

end Go.FM

/-
  FROM A ROW's PREMISES TO WHAT THE SMALL MACHINE ASKS OF THE PACKAGE-LEVEL VARIABLES; a call out of the row's world.
-/
namespace Go.FM
open Go Go.Proofs Go.RowKit

set_option maxRecDepth 100000 in
theorem heap_of_var {P : Program} {w : World} {name : String} {g : Nat} {cs : Array Value} (hn : P.globalNamed name = some g) (hv : w.var? P name = some cs) : ∃ T fr, w.heap[g]? = some (.cells cs T fr) := by
  unfold World.var? at hv
  rw [hn] at hv
  simp only [Option.bind_some] at hv
  split at hv
  · rename_i c T fr hh
    simp only [Option.some.injEq] at hv
    subst hv
    exact ⟨T, fr, hh⟩
  · cases hv

set_option maxRecDepth 100000 in
theorem err_cell {w : World} {name : String} {g t : Nat} {ms : Array (String × TypeId)} {tn : String} {d : DataW Unit} (h : Lib.VarReads Tryz.prog w name (.iface tn d)) (hn : Tryz.prog.globalNamed name = some g)
    (ht : (Tryz.prog.globals[g]?).map (·.type) = some t) (hu : Tryz.prog.underlying t = some (.interface ms)) : ∃ c T fr te pe, w.heap[g]? = some (.cells c T fr) ∧ c[0]? = some (.iface te pe) := by
  obtain ⟨g', t', cs, fuel, p, h1, h2, h3, h4⟩ := h
  obtain rfl := Option.some.inj (hn.symm.trans h1)
  obtain rfl := Option.some.inj (ht.symm.trans h2)
  obtain ⟨f', u, v, hcs, _, _⟩ := iface_of_trod hu h4
  obtain ⟨T, fr, hh⟩ := heap_of_var hn h3
  refine ⟨cs, T, fr, u, v, hh, ?_⟩
  have : cs = #[.iface u v] := by
    apply Array.ext'
    rw [hcs]
  rw [this]
  rfl

set_option maxRecDepth 100000 in
theorem glob_row {W : World} {l : List (String × DataW Unit)} (hL : laidMet Tryz.prog l W) (hsh : W.ShapedOpen Tryz.prog)
    (hp : ("internal/strconv.uint64pow10", Lib.tabData .u64 Lib.pow10Tab) ∈ l)
    {n1 : String} {d1 : DataW Unit} (h1 : ("strconv.ErrRange", .iface n1 d1) ∈ l)
    {n2 : String} {d2 : DataW Unit} (h2 : ("strconv.ErrSyntax", .iface n2 d2) ∈ l)
    : Glob B0 W := by
  have hz : ∀ g, g < 4 → g < Tryz.prog.globals.size → g < W.heap.size := fun g _ hg => by
    have hb : ((List.range Tryz.prog.globals.size).all fun g => (((begin Tryz.prog (fun _ _ => 0) default).world.heap[g]?).bind Obj.row?).isSome) = true := by kernel_rfl
    have := List.all_eq_true.1 hb g (List.mem_range.2 hg)
    obtain ⟨⟨z, t⟩, hz⟩ := Option.isSome_iff_exists.1 this
    obtain ⟨cs, hh, _⟩ := hsh.1 g z t hg hz
    exact (Array.getElem?_eq_some_iff.1 hh).1
  have hsize : 4 ≤ W.heap.size := by
    have := hz (4 - 1) (by decide) (of_decide_eq_true (by kernel_rfl))
    omega
  have low : ∀ {g : Nat}, g < 4 → (fun b => if b < B0.ng then W.heap[b]? else none) g = W.heap[g]? := fun h => if_pos (show _ < B0.ng from h)
  refine ⟨hsize, ?_⟩
  show GF _
  constructor
  case unit => trivial
  case gm =>
    obtain ⟨m, hm⟩ := cell_of_shapedOpen_int (P := Tryz.prog) (g := 0) (t := 3) (zero := #[.int .i64 0]) hsh (of_decide_eq_true (by kernel_rfl)) (by kernel_rfl) rfl (by kernel_rfl) (by kernel_rfl) Tryz.underlying3
    simp only [World.cell?] at hm
    split at hm
    · rename_i c T fr' hh
      exact ⟨c, T, fr', m, (low (by decide)).trans hh, hm⟩
    · cases hm
  case gp =>
    have gp : Tryz.prog.globalNamed "internal/strconv.uint64pow10" = some 3 := by kernel_rfl
    obtain ⟨g', t', cp, fuel, p, e1, e2, e3, e4⟩ := Lib.laidMet.reads hL hp
    obtain rfl := Option.some.inj (gp.symm.trans e1)
    obtain ⟨T, fr', hh⟩ := heap_of_var gp e3
    refine ⟨T, fr', (low (by decide)).trans ?_⟩
    rw [hh]
    have et : (Tryz.prog.globals[3]?).map (·.type) = some 158 := by kernel_rfl
    obtain rfl := Option.some.inj (et.symm.trans e2)
    have := Lib.cells_of_tab (e := 22) (n := 20) (by kernel_rfl) (by kernel_rfl) (by kernel_rfl) (by kernel_rfl) e4
    congr 1
    congr 1
    apply Array.ext'
    exact this
  case gs =>
    obtain ⟨cs, Ts, fs, tes, pes, hs1, hs2⟩ := err_cell (g := 1) (Lib.laidMet.reads hL h2) (by kernel_rfl) (show _ = some 84 by kernel_rfl) Tryz.underlying84
    exact ⟨cs, Ts, fs, tes, pes, (low (by decide)).trans hs1, hs2⟩
  case gr =>
    obtain ⟨cr, Tr, fr, ter, per, hr1, hr2⟩ := err_cell (g := 2) (Lib.laidMet.reads hL h1) (by kernel_rfl) (show _ = some 84 by kernel_rfl) Tryz.underlying84
    exact ⟨cr, Tr, fr, ter, per, (low (by decide)).trans hr1, hr2⟩

/-! ### a call out of the row's world -/
def X0 : Zone := ⟨fun _ => False, fun _ => False⟩
def γ0 : Nat → Value := fun _ => .nilIface
abbrev O0 : Nat → Prop := Owned X0 γ0 []
set_option maxRecDepth 100000 in
theorem O0_no (b : Nat) : ¬ O0 b := by
  rintro (⟨n, ob, h, _⟩ | h)
  · simp [objOf, lkd] at h
  · exact h

set_option maxRecDepth 100000 in
theorem rel0 (W : World) : Rel B0.base 0 W X0 γ0 ⟨[], []⟩ act0 W := by
  have no : ∀ n ob, objOf ([] : Store) n ≠ some ob := fun n ob h => by simp [objOf, lkd] at h
  refine ⟨rfl, rfl, fun i => by simp only [St.get, lkd, VRel], fun n ob h => absurd h (no n ob), fun b h => ?_, fun n m ob ob' b _ h => absurd h (no n ob), Keep.refl _ _, fun b h => ?_, fun b h => h.elim, fun p _ ob h => absurd h (no _ ob)⟩
  · obtain ⟨n, ob, h, _⟩ := h
    exact absurd h (no n ob)
  · obtain ⟨n, ob, h, _⟩ := h
    exact absurd h (no n ob)

set_option maxRecDepth 100000 in
theorem calls_of_does {f : Nat} {fn : Func} (hf : PR.funcs[f]? = some fn) (hn : (fn.name == "runtime.NumGoroutine") = false) (hb : fn.body.isNone = false) {xs : List Value} {w : World} {R : Ending → World → Prop} (h : Does PR f xs w R) : Calls PR f xs.toArray w R := by
  have : (callFunc f xs.toArray).run PR w = .ok (.enter f xs.toArray) w := by
    unfold callFunc
    have hn' : ¬ fn.name = "runtime.NumGoroutine" := by simpa using hn
    have hb' : ¬ fn.body = none := fun h => by rw [h] at hb; cases hb
    simp [hf, hn', hb']
  unfold Does at h
  rw [this] at h
  exact h

set_option maxRecDepth 100000 in
/-- A law's call: true, and nothing that was there has turned. -/
theorem calls_true {f : Nat} {fn : Func} {sp : RSpec} (hS : SndR PR B0 f sp) (hf : PR.funcs[f]? = some fn) (hn : (fn.name == "runtime.NumGoroutine") = false) (hb : fn.body.isNone = false) {vs : List V} {xs : List Value} {W : World}
    (hsp : (sp vs).get = some (.bool true, [])) (hbor : borOf vs = none) (hG : Glob B0 W) (hV : VRels γ0 [] W O0 (vs.map entV) xs) :
    Calls PR f xs.toArray W fun e w' => e = .returned (.bool true) ∧ Below W.heap.size W w' := by
  refine calls_of_does hf hn hb ?_
  have em : memIn vs = [] := by unfold memIn; rw [hbor]
  refine Does.mono (hS W X0 γ0 vs xs (.bool true) [] hsp hG (fun b h => h.elim) (by rw [em]; exact rel0 W) (by rw [em]; exact hV)) ?_
  rintro e w' ⟨x, rfl, γ', hR, hx, _⟩
  simp only [retV, entV, VRel] at hx
  subst hx
  exact ⟨rfl, hR.keep.os, hR.keep.tape, hR.keep.output, hR.keep.size, fun b hb => hR.keep.block b hb (fun h => h)⟩

end Go.FM
