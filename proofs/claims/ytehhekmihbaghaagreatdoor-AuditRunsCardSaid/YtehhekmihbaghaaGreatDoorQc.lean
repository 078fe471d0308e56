/-
  A small machine that reads a function of the program and reckons what a call of it comes to; what Go's library on the road comes to; the functions of the program, one by one. No conditions beyond each specification's own. (THE LIBRARY's strings.Builder AS THE SMALL MACHINE SEES IT: , DERIVED: THE SHELF's CONTRACTS AT THIS DUMP, IN PLAIN WORDS , THE LIBRARY's strconv.FormatUint AT BASE 10: the number's de, and so on.)
-/
import Derived.Test.YtehhekmihbaghaaGreatDoorQb
import Derived.Shelf.Strings.BuilderK
import Derived.Shelf.Strings.Builder1
import Derived.Shelf.Strings.Builder2
import Derived.Shelf.Strings.OnBuilder
import Derived.Shelf.Strings.Trim
import Derived.Shelf.Small.Utf8
import Derived.Shelf.Small.Bits
import Derived.Shelf.Small.Strs
import Derived.Shelf.Small.Wraps
import Derived.Shelf.Strings.BuilderF
import Derived.Shelf.Utf8.RuneCount
import Derived.Shelf.Strconv.Atoi
import Derived.Shelf.Strconv.Itoa0
import Derived.Shelf.Strconv.Itoa1
import Derived.Shelf.LaysM
import Derived.Shelf.Strconv.Itoa2
import Derived.Shelf.Strconv.Itoa3
import Derived.Shelf.Strconv.AtoiErrFast
import Derived.Shelf.Strconv.ParseIntEmpty
import Derived.Shelf.Strconv.AtoiFail
import Derived.Shelf.Strconv.Clone
import Derived.Shelf.Strconv.SyntaxError
import Derived.Shelf.LaysC
import Derived.Shelf.Strconv.ToError
import Derived.Shelf.Strconv.Lower
import Derived.Shelf.Strconv.ParseUint10
import Derived.Shelf.Strconv.ParseUint10Empty
import Derived.Shelf.Strconv.ParseUint10Any
import Derived.Shelf.Strconv.ParseInt10
import Derived.Shelf.Strconv.AtoiLong
import Derived.Shelf.Strconv.AtoiInnerAll
import Derived.Shelf.Strconv.RangeError
import Derived.Shelf.Strconv.ToErrorRange
import Derived.Shelf.Strconv.AtoiAll
import Derived.Shelf.Strconv.ErrVarAll
import Derived.Shelf.Strconv.ParseUint10b64
import Derived.Ground.MpProg
import Derived.Shelf.Pu.ParseUintPublic10
import Derived.Shelf.Pu.ErrVarParseUint
import Derived.Shelf.Strings.Search1
import Derived.Shelf.Strings.Search2
import Derived.Shelf.Strings.Search3
import Derived.Shelf.Strings.Cut
import Derived.Shelf.Strings.Count
import Derived.Shelf.Strings.Shaped
import Derived.Shelf.Sort.Plain
import Derived.Shelf.Strings.Prefix
import Derived.Shelf.Strings.Split
import Derived.Shelf.Strings.SplitShaped
import Derived.Shelf.Unicode.Decode
import Derived.Shelf.Strings.Runes
import Derived.Shelf.Strings.RuneCount
import Derived.Shelf.Strings.AsciiSet
import Derived.Shelf.Strings.Explode
import Derived.Shelf.Bits.Mul64
import Derived.Shelf.Strings.Repeat
import Derived.Shelf.Unicode.DecodeSlow
import Derived.Shelf.Unicode.DecodeAny
import Derived.Shelf.Unicode.DecodeLast
import Derived.Shelf.Slices.Turned
import Derived.Ground.Names2Prog
import Derived.Shelf.Slices.Clone
import Derived.Shelf.Slices.CompactI
import Derived.Shelf.Slices.SearchI
import Derived.Shelf.Slices.Cells
import Derived.Shelf.Slices.In.SortNone
import Derived.Ground.SlgnProg
import Derived.Shelf.SlicesE.Compact
import Derived.Shelf.SlicesE.Clone
import Derived.Ground.SlgfProg
import Derived.Shelf.SlicesE.IndexFunc
import Derived.Shelf.SlicesE.DeleteFunc
import Derived.Test.YtehhekmihbaghaaGreatDoorProg
import Derived.Lib.AppendIntMem
import Derived.Deep.LoopGhost
import Derived.Lib.Walk
import Derived.Lib.SliceRun

namespace Go.FM
open Go Go.Proofs Go.RowKit
theorem Keep.freeze {O:Nat→Prop} (w:World) (a:Addr) (n:Nat) (h:O a.block):Keep O w (w.freeze a n):=by
 unfold World.freeze
 split
 ·exact Keep.refl _ _
 ·exact ⟨rfl,rfl,rfl,by simp,fun b _ hn=>by simp only [Array.getElem?_modify]; rw [if_neg (fun e:a.block=b=>hn (e ▸ h))]⟩
theorem Keep.setCell {O:Nat→Prop} (w:World) (a:Addr) (v:Value) (h:O a.block):Keep O w (w.setCell a v):=
 ⟨rfl,rfl,rfl,by simp [World.setCell],fun b _ hn=>Below.heap_setCell _ _ _ _ (fun e=>hn (e ▸ h))⟩
theorem zdx {w:World} {b:Nat} {o:Obj} (h:w.heap[b]?=some o):b < w.heap.size:=(Array.getElem?_eq_some_iff.1 h).1
theorem ybc:liesAt PR PR.depth 108 (2 / PR.cellsOf 108) 0 108 1=true:=by kernel_rfl
theorem y4x:(PR.info? 108).map (·.size)=some 2:=by kernel_rfl
theorem y9u:(PR.info? 5).map (fun i=>(i.zero,i.size,i.bytes))=some (some (.int .u8 0),1,1):=by kernel_rfl
set_option maxHeartbeats 1000000 in
set_option maxRecDepth 100000 in
theorem zx9 (b:Nat) (w:World) (h0:w.cell? ⟨b,0,none⟩=some (.pointer (some ⟨b,0,none⟩))) :
  Calls Tryz.prog 103 #[.pointer (some ⟨b,0,none⟩)] w fun e w'=>e = .returned (.tuple #[])∧w'=w:=by
 obtain ⟨j,hj,_⟩:=Option.map_eq_some_iff.1 y4x
 go_enter Tryz.func103,Tryz.ntmps103
 go_wp2
 rw [Lib.run_neq_ptr_same w _ Tryz.underlying106 hj]
 go_wp2
 go_end0
 exact ⟨rfl,rfl⟩
set_option maxHeartbeats 1000000 in
set_option maxRecDepth 100000 in
theorem zsu (b:Nat) (w:World) (h0:w.cell? ⟨b,0,none⟩=some (.pointer none)) (hsh:w.shape? b=some (108,2)) (hfz:w.frozen? ⟨b,0,none⟩=false) :
  Calls Tryz.prog 103 #[.pointer (some ⟨b,0,none⟩)] w fun e w'=>e = .returned (.tuple #[])∧w'=w.setCell ⟨b,0,none⟩ (.pointer (some ⟨b,0,none⟩)):=by
 obtain ⟨j,hj,hjs⟩:=Option.map_eq_some_iff.1 y4x
 go_enter Tryz.func103,Tryz.ntmps103
 go_wp2
 rw [Lib.run_to_unsafe w ⟨b,0,none⟩ Tryz.underlying106 Tryz.underlying211 hj (by rw [hjs]; decide) hsh (Nat.zero_lt_succ 1)]
 simp only [Result.andThen];rw [Oper.upon_value]
 go_wp2
 rw [run_callFunc_extern Tryz.func153 (by kernel_rfl) (by kernel_rfl) (by kernel_rfl) (e:=Extern.AbiNoEscape.same) (by kernel_rfl)]
 rw [Lib.run_noEscape];simp only [Result.andThen];rw [Oper.upon_value]
 go_wp2
 rw [Lib.run_from_unsafe w ⟨b,0,none⟩ Tryz.underlying211 Tryz.underlying106 hj hsh ybc];simp only [Result.andThen];rw [Oper.upon_value]
 go_wp2
 go_end0
 exact ⟨rfl,rfl⟩
theorem y52 (b:Nat) (p v:Value) (w:World) (hp:p = .pointer none∨p = .pointer (some ⟨b,0,none⟩)) (hbk:w.heap[b]?=some (.cells #[p,v] 108 (0,0))) :
  Calls Tryz.prog 103 #[.pointer (some ⟨b,0,none⟩)] w fun e w'=>e = .returned (.tuple #[])∧w'.heap[b]?=some (.cells #[.pointer (some ⟨b,0,none⟩),v] 108 (0,0))∧Keep (fun k=>k=b) w w'∧w'.heap.size=w.heap.size:=by
 have hc0:w.cell? ⟨b,0,none⟩=some p:=by rw [Lib.cell_of_heap hbk]; rfl
 rcases hp with rfl | rfl
 ·refine (zsu b w hc0 (by simp [World.shape?,hbk]) (Lib.frozen_of_heap hbk 0)).mono ?_
  rintro e w' ⟨rfl,rfl⟩
  exact ⟨rfl,by simp [World.setCell,Array.getElem?_modify,hbk],Keep.setCell w ⟨b,0,none⟩ _ rfl,by simp [World.setCell]⟩
 ·refine (zx9 b w hc0).mono ?_
  rintro e w' ⟨rfl,rfl⟩
  exact ⟨rfl,hbk,Keep.refl _ _,rfl⟩
def zro (b:Nat) (v:Value) (bs:List Value) (w w':World):Prop:=
 ∃ v',w'.heap[b]?=some (.cells #[.pointer (some ⟨b,0,none⟩),v'] 108 (0,0))∧w'.ownsRowF 0 5 1 v' bs.length bs∧v'.ownBlock≠some b ∧
  Keep (fun k=>k=b∨v.ownBlock=some k) w w'∧∀ k,v'.ownBlock=some k→v.ownBlock=some k∨w.heap.size≤k
theorem y5x {b:Nat} {v v':Value} {bs:List Value} {w w1 w2:World} (hs1:w1.heap.size=w.heap.size) (hk1:Keep (fun k=>k=b) w w1)
  (hb2:w2.heap[b]?=some (.cells #[.pointer (some ⟨b,0,none⟩),v] 108 (0,0))) (hown:w2.ownsRowF 0 5 1 v' bs.length bs) (hk2:Keep (fun k=>v.ownBlock=some k) w1 w2) (hv:∀ k,v'.ownBlock=some k→v.ownBlock=some k∨w1.heap.size≤k) :
  zro b v bs w (w2.setCell ⟨b,1,none⟩ v'):=by
 have hput:=Lib.BuilderAtF.put (T:=108) (e:=5) (Nat.zero_le b) hb2 hown (by decide)
 obtain ⟨_,v2,q1,q2,q3⟩:=hput;have e2:v2=v':=by
  have:(w2.setCell ⟨b,1,none⟩ v').heap[b]?=some (.cells #[.pointer (some ⟨b,0,none⟩),v'] 108 (0,0)):=by simp [World.setCell,Array.getElem?_modify,hb2]
  rw [this] at q1;simp at q1;exact q1.symm
 subst e2;refine ⟨v2,q1,q2,q3,?_,fun k hk=>by rw [← hs1]; exact hv k hk⟩
 have h3:Keep (fun k=>k=b) w2 (w2.setCell ⟨b,1,none⟩ v2):=Keep.setCell w2 ⟨b,1,none⟩ v2 rfl
 refine (hk1.mono (fun _ _ h=>Or.inl h)).trans ((hk2.mono (O':=fun k=>k=b∨v.ownBlock=some k) (fun _ _ h=>Or.inr h)).trans h3 (fun _ _ h=>Or.inl h)) (fun _ _ h=>h)
theorem zzt {w w':World} {v:Value} (hg:w.grownBy w' v.ownBlock):Keep (fun k=>v.ownBlock=some k) w w':=
 ⟨hg.os,hg.tape,hg.output,hg.size,fun b hb hn=>hg.block b hb (fun h=>hn h.symm)⟩
theorem zbu {g n c k:Nat} (h:(Value.slice (some ⟨g,0,none⟩) n c).ownBlock=some k):k=g:=by
 simp only [Value.ownBlock,Option.some.injEq] at h;exact h.symm
theorem y6t {P:Program} (w:World) (t u ty e:TypeId) (i:TypeInfo) (ht:P.underlying t=some (.slice e)) (hu:P.underlying u=some .string) (hi:P.info? e=some i) (hz:i.zero=some (.int .u8 0)) (hsize:i.size=1) (hby:i.bytes=1)
  (v:Value) (n:Nat) (xs:List Value) (hown:w.ownsRowF 0 e 1 v n xs) (s:ByteArray) (hbytes:n+s.size≤140737488355328) :
  ∃ v' w',(Builtin.append_ #[t,u] ty #[v,.string s]).run P w = .ok v' w'∧w'.ownsRowF 0 e 1 v' (n+s.size) (xs++Lib.strCells s)∧w.grownBy w' v.ownBlock∧∀ k,v'.ownBlock=some k→v.ownBlock=some k∨w.heap.size≤k:=by
 have h63:n+s.size≤maxLen:=by unfold maxLen; omega
 rcases hown.2 with ⟨rfl,rfl⟩ | ⟨g,cap,cur,fz,rfl,hbg,hg,hfz,hnc,hcm,hcs,htake⟩
 ·obtain ⟨v',w',h1,h2,h3,_⟩:=Lib.run_append_own_string (P:=P) w w.heap.size t u ty e i ht hu hi hz hsize hby (.slice none 0 0) 0 xs ⟨hown.1,.inl ⟨rfl,rfl⟩⟩ s h63 hbytes (Nat.le_refl _)
  refine ⟨v',w',h1,⟨h2.1,?_⟩,h3,fun k hk=>.inr ?_⟩
  ·rcases h2.2 with q | ⟨g,cap,cur,q1,_,q2,q3,q4,q5,q6⟩
   ·exact .inl q
   ·exact .inr ⟨g,cap,cur,(0,0),q1,Nat.zero_le _,q2,Nat.zero_le _,q3,q4,q5,q6⟩
  ·rcases h2.2 with ⟨rfl,_⟩ | ⟨g,cap,cur,rfl,q1,_⟩
   ·simp [Value.ownBlock] at hk
   ·rw [zbu hk]; exact q1
 ·obtain ⟨v',w',h1,h2,h3,_⟩:=Lib.run_append_own_stringF (P:=P) w 0 t u ty e i ht hu hi hz hsize hby _ n xs hown s h63 hbytes (Nat.zero_le _)
  refine ⟨v',w',h1,h2,h3,fun k hk=>?_⟩
  have hsmall:n+s.size≤9223372036854775807:=by omega
  by_cases hroom:n+s.size≤cap
  ·have hr:=Lib.run_append_room_stringF (P:=P) w t u ty e i ht hu hi hsize g n cap cur fz hg (by simpa using hfz) s hroom (by simp at hcs; omega)
   rw [h1] at hr;simp only [Result.ok.injEq] at hr;obtain ⟨rfl,_⟩:=hr;exact .inl (by rw [zbu hk]; rfl)
  ·have hxl:xs.length=n:=by simpa using hown.1
   have hr:=Lib.run_append_grow_string (P:=P) w t u ty e i (.int .u8 0) ht hu hi hz ⟨g,0,none⟩ n cap xs (by rw [hsize]; simpa using hxl) (hown.cells (g:=g) rfl) s (by omega) (by omega) (by rw [hby]; exact growslice_fits (by omega) (by omega))
   rw [h1] at hr;simp only [Result.ok.injEq] at hr;obtain ⟨rfl,_⟩:=hr;exact .inr (by rw [zbu hk]; exact Nat.le_refl _)
theorem znf {P:Program} {w:World} {ops:Array Oper} {rest:List Oper} {o:Oper} {a:Act} {Q:Exit→Act→World→Prop} (hgd:o.guard=none) (sl x:Operand) (t u:TypeId)
  (ho:o.op = .call { callee:=.builtin .append,args:=#[sl,x],argTypes:=#[t,u] })
  (e:TypeId) (i:TypeInfo) (ht:P.underlying t=some (.slice e)) (hu:P.underlying u=some .string) (hi:P.info? e=some i) (hz:i.zero=some (.int .u8 0)) (hsize:i.size=1) (hby:i.bytes=1)
  (v:Value) (n:Nat) (xs:List Value) (hs:a.eval sl=v) (hown:w.ownsRowF 0 e 1 v n xs) (s:ByteArray) (hx:a.eval x = .string s) (hbytes:n+s.size≤140737488355328)
  (h:∀ v' w',w'.ownsRowF 0 e 1 v' (n+s.size) (xs++Lib.strCells s)→w.grownBy w' v.ownBlock→(∀ k,v'.ownBlock=some k→v.ownBlock=some k∨w.heap.size≤k)→wpList P ops Q rest (a.put o.dst v') w'):wpList P ops Q (o :: rest) a w:=by
 refine wpList_plain hgd fun K hK=>?_
 obtain ⟨v',w',hr,h2,h3,h4⟩:=y6t (P:=P) w t u o.type e i ht hu hi hz hsize hby v n xs hown s hbytes;unfold Oper.wp execOp;simp only [ho,resolve,invoke,builtin,Sem.run_bind,Sem.run_pure,Result.andThen_ok,List.map_toArray,List.map_cons,List.map_nil,hs,hx,hr];exact hK _ _ (h v' w' h2 h3 h4)
theorem y47 {P:Program} (w:World) (t ty e:TypeId) (i:TypeInfo) (ht:P.underlying t=some (.slice e)) (hi:P.info? e=some i) (hz:i.zero=some (.int .u8 0)) (hsize:i.size=1) (hby:i.bytes=1)
  (v:Value) (n:Nat) (xs:List Value) (hown:w.ownsRowF 0 e 1 v n xs) (ad:Addr) (c:Nat) (x:Int) (hx:w.cell? ad=some (.int .u8 x)) (hbytes:n+1≤140737488355328) :
  ∃ v' w',(Builtin.append_ #[t,t] ty #[v,.slice (some ad) 1 c]).run P w = .ok v' w'∧w'.ownsRowF 0 e 1 v' (n+1) (xs++[.int .u8 x])∧w.grownBy w' v.ownBlock∧∀ k,v'.ownBlock=some k→v.ownBlock=some k∨w.heap.size≤k:=by
 have h63:n+1≤maxLen:=by unfold maxLen; omega
 have hnews:∀ j u,[Value.int .u8 x][j]?=some u→w.cell? (ad.add j)=some u:=by
  intro j u hj
  match j,hj with
  | 0,hj=>simp at hj; subst hj; obtain ⟨b,o,p⟩:=ad; cases p <;> simpa [Addr.add] using hx
 have h1c:∀ u∈[Value.int .u8 x],u.oneCell'=true:=fun u hu=>by simp at hu; subst hu; rfl
 rcases hown.2 with ⟨rfl,rfl⟩ | ⟨g,cap,cur,fz,rfl,hbg,hg,hfz,hnc,hcm,hcs,htake⟩
 ·obtain ⟨v',w',h1,h2,h3,_⟩:=run_append_own (P:=P) w w.heap.size t ty e i (.int .u8 0) 1 1 ht hi hz hsize hby rfl (by decide) (.slice none 0 0) 0 xs ⟨hown.1,.inl ⟨rfl,rfl⟩⟩ ad 1 c [.int .u8 x] rfl hnews h1c h63 (by omega) (Nat.le_refl _)
  refine ⟨v',w',h1,⟨h2.1,?_⟩,h3,fun k hk=>.inr ?_⟩
  ·rcases h2.2 with q | ⟨g,cap,cur,q1,_,q2,q3,q4,q5,q6⟩
   ·exact .inl q
   ·exact .inr ⟨g,cap,cur,(0,0),q1,Nat.zero_le _,q2,Nat.zero_le _,q3,q4,q5,q6⟩
  ·rcases h2.2 with ⟨rfl,_⟩ | ⟨g,cap,cur,rfl,q1,_⟩
   ·simp [Value.ownBlock] at hk
   ·rw [zbu hk]; exact q1
 ·obtain ⟨v',w',h1,h2,h3,_⟩:=run_append_ownF (P:=P) w 0 t ty e i (.int .u8 0) 1 1 ht hi hz hsize hby rfl (by decide) _ n xs hown ad 1 c [.int .u8 x] rfl hnews h1c h63 (by omega) (Nat.zero_le _)
  refine ⟨v',w',h1,h2,h3,fun k hk=>?_⟩
  by_cases hroom:n+1≤cap
  ·have hr:=run_append_roomF (P:=P) w t ty e i ht hi g n cap cur fz hg (by rw [hsize]; simpa using hfz) ad 1 c [.int .u8 x] (by rw [hsize]; rfl) hnews h1c hroom (by rw [hsize]; simp at hcs ⊢; omega)
   rw [h1] at hr;simp only [Result.ok.injEq] at hr;obtain ⟨rfl,_⟩:=hr;exact .inl (by rw [zbu hk]; rfl)
  ·have hxl:xs.length=n:=by simpa using hown.1
   have hr:=run_append_grow (P:=P) w t ty e i (.int .u8 0) ht hi hz ⟨g,0,none⟩ n cap xs (by rw [hsize]; simpa using hxl) (hown.cells (g:=g) rfl) ad 1 c [.int .u8 x] (by rw [hsize]; rfl) hnews (by omega) (by omega) (by rw [hby]; exact growslice_fits (by omega) (by omega))
   rw [h1] at hr;simp only [Result.ok.injEq] at hr;obtain ⟨rfl,_⟩:=hr;exact .inr (by rw [zbu hk]; exact Nat.le_refl _)
theorem zku {P:Program} {w:World} {ops:Array Oper} {rest:List Oper} {o:Oper} {a:Act} {Q:Exit→Act→World→Prop} (hgd:o.guard=none) (sl x:Operand) (t:TypeId)
  (ho:o.op = .call { callee:=.builtin .append,args:=#[sl,x],argTypes:=#[t,t] })
  (e:TypeId) (i:TypeInfo) (ht:P.underlying t=some (.slice e)) (hi:P.info? e=some i) (hz:i.zero=some (.int .u8 0)) (hsize:i.size=1) (hby:i.bytes=1)
  (v:Value) (n:Nat) (xs:List Value) (hs:a.eval sl=v) (hown:w.ownsRowF 0 e 1 v n xs) (ad:Addr) (c:Nat) (y:Int) (hx:a.eval x = .slice (some ad) 1 c) (hc:w.cell? ad=some (.int .u8 y)) (hbytes:n+1≤140737488355328)
  (h:∀ v' w',w'.ownsRowF 0 e 1 v' (n+1) (xs++[.int .u8 y])→w.grownBy w' v.ownBlock→(∀ k,v'.ownBlock=some k→v.ownBlock=some k∨w.heap.size≤k)→wpList P ops Q rest (a.put o.dst v') w'):wpList P ops Q (o :: rest) a w:=by
 refine wpList_plain hgd fun K hK=>?_
 obtain ⟨v',w',hr,h2,h3,h4⟩:=y47 (P:=P) w t o.type e i ht hi hz hsize hby v n xs hown ad c y hc hbytes;unfold Oper.wp execOp;simp only [ho,resolve,invoke,builtin,Sem.run_bind,Sem.run_pure,Result.andThen_ok,List.map_toArray,List.map_cons,List.map_nil,hs,hx,hr];exact hK _ _ (h v' w' h2 h3 h4)
theorem y8i {w:World} {e:Nat} {v:Value} {bs:List Value} {n k:Nat} (hown:w.ownsRowF 0 e 1 v n bs) (hk:v.ownBlock=some k):k < w.heap.size:=by
 rcases hown.2 with ⟨rfl,_⟩ | ⟨g,cap,cur,fz,rfl,_,hg,_⟩
 ·simp [Value.ownBlock] at hk
 ·rw [zbu hk]
  exact zdx hg
set_option maxHeartbeats 2000000 in
set_option maxRecDepth 100000 in
theorem zq8 (b:Nat) (p v:Value) (bs:List Value) (s:ByteArray) (w:World) (hp:p = .pointer none∨p = .pointer (some ⟨b,0,none⟩)) (hbk:w.heap[b]?=some (.cells #[p,v] 108 (0,0)))
  (hown:w.ownsRowF 0 5 1 v bs.length bs) (hne:v.ownBlock≠some b) (hlen:bs.length+s.size≤140737488355328) :
  Calls Tryz.prog 60 #[.pointer (some ⟨b,0,none⟩),.string s] w fun e w'=>e = .returned (.tuple #[.int .i64 s.size,.nilIface])∧zro b v (bs++Lib.strCells s) w w':=by
 obtain ⟨i0,hi,hz0,hz1,hz2⟩:=info_parts y9u
 go_enter Tryz.func60,Tryz.ntmps60
 go_wp2_with (go_at_call 103; refine (y52 b p v _ hp hbk).mono ?_)
 rintro e w1 ⟨rfl,hb1,hk1,hs1⟩
 have HS:Hid (w1.heap.size=w.heap.size):=hs1;clear hs1;have hown1:w1.ownsRowF 0 5 1 v bs.length bs:=z3y hown (fun k hk=>hk1.block k (y8i hown hk) (fun e=>hne (e ▸ hk)))
 have c0:w1.cell? ⟨b,0,none⟩=some (.pointer (some ⟨b,0,none⟩)):=by rw [Lib.cell_of_heap hb1]; rfl
 have c1:w1.cell? ⟨b,1,none⟩=some v:=by rw [Lib.cell_of_heap hb1]; rfl
 go_wp2_with (at_builtin; refine znf rfl _ _ 69 9 rfl 5 i0 Tryz.underlying69 Tryz.underlying9 hi hz0 hz1 hz2 _ _ _ rfl hown1 s rfl hlen ?_)
 intro v' w2 hown' hgrow hblk;have hlt:b < w1.heap.size:=zdx hb1;have hb2:w2.heap[b]?=some (.cells #[.pointer (some ⟨b,0,none⟩),v] 108 (0,0)):=by
  rw [hgrow.block b hlt (fun e=>hne e.symm)]
  exact hb1
 have d0:w2.cell? ⟨b,0,none⟩=some (.pointer (some ⟨b,0,none⟩)):=by rw [Lib.cell_of_heap hb2]; rfl
 have d1:w2.cell? ⟨b,1,none⟩=some v:=by rw [Lib.cell_of_heap hb2]; rfl
 have f1:w2.frozen? ⟨b,1,none⟩=false:=Lib.frozen_of_heap hb2 1;have hX:Hid (zro b v (bs++Lib.strCells s) w (w2.setCell ⟨b,1,none⟩ v')):=y5x HS hk1 hb2 (by simpa [Lib.strCells_length] using hown') (zzt hgrow) hblk
 clear hblk HS;obtain ⟨ao,n',cap,rfl⟩:∃ ao n' cap,v' = .slice ao n' cap:=by
  rcases hown'.2 with ⟨hv,_⟩ | ⟨g,cap,cur,fz,hv,_⟩
  ·exact ⟨_,_,_,hv⟩
  ·exact ⟨_,_,_,hv⟩
 go_wp2
 go_ret2
 exact ⟨rfl,hX⟩
set_option maxHeartbeats 2000000 in
set_option maxRecDepth 100000 in
theorem zxw (b:Nat) (p v:Value) (bs:List Value) (c:Int) (w:World) (hp:p = .pointer none∨p = .pointer (some ⟨b,0,none⟩)) (hbk:w.heap[b]?=some (.cells #[p,v] 108 (0,0)))
  (hown:w.ownsRowF 0 5 1 v bs.length bs) (hne:v.ownBlock≠some b) (hlen:bs.length+1≤140737488355328) :
  Calls Tryz.prog 97 #[.pointer (some ⟨b,0,none⟩),.int .u8 c] w fun e w'=>e = .returned .nilIface∧zro b v (bs++[.int .u8 c]) w w':=by
 obtain ⟨i0,hi,hz0,hz1,hz2⟩:=info_parts y9u
 go_enter Tryz.func97,Tryz.ntmps97
 go_wp2_with (go_at_call 103; refine (y52 b p v _ hp hbk).mono ?_)
 rintro e w1 ⟨rfl,hb1,hk1,hs1⟩
 have HS:Hid (w1.heap.size=w.heap.size):=hs1;clear hs1;have hown1:w1.ownsRowF 0 5 1 v bs.length bs:=z3y hown (fun k hk=>hk1.block k (y8i hown hk) (fun e=>hne (e ▸ hk)))
 have c0:w1.cell? ⟨b,0,none⟩=some (.pointer (some ⟨b,0,none⟩)):=by rw [Lib.cell_of_heap hb1]; rfl
 have c1:w1.cell? ⟨b,1,none⟩=some v:=by rw [Lib.cell_of_heap hb1]; rfl
 have hlt:b < w1.heap.size:=zdx hb1
 go_wp2_with (at_builtin; refine zku rfl _ _ 69 rfl 5 i0 Tryz.underlying69 hi hz0 hz1 hz2 _ _ _ rfl (hown1.alloc _) ⟨w1.heap.size,0,none⟩ 1 c rfl (by rw [Lib.cell_of_heap (heap_alloc_new w1 _)]; rfl) hlen ?_)
 intro v' w2 hown' hgrow hblk;have hb2:w2.heap[b]?=some (.cells #[.pointer (some ⟨b,0,none⟩),v] 108 (0,0)):=by
  rw [hgrow.block b (by simp; omega) (fun e=>hne e.symm),Lib.alloc_old w1 _ b hlt]
  exact hb1
 have d0:w2.cell? ⟨b,0,none⟩=some (.pointer (some ⟨b,0,none⟩)):=by rw [Lib.cell_of_heap hb2]; rfl
 have d1:w2.cell? ⟨b,1,none⟩=some v:=by rw [Lib.cell_of_heap hb2]; rfl
 have f1:w2.frozen? ⟨b,1,none⟩=false:=Lib.frozen_of_heap hb2 1;have hX:Hid (zro b v (bs++[.int .u8 c]) w (w2.setCell ⟨b,1,none⟩ v')):=y5x HS hk1 hb2 (by simpa using hown') (((Keep.alloc (fun k=>v.ownBlock=some k) w1 _)).trans (zzt hgrow) (fun _ _ h=>h)) (fun k hk=>(hblk k hk).imp_right (fun h=>by first | omega | (simp at h; omega)))
 clear hblk HS;obtain ⟨ao,n',cap,rfl⟩:∃ ao n' cap,v' = .slice ao n' cap:=by
  rcases hown'.2 with ⟨hv,_⟩ | ⟨g,cap,cur,fz,hv,_⟩
  ·exact ⟨_,_,_,hv⟩
  ·exact ⟨_,_,_,hv⟩
 go_wp2
 go_ret
 exact ⟨rfl,hX⟩
def zax (b:Nat) (p v:Value) (n:Nat) (bs:List Value) (w w':World):Prop:=
 w'.heap[b]?=some (.cells #[p,v] 108 (0,0))∧w'.ownsRowF 0 5 1 v n bs∧Keep (fun k=>k=b∨v.ownBlock=some k) w w'
theorem zxp {b g cap:Nat} {p:Value} {bs:List Value} {w:World} (hbk:w.heap[b]?=some (.cells #[p,.slice (some ⟨g,0,none⟩) bs.length cap] 108 (0,0))) (hown:w.ownsRowF 0 5 1 (.slice (some ⟨g,0,none⟩) bs.length cap) bs.length bs) (hne:(Value.slice (some ⟨g,0,none⟩) bs.length cap).ownBlock≠some b) :
  zax b p (.slice (some ⟨g,0,none⟩) bs.length cap) bs.length bs w (w.drew.freeze ⟨g,0,none⟩ bs.length):=by
 have hA:Lib.BuilderAtF 108 5 0 b p bs w.drew:=⟨Nat.zero_le _,_,hbk,hown,hne⟩;have c1:w.drew.cell? ⟨b,1,none⟩=some (.slice (some ⟨g,0,none⟩) bs.length cap):=by
  have:w.drew.heap[b]?=some (.cells #[p,.slice (some ⟨g,0,none⟩) bs.length cap] 108 (0,0)):=hbk
  rw [Lib.cell_of_heap this]; rfl
 obtain ⟨_,v',q1,q2,q3⟩:=hA.froze c1;have hk:Keep (fun k=>k=g) w (w.drew.freeze ⟨g,0,none⟩ bs.length):=(Keep.drew _ w).trans (Keep.freeze (O:=fun k=>k=g) w.drew ⟨g,0,none⟩ _ rfl) (fun _ _ h=>h)
 have hgb:b≠g:=fun e=>hne (by simp [Value.ownBlock,e])
 have hb2:(w.drew.freeze ⟨g,0,none⟩ bs.length).heap[b]?=some (.cells #[p,.slice (some ⟨g,0,none⟩) bs.length cap] 108 (0,0)):=(hk.block b (zdx hbk) hgb).trans hbk;have e:v' = .slice (some ⟨g,0,none⟩) bs.length cap:=by
  rw [hb2] at q1;simp at q1;exact q1.symm
 subst e;exact ⟨hb2,q2,hk.mono (fun k _ h=>.inr (by rw [h]; rfl))⟩
set_option maxHeartbeats 1000000 in
set_option maxRecDepth 100000 in
theorem zsc (b g cap:Nat) (p:Value) (l:List UInt8) (w:World) (h0:l≠[]) (hbk:w.heap[b]?=some (.cells #[p,.slice (some ⟨g,0,none⟩) l.length cap] 108 (0,0)))
  (hown:w.ownsRowF 0 5 1 (.slice (some ⟨g,0,none⟩) l.length cap) l.length (Lib.byteCells l)) (hne:(Value.slice (some ⟨g,0,none⟩) l.length cap).ownBlock≠some b) :
  Calls Tryz.prog 56 #[.pointer (some ⟨b,0,none⟩)] w fun e w'=>e = .returned (.string ⟨l.toArray⟩)∧zax b p (.slice (some ⟨g,0,none⟩) l.length cap) l.length (Lib.byteCells l) w w':=by
 have hl0:l.length≠0:=by simpa using h0
 obtain ⟨cur,fz,hg,hnc,hcm,hcs⟩:∃ cur fz,w.heap[g]?=some (.cells cur 5 fz)∧l.length≤cap∧cap≤maxLen∧cur.size=cap*1:=by
  rcases hown.2 with ⟨hv,_⟩ | ⟨g',cap',cur,fz,hv,_,q1,_,q2,q3,q4,_⟩
  ·cases hv
  ·injection hv with ha _ hc
   injection ha with ha
   injection ha with hgg
   subst hgg; subst hc;exact ⟨cur,fz,q1,q2,q3,q4⟩
 have c1:w.drew.cell? ⟨b,1,none⟩=some (.slice (some ⟨g,0,none⟩) l.length cap):=by
  have:w.drew.heap[b]?=some (.cells #[p,.slice (some ⟨g,0,none⟩) l.length cap] 108 (0,0)):=hbk
  rw [Lib.cell_of_heap this]; rfl
 have hSD:(Builtin.unsafeSliceData_ #[69] 165 #[.slice (some ⟨g,0,none⟩) l.length cap]).run Tryz.prog w.drew = .ok (.pointer (some ⟨g,0,none⟩)) w.drew:=
  Lib.run_unsafeSliceData_row _ _ _ _ _ _ (by omega)
 have hcells:PR.cellsOf 5=1:=by kernel_rfl
 have hUS:(Builtin.unsafeString_ #[165,3] 9 #[.pointer (some ⟨g,0,none⟩),.int .i64 l.length]).run Tryz.prog w.drew = .ok (.string ⟨l.toArray⟩) (w.drew.freeze ⟨g,0,none⟩ l.length):=by
  refine Lib.run_unsafeString_row w.drew 165 3 9 5 Tryz.underlying165 hcells g cur.size (by have hg':w.drew.heap[g]?=some (.cells cur 5 fz):=hg; simp [World.shape?,hg']) l h0 (by omega) (by unfold maxLen at hcm; omega) ?_
  intro j x hx
  have:=hown.cells (g:=g) rfl j (.int .u8 x.toNat) (by simp [Lib.byteCells,hx])
  exact this
 have hP:Hid (zax b p (.slice (some ⟨g,0,none⟩) l.length cap) l.length (Lib.byteCells l) w (w.drew.freeze ⟨g,0,none⟩ l.length)):=by
  have:=zxp (bs:=Lib.byteCells l) (by rw [Lib.byteCells_length]; exact hbk) (by rw [Lib.byteCells_length]; exact hown) (by rw [Lib.byteCells_length]; exact hne)
  rw [Lib.byteCells_length] at this;exact this
 clear hcells hcs hg hnc hcm hl0
 go_enter Tryz.func56,Tryz.ntmps56
 go_wp2
 go_region
 all_goals (go_wp2; go_ret; exact ⟨rfl,hP⟩)
set_option maxHeartbeats 2000000 in
set_option maxRecDepth 100000 in
theorem zt7 (b:Nat) (p:Value) (w:World) (hbk:w.heap[b]?=some (.cells #[p,.slice none 0 0] 108 (0,0))) :
  Calls Tryz.prog 56 #[.pointer (some ⟨b,0,none⟩)] w fun e w'=>e = .returned (.string ⟨#[]⟩)∧zax b p (.slice none 0 0) 0 [] w w':=by
 have hUS:∀ (W:World) (q:Option Addr),(Builtin.unsafeString_ #[165,3] 9 #[.pointer q,.int .i64 0]).run Tryz.prog W = .ok (.string .empty) W:=fun W q=>Lib.run_unsafeString_none W _ _ _ q
 have c1:w.drew.cell? ⟨b,1,none⟩=some (.slice none 0 0):=by
  have:w.drew.heap[b]?=some (.cells #[p,.slice none 0 0] 108 (0,0)):=hbk
  rw [Lib.cell_of_heap this]; rfl
 have hSD:(Builtin.unsafeSliceData_ #[69] 165 #[.slice none 0 0]).run Tryz.prog w.drew = .ok (.pointer none) w.drew:=rfl;have hP:Hid (zax b p (.slice none 0 0) 0 [] w w.drew):=⟨hbk,⟨rfl,.inl ⟨rfl,rfl⟩⟩,Keep.drew _ w⟩
 go_enter Tryz.func56,Tryz.ntmps56
 go_wp2
 go_region
 all_goals (go_wp2; go_ret; exact ⟨rfl,hP⟩)
set_option maxHeartbeats 2000000 in
set_option maxRecDepth 100000 in
theorem znl (b g:Nat) (p:Value) (cur:Array Value) (fz:Nat × Nat) (w:World) (hbk:w.heap[b]?=some (.cells #[p,.slice (some ⟨g,0,none⟩) 0 0] 108 (0,0))) (hg:w.heap[g]?=some (.cells cur 5 fz)) (hown:w.ownsRowF 0 5 1 (.slice (some ⟨g,0,none⟩) 0 0) 0 []) :
  Calls Tryz.prog 56 #[.pointer (some ⟨b,0,none⟩)] w fun e w'=>e = .returned (.string ⟨#[]⟩)∧zax b p (.slice (some ⟨g,0,none⟩) 0 0) 0 [] w w':=by
 have hUS:∀ (W:World) (q:Option Addr),(Builtin.unsafeString_ #[165,3] 9 #[.pointer q,.int .i64 0]).run Tryz.prog W = .ok (.string .empty) W:=fun W q=>Lib.run_unsafeString_none W _ _ _ q
 have hlt:b < w.heap.size:=zdx hbk;have c1:w.drew.cell? ⟨b,1,none⟩=some (.slice (some ⟨g,0,none⟩) 0 0):=by
  have:w.drew.heap[b]?=some (.cells #[p,.slice (some ⟨g,0,none⟩) 0 0] 108 (0,0)):=hbk
  rw [Lib.cell_of_heap this]; rfl
 have hSD:(Builtin.unsafeSliceData_ #[69] 165 #[.slice (some ⟨g,0,none⟩) 0 0]).run Tryz.prog w.drew = .ok (.pointer (some ⟨w.drew.heap.size,0,none⟩)) (w.drew.alloc (.view ⟨g,0,none⟩ 5)):=
  Lib.run_unsafeSliceData_zero w.drew _ _ 5 Tryz.underlying165 ⟨g,0,none⟩ 0 (5,cur.size) (by have hg':w.drew.heap[g]?=some (.cells cur 5 fz):=hg; simp [World.shape?,hg'])
 have c2:(w.drew.alloc (.view ⟨g,0,none⟩ 5)).cell? ⟨b,1,none⟩=some (.slice (some ⟨g,0,none⟩) 0 0):=by
  have:(w.drew.alloc (.view ⟨g,0,none⟩ 5)).heap[b]?=_:=(Lib.alloc_old w.drew _ b hlt).trans hbk
  rw [Lib.cell_of_heap this]; rfl
 have c3:(w.alloc (.view ⟨g,0,none⟩ 5)).drew.cell? ⟨b,1,none⟩=some (.slice (some ⟨g,0,none⟩) 0 0):=c2;have c0:w.cell? ⟨b,1,none⟩=some (.slice (some ⟨g,0,none⟩) 0 0):=c1;have hP:∀ W:World,W.heap=(w.drew.alloc (.view ⟨g,0,none⟩ 5)).heap→W.os=w.os→W.tape=w.tape→W.output=w.output→zax b p (.slice (some ⟨g,0,none⟩) 0 0) 0 [] w W:=by
  intro W h1 h2 h3 h4;have hk:Keep (fun k=>k=b∨(Value.slice (some ⟨g,0,none⟩) 0 0).ownBlock=some k) w W:=by
   have:=Keep.alloc (fun _=>False) w.drew (.view ⟨g,0,none⟩ 5)
   exact ⟨h2,h3,h4,by rw [h1]; exact this.size,fun k hk _=>by rw [h1]; exact this.block k hk (fun h=>h)⟩
  have hblk:∀ k,k < w.heap.size→W.heap[k]?=w.heap[k]?:=fun k hk=>by
   rw [h1]; exact (Keep.alloc (fun _=>False) w.drew (.view ⟨g,0,none⟩ 5)).block k hk (fun h=>h)
  exact ⟨(hblk b hlt).trans hbk,z3y hown (fun k hk=>hblk k (y8i hown hk)),hk⟩
 have hP:Hid (∀ W:World,W.heap=(w.drew.alloc (.view ⟨g,0,none⟩ 5)).heap→W.os=w.os→W.tape=w.tape→W.output=w.output→zax b p (.slice (some ⟨g,0,none⟩) 0 0) 0 [] w W):=hP
 go_enter Tryz.func56,Tryz.ntmps56
 go_wp2
 go_region
 all_goals (go_wp2; go_ret; exact ⟨rfl,hP _ rfl rfl rfl rfl⟩)
set_option maxHeartbeats 2000000 in
set_option maxRecDepth 100000 in
theorem zqs (b g cap:Nat) (p:Value) (w:World) (hc0:cap≠0) (hbk:w.heap[b]?=some (.cells #[p,.slice (some ⟨g,0,none⟩) 0 cap] 108 (0,0))) (hown:w.ownsRowF 0 5 1 (.slice (some ⟨g,0,none⟩) 0 cap) 0 []) :
  Calls Tryz.prog 56 #[.pointer (some ⟨b,0,none⟩)] w fun e w'=>e = .returned (.string ⟨#[]⟩)∧zax b p (.slice (some ⟨g,0,none⟩) 0 cap) 0 [] w w':=by
 have hUS:∀ (W:World) (q:Option Addr),(Builtin.unsafeString_ #[165,3] 9 #[.pointer q,.int .i64 0]).run Tryz.prog W = .ok (.string .empty) W:=fun W q=>Lib.run_unsafeString_none W _ _ _ q
 have c1:w.drew.cell? ⟨b,1,none⟩=some (.slice (some ⟨g,0,none⟩) 0 cap):=by
  have:w.drew.heap[b]?=some (.cells #[p,.slice (some ⟨g,0,none⟩) 0 cap] 108 (0,0)):=hbk
  rw [Lib.cell_of_heap this]; rfl
 have hSD:(Builtin.unsafeSliceData_ #[69] 165 #[.slice (some ⟨g,0,none⟩) 0 cap]).run Tryz.prog w.drew = .ok (.pointer (some ⟨g,0,none⟩)) w.drew:=
  Lib.run_unsafeSliceData_row _ _ _ _ _ _ hc0
 clear hc0;have hP:Hid (zax b p (.slice (some ⟨g,0,none⟩) 0 cap) 0 [] w w.drew):=⟨hbk,hown,Keep.drew _ w⟩
 go_enter Tryz.func56,Tryz.ntmps56
 go_wp2
 go_region
 all_goals (go_wp2; go_ret; exact ⟨rfl,hP⟩)
theorem ztm (s:ByteArray):Lib.strCells s=Lib.byteCells s.data.toList:=by
 simp [Lib.strCells,Lib.byteCells]
theorem y80 (b:Nat) (p v:Value) (s:ByteArray) (w:World) (hbk:w.heap[b]?=some (.cells #[p,v] 108 (0,0))) (hown:w.ownsRowF 0 5 1 v s.size (Lib.strCells s)) (hne:v.ownBlock≠some b) :
  Calls Tryz.prog 56 #[.pointer (some ⟨b,0,none⟩)] w fun e w'=>e = .returned (.string s)∧zax b p v s.size (Lib.strCells s) w w':=by
 obtain ⟨⟨l⟩⟩:=s;rw [ztm] at hown ⊢
 change w.ownsRowF 0 5 1 v l.length (Lib.byteCells l) at hown
 change Calls Tryz.prog 56 #[.pointer (some ⟨b,0,none⟩)] w fun e w'=>e = .returned (.string ⟨l.toArray⟩)∧zax b p v l.length (Lib.byteCells l) w w'
 by_cases h0:l=[]
 ·subst h0
  rcases hown.2 with ⟨rfl,_⟩ | ⟨g,cap,cur,fz,rfl,_,hg,_⟩
  ·exact zt7 b p w hbk
  ·by_cases hc:cap=0
   ·subst hc
    exact znl b g p cur fz w hbk hg hown
   ·exact zqs b g cap p w hc hbk hown
 ·rcases hown.2 with ⟨rfl,hz⟩ | ⟨g,cap,cur,fz,rfl,_⟩
  ·exact absurd (List.eq_nil_of_length_eq_zero hz) h0
  ·exact zsc b g cap p l w h0 hbk hown hne
end Go.FM
namespace Go.Proofs
open Go.Shelf
def Tryz.lays156_ren:Go.Shelf.Ren:=⟨fun | 156=>45 | 165=>87 | 166=>60 | 169=>56 | 240=>103 | 241=>137 | 276=>153 | 277=>179 | n=>n,fun | 31=>66 | 9=>9 | 3=>3 | 4=>4 | 0=>0 | 20=>20 | 72=>108 | 76=>121 | 70=>106 | 37=>69 | 75=>120 | 127=>165 | 164=>211 | 5=>5 | 80=>114 | n=>n,fun | n=>n⟩
theorem Tryz.lays156:Go.Proofs.Lays.n156 Tryz.prog Tryz.lays156_ren:= by constructor <;> first | kernel_rfl | (intro _; kernel_rfl)
theorem Tryz.Builder_Extra_156:Builder.Extra Tryz.prog Tryz.lays156_ren:={
 sizeBuilder:=by kernel_rfl
 liesBuilder:=by kernel_rfl
 t5:=Tryz.underlying5
 a5:=Tryz.isAgg5
 z5:=Tryz.sizeOf5
 v5:=Tryz.zeroValue5
 infoByte:=by kernel_rfl
 cellsByte:=by kernel_rfl
 sizeByte:=by kernel_rfl
 neB5:=by decide }
open Go.RowKit in
theorem Tryz.strings_Join_none (a:Option Addr) (c:Nat) (sep:ByteArray) (w:World) :
 Calls Tryz.prog 45 #[.slice a 0 c,.string sep] w fun e w'=>e = .returned (.string ⟨#[]⟩)∧w'=w:=Any.strings_Join_none Tryz.lays156 Tryz.Builder_Extra_156 a c sep w
open Go.RowKit in
theorem Tryz.strings_Join (bk o c:Nat) (xs:List ByteArray) (sep:ByteArray) (w:World) (hcells:∀ (j:Nat) x,xs[j]?=some x→w.cell? ⟨bk,o+j,none⟩=some (.string x)) (hbk:bk < w.heap.size) (hN:xs.length≤140737488355328) (hcap:xs.length≤c) (hlen:(Lib.join (xs.map (·.data.toList)) sep.data.toList).length≤140737488355328) :
 Calls Tryz.prog 45 #[.slice (some ⟨bk,o,none⟩) xs.length c,.string sep] w fun e w'=>e = .returned (.string ⟨(Lib.join (xs.map (·.data.toList)) sep.data.toList).toArray⟩)∧Below w.heap.size w w':=Any.strings_Join Tryz.lays156 Tryz.Builder_Extra_156 bk o c xs sep w hcells hbk hN hcap hlen
def Tryz.lays162_ren:Go.Shelf.Ren:=⟨fun | 162=>85 | 232=>130 | 227=>131 | 234=>132 | 236=>133 | 228=>174 | 271=>175 | 151=>176 | 120=>208 | 197=>181 | 152=>209 | 260=>210 | 137=>102 | 119=>223 | 224=>212 | 225=>211 | 217=>152 | 266=>191 | n=>n,fun | 9=>9 | 4=>4 | 3=>3 | 5=>5 | 117=>195 | 116=>194 | 0=>0 | 124=>198 | 21=>21 | 105=>231 | 46=>152 | 119=>279 | 139=>282 | 138=>281 | n=>n,fun | 3=>4 | 4=>5 | n=>n⟩
theorem Tryz.lays162:Go.Proofs.Lays.n162 Tryz.prog Tryz.lays162_ren:={
 mixed:=by kernel_rfl
 f119:=Tryz.func223.trans (congrArg some (by kernel_rfl))
 f120:=Tryz.func208.trans (congrArg some (by kernel_rfl))
 f137:=Tryz.func102.trans (congrArg some (by kernel_rfl))
 f151:=Tryz.func176.trans (congrArg some (by kernel_rfl))
 f152:=Tryz.func209.trans (congrArg some (by kernel_rfl))
 f162:=Tryz.func85.trans (congrArg some (by kernel_rfl))
 f197:=Tryz.func181.trans (congrArg some (by kernel_rfl))
 f217:=Tryz.func152.trans (congrArg some (by kernel_rfl))
 f224:=Tryz.func212.trans (congrArg some (by kernel_rfl))
 f225:=Tryz.func211.trans (congrArg some (by kernel_rfl))
 f227:=Tryz.func131.trans (congrArg some (by kernel_rfl))
 f228:=Tryz.func174.trans (congrArg some (by kernel_rfl))
 f232:=Tryz.func130.trans (congrArg some (by kernel_rfl))
 f234:=Tryz.func132.trans (congrArg some (by kernel_rfl))
 f236:=Tryz.func133.trans (congrArg some (by kernel_rfl))
 f260:=Tryz.func210.trans (congrArg some (by kernel_rfl))
 f266:=Tryz.func191.trans (congrArg some (by kernel_rfl))
 f271:=Tryz.func175.trans (congrArg some (by kernel_rfl))
 t0:=Tryz.underlying0
 a0:=Tryz.isAgg0
 z0:=Tryz.sizeOf0
 v0:=Tryz.zeroValue0
 t3:=Tryz.underlying3
 a3:=Tryz.isAgg3
 z3:=Tryz.sizeOf3
 v3:=Tryz.zeroValue3
 t4:=Tryz.underlying4
 a4:=Tryz.isAgg4
 z4:=Tryz.sizeOf4
 v4:=Tryz.zeroValue4
 t5:=Tryz.underlying5
 a5:=Tryz.isAgg5
 z5:=Tryz.sizeOf5
 v5:=Tryz.zeroValue5
 t9:=Tryz.underlying9
 a9:=Tryz.isAgg9
 z9:=Tryz.sizeOf9
 v9:=Tryz.zeroValue9
 t21:=Tryz.underlying21
 a21:=Tryz.isAgg21
 z21:=Tryz.sizeOf21
 v21:=Tryz.zeroValue21
 t46:=Tryz.underlying152
 a46:=Tryz.isAgg152
 z46:=Tryz.sizeOf152
 v46:=Tryz.zeroValue152
 t105:=Tryz.underlying231
 a105:=Tryz.isAgg231
 z105:=Tryz.sizeOf231
 v105:=Tryz.zeroValue231
 t116:=Tryz.underlying194
 a116:=Tryz.isAgg194
 z116:=Tryz.sizeOf194
 t117:=Tryz.underlying195
 a117:=Tryz.isAgg195
 z117:=Tryz.sizeOf195
 v117:=Tryz.zeroValue195
 t119:=Tryz.underlying279
 a119:=Tryz.isAgg279
 z119:=Tryz.sizeOf279
 t124:=Tryz.underlying198
 a124:=Tryz.isAgg198
 z124:=Tryz.sizeOf198
 v124:=Tryz.zeroValue198
 t138:=Tryz.underlying281
 a138:=Tryz.isAgg281
 z138:=Tryz.sizeOf281
 v138:=Tryz.zeroValue281
 t139:=Tryz.underlying282
 a139:=Tryz.isAgg282
 z139:=Tryz.sizeOf282
 v139:=Tryz.zeroValue282
 g3:=by kernel_rfl
 g4:=by kernel_rfl }
open Go.RowKit in
theorem Tryz.strings_TrimRight_one (s:ByteArray) (c:UInt8) (hc:c.toNat < 128) (w:World) (hs:s.size≤9223372036854775807) :
 Calls Tryz.prog 85 #[.string s,.string ⟨#[c]⟩] w fun e w'=>e = .returned (.string ⟨(Lib.trimRightB s.data.toList c).toArray⟩)∧w'=w:=Any.strings_TrimRight_one Tryz.lays162 s c hc w hs
def Tryz.lays137_ren:Go.Shelf.Ren:=⟨fun | 137=>102 | 217=>152 | 266=>191 | n=>n,fun | 9=>9 | 5=>5 | 3=>3 | n=>n,fun | n=>n⟩
theorem Tryz.lays137:Go.Proofs.Lays.n137 Tryz.prog Tryz.lays137_ren:= by constructor <;> first | kernel_rfl | (intro _; kernel_rfl)
open Go.RowKit in
theorem Tryz.strings_IndexByte (s:ByteArray) (c:Int) (w:World) :
 Calls Tryz.prog 102 #[.string s,.int .u8 c] w fun e w'=>e = .returned (.int .i64 (Lib.indexByte s.data.toList c.toNat.toUInt8))∧w'=w:=Any.strings_IndexByte Tryz.lays137 s c w
def Tryz.lays103_ren:Go.Shelf.Ren:=⟨fun | 103=>57 | 210=>101 | 206=>151 | n=>n,fun | 9=>9 | 4=>4 | 24=>115 | 3=>3 | n=>n,fun | n=>n⟩
theorem Tryz.lays103:Go.Proofs.Lays.n103 Tryz.prog Tryz.lays103_ren:= by constructor <;> first | kernel_rfl | (intro _; kernel_rfl)
open Go.RowKit in
theorem Tryz.strings_CutPrefix (s p:ByteArray) (w:World) :
 Calls Tryz.prog 57 #[.string s,.string p] w fun e w'=>e = .returned (.tuple #[.string ⟨(Lib.trimPrefix s.data.toList p.data.toList).toArray⟩,.bool (Lib.hasPrefix s.data.toList p.data.toList)])∧w'=w:=Any.strings_CutPrefix Tryz.lays103 s p w
def Tryz.lays283_ren:Go.Shelf.Ren:=⟨fun | 283=>170 | n=>n,fun | 3=>3 | 9=>9 | 4=>4 | n=>n,fun | n=>n⟩
theorem Tryz.lays283:Go.Proofs.Lays.n283 Tryz.prog Tryz.lays283_ren:= by constructor <;> first | kernel_rfl | (intro _; kernel_rfl)
open Go.Lib in
theorem Tryz.internal_strconv_small (i:Nat) (h:i < 100) (w:World) :
 Calls Tryz.prog 170 #[.int .i64 i] w fun e w'=>e = .returned (.string ⟨(Lib.decDigits i).toArray⟩)∧w'=w:=Any.internal_strconv_small Tryz.lays283 i h w
def Tryz.laysM284_ren:Go.Shelf.Ren:=⟨fun | 284=>171 | 129=>204 | 317=>203 | 318=>205 | n=>n,fun | 53=>103 | 3=>3 | 212=>262 | 0=>0 | 4=>4 | 46=>152 | 5=>5 | 9=>9 | n=>n,fun | 17=>0 | n=>n⟩
theorem Tryz.laysM284:Go.Proofs.LaysM.n284 Tryz.prog Tryz.laysM284_ren:={
 mixed:=by kernel_rfl
 f129:=Tryz.func204.trans (congrArg some (by kernel_rfl))
 f284:=Tryz.func171.trans (congrArg some (by kernel_rfl))
 f317:=Tryz.func203.trans (congrArg some (by kernel_rfl))
 f318:=Tryz.func205.trans (congrArg some (by kernel_rfl))
 t0:=Tryz.underlying0
 a0:=Tryz.isAgg0
 z0:=Tryz.sizeOf0
 v0:=Tryz.zeroValue0
 t3:=Tryz.underlying3
 a3:=Tryz.isAgg3
 z3:=Tryz.sizeOf3
 v3:=Tryz.zeroValue3
 t4:=Tryz.underlying4
 a4:=Tryz.isAgg4
 z4:=Tryz.sizeOf4
 v4:=Tryz.zeroValue4
 t5:=Tryz.underlying5
 a5:=Tryz.isAgg5
 z5:=Tryz.sizeOf5
 v5:=Tryz.zeroValue5
 t9:=Tryz.underlying9
 a9:=Tryz.isAgg9
 z9:=Tryz.sizeOf9
 v9:=Tryz.zeroValue9
 t46:=Tryz.underlying152
 a46:=Tryz.isAgg152
 z46:=Tryz.sizeOf152
 v46:=Tryz.zeroValue152
 t53:=Tryz.underlying103
 a53:=Tryz.isAgg103
 z53:=Tryz.sizeOf103
 v53:=Tryz.zeroValue103
 t212:=Tryz.underlying262
 a212:=Tryz.isAgg262
 z212:=Tryz.sizeOf262
 v212:=Tryz.zeroValue262
 g17:=by kernel_rfl
 i0:=by kernel_rfl
 i3:=by kernel_rfl
 i4:=by kernel_rfl
 i5:=by kernel_rfl
 i9:=by kernel_rfl
 i46:=by kernel_rfl
 i53:=by kernel_rfl
 i212:=by kernel_rfl
 m17:=by kernel_rfl }
open Go.Lib in
theorem Tryz.internal_strconv_numDigits (u:Nat) (h1:1≤u) (h2:u < 18446744073709551616) (w:World) (htab:Lib.TabIs Tryz.prog w "internal/strconv.uint64pow10" .u64 Lib.pow10Tab) :
 Calls Tryz.prog 171 #[.int .u64 u] w fun e w'=>e = .returned (.int .i64 (Lib.nDigits u))∧w'=w:=Any.internal_strconv_numDigits Tryz.laysM284 u h1 h2 w htab
def Tryz.lays285_ren:Go.Shelf.Ren:=⟨fun | 285=>172 | n=>n,fun | 37=>69 | 53=>103 | 3=>3 | 4=>4 | 51=>234 | 9=>9 | 5=>5 | 0=>0 | n=>n,fun | n=>n⟩
theorem Tryz.lays285:Go.Proofs.Lays.n285 Tryz.prog Tryz.lays285_ren:= by constructor <;> first | kernel_rfl | (intro _; kernel_rfl)
open Go.RowKit Go.Sort Go.Lib in
theorem Tryz.internal_strconv_formatBase10 (blk off cap:Nat) (u:Nat) (d:Array UInt8) (w:World) (hH:Holds (fun (b:UInt8)=>Value.int .u8 (b.toNat:Int)) w blk off d) (hu:u < 10 ^ d.size) (hu64:u < 18446744073709551616) (hsz:d.size < 4611686018427387904) :
 Calls Tryz.prog 172 #[.slice (some ⟨blk,off,none⟩) d.size cap,.int .u64 u] w fun e w'=>
  e = .returned (.tuple #[])∧∃ (n v':Nat) (dk:Array UInt8),w'=(putRow (fun (b:UInt8)=>Value.int .u8 (b.toNat:Int)) w blk off dk).drewN n∧FmtInv d.size u 0 v' dk:=Any.internal_strconv_formatBase10 Tryz.lays285 blk off cap u d w hH hu hu64 hsz
def Tryz.laysM171_ren:Go.Shelf.Ren:=⟨fun | 171=>43 | 243=>82 | 246=>128 | 283=>170 | 284=>171 | 285=>172 | 286=>173 | 129=>204 | 317=>203 | 318=>205 | 319=>206 | 320=>207 | 337=>221 | 338=>222 | n=>n,fun | 3=>3 | 9=>9 | 2=>2 | 4=>4 | 171=>225 | 0=>0 | 53=>103 | 37=>69 | 5=>5 | 173=>228 | 212=>262 | 51=>234 | 20=>20 | 213=>263 | 46=>152 | 232=>296 | 233=>297 | n=>n,fun | 17=>0 | 18=>6 | 19=>7 | n=>n⟩
theorem Tryz.laysM171:Go.Proofs.LaysM.n171 Tryz.prog Tryz.laysM171_ren:={
 mixed:=by kernel_rfl
 f129:=Tryz.func204.trans (congrArg some (by kernel_rfl))
 f171:=Tryz.func43.trans (congrArg some (by kernel_rfl))
 f243:=Tryz.func82.trans (congrArg some (by kernel_rfl))
 f246:=Tryz.func128.trans (congrArg some (by kernel_rfl))
 f283:=Tryz.func170.trans (congrArg some (by kernel_rfl))
 f284:=Tryz.func171.trans (congrArg some (by kernel_rfl))
 f285:=Tryz.func172.trans (congrArg some (by kernel_rfl))
 f286:=Tryz.func173.trans (congrArg some (by kernel_rfl))
 f317:=Tryz.func203.trans (congrArg some (by kernel_rfl))
 f318:=Tryz.func205.trans (congrArg some (by kernel_rfl))
 f319:=Tryz.func206.trans (congrArg some (by kernel_rfl))
 f320:=Tryz.func207.trans (congrArg some (by kernel_rfl))
 f337:=Tryz.func221.trans (congrArg some (by kernel_rfl))
 f338:=Tryz.func222.trans (congrArg some (by kernel_rfl))
 t0:=Tryz.underlying0
 a0:=Tryz.isAgg0
 z0:=Tryz.sizeOf0
 v0:=Tryz.zeroValue0
 t2:=Tryz.underlying2
 a2:=Tryz.isAgg2
 z2:=Tryz.sizeOf2
 v2:=Tryz.zeroValue2
 t3:=Tryz.underlying3
 a3:=Tryz.isAgg3
 z3:=Tryz.sizeOf3
 v3:=Tryz.zeroValue3
 t4:=Tryz.underlying4
 a4:=Tryz.isAgg4
 z4:=Tryz.sizeOf4
 v4:=Tryz.zeroValue4
 t5:=Tryz.underlying5
 a5:=Tryz.isAgg5
 z5:=Tryz.sizeOf5
 v5:=Tryz.zeroValue5
 t9:=Tryz.underlying9
 a9:=Tryz.isAgg9
 z9:=Tryz.sizeOf9
 v9:=Tryz.zeroValue9
 t20:=Tryz.underlying20
 a20:=Tryz.isAgg20
 z20:=Tryz.sizeOf20
 v20:=Tryz.zeroValue20
 t37:=Tryz.underlying69
 a37:=Tryz.isAgg69
 z37:=Tryz.sizeOf69
 v37:=Tryz.zeroValue69
 t46:=Tryz.underlying152
 a46:=Tryz.isAgg152
 z46:=Tryz.sizeOf152
 v46:=Tryz.zeroValue152
 t51:=Tryz.underlying234
 a51:=Tryz.isAgg234
 z51:=Tryz.sizeOf234
 v51:=Tryz.zeroValue234
 t53:=Tryz.underlying103
 a53:=Tryz.isAgg103
 z53:=Tryz.sizeOf103
 v53:=Tryz.zeroValue103
 t171:=Tryz.underlying225
 a171:=Tryz.isAgg225
 z171:=Tryz.sizeOf225
 v171:=Tryz.zeroValue225
 t173:=Tryz.underlying228
 a173:=Tryz.isAgg228
 z173:=Tryz.sizeOf228
 v173:=Tryz.zeroValue228
 t212:=Tryz.underlying262
 a212:=Tryz.isAgg262
 z212:=Tryz.sizeOf262
 v212:=Tryz.zeroValue262
 t213:=Tryz.underlying263
 a213:=Tryz.isAgg263
 z213:=Tryz.sizeOf263
 t232:=Tryz.underlying296
 a232:=Tryz.isAgg296
 z232:=Tryz.sizeOf296
 v232:=Tryz.zeroValue296
 t233:=Tryz.underlying297
 a233:=Tryz.isAgg297
 z233:=Tryz.sizeOf297
 v233:=Tryz.zeroValue297
 g17:=by kernel_rfl
 g18:=by kernel_rfl
 g19:=by kernel_rfl
 i0:=by kernel_rfl
 i2:=by kernel_rfl
 i3:=by kernel_rfl
 i4:=by kernel_rfl
 i5:=by kernel_rfl
 i9:=by kernel_rfl
 i20:=by kernel_rfl
 i37:=by kernel_rfl
 i46:=by kernel_rfl
 i51:=by kernel_rfl
 i53:=by kernel_rfl
 i171:=by kernel_rfl
 i173:=by kernel_rfl
 i212:=by kernel_rfl
 i232:=by kernel_rfl
 i233:=by kernel_rfl
 m17:=by kernel_rfl
 m18:=by kernel_rfl
 m19:=by kernel_rfl }
open Go.RowKit Go.Sort Go.Lib in
theorem Tryz.strconv_Itoa (n:Int) (h0 : -9223372036854775808≤n) (h1:n≤9223372036854775807) (w:World) (htab:Lib.TabIs Tryz.prog w "internal/strconv.uint64pow10" .u64 Lib.pow10Tab) :
 Calls Tryz.prog 43 #[.int .i64 n] w fun e w'=>e = .returned (.string ⟨(Lib.itoa n).toArray⟩)∧∃ k os,w'=grow (w.drewN k) os:=Any.strconv_Itoa Tryz.laysM171 n h0 h1 w htab
def Tryz.laysC172_ren:Go.Shelf.Ren:=⟨fun | 172=>90 | 244=>142 | 245=>143 | 247=>184 | 279=>185 | 280=>186 | 281=>187 | 282=>188 | 287=>214 | 316=>215 | 171=>43 | 205=>216 | 321=>225 | 322=>226 | 243=>82 | 246=>128 | 283=>170 | 284=>171 | 285=>172 | 286=>173 | 129=>204 | 317=>203 | 318=>205 | 319=>206 | 320=>207 | 337=>221 | 338=>222 | n=>n,fun | 9=>9 | 3=>3 | 75=>120 | 76=>121 | 4=>4 | 5=>5 | 167=>240 | 37=>69 | 0=>0 | 85=>241 | 2=>2 | 168=>243 | 53=>103 | 175=>246 | 46=>152 | 210=>268 | 127=>165 | 145=>288 | 143=>286 | 21=>21 | 171=>225 | 173=>228 | 212=>262 | 51=>234 | 20=>20 | 213=>263 | 232=>296 | 233=>297 | 80=>114 | n=>n,fun | 15=>2 | 16=>3 | 17=>0 | 18=>6 | 19=>7 | n=>n⟩
theorem Tryz.laysC172:Go.Proofs.LaysC.n172 Tryz.prog Tryz.laysC172_ren:={
 mixed:=by kernel_rfl
 f129:=Tryz.func204.trans (congrArg some (by kernel_rfl))
 f171:=Tryz.func43.trans (congrArg some (by kernel_rfl))
 f172:=Tryz.func90.trans (congrArg some (by kernel_rfl))
 f205:=Tryz.func216.trans (congrArg some (by kernel_rfl))
 f243:=Tryz.func82.trans (congrArg some (by kernel_rfl))
 f244:=Tryz.func142.trans (congrArg some (by kernel_rfl))
 f245:=Tryz.func143.trans (congrArg some (by kernel_rfl))
 f246:=Tryz.func128.trans (congrArg some (by kernel_rfl))
 f247:=Tryz.func184.trans (congrArg some (by kernel_rfl))
 f279:=Tryz.func185.trans (congrArg some (by kernel_rfl))
 f280:=Tryz.func186.trans (congrArg some (by kernel_rfl))
 f281:=Tryz.func187.trans (congrArg some (by kernel_rfl))
 f282:=Tryz.func188.trans (congrArg some (by kernel_rfl))
 f283:=Tryz.func170.trans (congrArg some (by kernel_rfl))
 f284:=Tryz.func171.trans (congrArg some (by kernel_rfl))
 f285:=Tryz.func172.trans (congrArg some (by kernel_rfl))
 f286:=Tryz.func173.trans (congrArg some (by kernel_rfl))
 f287:=Tryz.func214.trans (congrArg some (by kernel_rfl))
 f316:=Tryz.func215.trans (congrArg some (by kernel_rfl))
 f317:=Tryz.func203.trans (congrArg some (by kernel_rfl))
 f318:=Tryz.func205.trans (congrArg some (by kernel_rfl))
 f319:=Tryz.func206.trans (congrArg some (by kernel_rfl))
 f320:=Tryz.func207.trans (congrArg some (by kernel_rfl))
 f321:=Tryz.func225.trans (congrArg some (by kernel_rfl))
 f322:=Tryz.func226.trans (congrArg some (by kernel_rfl))
 f337:=Tryz.func221.trans (congrArg some (by kernel_rfl))
 f338:=Tryz.func222.trans (congrArg some (by kernel_rfl))
 t0:=Tryz.underlying0
 a0:=Tryz.isAgg0
 z0:=Tryz.sizeOf0
 v0:=Tryz.zeroValue0
 t2:=Tryz.underlying2
 a2:=Tryz.isAgg2
 z2:=Tryz.sizeOf2
 v2:=Tryz.zeroValue2
 t3:=Tryz.underlying3
 a3:=Tryz.isAgg3
 z3:=Tryz.sizeOf3
 v3:=Tryz.zeroValue3
 t4:=Tryz.underlying4
 a4:=Tryz.isAgg4
 z4:=Tryz.sizeOf4
 v4:=Tryz.zeroValue4
 t5:=Tryz.underlying5
 a5:=Tryz.isAgg5
 z5:=Tryz.sizeOf5
 v5:=Tryz.zeroValue5
 t9:=Tryz.underlying9
 a9:=Tryz.isAgg9
 z9:=Tryz.sizeOf9
 v9:=Tryz.zeroValue9
 t20:=Tryz.underlying20
 a20:=Tryz.isAgg20
 z20:=Tryz.sizeOf20
 v20:=Tryz.zeroValue20
 t21:=Tryz.underlying21
 a21:=Tryz.isAgg21
 z21:=Tryz.sizeOf21
 v21:=Tryz.zeroValue21
 t37:=Tryz.underlying69
 a37:=Tryz.isAgg69
 z37:=Tryz.sizeOf69
 v37:=Tryz.zeroValue69
 t46:=Tryz.underlying152
 a46:=Tryz.isAgg152
 z46:=Tryz.sizeOf152
 v46:=Tryz.zeroValue152
 t51:=Tryz.underlying234
 a51:=Tryz.isAgg234
 z51:=Tryz.sizeOf234
 v51:=Tryz.zeroValue234
 t53:=Tryz.underlying103
 a53:=Tryz.isAgg103
 z53:=Tryz.sizeOf103
 v53:=Tryz.zeroValue103
 t75:=Tryz.underlying120
 a75:=Tryz.isAgg120
 z75:=Tryz.sizeOf120
 v75:=Tryz.zeroValue120
 t76:=Tryz.underlying121
 a76:=Tryz.isAgg121
 z76:=Tryz.sizeOf121
 v76:=Tryz.zeroValue121
 t85:=Tryz.underlying241
 a85:=Tryz.isAgg241
 z85:=Tryz.sizeOf241
 v85:=Tryz.zeroValue241
 t127:=Tryz.underlying165
 a127:=Tryz.isAgg165
 z127:=Tryz.sizeOf165
 v127:=Tryz.zeroValue165
 t143:=Tryz.underlying286
 a143:=Tryz.isAgg286
 z143:=Tryz.sizeOf286
 v143:=Tryz.zeroValue286
 t145:=Tryz.underlying288
 a145:=Tryz.isAgg288
 z145:=Tryz.sizeOf288
 v145:=Tryz.zeroValue288
 t167:=Tryz.underlying240
 a167:=Tryz.isAgg240
 z167:=Tryz.sizeOf240
 v167:=Tryz.zeroValue240
 t168:=Tryz.underlying243
 a168:=Tryz.isAgg243
 z168:=Tryz.sizeOf243
 v168:=Tryz.zeroValue243
 t171:=Tryz.underlying225
 a171:=Tryz.isAgg225
 z171:=Tryz.sizeOf225
 v171:=Tryz.zeroValue225
 t173:=Tryz.underlying228
 a173:=Tryz.isAgg228
 z173:=Tryz.sizeOf228
 v173:=Tryz.zeroValue228
 t175:=Tryz.underlying246
 a175:=Tryz.isAgg246
 z175:=Tryz.sizeOf246
 v175:=Tryz.zeroValue246
 t210:=Tryz.underlying268
 a210:=Tryz.isAgg268
 z210:=Tryz.sizeOf268
 v210:=Tryz.zeroValue268
 t212:=Tryz.underlying262
 a212:=Tryz.isAgg262
 z212:=Tryz.sizeOf262
 v212:=Tryz.zeroValue262
 t213:=Tryz.underlying263
 a213:=Tryz.isAgg263
 z213:=Tryz.sizeOf263
 t232:=Tryz.underlying296
 a232:=Tryz.isAgg296
 z232:=Tryz.sizeOf296
 v232:=Tryz.zeroValue296
 t233:=Tryz.underlying297
 a233:=Tryz.isAgg297
 z233:=Tryz.sizeOf297
 v233:=Tryz.zeroValue297
 g15:=by kernel_rfl
 g16:=by kernel_rfl
 g17:=by kernel_rfl
 g18:=by kernel_rfl
 g19:=by kernel_rfl
 t80:=Tryz.underlying114
 a80:=Tryz.isAgg114
 z80:=Tryz.sizeOf114
 v80:=Tryz.zeroValue114
 i0:=by kernel_rfl
 i2:=by kernel_rfl
 i3:=by kernel_rfl
 i4:=by kernel_rfl
 i5:=by kernel_rfl
 i9:=by kernel_rfl
 i20:=by kernel_rfl
 i21:=by kernel_rfl
 i37:=by kernel_rfl
 i46:=by kernel_rfl
 i51:=by kernel_rfl
 i53:=by kernel_rfl
 i75:=by kernel_rfl
 i76:=by kernel_rfl
 i80:=by kernel_rfl
 i85:=by kernel_rfl
 i127:=by kernel_rfl
 i143:=by kernel_rfl
 i145:=by kernel_rfl
 i167:=by kernel_rfl
 i168:=by kernel_rfl
 i171:=by kernel_rfl
 i173:=by kernel_rfl
 i175:=by kernel_rfl
 i210:=by kernel_rfl
 i212:=by kernel_rfl
 i232:=by kernel_rfl
 i233:=by kernel_rfl
 m15:=by kernel_rfl
 m16:=by kernel_rfl
 m17:=by kernel_rfl
 m18:=by kernel_rfl
 m19:=by kernel_rfl
 c0:=by kernel_rfl
 c2:=by kernel_rfl
 c3:=by kernel_rfl
 c4:=by kernel_rfl
 c5:=by kernel_rfl
 c9:=by kernel_rfl
 c20:=by kernel_rfl
 c21:=by kernel_rfl
 c37:=by kernel_rfl
 c46:=by kernel_rfl
 c51:=by kernel_rfl
 c53:=by kernel_rfl
 c75:=by kernel_rfl
 c76:=by kernel_rfl
 c80:=by kernel_rfl
 c85:=by kernel_rfl
 c127:=by kernel_rfl
 c143:=by kernel_rfl
 c145:=by kernel_rfl
 c167:=by kernel_rfl
 c168:=by kernel_rfl
 c171:=by kernel_rfl
 c173:=by kernel_rfl
 c175:=by kernel_rfl
 c210:=by kernel_rfl
 c212:=by kernel_rfl
 c213:=by kernel_rfl
 c232:=by kernel_rfl
 c233:=by kernel_rfl }
open Go.RowKit in
theorem Tryz.strconv_Atoi_ok (s:ByteArray) (hmax:s.size≤9223372036854775806) (v:Int) (h:Lib.atoiAll s.data.toList = .ok v) (w:World) :
 Calls Tryz.prog 90 #[.string s] w fun e w'=>e = .returned (.tuple #[.int .i64 v,.nilIface])∧(w'=w∨∃ t,w'=Lib.bytesWorld w 5 t):=Any.strconv_Atoi_ok Tryz.laysC172 s hmax v h w
open Go.RowKit in
theorem Tryz.strconv_Atoi_syntax (s:ByteArray) (hlim:s.size≤281474976710656) (h:Lib.atoiAll s.data.toList=Lib.NumEnd.syntax) (ev:Value) (w:World) (hv:w.cell? ⟨2,0,none⟩=some ev) (hev:ev = .nilIface∨∃ te pe,ev = .iface te pe) :
 Calls Tryz.prog 90 #[.string s] w fun e w'=>∃ N,e = .returned (.tuple #[.int .i64 (0),.iface 243 (.pointer (some ⟨N,0,none⟩))])∧w.heap.size≤N∧w'.heap[N]?=some (.cells #[.string ⟨#[65,116,111,105]⟩,.string s,ev] 268 (0,0))∧Below w.heap.size w w':=Any.strconv_Atoi_syntax Tryz.laysC172 s hlim h ev w hv hev
open Go.RowKit in
theorem Tryz.strconv_Atoi_range (s:ByteArray) (hlim:s.size≤281474976710656) (h:Lib.atoiAll s.data.toList = .range) (ev:Value) (w:World) (hv:w.cell? ⟨3,0,none⟩=some ev) (hev:ev = .nilIface∨∃ te pe,ev = .iface te pe) :
 Calls Tryz.prog 90 #[.string s] w fun e w'=>∃ N,e = .returned (.tuple #[.int .i64 (Lib.atoiSat s.data.toList),.iface 243 (.pointer (some ⟨N,0,none⟩))])∧w.heap.size≤N∧w'.heap[N]?=some (.cells #[.string ⟨#[65,116,111,105]⟩,.string s,ev] 268 (0,0))∧Below w.heap.size w w':=Any.strconv_Atoi_range Tryz.laysC172 s hlim h ev w hv hev
def Tryz.laysPu14_ren:Go.Shelf.Ren:=⟨fun | 14=>189 | 16=>214 | 17=>143 | 19=>225 | 20=>226 | 21=>185 | 22=>186 | 23=>187 | 24=>188 | 25=>215 | 27=>43 | 26=>216 | 28=>82 | 29=>128 | 30=>170 | 31=>171 | 32=>172 | 33=>173 | 35=>204 | 34=>203 | 36=>205 | 37=>206 | 38=>207 | 39=>221 | 40=>222 | n=>n,fun | 9=>9 | 3=>3 | 22=>103 | 24=>120 | 25=>246 | 4=>4 | 34=>240 | 5=>5 | 36=>152 | 37=>69 | 0=>0 | 39=>243 | 21=>21 | 44=>268 | 47=>165 | 50=>288 | 48=>286 | 2=>2 | 52=>225 | 55=>228 | 59=>262 | 60=>234 | 20=>20 | 61=>263 | 65=>296 | 66=>297 | 67=>114 | n=>n,fun | 0=>2 | 1=>3 | 2=>0 | 3=>6 | 4=>7 | n=>n⟩
theorem Tryz.laysPu14:Go.Proofs.LaysPu.n14 Tryz.prog Tryz.laysPu14_ren:={
 mixed:=by kernel_rfl
 f14:=Tryz.func189.trans (congrArg some (by kernel_rfl))
 f16:=Tryz.func214.trans (congrArg some (by kernel_rfl))
 f17:=Tryz.func143.trans (congrArg some (by kernel_rfl))
 f19:=Tryz.func225.trans (congrArg some (by kernel_rfl))
 f20:=Tryz.func226.trans (congrArg some (by kernel_rfl))
 f21:=Tryz.func185.trans (congrArg some (by kernel_rfl))
 f22:=Tryz.func186.trans (congrArg some (by kernel_rfl))
 f23:=Tryz.func187.trans (congrArg some (by kernel_rfl))
 f24:=Tryz.func188.trans (congrArg some (by kernel_rfl))
 f25:=Tryz.func215.trans (congrArg some (by kernel_rfl))
 f26:=Tryz.func216.trans (congrArg some (by kernel_rfl))
 f27:=Tryz.func43.trans (congrArg some (by kernel_rfl))
 f28:=Tryz.func82.trans (congrArg some (by kernel_rfl))
 f29:=Tryz.func128.trans (congrArg some (by kernel_rfl))
 f30:=Tryz.func170.trans (congrArg some (by kernel_rfl))
 f31:=Tryz.func171.trans (congrArg some (by kernel_rfl))
 f32:=Tryz.func172.trans (congrArg some (by kernel_rfl))
 f33:=Tryz.func173.trans (congrArg some (by kernel_rfl))
 f34:=Tryz.func203.trans (congrArg some (by kernel_rfl))
 f35:=Tryz.func204.trans (congrArg some (by kernel_rfl))
 f36:=Tryz.func205.trans (congrArg some (by kernel_rfl))
 f37:=Tryz.func206.trans (congrArg some (by kernel_rfl))
 f38:=Tryz.func207.trans (congrArg some (by kernel_rfl))
 f39:=Tryz.func221.trans (congrArg some (by kernel_rfl))
 f40:=Tryz.func222.trans (congrArg some (by kernel_rfl))
 t0:=Tryz.underlying0
 a0:=Tryz.isAgg0
 z0:=Tryz.sizeOf0
 v0:=Tryz.zeroValue0
 i0:=by kernel_rfl
 t2:=Tryz.underlying2
 a2:=Tryz.isAgg2
 z2:=Tryz.sizeOf2
 v2:=Tryz.zeroValue2
 i2:=by kernel_rfl
 t3:=Tryz.underlying3
 a3:=Tryz.isAgg3
 z3:=Tryz.sizeOf3
 v3:=Tryz.zeroValue3
 i3:=by kernel_rfl
 t4:=Tryz.underlying4
 a4:=Tryz.isAgg4
 z4:=Tryz.sizeOf4
 v4:=Tryz.zeroValue4
 i4:=by kernel_rfl
 t5:=Tryz.underlying5
 a5:=Tryz.isAgg5
 z5:=Tryz.sizeOf5
 v5:=Tryz.zeroValue5
 i5:=by kernel_rfl
 t9:=Tryz.underlying9
 a9:=Tryz.isAgg9
 z9:=Tryz.sizeOf9
 v9:=Tryz.zeroValue9
 i9:=by kernel_rfl
 t20:=Tryz.underlying20
 a20:=Tryz.isAgg20
 z20:=Tryz.sizeOf20
 v20:=Tryz.zeroValue20
 i20:=by kernel_rfl
 t21:=Tryz.underlying21
 a21:=Tryz.isAgg21
 z21:=Tryz.sizeOf21
 v21:=Tryz.zeroValue21
 i21:=by kernel_rfl
 t22:=Tryz.underlying103
 a22:=Tryz.isAgg103
 z22:=Tryz.sizeOf103
 v22:=Tryz.zeroValue103
 i22:=by kernel_rfl
 t24:=Tryz.underlying120
 a24:=Tryz.isAgg120
 z24:=Tryz.sizeOf120
 v24:=Tryz.zeroValue120
 i24:=by kernel_rfl
 t25:=Tryz.underlying246
 a25:=Tryz.isAgg246
 z25:=Tryz.sizeOf246
 v25:=Tryz.zeroValue246
 i25:=by kernel_rfl
 t34:=Tryz.underlying240
 a34:=Tryz.isAgg240
 z34:=Tryz.sizeOf240
 v34:=Tryz.zeroValue240
 i34:=by kernel_rfl
 c34:=by kernel_rfl
 t36:=Tryz.underlying152
 a36:=Tryz.isAgg152
 z36:=Tryz.sizeOf152
 v36:=Tryz.zeroValue152
 i36:=by kernel_rfl
 t37:=Tryz.underlying69
 a37:=Tryz.isAgg69
 z37:=Tryz.sizeOf69
 v37:=Tryz.zeroValue69
 i37:=by kernel_rfl
 t39:=Tryz.underlying243
 a39:=Tryz.isAgg243
 z39:=Tryz.sizeOf243
 v39:=Tryz.zeroValue243
 i39:=by kernel_rfl
 t44:=Tryz.underlying268
 a44:=Tryz.isAgg268
 z44:=Tryz.sizeOf268
 v44:=Tryz.zeroValue268
 i44:=by kernel_rfl
 t47:=Tryz.underlying165
 a47:=Tryz.isAgg165
 z47:=Tryz.sizeOf165
 v47:=Tryz.zeroValue165
 i47:=by kernel_rfl
 t48:=Tryz.underlying286
 a48:=Tryz.isAgg286
 z48:=Tryz.sizeOf286
 v48:=Tryz.zeroValue286
 i48:=by kernel_rfl
 t50:=Tryz.underlying288
 a50:=Tryz.isAgg288
 z50:=Tryz.sizeOf288
 v50:=Tryz.zeroValue288
 i50:=by kernel_rfl
 t52:=Tryz.underlying225
 a52:=Tryz.isAgg225
 z52:=Tryz.sizeOf225
 v52:=Tryz.zeroValue225
 i52:=by kernel_rfl
 t55:=Tryz.underlying228
 a55:=Tryz.isAgg228
 z55:=Tryz.sizeOf228
 v55:=Tryz.zeroValue228
 i55:=by kernel_rfl
 t59:=Tryz.underlying262
 a59:=Tryz.isAgg262
 z59:=Tryz.sizeOf262
 v59:=Tryz.zeroValue262
 i59:=by kernel_rfl
 t60:=Tryz.underlying234
 a60:=Tryz.isAgg234
 z60:=Tryz.sizeOf234
 v60:=Tryz.zeroValue234
 i60:=by kernel_rfl
 t61:=Tryz.underlying263
 a61:=Tryz.isAgg263
 z61:=Tryz.sizeOf263
 t65:=Tryz.underlying296
 a65:=Tryz.isAgg296
 z65:=Tryz.sizeOf296
 v65:=Tryz.zeroValue296
 i65:=by kernel_rfl
 t66:=Tryz.underlying297
 a66:=Tryz.isAgg297
 z66:=Tryz.sizeOf297
 v66:=Tryz.zeroValue297
 i66:=by kernel_rfl
 t67:=Tryz.underlying114
 a67:=Tryz.isAgg114
 z67:=Tryz.sizeOf114
 v67:=Tryz.zeroValue114
 i67:=by kernel_rfl
 g0:=by kernel_rfl
 m0:=by kernel_rfl
 g1:=by kernel_rfl
 m1:=by kernel_rfl
 g2:=by kernel_rfl
 m2:=by kernel_rfl
 g3:=by kernel_rfl
 m3:=by kernel_rfl
 g4:=by kernel_rfl
 m4:=by kernel_rfl }
open Go.RowKit in
theorem Tryz.strconv_ParseUint_10_at64_ok (s:ByteArray) (hmax:s.size≤9223372036854775806) (u:Nat) (h:Lib.parseUintB 64 s.data.toList = .ok u) (w:World) :
 Calls Tryz.prog 189 #[.string s,.int .i64 10,.int .i64 64] w fun e w'=>e = .returned (.tuple #[.int .u64 u,.nilIface])∧(w'=w∨w'=Lib.bytesWorld w 5 s):=Any.strconv_ParseUint_10_at64_ok Tryz.laysPu14 s hmax u h w
open Go.RowKit in
theorem Tryz.strconv_ParseUint_10_at64_syntax (s:ByteArray) (hlim:s.size≤281474976710656) (h:Lib.parseUintB 64 s.data.toList=Lib.NumEnd.syntax) (ev:Value) (w:World) (hv:w.cell? ⟨2,0,none⟩=some ev) (hev:ev = .nilIface∨∃ te pe,ev = .iface te pe) :
 Calls Tryz.prog 189 #[.string s,.int .i64 10,.int .i64 64] w fun e w'=>∃ N,e = .returned (.tuple #[.int .u64 0,.iface 243 (.pointer (some ⟨N,0,none⟩))])∧w.heap.size≤N∧w'.heap[N]?=some (.cells #[.string ⟨#[80,97,114,115,101,85,105,110,116]⟩,.string s,ev] 268 (0,0))∧Below w.heap.size w w':=Any.strconv_ParseUint_10_at64_syntax Tryz.laysPu14 s hlim h ev w hv hev
open Go.RowKit in
theorem Tryz.strconv_ParseUint_10_at64_range (s:ByteArray) (hlim:s.size≤281474976710656) (h:Lib.parseUintB 64 s.data.toList = .range) (ev:Value) (w:World) (hv:w.cell? ⟨3,0,none⟩=some ev) (hev:ev = .nilIface∨∃ te pe,ev = .iface te pe) :
 Calls Tryz.prog 189 #[.string s,.int .i64 10,.int .i64 64] w fun e w'=>∃ N,e = .returned (.tuple #[.int .u64 18446744073709551615,.iface 243 (.pointer (some ⟨N,0,none⟩))])∧w.heap.size≤N∧w'.heap[N]?=some (.cells #[.string ⟨#[80,97,114,115,101,85,105,110,116]⟩,.string s,ev] 268 (0,0))∧Below w.heap.size w w':=Any.strconv_ParseUint_10_at64_range Tryz.laysPu14 s hlim h ev w hv hev
def Tryz.lays145_ren:Go.Shelf.Ren:=⟨fun | 145=>104 | 220=>154 | 219=>183 | 217=>152 | 225=>211 | 224=>212 | 267=>213 | 266=>191 | 314=>224 | n=>n,fun | 9=>9 | 4=>4 | 59=>117 | 3=>3 | 5=>5 | 46=>152 | 146=>235 | 51=>234 | n=>n,fun | 1=>1 | n=>n⟩
theorem Tryz.lays145:Go.Proofs.Lays.n145 Tryz.prog Tryz.lays145_ren:={
 mixed:=by kernel_rfl
 f145:=Tryz.func104.trans (congrArg some (by kernel_rfl))
 f217:=Tryz.func152.trans (congrArg some (by kernel_rfl))
 f219:=Tryz.func183.trans (congrArg some (by kernel_rfl))
 f220:=Tryz.func154.trans (congrArg some (by kernel_rfl))
 f224:=Tryz.func212.trans (congrArg some (by kernel_rfl))
 f225:=Tryz.func211.trans (congrArg some (by kernel_rfl))
 f266:=Tryz.func191.trans (congrArg some (by kernel_rfl))
 f267:=Tryz.func213.trans (congrArg some (by kernel_rfl))
 f314:=Tryz.func224.trans (congrArg some (by kernel_rfl))
 t3:=Tryz.underlying3
 a3:=Tryz.isAgg3
 z3:=Tryz.sizeOf3
 v3:=Tryz.zeroValue3
 t4:=Tryz.underlying4
 a4:=Tryz.isAgg4
 z4:=Tryz.sizeOf4
 v4:=Tryz.zeroValue4
 t5:=Tryz.underlying5
 a5:=Tryz.isAgg5
 z5:=Tryz.sizeOf5
 v5:=Tryz.zeroValue5
 t9:=Tryz.underlying9
 a9:=Tryz.isAgg9
 z9:=Tryz.sizeOf9
 v9:=Tryz.zeroValue9
 t46:=Tryz.underlying152
 a46:=Tryz.isAgg152
 z46:=Tryz.sizeOf152
 v46:=Tryz.zeroValue152
 t51:=Tryz.underlying234
 a51:=Tryz.isAgg234
 z51:=Tryz.sizeOf234
 v51:=Tryz.zeroValue234
 t59:=Tryz.underlying117
 a59:=Tryz.isAgg117
 z59:=Tryz.sizeOf117
 v59:=Tryz.zeroValue117
 t146:=Tryz.underlying235
 a146:=Tryz.isAgg235
 z146:=Tryz.sizeOf235
 v146:=Tryz.zeroValue235
 g1:=by kernel_rfl }
open Go.RowKit Go.Lib in
theorem Tryz.strings_Cut (s sep:ByteArray) (m:Int) (w:World) (hs:s.size < 4294967281) (hm:w.cell? ⟨1,0,none⟩=some (.int .i64 m)) :
 Calls Tryz.prog 104 #[.string s,.string sep] w fun e w'=>e = .returned (.tuple #[.string ⟨(Lib.cut s.data.toList sep.data.toList).1.toArray⟩,.string ⟨(Lib.cut s.data.toList sep.data.toList).2.1.toArray⟩,.bool (Lib.cut s.data.toList sep.data.toList).2.2])∧∃ n,w'=w.drewN n:=Any.strings_Cut Tryz.lays145 s sep m w hs hm
def Tryz.lays146_ren:Go.Shelf.Ren:=⟨fun | 146=>46 | 221=>88 | 268=>138 | 138=>139 | 143=>140 | 195=>180 | 197=>181 | 218=>182 | 219=>183 | 260=>210 | 217=>152 | 225=>211 | 224=>212 | 267=>213 | 266=>191 | 314=>224 | n=>n,fun | 9=>9 | 31=>66 | 3=>3 | 4=>4 | 0=>0 | 105=>231 | 21=>21 | 5=>5 | 46=>152 | 119=>279 | 139=>282 | 138=>281 | 146=>235 | 51=>234 | n=>n,fun | 1=>1 | 3=>4 | 4=>5 | n=>n⟩
theorem Tryz.lays146:Go.Proofs.Lays.n146 Tryz.prog Tryz.lays146_ren:={
 mixed:=by kernel_rfl
 f138:=Tryz.func139.trans (congrArg some (by kernel_rfl))
 f143:=Tryz.func140.trans (congrArg some (by kernel_rfl))
 f146:=Tryz.func46.trans (congrArg some (by kernel_rfl))
 f195:=Tryz.func180.trans (congrArg some (by kernel_rfl))
 f197:=Tryz.func181.trans (congrArg some (by kernel_rfl))
 f217:=Tryz.func152.trans (congrArg some (by kernel_rfl))
 f218:=Tryz.func182.trans (congrArg some (by kernel_rfl))
 f219:=Tryz.func183.trans (congrArg some (by kernel_rfl))
 f221:=Tryz.func88.trans (congrArg some (by kernel_rfl))
 f224:=Tryz.func212.trans (congrArg some (by kernel_rfl))
 f225:=Tryz.func211.trans (congrArg some (by kernel_rfl))
 f260:=Tryz.func210.trans (congrArg some (by kernel_rfl))
 f266:=Tryz.func191.trans (congrArg some (by kernel_rfl))
 f267:=Tryz.func213.trans (congrArg some (by kernel_rfl))
 f268:=Tryz.func138.trans (congrArg some (by kernel_rfl))
 f314:=Tryz.func224.trans (congrArg some (by kernel_rfl))
 t0:=Tryz.underlying0
 a0:=Tryz.isAgg0
 z0:=Tryz.sizeOf0
 v0:=Tryz.zeroValue0
 t3:=Tryz.underlying3
 a3:=Tryz.isAgg3
 z3:=Tryz.sizeOf3
 v3:=Tryz.zeroValue3
 t4:=Tryz.underlying4
 a4:=Tryz.isAgg4
 z4:=Tryz.sizeOf4
 v4:=Tryz.zeroValue4
 t5:=Tryz.underlying5
 a5:=Tryz.isAgg5
 z5:=Tryz.sizeOf5
 v5:=Tryz.zeroValue5
 t9:=Tryz.underlying9
 a9:=Tryz.isAgg9
 z9:=Tryz.sizeOf9
 v9:=Tryz.zeroValue9
 t21:=Tryz.underlying21
 a21:=Tryz.isAgg21
 z21:=Tryz.sizeOf21
 v21:=Tryz.zeroValue21
 t31:=Tryz.underlying66
 a31:=Tryz.isAgg66
 z31:=Tryz.sizeOf66
 v31:=Tryz.zeroValue66
 t46:=Tryz.underlying152
 a46:=Tryz.isAgg152
 z46:=Tryz.sizeOf152
 v46:=Tryz.zeroValue152
 t51:=Tryz.underlying234
 a51:=Tryz.isAgg234
 z51:=Tryz.sizeOf234
 v51:=Tryz.zeroValue234
 t105:=Tryz.underlying231
 a105:=Tryz.isAgg231
 z105:=Tryz.sizeOf231
 v105:=Tryz.zeroValue231
 t119:=Tryz.underlying279
 a119:=Tryz.isAgg279
 z119:=Tryz.sizeOf279
 t138:=Tryz.underlying281
 a138:=Tryz.isAgg281
 z138:=Tryz.sizeOf281
 v138:=Tryz.zeroValue281
 t139:=Tryz.underlying282
 a139:=Tryz.isAgg282
 z139:=Tryz.sizeOf282
 v139:=Tryz.zeroValue282
 t146:=Tryz.underlying235
 a146:=Tryz.isAgg235
 z146:=Tryz.sizeOf235
 v146:=Tryz.zeroValue235
 g1:=by kernel_rfl
 g3:=by kernel_rfl
 g4:=by kernel_rfl }
open Go.RowKit Go.Lib in
theorem Tryz.strings_Split (s sep:ByteArray) (m:Int) (w:World) (hs:s.size < 4294967281) (hm:w.cell? ⟨1,0,none⟩=some (.int .i64 m)) (h1:1≤sep.size) :
 Calls Tryz.prog 46 #[.string s,.string sep] w fun e w'=>
  e = .returned (.slice (some ⟨w.heap.size,0,none⟩) (Lib.countB s sep+1) (Lib.countB s sep+1))∧w'=w.alloc (.cells ((Lib.splitB sep 0 (Lib.countB s sep) s).map Value.string).toArray 9):=Any.strings_Split Tryz.lays146 (by kernel_rfl) s sep m w hs hm h1
def Tryz.lays105_ren:Go.Shelf.Ren:=⟨fun | 105=>86 | 212=>134 | 99=>135 | 165=>87 | 166=>60 | 170=>136 | 169=>56 | 263=>177 | 264=>178 | 206=>151 | 240=>103 | 241=>137 | 276=>153 | 277=>179 | n=>n,fun | 9=>9 | 3=>3 | 4=>4 | 20=>20 | 0=>0 | 46=>152 | 109=>199 | 5=>5 | 72=>108 | 76=>121 | 51=>234 | 146=>235 | 53=>103 | 148=>237 | 70=>106 | 37=>69 | 75=>120 | 127=>165 | 164=>211 | 80=>114 | n=>n,fun | n=>n⟩
theorem Tryz.lays105:Go.Proofs.Lays.n105 Tryz.prog Tryz.lays105_ren:= by constructor <;> first | kernel_rfl | (intro _; kernel_rfl)
theorem Tryz.Builder_Extra_105:Builder.Extra Tryz.prog Tryz.lays105_ren:={
 sizeBuilder:=by kernel_rfl
 liesBuilder:=by kernel_rfl
 t5:=Tryz.underlying5
 a5:=Tryz.isAgg5
 z5:=Tryz.sizeOf5
 v5:=Tryz.zeroValue5
 infoByte:=by kernel_rfl
 cellsByte:=by kernel_rfl
 sizeByte:=by kernel_rfl
 neB5:=by decide }
open Go.RowKit Go.Lib in
theorem Tryz.strings_Repeat (s:ByteArray) (c:Nat) (w:World) (hc:c≤9223372036854775807) (hlen:s.size*c≤140737488355328) :
 Calls Tryz.prog 86 #[.string s,.int .i64 c] w fun e w'=>e = .returned (.string ⟨(Lib.repeatL s.data.toList c).toArray⟩)∧Below w.heap.size w w':=Any.strings_Repeat Tryz.lays105 Tryz.Builder_Extra_105 s c w hc hlen
end Go.Proofs
namespace Go.FM
open Go Go.Proofs Go.RowKit Go.Sort Go.Lib
set_option maxHeartbeats 12800000 in
set_option maxRecDepth 100000 in
theorem ybx (u:Nat) (hu64:u < 18446744073709551616) (w:World) (htab:Lib.TabIs Tryz.prog w "internal/strconv.uint64pow10" .u64 Lib.pow10Tab) :
  Calls Tryz.prog 129 #[.int .u64 u,.int .i64 10] w fun e w'=>e = .returned (.string ⟨(Lib.decDigits u).toArray⟩)∧∃ k os,w'=grow (w.drewN k) os:=by
 by_cases hs:u < 100
 ·have hwr:IntKind.i64.wrap (u:Int)=(u:Int):=by rw [IntKind.wrap_i64]; omega
  have iu:(u:Int) < 100:=by omega
  go_enter Tryz.func129,Tryz.ntmps129
  go_wp2_with (go_at_call 170; refine (Tryz.internal_strconv_small u hs _).mono ?_; rintro e w' ⟨rfl,rfl⟩)
  go_ret
  exact ⟨rfl,0,#[],by simp [World.drewN_zero]⟩
 ·have hu1:1≤u:=by omega
  have hnd20:Lib.nDigits u≤20:=by have:=Lib.numDigits_eq u hu1 hu64; split at this <;> omega
  have hal:Tryz.prog.arrayLen 225=24:=by simp [Program.arrayLen,Tryz.underlying225]
  have hsl:∀ W,(Instr.sliceAt 225 (.pointer (some ⟨w.heap.size,0,none⟩)) none (some (.int .i64 (Lib.nDigits u:Int))) none).run Tryz.prog W = .ok (.slice (some ⟨w.heap.size,0,none⟩) (Lib.nDigits u) 24) W:=fun W=>by
   rw [run_sliceAt_array_h W 225 ⟨w.heap.size,0,none⟩ (by simp [Program.arrayLen,Program.elem,Tryz.underlying225]) .i64 (Lib.nDigits u:Int) (by omega) (by rw [hal]; omega)]
   go_simp
  have hH0:=Lib.holds_zero0 w 225 (Lib.nDigits u) (by omega)
  have hfmt:=Tryz.internal_strconv_formatBase10 w.heap.size 0 24 u (Array.replicate (Lib.nDigits u) 0) (w.alloc (.cells Lib.zeros24 225)) hH0 (by rw [Array.size_replicate]; exact Lib.lt_pow_nDigits u) hu64 (by rw [Array.size_replicate]; omega)
  rw [Array.size_replicate] at hfmt;have HH0:=Lib.hid hH0;have iu:¬ (u:Int) < 100:=by omega
  clear hH0 hal hs
  go_enter Tryz.func129,Tryz.ntmps129
  go_wp2_with (first
   | (go_at_call 171; refine (Tryz.internal_strconv_numDigits u hu1 hu64 _ (Lib.tabIs_alloc htab _)).mono ?_; rintro e w' ⟨rfl,rfl⟩))
  go_at_call 172
  refine hfmt.mono ?_
  rintro e w' ⟨rfl,k,v',dk,rfl,hF⟩
  have hcv:(convert 69 9 (.slice (some ⟨w.heap.size,0,none⟩) (Lib.nDigits u) 24)).run Tryz.prog ((putRow (fun (b:UInt8)=>Value.int .u8 (b.toNat:Int)) (w.alloc (.cells Lib.zeros24 225)) w.heap.size 0 dk).drewN k) = .ok (.string ⟨(Lib.decDigits u).toArray⟩) ((putRow (fun (b:UInt8)=>Value.int .u8 (b.toNat:Int)) (w.alloc (.cells Lib.zeros24 225)) w.heap.size 0 dk).drewN k):=by
   have h:=run_convert_bytes_back (P:=Tryz.prog) ((putRow (fun (b:UInt8)=>Value.int .u8 (b.toNat:Int)) (w.alloc (.cells Lib.zeros24 225)) w.heap.size 0 dk).drewN k) 69 9 5 ⟨w.heap.size,0,none⟩ 24 (Lib.decDigits u) Tryz.underlying69 Tryz.underlying5 Tryz.underlying9 (fun j hj=>by
    rw [Lib.row_is_numeral hF j hj,Lib.add_plain,World.cell?_drewN];exact cell?_putRow (fun (b:UInt8)=>Value.int .u8 (b.toNat:Int)) _ w.heap.size 0 _ dk HH0.out (by rw [hF.size,Array.size_replicate]) j (by rw [hF.size]; rw [Lib.decDigits_length] at hj; exact hj))
   rw [Lib.decDigits_length] at h;exact h
  go_wp2
  go_ret
  obtain ⟨os,eo⟩:=Lib.fin_at w (.cells Lib.zeros24 225) dk k 0;exact ⟨rfl,k,os,eo⟩
set_option maxHeartbeats 1600000 in
set_option maxRecDepth 100000 in
theorem yim (u:Nat) (hu64:u < 18446744073709551616) (w:World) (htab:Lib.TabIs Tryz.prog w "internal/strconv.uint64pow10" .u64 Lib.pow10Tab) :
  Calls Tryz.prog 83 #[.int .u64 u,.int .i64 10] w fun e w'=>e = .returned (.string ⟨(Lib.decDigits u).toArray⟩)∧∃ k os,w'=grow (w.drewN k) os:=by
 go_enter Tryz.func83,Tryz.ntmps83
 go_wp2_with (go_at_call 129; refine (ybx u hu64 _ htab).mono ?_; rintro e w' ⟨rfl,hw⟩)
 go_ret
 exact ⟨rfl,hw⟩
theorem ycj:(PR.info? 9).map (fun i=>(i.zero,i.size,i.bytes))=some (some (.string .empty),1,16):=by kernel_rfl
set_option maxHeartbeats 4000000 in
set_option maxRecDepth 100000 in
theorem y8p (b:Addr) (n c:Nat) (news:List Value) (w:World) (hl:news.length=n) (hn:n≤maxLen) (hbig:n*16≤140737488355328)
  (hc:∀ j u,news[j]?=some u→w.cell? (b.add j)=some u) (h1:∀ u∈news,u.oneCell'=true) :
  Calls Tryz.prog 161 #[.slice (some b) n c] w fun e w'=>∃ v',e = .returned v'∧w'.ownsRow w.heap.size 9 1 v' n news∧Below w.heap.size w w':=by
 obtain ⟨i0,hi,hz0,hz1,hz2⟩:=info_parts ycj;have qS:∀ (w:World) (a:Option Addr) (n c n' c':Nat),(binOp .eql 66 (.slice a n c) (.slice none n' c')).run Tryz.prog w = .ok (.bool a.isNone) w:=fun w a n c n' c'=>Lib.run_eql_slice_nil w _ _ a n c n' c' Tryz.underlying66
 have A:Aside (∀ j u,news[j]?=some u→w.cell? (b.add j)=some u):=hc;clear hc
 go_enter Tryz.func161,Tryz.ntmps161
 go_wp2_with (at_builtin; refine wpList_append_own _ rfl _ _ 66 rfl w.heap.size 9 i0 (.string .empty) 1 16 Tryz.underlying66 hi hz0 hz1 hz2 rfl (by decide) _ _ _ rfl (World.ownsRow_made w #[] 0 (Nat.le_refl _) (Nat.zero_le _) (by simp)) b n c news rfl ?qc1 ?qc2 ?qc3 ?qc4 ?qc5 ?qc6 ?_)
 case qc1=>rw [Nat.mul_one]; exact hl
 case qc2=>
  intro j u hj;exact Lib.cell?_alloc_some _ (A.out j u hj)
 case qc3=>exact h1
 case qc4=>rw [Nat.zero_add]; exact hn
 case qc5=>rw [Nat.zero_add]; exact hbig
 case qc6=>simp
 intro v' w1 hown hgrow hnil
 go_wp2
 go_ret
 refine ⟨v',rfl,by simpa using hown,?_⟩
 exact ((Below.refl _ w).alloc (Nat.le_refl _) _).grown hgrow (by simp) (by intro k hk; simp [Value.ownBlock] at hk; omega)
set_option maxHeartbeats 1000000 in
set_option maxRecDepth 100000 in
theorem y8a (n c:Nat) (w:World):Calls Tryz.prog 161 #[.slice none n c] w fun e w'=>e = .returned (.slice none 0 0)∧w'=w:=by
 have qS:∀ (w:World) (a:Option Addr) (n c n' c':Nat),(binOp .eql 66 (.slice a n c) (.slice none n' c')).run Tryz.prog w = .ok (.bool a.isNone) w:=fun w a n c n' c'=>Lib.run_eql_slice_nil w _ _ a n c n' c' Tryz.underlying66
 go_enter Tryz.func161,Tryz.ntmps161
 go_wp2
 go_ret
 exact ⟨rfl,rfl⟩
open Go Go.RowKit
def z2o:z0u
 | [.list false [.str] l]=>.br (decide (l.length≤4294967296)) (.ok (.vec 9 false [.str] l) []) .no
 | _=>.no
def z23:z0u
 | [.list false [.str] l,.str s]=>.ok (.int .i64 (zf5 l s 0)) []
 | _=>.no
open Go Go.Proofs Go.RowKit
structure GF (h:Nat→Option Obj):Prop where
 unit:True
 gm:∃ c T fr m,h 1=some (.cells c T fr)∧c[0]?=some (.int .i64 m)
 gp:∃ T fr,h 0=some (.cells (Lib.pow10Tab.map fun z=>Value.int .u64 z).toArray T fr)
 gs:∃ c T fr te pe,h 2=some (.cells c T fr)∧c[0]?=some (.iface te pe)
 gr:∃ c T fr te pe,h 3=some (.cells c T fr)∧c[0]?=some (.iface te pe)
def B0:BT:={ T:=108,e:=5,ng:=4,F:=GF }
theorem zlc {w:World} {h:Nat→Option Obj} (hh:h=fun b=>if b < B0.ng then w.heap[b]? else none) {g:Nat} (hg:g < 4) {o:Obj} (ho:h g=some o):w.heap[g]?=some o:=by
 rw [hh] at ho;simp only at ho;rw [if_pos (show g < B0.ng from hg)] at ho
 exact ho
theorem y4p {w:World} (h:Glob B0 w):∃ m,w.cell? ⟨1,0,none⟩=some (.int .i64 m):=by
 obtain ⟨c,T,fr,m,h1,h2⟩:=h.2.gm;exact ⟨m,by simp only [World.cell?,zlc rfl (by decide) h1]; exact h2⟩
theorem y5v {w:World} (h:Glob B0 w):Lib.TabIs Tryz.prog w "internal/strconv.uint64pow10" .u64 Lib.pow10Tab:=by
 obtain ⟨T,fr,h1⟩:=h.2.gp;have hn:Tryz.prog.globalNamed "internal/strconv.uint64pow10" = some 0:=by kernel_rfl
 unfold Lib.TabIs World.var?;rw [hn];simp only [Option.bind_some,zlc rfl (by decide) h1]
theorem y53 {w:World} (h:Glob B0 w):∃ ev,w.cell? ⟨2,0,none⟩=some ev∧(ev = .nilIface∨∃ te pe,ev = .iface te pe):=by
 obtain ⟨c,T,fr,te,pe,h1,h2⟩:=h.2.gs;exact ⟨_,by simp only [World.cell?,zlc rfl (by decide) h1]; exact h2,.inr ⟨te,pe,rfl⟩⟩
theorem y4y {w:World} (h:Glob B0 w):∃ ev,w.cell? ⟨3,0,none⟩=some ev∧(ev = .nilIface∨∃ te pe,ev = .iface te pe):=by
 obtain ⟨c,T,fr,te,pe,h1,h2⟩:=h.2.gr;exact ⟨_,by simp only [World.cell?,zlc rfl (by decide) h1]; exact h2,.inr ⟨te,pe,rfl⟩⟩
theorem Keep.below {w w':World} (h:Below w.heap.size w w'):Keep (fun _=>False) w w':=⟨h.os,h.tape,h.output,h.size,fun b hb _=>h.block b hb⟩
theorem Keep.drewN {O:Nat→Prop} (w:World):∀ n,Keep O w (w.drewN n):=fun _=>⟨rfl,rfl,rfl,Nat.le_refl _,fun _ _ _=>rfl⟩
theorem Keep.grow (w:World) (os:Array Obj):Keep (fun _=>False) w (Go.Sort.grow w os):=⟨rfl,rfl,rfl,by simp [Go.Sort.grow],fun b hb _=>by simp [Go.Sort.grow,Array.getElem?_append_left hb]⟩
set_option maxRecDepth 100000 in
theorem z4y:z3c PR B0 60 z18:=by
 intro w X γ vs xs r out hsp hg hx hR hV;unfold z18 at hsp;simp only at hsp
 split at hsp
 ·rename_i s t
  cases hc:decide (s.size+t.size≤strMax) with
  | false=>rw [hc] at hsp; simp [R.get] at hsp
  | true=>
   rw [hc] at hsp;simp only [R.get,Option.some.injEq,Prod.mk.injEq] at hsp;obtain ⟨rfl,rfl⟩:=hsp;have hle:s.size+t.size≤strMax:=of_decide_eq_true hc;refine y36 hR rfl rfl (fun γ' o w' O x h=>by
    simp only [VRel] at h ⊢
    obtain ⟨cs,rfl,h⟩:=h;refine ⟨cs,rfl,?_⟩
    match cs,h with
    | ⟨[a,b]⟩,h=>simp only [VRels,VRel] at h ⊢; exact h) (fun b v p hgm hB=>?_)
   obtain ⟨x0,x1,rfl⟩:∃ x0 x1,xs=[x0,x1]:=by
    have:=hV.length
    simp at this
    match xs,this with
    | [a,b],_=>exact ⟨a,b,rfl⟩
   simp only [List.map_cons,List.map_nil,z7t,VRels] at hV;have h0:=y2m hgm hV.1;have h1:=hV.2.1;simp only [VRel] at h1;obtain ⟨rfl,ht⟩:=h1;subst h0;refine Does.of_calls Tryz.func60 (by kernel_rfl) (by kernel_rfl) ((zq8 b p v (Lib.strCells s) t w hB.self hB.heap (by rw [Lib.strCells_length]; exact hB.own) hB.ne (by rw [Lib.strCells_length]; unfold strMax at hle; omega)).mono ?_)
   rintro e w' ⟨rfl,v',q1,q2,q3,q4,q5⟩
   refine ⟨_,rfl,⟨_,v',⟨.inr rfl,q1,?_,q3,?_⟩,q4,q5⟩,fun O=>?_⟩
   ·have e1:Lib.strCells (s++t)=Lib.strCells s++Lib.strCells t:=by simp [Lib.strCells]
    have e2:(s++t).size=(Lib.strCells s++Lib.strCells t).length:=by simp [Lib.strCells_length]
    rw [e1,e2];exact q2
   ·simp only [ByteArray.size_append]; exact hle
   ·simp only [VRel]
    refine ⟨_,rfl,?_⟩;simp only [VRels,VRel,ic,and_true];refine ⟨trivial,?_,?_⟩
    ·have:IntKind.i64.min = -9223372036854775808:=rfl
     omega
    ·have:IntKind.i64.max=9223372036854775807:=rfl
     unfold strMax at hle;omega
 ·simp [R.get] at hsp
theorem y3x {c:Int} (h0:IntKind.u8.min≤c) (h1:c≤IntKind.u8.max):(Value.int .u8 ((zdk c).toNat:Int)) = .int .u8 c:=by
 have e1:IntKind.u8.min=0:=rfl;have e2:IntKind.u8.max=255:=rfl
 have:((zdk c).toNat:Int)=c:=by
  unfold zdk;rw [UInt8.toNat_ofNat_of_lt' (by simp [UInt8.size]; omega)]
  omega
 rw [this]
set_option maxRecDepth 100000 in
theorem z5s:z3c PR B0 97 z1m:=by
 intro w X γ vs xs r out hsp hg hx hR hV;unfold z1m at hsp;simp only at hsp
 split at hsp
 ·rename_i s c
  cases hc:decide (s.size+1≤strMax) with
  | false=>rw [hc] at hsp; simp [R.get] at hsp
  | true=>
   rw [hc] at hsp;simp only [R.get,Option.some.injEq,Prod.mk.injEq] at hsp;obtain ⟨rfl,rfl⟩:=hsp;have hle:s.size+1≤strMax:=of_decide_eq_true hc;refine y36 hR rfl rfl (fun γ' o w' O x h=>by simp only [VRel] at h ⊢; exact h) (fun b v p hgm hB=>?_)
   obtain ⟨x0,x1,rfl⟩:∃ x0 x1,xs=[x0,x1]:=by
    have:=hV.length
    simp at this
    match xs,this with
    | [a,b],_=>exact ⟨a,b,rfl⟩
   simp only [List.map_cons,List.map_nil,z7t,VRels] at hV;have h0:=y2m hgm hV.1;have h1:=hV.2.1;simp only [VRel] at h1;obtain ⟨rfl,hc0,hc1⟩:=h1;subst h0;refine Does.of_calls Tryz.func97 (by kernel_rfl) (by kernel_rfl) ((zxw b p v (Lib.strCells s) c w hB.self hB.heap (by rw [Lib.strCells_length]; exact hB.own) hB.ne (by rw [Lib.strCells_length]; unfold strMax at hle; omega)).mono ?_)
   rintro e w' ⟨rfl,v',q1,q2,q3,q4,q5⟩
   refine ⟨_,rfl,⟨_,v',⟨.inr rfl,q1,?_,q3,?_⟩,q4,q5⟩,fun O=>by simp only [VRel]⟩
   ·have e1:Lib.strCells (s.push (zdk c))=Lib.strCells s++[.int .u8 c]:=by
     rw [← y3x hc0 hc1];simp [Lib.strCells]
    have e2:(s.push (zdk c)).size=(Lib.strCells s++[Value.int .u8 c]).length:=by simp [Lib.strCells_length]
    rw [e1,e2];exact q2
   ·simp only [ByteArray.size_push]; exact hle
 ·simp [R.get] at hsp
set_option maxRecDepth 100000 in
theorem z6z:z3c PR B0 56 z1y:=by
 intro w X γ vs xs r out hsp hg hx hR hV;unfold z1y at hsp;simp only at hsp
 split at hsp
 ·rename_i s
  simp only [R.get,Option.some.injEq,Prod.mk.injEq] at hsp;obtain ⟨rfl,rfl⟩:=hsp;refine y36 hR rfl rfl (fun γ' o w' O x h=>by simp only [VRel] at h ⊢; exact h) (fun b v p hgm hB=>?_)
  obtain ⟨x0,rfl⟩:∃ x0,xs=[x0]:=by
   have:=hV.length
   simp at this
   match xs,this with
   | [a],_=>exact ⟨a,rfl⟩
  simp only [List.map_cons,List.map_nil,z7t,VRels] at hV;have h0:=y2m hgm hV.1;subst h0;refine Does.of_calls Tryz.func56 (by kernel_rfl) (by kernel_rfl) ((y80 b p v s w hB.heap hB.own hB.ne).mono ?_)
  rintro e w' ⟨rfl,q1,q2,q3⟩
  exact ⟨_,rfl,⟨p,v,⟨hB.self,q1,q2,hB.ne,hB.size⟩,q3,fun k hk=>.inl hk⟩,fun O=>by simp only [VRel]; exact ⟨trivial,hB.size⟩⟩
 ·simp [R.get] at hsp
set_option maxRecDepth 100000 in
theorem z7u:z3c PR B0 43 z2j:=by
 intro w X γ vs xs r out hsp hg hx hR hV;unfold z2j at hsp;simp only at hsp
 split at hsp
 ·rename_i n
  simp only [R.get,Option.some.injEq,Prod.mk.injEq] at hsp;obtain ⟨rfl,rfl⟩:=hsp;obtain ⟨x0,rfl⟩:∃ x0,xs=[x0]:=by
   have:=hV.length
   simp at this
   match xs,this with
   | [a],_=>exact ⟨a,rfl⟩
  simp only [List.map_cons,List.map_nil,z7t,VRels,VRel,and_true] at hV;obtain ⟨rfl,h0,h1⟩:=hV;refine z6g hR rfl rfl (Does.of_calls Tryz.func43 (by kernel_rfl) (by kernel_rfl) ((Tryz.strconv_Itoa n h0 h1 w (y5v hg)).mono ?_))
  rintro e w' ⟨rfl,k,os,rfl⟩
  exact ⟨_,rfl,((Keep.drewN w k).trans (Keep.grow _ os) (fun _ _ h=>h)),fun O _=>by
   simp only [VRel];exact ⟨rfl,by have:=ze4 h0 h1; unfold strMax; omega⟩⟩
 ·simp [R.get] at hsp
set_option maxRecDepth 100000 in
theorem z7o:z3c PR B0 90 z2k:=by
 intro w X γ vs xs r out hsp hg hx hR hV;unfold z2k at hsp;simp only at hsp
 split at hsp
 ·rename_i s
  simp only [R.get,Option.some.injEq,Prod.mk.injEq] at hsp;obtain ⟨rfl,rfl⟩:=hsp;obtain ⟨x0,rfl⟩:∃ x0,xs=[x0]:=by
   have:=hV.length
   simp at this
   match xs,this with
   | [a],_=>exact ⟨a,rfl⟩
  simp only [List.map_cons,List.map_nil,z7t,VRels,VRel,and_true] at hV;obtain ⟨rfl,hs⟩:=hV;unfold strMax at hs;have hb:=zq2 s;refine z6g hR rfl rfl (Does.of_calls Tryz.func90 (by kernel_rfl) (by kernel_rfl) ?_)
  cases ha:Lib.atoiAll s.data.toList
  ·rename_i v
   refine (Tryz.strconv_Atoi_ok s (by omega) v ha w).mono ?_
   rintro e w' ⟨rfl,hw⟩
   have e1:z3w s=v:=by unfold z3w; rw [ha]
   have e2:zlw s=true:=by unfold zlw; rw [ha]
   rw [e1] at hb ⊢
   rw [e2];refine ⟨_,rfl,?_,fun O _=>?_⟩
   ·rcases hw with rfl | ⟨t,rfl⟩
    ·exact Keep.refl _ _
    ·unfold Lib.bytesWorld
     have h1:=Keep.alloc (fun _=>False) w.drew (.cells (Lib.bytesCells w 5 t) 5)
     refine ((Keep.drew (fun _=>False) w).trans h1 (fun _ _ h=>h)).trans (Keep.freeze (O:=fun k=>k=w.heap.size) _ ⟨w.heap.size,_,none⟩ 1 rfl) (fun b hb h=>?_)
     subst h;exact absurd hb (Nat.lt_irrefl _)
   ·simp only [VRel]
    exact ⟨_,rfl,by simp only [VRels,VRel,and_true,true_and]; exact hb⟩
  ·skip
   obtain ⟨ev,h1,h2⟩:=y53 hg;refine (Tryz.strconv_Atoi_syntax s (by omega) ha ev w h1 h2).mono ?_
   rintro e w' ⟨N,rfl,_,_,hw⟩
   have e1:z3w s=0:=by unfold z3w; rw [ha]
   have e2:zlw s=false:=by unfold zlw; rw [ha]
   rw [e1] at hb ⊢
   rw [e2];refine ⟨_,rfl,Keep.below hw,fun O _=>?_⟩
   simp only [VRel];exact ⟨_,rfl,by simp only [VRels,VRel,and_true]; exact ⟨⟨trivial,hb⟩,_,_,rfl⟩⟩
  ·skip
   obtain ⟨ev,h1,h2⟩:=y4y hg;refine (Tryz.strconv_Atoi_range s (by omega) ha ev w h1 h2).mono ?_
   rintro e w' ⟨N,rfl,_,_,hw⟩
   have e1:z3w s=Lib.atoiSat s.data.toList:=by unfold z3w; rw [ha]
   have e2:zlw s=false:=by unfold zlw; rw [ha]
   rw [e1] at hb ⊢
   rw [e2];refine ⟨_,rfl,Keep.below hw,fun O _=>?_⟩
   simp only [VRel];exact ⟨_,rfl,by simp only [VRels,VRel,and_true]; exact ⟨⟨trivial,hb⟩,_,_,rfl⟩⟩
 ·simp [R.get] at hsp
set_option maxRecDepth 100000 in
theorem zga:z3c PR B0 83 z4x:=by
 intro w X γ vs xs r out hsp hg hx hR hV;unfold z4x at hsp;simp only at hsp
 split at hsp
 ·rename_i n b
  cases hc:decide (b=10) with
  | false=>rw [hc] at hsp; simp [R.get] at hsp
  | true=>
   rw [hc] at hsp;have hb:=of_decide_eq_true hc;subst hb;simp only [R.get,Option.some.injEq,Prod.mk.injEq] at hsp;obtain ⟨rfl,rfl⟩:=hsp;obtain ⟨x0,x1,rfl⟩:∃ x0 x1,xs=[x0,x1]:=by
    have:=hV.length
    simp at this
    match xs,this with
    | [a,b],_=>exact ⟨a,b,rfl⟩
   simp only [List.map_cons,List.map_nil,z7t,VRels,VRel,and_true] at hV;obtain ⟨⟨rfl,h0,h1⟩,rfl,_⟩:=hV;have e0:IntKind.u64.min=0:=rfl;have e1:IntKind.u64.max=18446744073709551615:=rfl;rw [e0] at h0;rw [e1] at h1;obtain ⟨u,rfl⟩:∃ u:Nat,n=u:=⟨n.toNat,by omega⟩
   refine z6g hR rfl rfl (Does.of_calls Tryz.func83 (by kernel_rfl) (by kernel_rfl) ((yim u (by omega) w (y5v hg)).mono ?_))
   rintro e w' ⟨rfl,k,os,rfl⟩
   refine ⟨_,rfl,((Keep.drewN w k).trans (Keep.grow _ os) (fun _ _ h=>h)),fun O _=>?_⟩
   simp only [VRel];have hz:=zrr h0 h1;exact ⟨by simp [z99],by unfold strMax; omega⟩
 ·simp [R.get] at hsp
set_option maxRecDepth 100000 in
theorem zha:z3c PR B0 189 z5j:=by
 intro w X γ vs xs r out hsp hg hx hR hV;unfold z5j at hsp;simp only at hsp
 split at hsp
 ·rename_i s b c
  cases hc:(decide (b=10)&&decide (c=64)) with
  | false=>rw [hc] at hsp; simp [R.get] at hsp
  | true=>
   rw [hc] at hsp;simp only [Bool.and_eq_true,decide_eq_true_eq] at hc;obtain ⟨rfl,rfl⟩:=hc;simp only [R.get,Option.some.injEq,Prod.mk.injEq] at hsp;obtain ⟨rfl,rfl⟩:=hsp;obtain ⟨x0,x1,x2,rfl⟩:∃ x0 x1 x2,xs=[x0,x1,x2]:=by
    have:=hV.length
    simp at this
    match xs,this with
    | [a,b,c],_=>exact ⟨a,b,c,rfl⟩
   simp only [List.map_cons,List.map_nil,z7t,VRels,VRel,and_true] at hV;obtain ⟨⟨rfl,hs⟩,⟨rfl,_⟩,rfl,_⟩:=hV;unfold strMax at hs;have hb:=zrm s;refine z6g hR rfl rfl (Does.of_calls Tryz.func189 (by kernel_rfl) (by kernel_rfl) ?_)
   cases ha:Lib.parseMag s.data.toList
   ·rename_i v
    refine (Tryz.strconv_ParseUint_10_at64_ok s (by omega) v (by rw [Lib.parseUintB_64]; exact ha) w).mono ?_
    rintro e w' ⟨rfl,hw⟩
    have e1:puV s=v:=by unfold puV; rw [ha]
    have e2:puN s=true:=by unfold puN; rw [ha]
    rw [e1] at hb ⊢
    rw [e2];refine ⟨_,rfl,?_,fun O _=>?_⟩
    ·rcases hw with rfl | rfl
     ·exact Keep.refl _ _
     ·unfold Lib.bytesWorld
      have h1:=Keep.alloc (fun _=>False) w.drew (.cells (Lib.bytesCells w 5 s) 5)
      refine ((Keep.drew (fun _=>False) w).trans h1 (fun _ _ h=>h)).trans (Keep.freeze (O:=fun k=>k=w.heap.size) _ ⟨w.heap.size,_,none⟩ 1 rfl) (fun b hb h=>?_)
      subst h;exact absurd hb (Nat.lt_irrefl _)
    ·simp only [VRel]
     exact ⟨_,rfl,by simp only [VRels,VRel,and_true,true_and]; exact hb⟩
   ·skip
    obtain ⟨ev,h1,h2⟩:=y53 hg;refine (Tryz.strconv_ParseUint_10_at64_syntax s (by omega) (by rw [Lib.parseUintB_64]; exact ha) ev w h1 h2).mono ?_
    rintro e w' ⟨N,rfl,_,_,hw⟩
    have e1:puV s=0:=by unfold puV; rw [ha]
    have e2:puN s=false:=by unfold puN; rw [ha]
    rw [e1] at hb ⊢
    rw [e2];refine ⟨_,rfl,Keep.below hw,fun O _=>?_⟩
    simp only [VRel];exact ⟨_,rfl,by simp only [VRels,VRel,and_true]; exact ⟨⟨trivial,hb⟩,_,_,rfl⟩⟩
   ·skip
    obtain ⟨ev,h1,h2⟩:=y4y hg;refine (Tryz.strconv_ParseUint_10_at64_range s (by omega) (by rw [Lib.parseUintB_64]; exact ha) ev w h1 h2).mono ?_
    rintro e w' ⟨N,rfl,_,_,hw⟩
    have e1:puV s=18446744073709551615:=by unfold puV; rw [ha]
    have e2:puN s=false:=by unfold puN; rw [ha]
    rw [e1] at hb ⊢
    rw [e2];refine ⟨_,rfl,Keep.below hw,fun O _=>?_⟩
    simp only [VRel];exact ⟨_,rfl,by simp only [VRels,VRel,and_true]; exact ⟨⟨trivial,hb⟩,_,_,rfl⟩⟩
 ·simp [R.get] at hsp
set_option maxRecDepth 100000 in
theorem zgs:z3c PR B0 85 z5f:=by
 intro w X γ vs xs r out hsp hg hx hR hV;unfold z5f at hsp;simp only at hsp
 split at hsp
 ·rename_i s cs
  cases hc:(decide (cs.size=1)&&decide ((cs.data.toList.headD 0).toNat < 128)) with
  | false=>rw [hc] at hsp; simp [R.get] at hsp
  | true=>
   rw [hc] at hsp;simp only [Bool.and_eq_true,decide_eq_true_eq] at hc;simp only [R.get,Option.some.injEq,Prod.mk.injEq] at hsp;obtain ⟨rfl,rfl⟩:=hsp;obtain ⟨c,rfl⟩:∃ c,cs=⟨#[c]⟩:=by
    obtain ⟨⟨l⟩⟩:=cs;have h1:l.length=1:=hc.1
    match l,h1 with
    | [c],_=>exact ⟨c,rfl⟩
   obtain ⟨x0,x1,rfl⟩:∃ x0 x1,xs=[x0,x1]:=by
    have:=hV.length
    simp at this
    match xs,this with
    | [a,b],_=>exact ⟨a,b,rfl⟩
   simp only [List.map_cons,List.map_nil,z7t,VRels,VRel,and_true] at hV;obtain ⟨⟨rfl,hs⟩,rfl,_⟩:=hV;have hz:=zr9 s ⟨#[c]⟩;unfold strMax at hs;refine z6g hR rfl rfl (Does.of_calls Tryz.func85 (by kernel_rfl) (by kernel_rfl) ((Tryz.strings_TrimRight_one s c hc.2 w (by omega)).mono ?_))
   rintro e w' ⟨rfl,rfl⟩
   refine ⟨_,rfl,Keep.refl _ _,fun O _=>?_⟩
   simp only [VRel];exact ⟨rfl,by unfold strMax; omega⟩
 ·simp [R.get] at hsp
set_option maxRecDepth 100000 in
theorem zd5:z3c PR B0 86 z4c:=by
 intro w X γ vs xs r out hsp hg hx hR hV;unfold z4c at hsp;simp only at hsp
 split at hsp
 ·rename_i s n
  cases hc:(decide (0≤n)&&decide (s.size*n.toNat≤strMax)) with
  | false=>rw [hc] at hsp; simp [R.get] at hsp
  | true=>
   rw [hc] at hsp;simp only [Bool.and_eq_true,decide_eq_true_eq] at hc;simp only [R.get,Option.some.injEq,Prod.mk.injEq] at hsp;obtain ⟨rfl,rfl⟩:=hsp;obtain ⟨x0,x1,rfl⟩:∃ x0 x1,xs=[x0,x1]:=by
    have:=hV.length
    simp at this
    match xs,this with
    | [a,b],_=>exact ⟨a,b,rfl⟩
   simp only [List.map_cons,List.map_nil,z7t,VRels,VRel,and_true] at hV;obtain ⟨⟨rfl,hs⟩,rfl,_,hn1⟩:=hV;have e1:IntKind.i64.max=9223372036854775807:=rfl;rw [e1] at hn1;obtain ⟨c,rfl⟩:∃ c:Nat,n=c:=⟨n.toNat,by omega⟩
   have hz:=zrx s c;have hle:=hc.2;simp only [Int.toNat_natCast] at hle ⊢
   unfold strMax at hle;refine z6g hR rfl rfl (Does.of_calls Tryz.func86 (by kernel_rfl) (by kernel_rfl) ((Tryz.strings_Repeat s c w (by omega) (by omega)).mono ?_))
   rintro e w' ⟨rfl,hw⟩
   refine ⟨_,rfl,Keep.below hw,fun O _=>?_⟩
   simp only [VRel];exact ⟨rfl,by rw [hz]; unfold strMax; omega⟩
 ·simp [R.get] at hsp
set_option maxRecDepth 100000 in
theorem zae:z3c PR B0 57 z2w:=by
 intro w X γ vs xs r out hsp hg hx hR hV;unfold z2w at hsp;simp only at hsp
 split at hsp
 ·rename_i s p
  simp only [R.get,Option.some.injEq,Prod.mk.injEq] at hsp;obtain ⟨rfl,rfl⟩:=hsp;obtain ⟨x0,x1,rfl⟩:∃ x0 x1,xs=[x0,x1]:=by
   have:=hV.length
   simp at this
   match xs,this with
   | [a,b],_=>exact ⟨a,b,rfl⟩
  simp only [List.map_cons,List.map_nil,z7t,VRels,VRel,and_true] at hV;obtain ⟨⟨rfl,hs⟩,rfl,_⟩:=hV;have hz:=zln s p;refine z6g hR rfl rfl (Does.of_calls Tryz.func57 (by kernel_rfl) (by kernel_rfl) ((Tryz.strings_CutPrefix s p w).mono ?_))
  rintro e w' ⟨rfl,rfl⟩
  refine ⟨_,rfl,Keep.refl _ _,fun O _=>?_⟩
  simp only [VRel];exact ⟨_,rfl,by simp only [VRels,VRel,and_true]; exact ⟨⟨rfl,by omega⟩,rfl⟩⟩
 ·simp [R.get] at hsp
set_option maxRecDepth 100000 in
theorem zc7:z3c PR B0 104 z4e:=by
 intro w X γ vs xs r out hsp hg hx hR hV;unfold z4e at hsp;simp only at hsp
 split at hsp
 ·rename_i s sep
  cases hc:decide (s.size < 4294967281) with
  | false=>rw [hc] at hsp; simp [R.get] at hsp
  | true=>
   rw [hc] at hsp;simp only [R.get,Option.some.injEq,Prod.mk.injEq] at hsp;obtain ⟨rfl,rfl⟩:=hsp;obtain ⟨x0,x1,rfl⟩:∃ x0 x1,xs=[x0,x1]:=by
    have:=hV.length
    simp at this
    match xs,this with
    | [a,b],_=>exact ⟨a,b,rfl⟩
   simp only [List.map_cons,List.map_nil,z7t,VRels,VRel,and_true] at hV;obtain ⟨⟨rfl,hs⟩,rfl,hsep⟩:=hV;obtain ⟨m,hm⟩:=y4p hg;refine z6g hR rfl rfl (Does.of_calls Tryz.func104 (by kernel_rfl) (by kernel_rfl) ((Tryz.strings_Cut s sep m w (of_decide_eq_true hc) hm).mono ?_))
   rintro e w' ⟨rfl,n,rfl⟩
   have hsz:=zl5 s sep;refine ⟨_,rfl,Keep.drewN w n,fun O _=>?_⟩
   simp only [VRel];exact ⟨_,rfl,by simp only [VRels,VRel,and_true]; exact ⟨⟨rfl,by omega⟩,⟨rfl,by omega⟩,rfl⟩⟩
 ·simp [R.get] at hsp
set_option maxRecDepth 100000 in
theorem z3v:z3c PR B0 46 z1a:=by
 intro w X γ vs xs r out hsp hg hx hR hV;unfold z1a at hsp;simp only at hsp
 split at hsp
 ·rename_i s sep
  cases hc:(decide (s.size < 4294967281)&&decide (1≤sep.size)) with
  | false=>rw [hc] at hsp; simp [R.get] at hsp
  | true=>
   rw [hc] at hsp;simp only [Bool.and_eq_true,decide_eq_true_eq] at hc;simp only [R.get,Option.some.injEq,Prod.mk.injEq] at hsp;obtain ⟨rfl,rfl⟩:=hsp;obtain ⟨x0,x1,rfl⟩:∃ x0 x1,xs=[x0,x1]:=by
    have:=hV.length
    simp at this
    match xs,this with
    | [a,b],_=>exact ⟨a,b,rfl⟩
   simp only [List.map_cons,List.map_nil,z7t,VRels,VRel,and_true] at hV;obtain ⟨⟨rfl,hs⟩,rfl,hsep⟩:=hV;obtain ⟨m,hm⟩:=y4p hg;have hlen:=Lib.splitB_all sep hc.2 0 _ s rfl;have hcnt:=Lib.countB_le sep hc.2 s.size s (Nat.le_refl _);refine z6g hR rfl rfl (Does.of_calls Tryz.func46 (by kernel_rfl) (by kernel_rfl) ((Tryz.strings_Split s sep m w hc.1 hm hc.2).mono ?_))
   rintro e w' ⟨rfl,rfl⟩
   refine ⟨_,rfl,Keep.alloc _ w _,fun O hO=>?_⟩
   simp only [VRel]
   have:=yca (w:=w) (w':=w.alloc (.cells ((z09 s sep).map Value.string).toArray 9)) hO (g:=w.heap.size) (Nat.le_refl _) (heap_alloc_new w _) (l:=z09 s sep) (c:=Lib.countB s sep+1) (by unfold z09; omega) (by unfold maxLen; omega) (by unfold z09 strMax; omega) (fun p hp=>Nat.le_trans ((z6f sep _ s).2 p hp) hs)
   unfold z09 at this ⊢
   rw [hlen] at this;exact this
 ·simp [R.get] at hsp
theorem zz7 {w:World} {O:Nat→Prop} {l:List IV} {x:Value} (h:Kd.Rel w O (.list false [.str]) (.list l) x):∃ p c,x = .slice p l.length c∧l.length≤c∧c≤maxLen∧l.length≤strMax∧∀ j y,l[j]?=some y→∃ b o,p=some ⟨b,o,none⟩∧b < w.heap.size∧w.cell? ⟨b,o+j,none⟩=some (.string y.toStr)∧y.toStr.size≤strMax:=by
 simp only [Kd.Rel,IV.toList] at h;obtain ⟨p,c,rfl,hc,hm,hl,hi⟩:=h;refine ⟨p,c,rfl,hc,hm,hl,fun j y hy=>?_⟩
 obtain ⟨b,o,rfl,_,hb,hr⟩:=hi j y hy;simp only [Kd.RelAll,List.length_cons,List.length_nil,Nat.zero_add,Nat.mul_one,Nat.add_zero,and_true] at hr;obtain ⟨u,hu,hs⟩:=hr;simp only [Kd.Rel,z2y] at hs;obtain ⟨rfl,hs⟩:=hs;exact ⟨b,o,rfl,hb,hu,hs⟩
set_option maxRecDepth 100000 in
theorem zfy:z3c PR B0 45 z5u:=by
 intro w X γ vs xs r out hsp hg hx hR hV;unfold z5u at hsp;simp only at hsp
 split at hsp
 ·rename_i l sep
  cases hc:(decide (l.length≤strMax)&&decide ((z9n (l.map IV.toStr) sep).size≤strMax)) with
  | false=>rw [hc] at hsp; simp [R.get] at hsp
  | true=>
   rw [hc] at hsp;simp only [Bool.and_eq_true,decide_eq_true_eq] at hc;simp only [R.get,Option.some.injEq,Prod.mk.injEq] at hsp;obtain ⟨rfl,rfl⟩:=hsp;obtain ⟨x0,x1,rfl⟩:∃ x0 x1,xs=[x0,x1]:=by
    have:=hV.length
    simp at this
    match xs,this with
    | [a,b],_=>exact ⟨a,b,rfl⟩
   simp only [List.map_cons,List.map_nil,z7t,VRels,VRel,and_true] at hV;obtain ⟨h0,rfl,_⟩:=hV;obtain ⟨p,c,rfl,hc1,hc2,hc3,hcell⟩:=zz7 h0;have hz:(z9n (l.map IV.toStr) sep).size=(Lib.join ((l.map IV.toStr).map (·.data.toList)) sep.data.toList).length:=by
    show (Array.size (List.toArray _))=_;rw [List.size_toArray]
   have hle:=hc.2;rw [hz] at hle;unfold strMax at hle hc3;refine z6g hR rfl rfl (Does.of_calls Tryz.func45 (by kernel_rfl) (by kernel_rfl) (Calls.mono (R:=fun e w'=>e = .returned (.string (z9n (l.map IV.toStr) sep))∧Below w.heap.size w w') ?_ ?_))
   ·cases l with
    | nil=>
     refine (Tryz.strings_Join_none p c sep w).mono ?_
     rintro e w' ⟨rfl,rfl⟩
     exact ⟨rfl,Below.refl _ _⟩
    | cons y r=>
     obtain ⟨b,o,rfl,hb,_⟩:=hcell 0 y rfl
     have:=Tryz.strings_Join b o c ((y :: r).map IV.toStr) sep w (fun j x hj=>by
      rw [List.getElem?_map,Option.map_eq_some_iff] at hj;obtain ⟨y',hj,rfl⟩:=hj;obtain ⟨b',o',hp,_,hu,_⟩:=hcell j y' hj;simp only [Option.some.injEq,Addr.mk.injEq,and_true] at hp;obtain ⟨rfl,rfl⟩:=hp;exact hu) hb (by rw [List.length_map]; omega) (by rw [List.length_map]; omega) (by omega)
     rw [List.length_map] at this;exact this
   ·rintro e w' ⟨rfl,hw⟩
    refine ⟨_,rfl,Keep.below hw,fun O _=>?_⟩
    simp only [VRel];exact ⟨trivial,by rw [hz]; unfold strMax; omega⟩
 ·simp [R.get] at hsp
set_option maxRecDepth 100000 in
theorem zb0:z3c PR B0 161 z2o:=by
 intro w X γ vs xs r out hsp hg hx hR hV;unfold z2o at hsp;simp only at hsp
 split at hsp
 ·rename_i l
  cases hc:decide (l.length≤4294967296) with
  | false=>rw [hc] at hsp; simp [R.get] at hsp
  | true=>
   rw [hc] at hsp;have hc:=of_decide_eq_true hc;simp only [R.get,Option.some.injEq,Prod.mk.injEq] at hsp;obtain ⟨rfl,rfl⟩:=hsp;obtain ⟨x0,rfl⟩:∃ x0,xs=[x0]:=by
    have:=hV.length
    simp at this
    match xs,this with
    | [a],_=>exact ⟨a,rfl⟩
   simp only [List.map_cons,List.map_nil,z7t,VRels,VRel,and_true] at hV;obtain ⟨p,c,rfl,hc1,hc2,hc3,hcell⟩:=zz7 hV;have hel:∀ (w':World) (O:Nat→Prop) i y,l[i]?=some y→Kd.RelAll w' O [.str] (z2y false y) 0 (fun j u=>(l.map fun y=>Value.string y.toStr)[i*[Kd.str].length+j]?=some u):=fun w' O i y hy=>by
    obtain ⟨b,o,_,_,_,hs⟩:=hcell i y hy;simp only [Kd.RelAll,List.length_cons,List.length_nil,Nat.zero_add,Nat.mul_one,Nat.add_zero,and_true];refine ⟨.string y.toStr,by rw [List.getElem?_map,hy]; rfl,?_⟩
    simp only [Kd.Rel,z2y];exact ⟨trivial,hs⟩
   refine y9y hR rfl (by decide) (by decide) hc3 (Does.of_calls Tryz.func161 (by kernel_rfl) (by kernel_rfl) ?_)
   cases p with
   | none=>
    have h0:l=[]:=by
     cases l with
     | nil=>rfl
     | cons y r=>
      obtain ⟨b,o,hp,_⟩:=hcell 0 y rfl;cases hp
    subst h0;refine (y8a _ c w).mono ?_
    rintro e w' ⟨rfl,rfl⟩
    exact ⟨_,[],rfl,Keep.refl _ _,⟨rfl,.inl ⟨rfl,rfl⟩⟩,hel _⟩
   | some a=>
    refine (y8p a l.length c (l.map fun y=>Value.string y.toStr) w (by rw [List.length_map]) (by unfold maxLen; omega) (by omega) (fun j u hj=>?_) (fun u hu=>?_)).mono ?_
    ·rw [List.getElem?_map,Option.map_eq_some_iff] at hj
     obtain ⟨y,hj,rfl⟩:=hj;obtain ⟨b,o,hp,_,hu,_⟩:=hcell j y hj;simp only [Option.some.injEq] at hp;subst hp;rw [Addr.add_lit];exact hu
    ·rw [List.mem_map] at hu
     obtain ⟨y,_,rfl⟩:=hu
     rfl
    ·rintro e w' ⟨v',rfl,hown,hw⟩
     exact ⟨v',_,rfl,Keep.below hw,hown,hel _⟩
 ·simp [R.get] at hsp
def SpsOK:List (Nat × z0u)→Prop
 | []=>True
 | (f,sp) :: r=>z3c PR B0 f sp∧SpsOK r
set_option maxRecDepth 100000 in
theorem SpsOK.get:∀ {l:List (Nat × z0u)},SpsOK l→∀ f sp,lk l f=some sp→z3c PR B0 f sp
 | [],_,f,sp,h=>by simp [lk] at h
 | (g,sg) :: r,hs,f,sp,h=>by
  simp only [lk] at h
  split at h
  ·rename_i hb
   simp only [Option.some.injEq] at h;subst h;rw [← z1j.1 hb];exact hs.1
  ·exact SpsOK.get hs.2 f sp h
set_option maxRecDepth 100000 in
theorem z0m {f:Nat} {fn:Func} {code:Code} {rs:List ResultVar} {nt:Nat} (sps:List (Nat × z0u)) (lp:List (Nat × KP)) (sp:z0u) (rks:List (List Kd)) (hf:PR.funcs[f]?=some fn)
  (hc:(fn.name == "runtime.NumGoroutine")=false∧fn.body=some code∧fn.ntmps=nt∧Nat.ble nt 900000=true∧fn.results.toList=rs) (hs:SpsOK sps)
  (h:∀ vs r,(zcl vs (z5r vs)→yd5 vs)→(sp vs).get=some r→∃ N,z1c (mkE sps lp nt N) code rs rks vs=some r):z3c PR B0 f sp:=
 yez (mkE sps lp nt) sp rks hf hc (fun _=>rfl) yhy (fun _=>yf7 rfl yhh) (fun _=>ydo rfl yhv) (fun _=>hs.get) (fun _ f p hp=>by cases hp) (fun _ h=>ye6 h) h
def IpsOK:List (Nat × Ip)→Prop
 | []=>True
 | (f,p) :: r=>y7e PR f p∧IpsOK r
set_option maxRecDepth 100000 in
theorem IpsOK.get:∀ {l:List (Nat × Ip)},IpsOK l→∀ f p,lk l f=some p→y7e PR f p
 | [],_,f,p,h=>by simp [lk] at h
 | (g,pg) :: r,hs,f,p,h=>by
  simp only [lk] at h
  split at h
  ·rename_i hb
   simp only [Option.some.injEq] at h;subst h;rw [← z1j.1 hb];exact hs.1
  ·exact IpsOK.get hs.2 f p h
open Go Go.RowKit
theorem z1d {n:Int} (h0 : -9223372036854775808≤n) (h1:n≤9223372036854775807):IntKind.wrap .i64 n=n:=by
 have e:IntKind.wrap .i64 n=(n+9223372036854775808) % 18446744073709551616 - 9223372036854775808:=by
  simp [IntKind.wrap,IntKind.bits,IntKind.signed];omega
 rw [e];omega
theorem zfr {α:Type} {l:List α} {i:Nat} (h:i < l.length):decide ((i:Int) < ic l.length)=true:=by simp [ic]; omega
theorem zgi {α:Type} {l:List α} {i:Nat} (h:l.length≤i):decide ((i:Int) < ic l.length)=false:=by simp [ic]; omega
theorem zs1 {i:Nat}:decide (0≤(i:Int))=true:=by simp
theorem zdi {i:Nat} (h:i < 9223372036854775807):IntKind.wrap .i64 ((i:Int)+1)=((i+1:Nat):Int):=by rw [z1d (by omega) (by omega)]; rfl
theorem zgx {α:Type} [Inhabited α] {l:List α} {i:Nat} (h:i < l.length):l.getD (i:Int).toNat default=l[i]:=by simp [h]
theorem zn1 (a b:Int):decide (a≤b)=!decide (b < a):=by rw [Bool.eq_iff_iff]; simp
theorem y9e (a b:Int):decide (a > b)=decide (b < a):=rfl
theorem zj7 (a b:Int):(a==b)=decide (a=b):=rfl
theorem y9c (a b:Int):(a != b)=!decide (a=b):=rfl
theorem z00 {α:Type _} (a b:α):cond true a b=a:=Eq.trans (Eq.refl a) (Eq.refl a)
theorem z02 {α:Type _} (a b:α):cond false a b=b:=Eq.trans (Eq.refl b) (Eq.refl b)
open Go
def zcj (n:Int):Int:=IntKind.wrap .i64 n
def zvt (n:Int):Int:=IntKind.wrap .u64 n
def zjk (lo hi:Int):Int:=zcj (zcj (hi - lo)+1)
def z9m (n lo hi:Int):Int:=cond (decide (n.tmod (zjk lo hi) < 0)) (zcj (lo+zcj (zcj (zcj (n.tmod (zjk lo hi)+hi) - lo)+1))) (zcj (lo+n.tmod (zjk lo hi)))
abbrev zrf:ByteArray:=⟨#[45]⟩
abbrev y9r:ByteArray:=⟨#[46]⟩
abbrev ycv:ByteArray:=⟨#[48]⟩
abbrev y4z:ByteArray:=⟨#[]⟩
def z9t:z0u
 | []=>.ok (.int .u64 390625) []
 | _=>.no
def ztg (r:Nat):List UInt8:=Lib.trimRightB (Lib.repeatL [48] (8 - (Lib.decDigits (r*390625)).length)++Lib.decDigits (r*390625)) 48
def ztv (u:Nat):List UInt8:=Lib.decDigits (u / 256)++(if u % 256=0 then [] else 46 :: ztg (u % 256))
def zri (n:Int):List UInt8:=if n < 0 then 45 :: ztv n.natAbs else ztv n.natAbs
def z0b (n:Int):ByteArray:=⟨(zri n).toArray⟩
def z5n:z0u
 | [.int .i64 n]=>.ok (.str (z0b n)) []
 | _=>.no
def zaf:z0u
 | [.str s]=>.ok (.tup [.int .u64 (puV s),.bool (puN s)]) []
 | _=>.no
def zd3 (s:ByteArray):ByteArray:=cutL (z14 s zrf) y9r
def z6k (s:ByteArray):ByteArray:=zed (z14 s zrf) y9r
def zb2 (s:ByteArray):ByteArray:=z6k s++zly ycv (8 - (z6k s).size)
def zef (s:ByteArray):Int:=zvt (zvt (puV (zd3 s)*256)+puV (zb2 s) / 390625)
def ya9 (s:ByteArray):Int:=zcj (cond (zdm s zrf) (zvt (0 - zef s)) (zef s))
def ybh (s:ByteArray):Bool:=
 decide ((z6k s).size≤8)&&(puN (zd3 s)&&(puN (zb2 s)&&(decide (puV (zd3 s)≤36028797018963968)&&(decide (puV (zb2 s) % 390625=0)&&decide (z0b (ya9 s)=s)))))
def zic (s:ByteArray):Int:=cond (ybh s) (ya9 s) 0
def z9r:z0u
 | [.str s]=>.br (decide (s.size < 4294967281)) (.ok (.tup [.int .i64 (zic s),.bool (ybh s)]) []) .no
 | _=>.no
open Go Go.Proofs
def y6k (N:Nat):Env:=mkE [] [(3,⟨[0,1,2],[],[]⟩)] 8 N
def zz2 (N:Nat):Env:=mkE [(189,z5j)] [] 19 N
theorem zx3 (N:Nat) (s:ByteArray):z1c (zz2 N) znq [.tmp 2,.tmp 3] [[.int .u64],[.bool]] [(.str s)] =
 (cond (puN s)
 (cond (decide (0≤0)&&decide (0 < ic (ByteArray.size s)))
 (some ((.tup [(.int .u64 (puV s)),(.bool (ic (UInt8.toNat (List.getD (Array.toList (ByteArray.data s)) (Int.toNat 0) 0)) != 43))]),[]))
 none)
 (some ((.tup [(.int .u64 (puV s)),(.bool false)]),[]))):=by kernel_rfl
def y49 (N:Nat):Env:=mkE [(84,z9t),(83,z4x),(86,z4c),(85,z5f)] [] 38 N
theorem y0z (N:Nat) (n:Int):z1c (y49 N) zq0 [.tmp 2] [[.str]] [(.int .i64 n)] =
 (cond (decide (n < 0))
 (cond (decide (ByteArray.size { data:=#[45] }+ByteArray.size (z99 (Int.fdiv (IntKind.wrap IntKind.u64 (0 - IntKind.wrap IntKind.u64 n)) (2 ^ min (Int.toNat 8) (IntKind.bits IntKind.u64))))≤strMax))
 (cond (IntKind.wrap IntKind.u64 (ic (BitVec.toNat (BitVec.ofInt (IntKind.bits IntKind.u64) (IntKind.wrap IntKind.u64 (0 - IntKind.wrap IntKind.u64 n)) &&& BitVec.ofInt (IntKind.bits IntKind.u64) 255)))==0)
 (some ((.str ({ data:=#[45] }++z99 (Int.fdiv (IntKind.wrap IntKind.u64 (0 - IntKind.wrap IntKind.u64 n)) (2 ^ min (Int.toNat 8) (IntKind.bits IntKind.u64))))),[]))
 (cond (decide (ByteArray.size ({ data:=#[45] }++z99 (Int.fdiv (IntKind.wrap IntKind.u64 (0 - IntKind.wrap IntKind.u64 n)) (2 ^ min (Int.toNat 8) (IntKind.bits IntKind.u64))))+ByteArray.size { data:=#[46] }≤strMax))
 (cond (decide (0≤IntKind.wrap IntKind.i64 (8 - ic (ByteArray.size (z99 (IntKind.wrap IntKind.u64 (IntKind.wrap IntKind.u64 (ic (BitVec.toNat (BitVec.ofInt (IntKind.bits IntKind.u64) (IntKind.wrap IntKind.u64 (0 - IntKind.wrap IntKind.u64 n)) &&& BitVec.ofInt (IntKind.bits IntKind.u64) 255)))*390625))))))&&decide (ByteArray.size { data:=#[48] }*Int.toNat (IntKind.wrap IntKind.i64 (8 - ic (ByteArray.size (z99 (IntKind.wrap IntKind.u64 (IntKind.wrap IntKind.u64 (ic (BitVec.toNat (BitVec.ofInt (IntKind.bits IntKind.u64) (IntKind.wrap IntKind.u64 (0 - IntKind.wrap IntKind.u64 n)) &&& BitVec.ofInt (IntKind.bits IntKind.u64) 255)))*390625))))))≤strMax))
 (cond (decide (ByteArray.size (zly { data:=#[48] } (Int.toNat (IntKind.wrap IntKind.i64 (8 - ic (ByteArray.size (z99 (IntKind.wrap IntKind.u64 (IntKind.wrap IntKind.u64 (ic (BitVec.toNat (BitVec.ofInt (IntKind.bits IntKind.u64) (IntKind.wrap IntKind.u64 (0 - IntKind.wrap IntKind.u64 n)) &&& BitVec.ofInt (IntKind.bits IntKind.u64) 255)))*390625))))))))+ByteArray.size (z99 (IntKind.wrap IntKind.u64 (IntKind.wrap IntKind.u64 (ic (BitVec.toNat (BitVec.ofInt (IntKind.bits IntKind.u64) (IntKind.wrap IntKind.u64 (0 - IntKind.wrap IntKind.u64 n)) &&& BitVec.ofInt (IntKind.bits IntKind.u64) 255)))*390625)))≤strMax))
 (cond (decide (ByteArray.size ({ data:=#[45] }++z99 (Int.fdiv (IntKind.wrap IntKind.u64 (0 - IntKind.wrap IntKind.u64 n)) (2 ^ min (Int.toNat 8) (IntKind.bits IntKind.u64)))++{ data:=#[46] })+ByteArray.size (zfw (zly { data:=#[48] } (Int.toNat (IntKind.wrap IntKind.i64 (8 - ic (ByteArray.size (z99 (IntKind.wrap IntKind.u64 (IntKind.wrap IntKind.u64 (ic (BitVec.toNat (BitVec.ofInt (IntKind.bits IntKind.u64) (IntKind.wrap IntKind.u64 (0 - IntKind.wrap IntKind.u64 n)) &&& BitVec.ofInt (IntKind.bits IntKind.u64) 255)))*390625)))))))++z99 (IntKind.wrap IntKind.u64 (IntKind.wrap IntKind.u64 (ic (BitVec.toNat (BitVec.ofInt (IntKind.bits IntKind.u64) (IntKind.wrap IntKind.u64 (0 - IntKind.wrap IntKind.u64 n)) &&& BitVec.ofInt (IntKind.bits IntKind.u64) 255)))*390625))) { data:=#[48] })≤strMax))
 (some ((.str ({ data:=#[45] }++z99 (Int.fdiv (IntKind.wrap IntKind.u64 (0 - IntKind.wrap IntKind.u64 n)) (2 ^ min (Int.toNat 8) (IntKind.bits IntKind.u64)))++{ data:=#[46] }++zfw (zly { data:=#[48] } (Int.toNat (IntKind.wrap IntKind.i64 (8 - ic (ByteArray.size (z99 (IntKind.wrap IntKind.u64 (IntKind.wrap IntKind.u64 (ic (BitVec.toNat (BitVec.ofInt (IntKind.bits IntKind.u64) (IntKind.wrap IntKind.u64 (0 - IntKind.wrap IntKind.u64 n)) &&& BitVec.ofInt (IntKind.bits IntKind.u64) 255)))*390625)))))))++z99 (IntKind.wrap IntKind.u64 (IntKind.wrap IntKind.u64 (ic (BitVec.toNat (BitVec.ofInt (IntKind.bits IntKind.u64) (IntKind.wrap IntKind.u64 (0 - IntKind.wrap IntKind.u64 n)) &&& BitVec.ofInt (IntKind.bits IntKind.u64) 255)))*390625))) { data:=#[48] })),[]))
 none)
 none)
 none)
 none))
 none)
 (cond (decide (ByteArray.size { data:=#[] }+ByteArray.size (z99 (Int.fdiv (IntKind.wrap IntKind.u64 n) (2 ^ min (Int.toNat 8) (IntKind.bits IntKind.u64))))≤strMax))
 (cond (IntKind.wrap IntKind.u64 (ic (BitVec.toNat (BitVec.ofInt (IntKind.bits IntKind.u64) (IntKind.wrap IntKind.u64 n) &&& BitVec.ofInt (IntKind.bits IntKind.u64) 255)))==0)
 (some ((.str ({ data:=#[] }++z99 (Int.fdiv (IntKind.wrap IntKind.u64 n) (2 ^ min (Int.toNat 8) (IntKind.bits IntKind.u64))))),[]))
 (cond (decide (ByteArray.size ({ data:=#[] }++z99 (Int.fdiv (IntKind.wrap IntKind.u64 n) (2 ^ min (Int.toNat 8) (IntKind.bits IntKind.u64))))+ByteArray.size { data:=#[46] }≤strMax))
 (cond (decide (0≤IntKind.wrap IntKind.i64 (8 - ic (ByteArray.size (z99 (IntKind.wrap IntKind.u64 (IntKind.wrap IntKind.u64 (ic (BitVec.toNat (BitVec.ofInt (IntKind.bits IntKind.u64) (IntKind.wrap IntKind.u64 n) &&& BitVec.ofInt (IntKind.bits IntKind.u64) 255)))*390625))))))&&decide (ByteArray.size { data:=#[48] }*Int.toNat (IntKind.wrap IntKind.i64 (8 - ic (ByteArray.size (z99 (IntKind.wrap IntKind.u64 (IntKind.wrap IntKind.u64 (ic (BitVec.toNat (BitVec.ofInt (IntKind.bits IntKind.u64) (IntKind.wrap IntKind.u64 n) &&& BitVec.ofInt (IntKind.bits IntKind.u64) 255)))*390625))))))≤strMax))
 (cond (decide (ByteArray.size (zly { data:=#[48] } (Int.toNat (IntKind.wrap IntKind.i64 (8 - ic (ByteArray.size (z99 (IntKind.wrap IntKind.u64 (IntKind.wrap IntKind.u64 (ic (BitVec.toNat (BitVec.ofInt (IntKind.bits IntKind.u64) (IntKind.wrap IntKind.u64 n) &&& BitVec.ofInt (IntKind.bits IntKind.u64) 255)))*390625))))))))+ByteArray.size (z99 (IntKind.wrap IntKind.u64 (IntKind.wrap IntKind.u64 (ic (BitVec.toNat (BitVec.ofInt (IntKind.bits IntKind.u64) (IntKind.wrap IntKind.u64 n) &&& BitVec.ofInt (IntKind.bits IntKind.u64) 255)))*390625)))≤strMax))
 (cond (decide (ByteArray.size ({ data:=#[] }++z99 (Int.fdiv (IntKind.wrap IntKind.u64 n) (2 ^ min (Int.toNat 8) (IntKind.bits IntKind.u64)))++{ data:=#[46] })+ByteArray.size (zfw (zly { data:=#[48] } (Int.toNat (IntKind.wrap IntKind.i64 (8 - ic (ByteArray.size (z99 (IntKind.wrap IntKind.u64 (IntKind.wrap IntKind.u64 (ic (BitVec.toNat (BitVec.ofInt (IntKind.bits IntKind.u64) (IntKind.wrap IntKind.u64 n) &&& BitVec.ofInt (IntKind.bits IntKind.u64) 255)))*390625)))))))++z99 (IntKind.wrap IntKind.u64 (IntKind.wrap IntKind.u64 (ic (BitVec.toNat (BitVec.ofInt (IntKind.bits IntKind.u64) (IntKind.wrap IntKind.u64 n) &&& BitVec.ofInt (IntKind.bits IntKind.u64) 255)))*390625))) { data:=#[48] })≤strMax))
 (some ((.str ({ data:=#[] }++z99 (Int.fdiv (IntKind.wrap IntKind.u64 n) (2 ^ min (Int.toNat 8) (IntKind.bits IntKind.u64)))++{ data:=#[46] }++zfw (zly { data:=#[48] } (Int.toNat (IntKind.wrap IntKind.i64 (8 - ic (ByteArray.size (z99 (IntKind.wrap IntKind.u64 (IntKind.wrap IntKind.u64 (ic (BitVec.toNat (BitVec.ofInt (IntKind.bits IntKind.u64) (IntKind.wrap IntKind.u64 n) &&& BitVec.ofInt (IntKind.bits IntKind.u64) 255)))*390625)))))))++z99 (IntKind.wrap IntKind.u64 (IntKind.wrap IntKind.u64 (ic (BitVec.toNat (BitVec.ofInt (IntKind.bits IntKind.u64) (IntKind.wrap IntKind.u64 n) &&& BitVec.ofInt (IntKind.bits IntKind.u64) 255)))*390625))) { data:=#[48] })),[]))
 none)
 none)
 none)
 none))
 none)):=by kernel_rfl
open Go Go.Proofs
open Go
theorem zdp {s t:ByteArray} (h:s.data.toList=t.data.toList):s=t:=ByteArray.ext (Array.ext' h)
theorem zzj (s t:ByteArray):(s.toList==t.toList)=decide (s=t):=by
 rw [Lib.toList_data,Lib.toList_data]
 by_cases h:s=t
 ·subst h; simp
 ·rw [decide_eq_false h,beq_eq_false_iff_ne]
  exact fun e=>h (zdp e)
theorem zfc (s:ByteArray):s.size=s.data.toList.length:=by rw [Array.length_toList]; rfl
theorem y0w (u:Nat):∀ c∈Lib.decDigits u,48≤c.toNat∧c.toNat≤57:=by
 induction u using Nat.strongRecOn with
 | _ u ih=>
  intro c hc;rw [Lib.decDigits] at hc
  split at hc
  ·rename_i h
   simp only [List.mem_singleton] at hc;subst hc;rw [UInt8.toNat_ofNat_of_lt' (by simp [UInt8.size]; omega)]
   omega
  ·rename_i h
   rw [List.mem_append,List.mem_singleton] at hc;rcases hc with hc | hc
   ·exact ih (u / 10) (by omega) c hc
   ·subst hc
    rw [UInt8.toNat_ofNat_of_lt' (by simp [UInt8.size]; omega)]
    omega
theorem y0g (u:Nat):Lib.decDigits u≠[]:=by
 rw [Lib.decDigits]
 split <;> simp
open Go
theorem yc9 {n m:Int} (h:0 < m) : -m < n.tmod m∧n.tmod m < m:=by
 constructor
 ·rcases Int.lt_or_le n 0 with hn | hn
  ·have e:n.tmod m = -((-n).tmod m):=by rw [Int.neg_tmod,Int.neg_neg]
   have:=Int.tmod_lt_of_pos (-n) h
   omega
  ·have:=Int.tmod_nonneg m hn
   omega
 ·exact Int.tmod_lt_of_pos n h
theorem y8s {n lo hi:Int} (h:lo≤hi) (h0 : -2000000000000000000≤lo) (h1:hi≤2000000000000000000):zjk lo hi=hi - lo+1∧lo≤z9m n lo hi∧z9m n lo hi≤hi:=by
 have e1:zcj (hi - lo)=hi - lo:=z1d (by omega) (by omega)
 have e2:zjk lo hi=hi - lo+1:=by
  unfold zjk;rw [e1];exact z1d (by omega) (by omega)
 refine ⟨e2,?_⟩;unfold z9m;rw [e2];obtain ⟨t0,t1⟩:=yc9 (n:=n) (m:=hi - lo+1) (by omega)
 generalize n.tmod (hi - lo+1)=q at t0 t1 ⊢
 cases hq:decide (q < 0) with
 | true=>
  have hq:=of_decide_eq_true hq;simp only [cond_true];have a1:zcj (q+hi)=q+hi:=z1d (by omega) (by omega)
  have a2:zcj (q+hi - lo)=q+hi - lo:=z1d (by omega) (by omega)
  have a3:zcj (q+hi - lo+1)=q+hi - lo+1:=z1d (by omega) (by omega)
  have a4:zcj (lo+(q+hi - lo+1))=lo+(q+hi - lo+1):=z1d (by omega) (by omega)
  rw [a1,a2,a3,a4];omega
 | false=>
  have hq:=of_decide_eq_false hq;simp only [cond_false];have a1:zcj (lo+q)=lo+q:=z1d (by omega) (by omega)
  rw [a1];omega
theorem ybu (n:Int):IntKind.wrap .u64 n=n % 18446744073709551616:=by simp [IntKind.wrap,IntKind.bits,IntKind.signed]
abbrev InR (n:Int):Prop := -9223372036854775808≤n∧n≤9223372036854775807
theorem yft {f:Nat→Bool} (h:(List.range 256).all f=true) {r:Nat} (hr:r < 256):f r=true:=List.all_eq_true.1 h r (List.mem_range.2 hr)
def ydg (r:Nat):Bool:=Nat.beq r 0||(Nat.ble (ztg r).length 8&&((ztg r).all (fun c=>Nat.ble 48 c.toNat&&Nat.ble c.toNat 57)&&(match (ztg r).reverse with | []=>false | c :: _=>!(Nat.beq c.toNat 48))))
theorem yc4:(List.range 256).all ydg=true:=by kernel_rfl
theorem yfa {r:Nat} (h0:r≠0) (h:r < 256):(ztg r).length≤8∧(∀ c∈ztg r,48≤c.toNat∧c.toNat≤57)∧∃ l c,ztg r=l++[c]∧c.toNat≠48:=by
 have:=yft yc4 h
 unfold ydg at this;simp only [Bool.or_eq_true,Bool.and_eq_true,List.all_eq_true] at this;rcases this with h1 | ⟨h1,h2,h3⟩
 ·exact absurd (Nat.eq_of_beq_eq_true h1) h0
 ·refine ⟨Nat.le_of_ble_eq_true h1,fun c hc=>⟨Nat.le_of_ble_eq_true (h2 c hc).1,Nat.le_of_ble_eq_true (h2 c hc).2⟩,?_⟩
  cases hr:(ztg r).reverse with
  | nil=>rw [hr] at h3; cases h3
  | cons c l=>
   rw [hr] at h3;refine ⟨l.reverse,c,?_,?_⟩
   ·have:=congrArg List.reverse hr
    simpa using this
   ·intro e
    have h3:(!c.toNat.beq 48)=true:=h3;rw [e] at h3;cases h3
theorem y5w (u:Nat):ztv u=Lib.decDigits (u / 256)++(if u % 256=0 then [] else 46 :: ztg (u % 256)):=rfl
theorem yab (v:Nat):∃ c r,Lib.decDigits v=c :: r∧48≤c.toNat∧c.toNat≤57:=by
 cases h:Lib.decDigits v with
 | nil=>exact absurd h (y0g v)
 | cons c r=>exact ⟨c,r,rfl,y0w v c (by rw [h]; exact List.mem_cons_self ..)⟩
theorem y6u (u:Nat):∃ c r,ztv u=c :: r∧48≤c.toNat∧c.toNat≤57:=by
 obtain ⟨c,r,h,h1⟩:=yab (u / 256);exact ⟨c,r++_,by rw [y5w,h]; rfl,h1⟩
theorem y2e (n:Int):∃ c r,(z0b n).data.toList=c :: r∧c.toNat≠43:=by
 show ∃ c r,zri n=c :: r∧c.toNat≠43;unfold zri
 split
 ·exact ⟨45,_,rfl,by decide⟩
 ·obtain ⟨c,r,h,h1,_⟩:=y6u n.natAbs
  exact ⟨c,r,h,by omega⟩
theorem zdr (n:Int) (hn:InR n):1≤(z0b n).size∧(z0b n).size≤40:=by
 obtain ⟨c,r,h,_⟩:=y2e n;refine ⟨by rw [zfc,h]; simp,?_⟩
 rw [zfc];show (zri n).length≤40;have hs:(ztv n.natAbs).length≤30:=by
  rw [y5w,List.length_append];have h1:(Lib.decDigits (n.natAbs / 256)).length≤20:=by
   have:=zrr (n:=((n.natAbs / 256:Nat):Int)) (by omega) (by obtain ⟨_,_⟩:=hn; omega)
   rw [zfc] at this;exact this
  split
  ·simp; omega
  ·rename_i h0
   have:=(yfa h0 (by omega:n.natAbs % 256 < 256)).1
   simp only [List.length_cons];omega
 unfold zri
 split
 ·simp only [List.length_cons]; omega
 ·omega
open Go
structure Qy where
 k:Int
 c:Int
 a0:Int
 b0:Int
 a1:Int
 b1:Int
 a2:Int
 b2:Int
 a3:Int
 b3:Int
 a4:Int
 b4:Int
 lo:Int
 hi:Int
 ft:Int
 fl:Bool
 bu:Int
def Qy.V (q:Qy):V:=.agg [.int .i64 q.k,.int .i64 q.c,.int .i64 q.a0,.int .i64 q.b0,.int .i64 q.a1,.int .i64 q.b1,.int .i64 q.a2,.int .i64 q.b2,.int .i64 q.a3,.int .i64 q.b3,.int .i64 q.a4,.int .i64 q.b4,.int .i64 q.lo,.int .i64 q.hi,.int .i64 q.ft,.bool q.fl,.int .i64 q.bu]
def Qy.none:Qy:=⟨0,0,0,0,0,0,0,0,0,0,0,0,0,0,0,false,0⟩
def Qy.eq (p q:Qy):Bool:=
 (p.k==q.k)&&((p.c==q.c)&&((p.a0==q.a0)&&((p.b0==q.b0)&&((p.a1==q.a1)&&((p.b1==q.b1)&&((p.a2==q.a2)&&((p.b2==q.b2)&&((p.a3==q.a3)&&((p.b3==q.b3)&&((p.a4==q.a4)&&((p.b4==q.b4)&&((p.lo==q.lo)&&((p.hi==q.hi)&&((p.ft==q.ft)&&((p.fl==q.fl)&&((p.bu==q.bu)&&true))))))))))))))))
def zfn (q:Qy) (d:Int):Qy:=
 ⟨q.k,q.c,cond (decide (0 < d)) q.a0 0,cond (decide (0 < d)) q.b0 0,cond (decide (1 < d)) q.a1 0,cond (decide (1 < d)) q.b1 0,cond (decide (2 < d)) q.a2 0,cond (decide (2 < d)) q.b2 0,cond (decide (3 < d)) q.a3 0,cond (decide (3 < d)) q.b3 0,cond (decide (4 < d)) q.a4 0,cond (decide (4 < d)) q.b4 0,
  cond (q.k==1) q.lo 0,cond (q.k==1) q.hi 0,cond (q.k==3) q.ft 0,cond (q.k==3) q.fl false,q.bu⟩
def ze1:z0u
 | [.agg [.int .i64 k,.int .i64 c,.int .i64 a0,.int .i64 b0,.int .i64 a1,.int .i64 b1,.int .i64 a2,.int .i64 b2,.int .i64 a3,.int .i64 b3,.int .i64 a4,.int .i64 b4,.int .i64 lo,.int .i64 hi,.int .i64 ft,.bool fl,.int .i64 bu],.int .i64 d]=>
  .br (decide (0≤d)&&decide (d≤5)) (.ok (.agg [.int .i64 (zfn ⟨k,c,a0,b0,a1,b1,a2,b2,a3,b3,a4,b4,lo,hi,ft,fl,bu⟩ d).k,.int .i64 (zfn ⟨k,c,a0,b0,a1,b1,a2,b2,a3,b3,a4,b4,lo,hi,ft,fl,bu⟩ d).c,
   .int .i64 (zfn ⟨k,c,a0,b0,a1,b1,a2,b2,a3,b3,a4,b4,lo,hi,ft,fl,bu⟩ d).a0,.int .i64 (zfn ⟨k,c,a0,b0,a1,b1,a2,b2,a3,b3,a4,b4,lo,hi,ft,fl,bu⟩ d).b0,
   .int .i64 (zfn ⟨k,c,a0,b0,a1,b1,a2,b2,a3,b3,a4,b4,lo,hi,ft,fl,bu⟩ d).a1,.int .i64 (zfn ⟨k,c,a0,b0,a1,b1,a2,b2,a3,b3,a4,b4,lo,hi,ft,fl,bu⟩ d).b1,
   .int .i64 (zfn ⟨k,c,a0,b0,a1,b1,a2,b2,a3,b3,a4,b4,lo,hi,ft,fl,bu⟩ d).a2,.int .i64 (zfn ⟨k,c,a0,b0,a1,b1,a2,b2,a3,b3,a4,b4,lo,hi,ft,fl,bu⟩ d).b2,
   .int .i64 (zfn ⟨k,c,a0,b0,a1,b1,a2,b2,a3,b3,a4,b4,lo,hi,ft,fl,bu⟩ d).a3,.int .i64 (zfn ⟨k,c,a0,b0,a1,b1,a2,b2,a3,b3,a4,b4,lo,hi,ft,fl,bu⟩ d).b3,
   .int .i64 (zfn ⟨k,c,a0,b0,a1,b1,a2,b2,a3,b3,a4,b4,lo,hi,ft,fl,bu⟩ d).a4,.int .i64 (zfn ⟨k,c,a0,b0,a1,b1,a2,b2,a3,b3,a4,b4,lo,hi,ft,fl,bu⟩ d).b4,
   .int .i64 (zfn ⟨k,c,a0,b0,a1,b1,a2,b2,a3,b3,a4,b4,lo,hi,ft,fl,bu⟩ d).lo,.int .i64 (zfn ⟨k,c,a0,b0,a1,b1,a2,b2,a3,b3,a4,b4,lo,hi,ft,fl,bu⟩ d).hi,
   .int .i64 (zfn ⟨k,c,a0,b0,a1,b1,a2,b2,a3,b3,a4,b4,lo,hi,ft,fl,bu⟩ d).ft,.bool (zfn ⟨k,c,a0,b0,a1,b1,a2,b2,a3,b3,a4,b4,lo,hi,ft,fl,bu⟩ d).fl,
   .int .i64 (zfn ⟨k,c,a0,b0,a1,b1,a2,b2,a3,b3,a4,b4,lo,hi,ft,fl,bu⟩ d).bu]) []) .no
 | _=>.no
def zhb (n:Int):Bool:=decide (0≤n)&&decide (n≤1073741824)
def zce:z0u
 | [.int .i64 n]=>.ok (.bool (zhb n)) []
 | _=>.no
def z7y:z0u
 | [.str s]=>.ok (.int .i64 (z3w s)) []
 | _=>.no
def z9s:z0u
 | [.str s]=>.br (decide (s.size < 4294967281)) (.ok (.int .i64 (zic s)) []) .no
 | _=>.no
abbrev zn9:ByteArray:=⟨#[114,97,110,103,101]⟩
abbrev zuz:ByteArray:=⟨#[98,101,115,116]⟩
abbrev zmr:ByteArray:=⟨#[114,105,115,101,115]⟩
abbrev zjw:ByteArray:=⟨#[102,97,108,108,115]⟩
abbrev yam:ByteArray:=⟨#[102,114,111,109]⟩
abbrev yhn:ByteArray:=⟨#[116,111]⟩
abbrev yg9:ByteArray:=⟨#[98,121]⟩
abbrev yd6:ByteArray:=⟨#[105,110]⟩
abbrev zeq:ByteArray:=⟨#[98,117,100,103,101,116]⟩
abbrev y5k:ByteArray:=⟨#[46,46]⟩
abbrev z42:ByteArray:=⟨#[32]⟩
def y7w (a b:Int):ByteArray:=z0b a++y5k++z0b b
def y6q (q:Qy):List ByteArray:=
 cond (q.k==1) [zn9,z0i q.c,yam,z0b q.lo,yhn,z0b q.hi]
 (cond (q.k==2) [zuz,z0i q.c] [cond q.fl zjw zmr,z0i q.c,yg9,z0i q.ft])
def Qy.spans (q:Qy):List (Int × Int):=[(q.a0,q.b0),(q.a1,q.b1),(q.a2,q.b2),(q.a3,q.b3),(q.a4,q.b4)]
def yaa (q:Qy) (d:Nat):List ByteArray:=y6q q++yd6 :: ((q.spans.take d).map fun s=>y7w s.1 s.2)++[zeq,z0i q.bu]
def okQ (q:Qy) (d:Int):Bool:=
 (!(decide (d < 1))&&!(decide (d > 4)))&&(q.eq (zfn q d)&&(zhb q.c&&(zhb q.ft&&(zhb q.bu&&((q.k==1)||((q.k==2)||(q.k==3)))))))
def y1h (q:Qy) (d:Int):ByteArray:=cond (okQ q d) (z9n (yaa q d.toNat) z42) y4z
def zbz:z0u
 | [.agg [.int .i64 k,.int .i64 c,.int .i64 a0,.int .i64 b0,.int .i64 a1,.int .i64 b1,.int .i64 a2,.int .i64 b2,.int .i64 a3,.int .i64 b3,.int .i64 a4,.int .i64 b4,.int .i64 lo,.int .i64 hi,.int .i64 ft,.bool fl,.int .i64 bu],.int .i64 d]=>
  .ok (.str (y1h ⟨k,c,a0,b0,a1,b1,a2,b2,a3,b3,a4,b4,lo,hi,ft,fl,bu⟩ d)) []
 | _=>.no
def wAt (l:List IV) (i:Nat):ByteArray:=(l.getD i default).toStr
def z2h (l:List IV):Qy:=
 cond ((wAt l 0).toList==zn9.toList) ⟨1,z3w (wAt l 1),0,0,0,0,0,0,0,0,0,0,zic (wAt l 3),zic (wAt l 5),0,false,0⟩
 (cond ((wAt l 0).toList==zuz.toList) ⟨2,z3w (wAt l 1),0,0,0,0,0,0,0,0,0,0,0,0,0,false,0⟩
 (cond ((wAt l 0).toList==zmr.toList||(wAt l 0).toList==zjw.toList) ⟨3,z3w (wAt l 1),0,0,0,0,0,0,0,0,0,0,0,0,z3w (wAt l 3),(wAt l 0).toList==zjw.toList,0⟩
 ⟨0,z3w (wAt l 1),0,0,0,0,0,0,0,0,0,0,0,0,0,false,0⟩))
def ze5:z0u
 | [.list false [.str] l]=>.br (decide (l.length≤4294967290)&&l.all (fun x=>decide (x.toStr.size < 4294967281)))
  (.ok (.agg [.int .i64 (z2h l).k,.int .i64 (z2h l).c,.int .i64 (z2h l).a0,.int .i64 (z2h l).b0,.int .i64 (z2h l).a1,.int .i64 (z2h l).b1,.int .i64 (z2h l).a2,.int .i64 (z2h l).b2,.int .i64 (z2h l).a3,.int .i64 (z2h l).b3,.int .i64 (z2h l).a4,.int .i64 (z2h l).b4,
   .int .i64 (z2h l).lo,.int .i64 (z2h l).hi,.int .i64 (z2h l).ft,.bool (z2h l).fl,.int .i64 (z2h l).bu]) []) .no
 | _=>.no
def spA (l:List IV) (i:Nat):Int:=zic (cutL (wAt l i) y5k)
def spB (l:List IV) (i:Nat):Int:=zic (zed (wAt l i) y5k)
def yhr (l:List IV) (i d:Nat):Qy:=
 ⟨(
  z2h (l.take i)).k,(z2h (l.take i)).c,
  cond (Nat.blt 0 d) (spA l (i+1)) 0,cond (Nat.blt 0 d) (spB l (i+1)) 0,cond (Nat.blt 1 d) (spA l (i+2)) 0,cond (Nat.blt 1 d) (spB l (i+2)) 0,cond (Nat.blt 2 d) (spA l (i+3)) 0,cond (Nat.blt 2 d) (spB l (i+3)) 0,cond (Nat.blt 3 d) (spA l (i+4)) 0,cond (Nat.blt 3 d) (spB l (i+4)) 0,0,0,
  (z2h (l.take i)).lo,(z2h (l.take i)).hi,(z2h (l.take i)).ft,(z2h (l.take i)).fl,z3w (wAt l (l.length - 1))⟩
def z9g (s:ByteArray):List IV:=(z09 s z42).map IV.str
def zos (s:ByteArray):Int:=zf5 (z9g s) yd6 0
def zsj (s:ByteArray):Int:=ic (z9g s).length - 2 - zos s - 1
def yeb (s:ByteArray):Qy:=yhr (z9g s) (zos s).toNat (zsj s).toNat
def y3b (s:ByteArray):Bool:=(!(decide (zos s < 0))&&(!(decide (zsj s < 1))&&!(decide (zsj s > 4))))&&(y1h (yeb s) (zsj s)).toList==s.toList
def zk0 (s:ByteArray):Qy:=cond (y3b s) (yeb s) Qy.none
def ydk (s:ByteArray):Int:=cond (y3b s) (zsj s) 0
def zc4:z0u
 | [.str s]=>.br (decide (s.size < 4294967281))
  (.ok (.tup [.agg [.int .i64 (zk0 s).k,.int .i64 (zk0 s).c,.int .i64 (zk0 s).a0,.int .i64 (zk0 s).b0,.int .i64 (zk0 s).a1,.int .i64 (zk0 s).b1,.int .i64 (zk0 s).a2,.int .i64 (zk0 s).b2,.int .i64 (zk0 s).a3,.int .i64 (zk0 s).b3,.int .i64 (zk0 s).a4,.int .i64 (zk0 s).b4,
   .int .i64 (zk0 s).lo,.int .i64 (zk0 s).hi,.int .i64 (zk0 s).ft,.bool (zk0 s).fl,.int .i64 (zk0 s).bu],.int .i64 (ydk s),.bool (y3b s)]) []) .no
 | _=>.no
open Go
def y6l (l:List IV) (i:Int):Int:=cond (ic l.length==0) 0 (l.getD (i.tmod (ic l.length)).toNat default).toInt
def z1n (n:Int):Bool:=decide (-2147483648≤n)&&decide (n≤2147483647)
def z5p:z0u
 | [.int .i64 n,.int .i64 w]=>.br (decide (w=32)) (.ok (.bool (z1n n)) []) .no
 | _=>.no
def zzh (lf:Bool) (v f a l r:Int):Bool:=
 cond lf (z1n v&&((f==0)&&((a==0)&&((l==0)&&(r==0)))))
  ((v==0)&&(decide (0≤f)&&(decide (f < 4)&&(z1n a&&(decide (1≤l)&&(decide (l < 31)&&(decide (1≤r)&&decide (r < 31))))))))
def z38:z0u
 | [.agg [.bool lf,.int .i64 v,.int .i64 f,.int .i64 a,.int .i64 l,.int .i64 r]]=>.ok (.bool (zzh lf v f a l r)) []
 | _=>.no
def yh0 (a b:Int):Int:=zvt (ic (BitVec.toNat (BitVec.ofInt (IntKind.bits IntKind.u64) a &&& BitVec.ofInt (IntKind.bits IntKind.u64) b)))
def orU (a b:Int):Int:=zvt (ic (BitVec.toNat (BitVec.ofInt (IntKind.bits IntKind.u64) a ||| BitVec.ofInt (IntKind.bits IntKind.u64) b)))
def yfk (a:Int) (k:Nat):Int:=zvt (a*2 ^ k)
def zw2 (lf:Bool) (v f a l r:Int):Int:=
 cond (zzh lf v f a l r)
  (cond lf (orU 9223372036854775808 (yh0 (zvt v) 4294967295))
   (orU (orU (orU (yh0 (zvt a) 4294967295) (yfk (zvt f) 32)) (yfk (zvt l) 40)) (yfk (zvt r) 48)))
  0
def z5q:z0u
 | [.agg [.bool lf,.int .i64 v,.int .i64 f,.int .i64 a,.int .i64 l,.int .i64 r]]=>.ok (.int .u64 (zw2 lf v f a l r)) []
 | _=>.no
def mkN (lf:Bool) (v f a l r:Int):IV:=.agg [.bool lf,.int v,.int f,.int a,.int l,.int r]
def yev (v:Int):IV:=mkN true v 0 0 0 0
def yhd (x:IV):IV:=.int (zw2 (x.cell 0).toBool (x.cell 1).toInt (x.cell 2).toInt (x.cell 3).toInt (x.cell 4).toInt (x.cell 5).toInt)
structure Ns where
 nodes:List IV
 leaves:List IV
def nsK (part:List IV) (i:Nat) (s:Ns):Int:=z9m (part.getD i default).toInt 0 (ic s.leaves.length - 1)
def yik (part:List IV) (i:Nat) (s:Ns):Int:=(s.leaves.getD (nsK part i s).toNat default).toInt
def zyr (part byl atl val:List IV) (dim:Int) (i:Nat) (s:Ns):Ns:=
 ⟨s.nodes.set (yik part i s).toNat (mkN false 0 (z9m (y6l byl (i:Int)) 0 (dim - 1)) (z9m (y6l atl (i:Int)) 0 9) (ic s.nodes.length) (ic s.nodes.length+1)) ++
   [yev (z9m (y6l val (2*(i:Int)+1)) (-3000) 3000),yev (z9m (y6l val (2*(i:Int)+2)) (-3000) 3000)],
  s.leaves.take (nsK part i s).toNat++s.leaves.drop ((nsK part i s).toNat+1)++[.int (ic s.nodes.length),.int (ic s.nodes.length+1)]⟩
def ygx (part byl atl val:List IV) (dim:Int):Nat→Nat→Ns→Ns
 | 0,_,s=>s
 | d+1,i,s=>ygx part byl atl val dim d (i+1) (zyr part byl atl val dim i s)
def ygr (part byl atl val:List IV) (dim:Int):Ns:=ygx part byl atl val dim (min part.length 7) 0 ⟨[yev (z9m (y6l val 0) (-3000) 3000)],[.int 0]⟩
def ygj (part byl atl val:List IV) (dim:Int):List IV:=(ygr part byl atl val dim).nodes.map yhd
def yi8 (d:Int):Int:=z9m d 1 3
def yho (c:Int):Int:=z9m c 1 3
def yeo (c:Int) (bias:List IV) (j:Int):Int:=cond (decide (j < yho c)) (z9m (y6l bias j) (-500) 500) 0
def yi5 (d c:Int) (t:IV):IV:=.agg [.int (z9m (t.cell 0).toInt 0 (yho c - 1)),.list (ygj (t.cell 1).toList (t.cell 2).toList (t.cell 3).toList (t.cell 4).toList (yi8 d))]
def ygb (d c:Int) (ts:List IV):List IV:=(ts.take 4).map (yi5 d c)
structure Ak where
 k:Int
 c:Int
 lo:Int
 size:Int
 ft:Int
 bu:Int
 fl:Bool
 sp:List IV
open Go Go.Proofs
def zoy (N:Nat):Env:=mkE [] [] 27 N
theorem zmi (N:Nat) (n w:Int):z1c (zoy N) zfq [.tmp 4] [[.bool]] [(.int .i64 n),(.int .i64 w)]=(cond (decide (w < 1)) (some ((.bool false),[])) (cond (decide (w > 64)) (some ((.bool false),[])) (cond (w==64) (some ((.bool true),[])) (cond (decide (IntKind.wrap IntKind.i64 (w - 1) < 0)) none (cond (decide (n≥IntKind.wrap IntKind.i64 (0 - IntKind.wrap IntKind.i64 (1*2 ^ min (Int.toNat (IntKind.wrap IntKind.i64 (w - 1))) (IntKind.bits IntKind.i64))))) (some ((.bool (decide (n≤IntKind.wrap IntKind.i64 (IntKind.wrap IntKind.i64 (1*2 ^ min (Int.toNat (IntKind.wrap IntKind.i64 (w - 1))) (IntKind.bits IntKind.i64)) - 1)))),[])) (some ((.bool false),[]))))))):=by kernel_rfl
def zgy (N:Nat):Env:=mkE [(160,z5p)] [] 66 N
theorem zg9 (N:Nat) (n_Leaf:Bool) (n_Value n_Feature n_At n_Left n_Right:Int):z1c (zgy N) zat [.tmp 2] [[.bool]] [(.agg [(.bool n_Leaf),(.int .i64 n_Value),(.int .i64 n_Feature),(.int .i64 n_At),(.int .i64 n_Left),(.int .i64 n_Right)])]=(cond n_Leaf (cond (z1n n_Value) (cond (n_Feature==0) (cond (n_At==0) (cond (n_Left==0) (some ((.bool (n_Right==0)),[])) (some ((.bool false),[]))) (some ((.bool false),[]))) (some ((.bool false),[]))) (some ((.bool false),[]))) (cond (n_Value==0) (cond (decide (n_Feature≥0)) (cond (decide (n_Feature < 4)) (cond (z1n n_At) (cond (decide (n_Left≥1)) (cond (decide (n_Left < 31)) (cond (decide (n_Right≥1)) (some ((.bool (decide (n_Right < 31))),[])) (some ((.bool false),[]))) (some ((.bool false),[]))) (some ((.bool false),[]))) (some ((.bool false),[]))) (some ((.bool false),[]))) (some ((.bool false),[]))) (some ((.bool false),[])))):=by kernel_rfl
def zov (N:Nat):Env:=mkE [(117,z38)] [] 32 N
theorem zm5 (N:Nat) (n_Leaf:Bool) (n_Value n_Feature n_At n_Left n_Right:Int):z1c (zov N) zg1 [.tmp 2] [[.int .u64]] [(.agg [(.bool n_Leaf),(.int .i64 n_Value),(.int .i64 n_Feature),(.int .i64 n_At),(.int .i64 n_Left),(.int .i64 n_Right)])]=(cond (!zzh n_Leaf n_Value n_Feature n_At n_Left n_Right) (some ((.int .u64 0),[])) (cond n_Leaf (some ((.int .u64 (IntKind.wrap IntKind.u64 (ic (BitVec.toNat (BitVec.ofInt (IntKind.bits IntKind.u64) 9223372036854775808 ||| BitVec.ofInt (IntKind.bits IntKind.u64) (IntKind.wrap IntKind.u64 (ic (BitVec.toNat (BitVec.ofInt (IntKind.bits IntKind.u64) (IntKind.wrap IntKind.u64 n_Value) &&& BitVec.ofInt (IntKind.bits IntKind.u64) 4294967295))))))))),[])) (some ((.int .u64 (IntKind.wrap IntKind.u64 (ic (BitVec.toNat (BitVec.ofInt (IntKind.bits IntKind.u64) (IntKind.wrap IntKind.u64 (ic (BitVec.toNat (BitVec.ofInt (IntKind.bits IntKind.u64) (IntKind.wrap IntKind.u64 (ic (BitVec.toNat (BitVec.ofInt (IntKind.bits IntKind.u64) (IntKind.wrap IntKind.u64 (ic (BitVec.toNat (BitVec.ofInt (IntKind.bits IntKind.u64) (IntKind.wrap IntKind.u64 n_At) &&& BitVec.ofInt (IntKind.bits IntKind.u64) 4294967295)))) ||| BitVec.ofInt (IntKind.bits IntKind.u64) (IntKind.wrap IntKind.u64 (IntKind.wrap IntKind.u64 n_Feature*2 ^ min (Int.toNat 32) (IntKind.bits IntKind.u64))))))) ||| BitVec.ofInt (IntKind.bits IntKind.u64) (IntKind.wrap IntKind.u64 (IntKind.wrap IntKind.u64 n_Left*2 ^ min (Int.toNat 40) (IntKind.bits IntKind.u64))))))) ||| BitVec.ofInt (IntKind.bits IntKind.u64) (IntKind.wrap IntKind.u64 (IntKind.wrap IntKind.u64 n_Right*2 ^ min (Int.toNat 48) (IntKind.bits IntKind.u64)))))))),[])))):=by kernel_rfl
open Go Go.Proofs
open Go Go.Proofs
set_option maxRecDepth 100000 in
theorem zkt:z3c PR B0 160 z5p:=by
 refine z0m [] [] z5p [[.bool]] Tryz.func160 zpc trivial ?_;intro vs r hwf h;unfold z5p at h
 split at h
 ·rename_i n w
  cases hc:decide (w=32) with
  | false=>rw [hc] at h; simp [R.get] at h
  | true=>
   rw [hc,R.get_br,z00,R.get_ok] at h;have hc:=of_decide_eq_true hc;subst hc;refine ⟨0,?_⟩;rw [← h];refine (zmi 0 n 32).trans ?_;have e1:IntKind.wrap IntKind.i64 (0 - IntKind.wrap IntKind.i64 (1*2 ^ min (Int.toNat (IntKind.wrap IntKind.i64 ((32:Int) - 1))) (IntKind.bits IntKind.i64))) = -2147483648:=by kernel_rfl
   have e2:IntKind.wrap IntKind.i64 (IntKind.wrap IntKind.i64 (1*2 ^ min (Int.toNat (IntKind.wrap IntKind.i64 ((32:Int) - 1))) (IntKind.bits IntKind.i64)) - 1)=2147483647:=by kernel_rfl
   have e3:decide (IntKind.wrap IntKind.i64 ((32:Int) - 1) < 0)=false:=by kernel_rfl
   rw [e1,e2,e3];unfold z1n;have e4:decide (n ≥ -2147483648)=decide (-2147483648≤n):=rfl;rw [e4];cases decide (-2147483648≤n) <;> rfl
 ·simp [R.get] at h
theorem zz0 (a b:Bool):cond a (some (V.bool b,[])) (some (V.bool false,[]))=(some (V.bool (a&&b),[]):Res):=by cases a <;> rfl
set_option maxRecDepth 100000 in
theorem zfj:z3c PR B0 117 z38:=by
 refine z0m [(160,z5p)] [] z38 [[.bool]] Tryz.func117 zgb ⟨zkt,trivial⟩ ?_;intro vs r hwf h;unfold z38 at h
 split at h
 ·rename_i lf v f a l r'
  refine ⟨0,?_⟩;rw [← h];refine (zg9 0 lf v f a l r').trans ?_;simp only [R.get_ok,zz0];unfold zzh;cases lf with
  | true=>rfl
  | false=>rfl
 ·simp [R.get] at h
set_option maxRecDepth 100000 in
theorem zkb:z3c PR B0 71 z5q:=by
 refine z0m [(117,z38)] [] z5q [[.int .u64]] Tryz.func71 zp8 ⟨zfj,trivial⟩ ?_;intro vs r hwf h;unfold z5q at h
 split at h
 ·rename_i lf v f a l r'
  refine ⟨0,?_⟩;rw [← h];refine (zm5 0 lf v f a l r').trans ?_;unfold zw2;cases zzh lf v f a l r' with
  | false=>rfl
  | true=>cases lf <;> rfl
 ·simp [R.get] at h
open Go
def z5i:z0u
 | [.int .i64 n,.int .i64 w]=>.br (decide (w=32)) (.ok (.bool (z1n n)) []) .no
 | _=>.no
def z6b:z0u
 | [.int .i64 a,.int .i64 w]=>.br (decide (0≤a)&&decide (a < 64)) (.ok (.bool (decide (1≤w)&&decide (w≤64 - a))) []) .no
 | _=>.no
def y40 (w:Int):Int:=(18446744073709551615:Int).fdiv (2 ^ (64 - w).toNat)
def z81:z0u
 | [.int .i64 w]=>.br (decide (1≤w)&&decide (w≤64)) (.ok (.int .u64 (y40 w)) []) .no
 | _=>.no
def yeh (a b:Int):Int:=zvt (ic (BitVec.toNat (BitVec.ofInt (IntKind.bits IntKind.u64) a &&& ~~~ (BitVec.ofInt (IntKind.bits IntKind.u64) b))))
def y8e (x a w y:Int):Int:=orU (yeh x (yfk (y40 w) a.toNat)) (yh0 (yfk y a.toNat) (yfk (y40 w) a.toNat))
def znv (x a w:Int):Int:=yh0 (x.fdiv (2 ^ a.toNat)) (y40 w)
def zdz:z0u
 | [.int .u64 x,.int .i64 a,.int .i64 w,.int .u64 y]=>.br (decide (0≤a)&&(decide (a < 64)&&(decide (1≤w)&&decide (w≤64 - a)))) (.ok (.int .u64 (y8e x a w y)) []) .no
 | _=>.no
def z6r:z0u
 | [.int .u64 x,.int .i64 a,.int .i64 w]=>.br (decide (0≤a)&&(decide (a < 64)&&(decide (1≤w)&&decide (w≤64 - a)))) (.ok (.int .u64 (znv x a w)) []) .no
 | _=>.no
def yb4 (n:Int):Int:=(zcj (n*2 ^ 32)).fdiv (2 ^ 32)
def zcf:z0u
 | [.int .i64 n,.int .i64 w]=>.br (decide (w=32)) (.ok (.int .i64 (yb4 n)) []) .no
 | _=>.no
def zm2 (x:Int):Int:=yb4 (zcj (znv x 0 32))
def z8q:z0u
 | [.int .u64 x,.int .i64 a,.int .i64 w]=>.br (decide (a=0)&&decide (w=32)) (.ok (.int .i64 (zm2 x)) []) .no
 | _=>.no
structure Nd where
 lf:Bool
 v:Int
 f:Int
 a:Int
 l:Int
 r:Int
def Nd.eq (x y:Nd):Bool:=(x.lf==y.lf)&&((x.v==y.v)&&((x.f==y.f)&&((x.a==y.a)&&((x.l==y.l)&&((x.r==y.r)&&true)))))
def Nd.zero:Nd:=⟨false,0,0,0,0,0⟩
def zl2 (n:Int):Bool:=decide (1≤n)&&decide (n < 31)
def zaq:z0u
 | [.int .i64 n]=>.ok (.bool (zl2 n)) []
 | _=>.no
def z9o (x:Nd):Bool:=
 cond x.lf (x.eq ⟨true,x.v,0,0,0,0⟩&&z1n x.v)
  ((x.v==0)&&(decide (0≤x.f)&&(decide (x.f < 4)&&(z1n x.a&&(zl2 x.l&&zl2 x.r)))))
def zaa:z0u
 | [.agg [.bool lf,.int .i64 v,.int .i64 f,.int .i64 a,.int .i64 l,.int .i64 r]]=>.ok (.bool (z9o ⟨lf,v,f,a,l,r⟩)) []
 | _=>.no
def z70 (x:Nd):Int:=
 cond (z9o x)
  (cond x.lf (y8e 9223372036854775808 0 32 (zvt x.v))
   (y8e (y8e (y8e (y8e 0 0 32 (zvt x.a)) 32 4 (zvt x.f)) 40 8 (zvt x.l)) 48 8 (zvt x.r)))
  0
def z7z:z0u
 | [.agg [.bool lf,.int .i64 v,.int .i64 f,.int .i64 a,.int .i64 l,.int .i64 r]]=>.ok (.int .u64 (z70 ⟨lf,v,f,a,l,r⟩)) []
 | _=>.no
def zrb (w:Int):Nd:=
 cond (znv w 63 1==0) ⟨false,0,zcj (znv w 32 4),zm2 w,zcj (znv w 40 8),zcj (znv w 48 8)⟩ ⟨true,zm2 w,0,0,0,0⟩
def zb6 (w:Int):Bool:=!(w==0)&&(z70 (zrb w)==w)
def z08 (w:Int):Nd:=cond (zb6 w) (zrb w) Nd.zero
def z2n:z0u
 | [.int .u64 w]=>.ok (.tup [.agg [.bool (z08 w).lf,.int .i64 (z08 w).v,.int .i64 (z08 w).f,.int .i64 (z08 w).a,.int .i64 (z08 w).l,.int .i64 (z08 w).r],.bool (zb6 w)]) []
 | _=>.no
def z6h:z0u
 | [.int .i64 a,.int .i64 w,.bor [.int .u64 x]]=>.br (decide (0≤a)&&(decide (a < 64)&&(decide (1≤w)&&decide (w≤64 - a)))) (.ok (.int .i64 (zcj (znv x a w))) [[.int .u64 x]]) .no
 | _=>.no
def zcw (x:Nd) (j:Nat):Nat:=cond x.lf 0 ((if x.l=(j:Int) then 1 else 0)+(if x.r=(j:Int) then 1 else 0))
def z4m (l:List IV) (j:Nat):Nat:=(l.map fun w=>zcw (z08 w.toInt) j).sum
def y8l (dim n:Int) (i:Nat) (x:Nd):Bool:=
 cond x.lf true (!(decide (x.f≥dim))&&(!(x.l==x.r)&&(!(decide (min x.l x.r≤(i:Int)))&&!(decide (max x.l x.r≥n)))))
def zfp (dim n:Int):Nat→List IV→Bool
 | _,[]=>true
 | i,w :: r=>(zb6 w.toInt&&y8l dim n i (z08 w.toInt))&&zfp dim n (i+1) r
def ybo (l:List IV):Bool:=(List.range (l.length - 1)).all fun j=>z4m l (j+1)==1
def zb8 (l:List IV) (dim:Int):Bool:=(Nat.ble 1 l.length&&Nat.ble l.length 31)&&(zfp dim (ic l.length) 0 l&&ybo l)
def zan:z0u
 | [.list false [.int .u64] l,.int .i64 dim]=>.ok (.bool (zb8 l dim)) []
 | _=>.no
structure Md where
 d:Int
 c:Int
 b0:Int
 b1:Int
 b2:Int
 ts:List IV
def z74 (d c:Int) (t:IV):Bool:=!(decide ((t.cell 0).toInt < 0))&&(!(decide ((t.cell 0).toInt≥c))&&zb8 (t.cell 1).toList d)
def zg5 (c j b:Int):Bool:=z1n b&&!(decide (j≥c)&&!(b==0))
def z3z (m:Md):Bool:=
 (!(decide (m.d < 1))&&(!(decide (m.d > 4))&&(!(decide (m.c < 1))&&(!(decide (m.c > 3))&&Nat.ble m.ts.length 8)))) &&
  ((zg5 m.c 0 m.b0&&(zg5 m.c 1 m.b1&&zg5 m.c 2 m.b2))&&m.ts.all (z74 m.d m.c))
abbrev zwi:List Kd:=[.int .i64,.list false [.int .u64]]
def z41:z0u
 | [.agg [.int .i64 k,.list false [.int .u64] l],.bor [.int .i64 d,.int .i64 c,.int .i64 b0,.int .i64 b1,.int .i64 b2,.list true [.int .i64,.list false [.int .u64]] ts]]=>
  .ok (.bool (!(z74 d c (.agg [.int k,.list l])))) [[.int .i64 d,.int .i64 c,.int .i64 b0,.int .i64 b1,.int .i64 b2,.list true zwi ts]]
 | _=>.no
def zqr (d c:Int):List IV→Int→Int
 | [],_ => -1
 | t :: r,i=>cond (z74 d c t) (zqr d c r (i+1)) i
def z1b:z0u
 | [.list true [.int .i64,.list false [.int .u64]] l,.clo 95 [.bor [.int .i64 d,.int .i64 c,.int .i64 b0,.int .i64 b1,.int .i64 b2,.list true [.int .i64,.list false [.int .u64]] ts]]]=>
  .ok (.int .i64 (zqr d c l 0)) [[.int .i64 d,.int .i64 c,.int .i64 b0,.int .i64 b1,.int .i64 b2,.list true zwi ts]]
 | _=>.no
def z11:z0u
 | [.list true [.int .i64,.list false [.int .u64]] l,.clo 95 [.bor [.int .i64 d,.int .i64 c,.int .i64 b0,.int .i64 b1,.int .i64 b2,.list true [.int .i64,.list false [.int .u64]] ts]]]=>
  .ok (.bool (!(l.all (z74 d c)))) [[.int .i64 d,.int .i64 c,.int .i64 b0,.int .i64 b1,.int .i64 b2,.list true zwi ts]]
 | _=>.no
def z2p:z0u
 | [.agg [.int .i64 d,.int .i64 c,.int .i64 b0,.int .i64 b1,.int .i64 b2,.list true [.int .i64,.list false [.int .u64]] ts]]=>.ok (.bool (z3z ⟨d,c,b0,b1,b2,ts⟩)) []
 | _=>.no
abbrev zd9:ByteArray:=⟨#[102,111,114,101,115,116]⟩
abbrev zfu:ByteArray:=⟨#[98,105,97,115]⟩
abbrev zo1:ByteArray:=⟨#[116,114,101,101]⟩
abbrev zvh:ByteArray:=⟨#[108,101,97,102]⟩
abbrev yhu:ByteArray:=⟨#[105,102]⟩
abbrev yhf:ByteArray:=⟨#[60,61]⟩
abbrev y9m:ByteArray:=⟨#[116,104,101,110]⟩
abbrev yak:ByteArray:=⟨#[101,108,115,101]⟩
abbrev yf8:ByteArray:=⟨#[10]⟩
def z54 (ws:List ByteArray):ByteArray:=z9n ws z42++yf8
def z9c:List (List ByteArray)→ByteArray
 | []=>ByteArray.empty
 | l :: r=>z54 l++z9c r
def y1b (x:Nd):List ByteArray:=
 cond x.lf [zvh,z0b x.v] [yhu,z0i x.f,yhf,z0b x.a,y9m,z0i x.l,yak,z0i x.r]
def ziv (l:List IV):List (List ByteArray):=l.map fun w=>y1b (z08 w.toInt)
def y3z (t:IV):List (List ByteArray):=[zo1,z0i (t.cell 0).toInt,z0i (ic (t.cell 1).toList.length)] :: ziv (t.cell 1).toList
def zix:List IV→List (List ByteArray)
 | []=>[]
 | t :: r=>y3z t++zix r
def ych (m:Md):List (List ByteArray):=[[zd9,z0i m.d,z0i m.c],zfu :: ([m.b0,m.b1,m.b2].take m.c.toNat).map z0b]
def ydd (m:Md):List (List ByteArray):=ych m++zix m.ts
def y25 (m:Md):ByteArray:=cond (z3z m) (z9c (ydd m)) y4z
def zec (s:ByteArray) (most:Int):Int:=cond (zlw s&&(!(decide (z3w s < 0))&&!(decide (z3w s > most)))) (z3w s) 0
def z2t (ls:List IV):List IV:=match ls with | []=>[] | l :: _=>z9g l.toStr
def yei (l:List IV):Nd:=
 cond ((wAt l 0).toList==zvh.toList) ⟨true,zic (wAt l 1),0,0,0,0⟩ ⟨false,0,zec (wAt l 1) 4,zic (wAt l 3),zec (wAt l 5) 31,zec (wAt l 7) 31⟩
def zay (ls:List IV) (k:Nat):List IV:=(List.range k).map fun i=>.int (z70 (yei (z2t (ls.drop i))))
def rdK (ls:List IV):Nat:=(zec (wAt (z2t ls) 2) 31).toNat
def y4m (ls:List IV):IV:=.agg [.int (zec (wAt (z2t ls) 1) 3),.list (zay (ls.drop 1) (rdK ls))]
def z9q:Nat→List IV→List IV
 | 0,_=>[]
 | n+1,ls=>match ls with
  | []=>[]
  | l :: r=>y4m (l :: r) :: z9q n (r.drop (rdK (l :: r)))
def zca (ls:List IV) (c:Int) (j:Nat):Int:=cond (decide ((j:Int) < c)) (zic (wAt (z2t (ls.drop 1)) (1+j))) 0
def rdC (ls:List IV):Int:=zec (wAt (z2t ls) 2) 3
def yet (ls:List IV):Md:=⟨zec (wAt (z2t ls) 1) 4,rdC ls,zca ls (rdC ls) 0,zca ls (rdC ls) 1,zca ls (rdC ls) 2,z9q 9 (ls.drop 2)⟩
def zq5 (s t:ByteArray):Bool:=decide (t.size≤s.size)&&(s.extract (s.size - t.size) s.size).toList==t.toList
def z1s (s t:ByteArray):ByteArray:=cond (zq5 s t) (s.extract 0 (s.size - t.size)) s
def y9z (s:ByteArray):ByteArray:=z1s s yf8
def zqi (s:ByteArray):List IV:=(z09 (y9z s) yf8).map IV.str
def ycm (s:ByteArray):Md:=yet (zqi s)
def Md.zero:Md:=⟨0,0,0,0,0,[]⟩
def zuf (s:ByteArray):Bool:=!(s.toList==y4z.toList)&&(y25 (ycm s)).toList==s.toList
def zj9 (s:ByteArray):Md:=cond (zuf s) (ycm s) Md.zero
def z5d (l:List IV):Bool:=l.all fun x=>decide (x.toStr.size < 4294967281)
def zcb:z0u
 | [.bor [.bld s],.list false [.str] ws]=>.br (Nat.ble ws.length 1000&&decide (s.size+(z54 (ws.map IV.toStr)).size≤1000000000)) (.ok (.tup []) [[.bld (s++z54 (ws.map IV.toStr))]]) .no
 | _=>.no
def z6i:z0u
 | [.agg [.int .i64 d,.int .i64 c,.int .i64 b0,.int .i64 b1,.int .i64 b2,.list true [.int .i64,.list false [.int .u64]] ts]]=>.ok (.str (y25 ⟨d,c,b0,b1,b2,ts⟩)) []
 | _=>.no
def z2m:z0u
 | [.bor [.list false [.str] ls]]=>.br (z5d ls) (.ok (.list false [.str] (z2t ls)) [[.list false [.str] (ls.drop 1)]]) .no
 | _=>.no
def z87:z0u
 | [.list false [.str] l,.int .i64 i]=>.br (decide (0≤i)) (.ok (.str (wAt l i.toNat)) []) .no
 | _=>.no
def z6d:z0u
 | [.str s,.int .i64 most]=>.ok (.int .i64 (zec s most)) []
 | _=>.no
def z83:z0u
 | [.str s]=>.br (decide (s.size < 4294967281)) (.ok (.int .i64 (zic s)) []) .no
 | _=>.no
def z4i:z0u
 | [.bor [.list false [.str] ls]]=>.br (z5d ls) (.ok (.int .u64 (z70 (yei (z2t ls)))) [[.list false [.str] (ls.drop 1)]]) .no
 | _=>.no
def z1e:z0u
 | [.str s,.str t]=>.ok (.bool (zq5 s t)) []
 | _=>.no
def z19:z0u
 | [.str s,.str t]=>.ok (.str (z1s s t)) []
 | _=>.no
def z1i:z0u
 | [.str s,.str t]=>.ok (.str (z1s s t)) []
 | _=>.no
def za5:z0u
 | [.str s]=>.br (decide (s.size < 4294967281)) (.ok (.tup [.agg [.int .i64 (zj9 s).d,.int .i64 (zj9 s).c,.int .i64 (zj9 s).b0,.int .i64 (zj9 s).b1,.int .i64 (zj9 s).b2,.list true zwi (zj9 s).ts],.bool (zuf s)]) []) .no
 | _=>.no
open Go Go.Proofs
def y2u (N:Nat):Env:=mkE [] [] 25 N
theorem zyk (N:Nat) (n w:Int):z1c (y2u N) zpw [.tmp 4] [[.bool]] [(.int .i64 n),(.int .i64 w)]=(cond (decide (w < 1)) (some ((.bool false),[])) (cond (decide (w > 64)) (some ((.bool false),[])) (cond (decide (IntKind.wrap IntKind.u64 (IntKind.wrap IntKind.i64 (w - 1)) < 0)) none (cond (Int.fdiv n (2 ^ min (Int.toNat (IntKind.wrap IntKind.u64 (IntKind.wrap IntKind.i64 (w - 1)))) (IntKind.bits IntKind.i64))==0) (some ((.bool true),[])) (cond (decide (IntKind.wrap IntKind.u64 (IntKind.wrap IntKind.i64 (w - 1)) < 0)) none (some ((.bool (Int.fdiv n (2 ^ min (Int.toNat (IntKind.wrap IntKind.u64 (IntKind.wrap IntKind.i64 (w - 1)))) (IntKind.bits IntKind.i64)) == -1)),[]))))))):=by kernel_rfl
def y3e (N:Nat):Env:=mkE [] [] 21 N
theorem zzk (N:Nat) (n w:Int):z1c (y3e N) zqy [.tmp 4] [[.int .i64]] [(.int .i64 n),(.int .i64 w)]=(cond (decide (w < 1)) (some ((.int .i64 n),[])) (cond (decide (w≥64)) (some ((.int .i64 n),[])) (cond (decide (IntKind.wrap IntKind.u64 (IntKind.wrap IntKind.i64 (64 - w)) < 0)) none (cond (decide (IntKind.wrap IntKind.u64 (IntKind.wrap IntKind.i64 (64 - w)) < 0)) none (some ((.int .i64 (Int.fdiv (IntKind.wrap IntKind.i64 (n*2 ^ min (Int.toNat (IntKind.wrap IntKind.u64 (IntKind.wrap IntKind.i64 (64 - w)))) (IntKind.bits IntKind.i64))) (2 ^ min (Int.toNat (IntKind.wrap IntKind.u64 (IntKind.wrap IntKind.i64 (64 - w)))) (IntKind.bits IntKind.i64)))),[])))))):=by kernel_rfl
def zyv (N:Nat):Env:=mkE [] [] 21 N
theorem zww (N:Nat) (atv w:Int):z1c (zyv N) zol [.tmp 4] [[.bool]] [(.int .i64 atv),(.int .i64 w)]=(cond (decide (atv≥0)) (cond (decide (atv < 64)) (cond (decide (w≥1)) (some ((.bool (decide (w≤IntKind.wrap IntKind.i64 (64 - atv)))),[])) (some ((.bool false),[]))) (some ((.bool false),[]))) (some ((.bool false),[]))):=by kernel_rfl
def y2q (N:Nat):Env:=mkE [] [] 7 N
theorem zz3 (N:Nat) (w:Int):z1c (y2q N) zqd [.tmp 2] [[.int .u64]] [(.int .i64 w)]=(cond (decide (IntKind.wrap IntKind.u64 (IntKind.wrap IntKind.i64 (64 - w)) < 0)) none (some ((.int .u64 (Int.fdiv 18446744073709551615 (2 ^ min (Int.toNat (IntKind.wrap IntKind.u64 (IntKind.wrap IntKind.i64 (64 - w)))) (IntKind.bits IntKind.u64)))),[]))):=by kernel_rfl
def y79 (N:Nat):Env:=mkE [(149,z6b),(150,z81)] [] 30 N
theorem y2c (N:Nat) (x atv w y:Int):z1c (y79 N) zur [.tmp 8] [[.int .u64]] [(.int .u64 x),(.int .i64 atv),(.int .i64 w),(.int .u64 y)]=(cond (decide (0≤atv)&&decide (atv < 64)) (cond (! (decide (1≤w)&&decide (w≤64 - atv))) (some ((.int .u64 x),[])) (cond (decide (1≤w)&&decide (w≤64)) (cond (decide (IntKind.wrap IntKind.u64 atv < 0)) none (cond (decide (IntKind.wrap IntKind.u64 atv < 0)) none (some ((.int .u64 (IntKind.wrap IntKind.u64 (ic (BitVec.toNat (BitVec.ofInt (IntKind.bits IntKind.u64) (IntKind.wrap IntKind.u64 (ic (BitVec.toNat (BitVec.ofInt (IntKind.bits IntKind.u64) x &&& ~~~BitVec.ofInt (IntKind.bits IntKind.u64) (IntKind.wrap IntKind.u64 (y40 w*2 ^ min (Int.toNat (IntKind.wrap IntKind.u64 atv)) (IntKind.bits IntKind.u64))))))) ||| BitVec.ofInt (IntKind.bits IntKind.u64) (IntKind.wrap IntKind.u64 (ic (BitVec.toNat (BitVec.ofInt (IntKind.bits IntKind.u64) (IntKind.wrap IntKind.u64 (y*2 ^ min (Int.toNat (IntKind.wrap IntKind.u64 atv)) (IntKind.bits IntKind.u64))) &&& BitVec.ofInt (IntKind.bits IntKind.u64) (IntKind.wrap IntKind.u64 (y40 w*2 ^ min (Int.toNat (IntKind.wrap IntKind.u64 atv)) (IntKind.bits IntKind.u64)))))))))))),[])))) none)) none):=by kernel_rfl
def y7a (N:Nat):Env:=mkE [(149,z6b),(150,z81)] [] 18 N
theorem y3o (N:Nat) (x atv w:Int):z1c (y7a N) zv1 [.tmp 6] [[.int .u64]] [(.int .u64 x),(.int .i64 atv),(.int .i64 w)]=(cond (decide (0≤atv)&&decide (atv < 64)) (cond (! (decide (1≤w)&&decide (w≤64 - atv))) (some ((.int .u64 0),[])) (cond (decide (IntKind.wrap IntKind.u64 atv < 0)) none (cond (decide (1≤w)&&decide (w≤64)) (some ((.int .u64 (IntKind.wrap IntKind.u64 (ic (BitVec.toNat (BitVec.ofInt (IntKind.bits IntKind.u64) (Int.fdiv x (2 ^ min (Int.toNat (IntKind.wrap IntKind.u64 atv)) (IntKind.bits IntKind.u64))) &&& BitVec.ofInt (IntKind.bits IntKind.u64) (y40 w)))))),[])) none))) none):=by kernel_rfl
def zxt (N:Nat):Env:=mkE [(99,z6r),(148,zcf)] [] 14 N
theorem ztq (N:Nat) (x atv w:Int):z1c (zxt N) zkh [.tmp 6] [[.int .i64]] [(.int .u64 x),(.int .i64 atv),(.int .i64 w)]=(cond (decide (0≤atv)&&(decide (atv < 64)&&(decide (1≤w)&&decide (w≤64 - atv)))) (cond (decide (w=32)) (some ((.int .i64 (yb4 (IntKind.wrap IntKind.i64 (znv x atv w)))),[])) none) none):=by kernel_rfl
def zyw (N:Nat):Env:=mkE [] [] 9 N
theorem zxn (N:Nat) (n:Int):z1c (zyw N) znw [.tmp 2] [[.bool]] [(.int .i64 n)]=(cond (decide (n≥1)) (some ((.bool (decide (n < 31))),[])) (some ((.bool false),[]))):=by kernel_rfl
def zyy (N:Nat):Env:=mkE [(93,z5i),(190,zaq)] [] 43 N
theorem zvy (N:Nat) (n_Leaf:Bool) (n_Value n_Feature n_At n_Left n_Right:Int):z1c (zyy N) znz [.tmp 2] [[.bool]] [(.agg [(.bool n_Leaf),(.int .i64 n_Value),(.int .i64 n_Feature),(.int .i64 n_At),(.int .i64 n_Left),(.int .i64 n_Right)])]=(cond n_Leaf (cond (n_Leaf==true&&(n_Value==n_Value&&(n_Feature==0&&(n_At==0&&(n_Left==0&&(n_Right==0&&true)))))) (some ((.bool (z1n n_Value)),[])) (some ((.bool false),[]))) (cond (n_Value==0) (cond (decide (n_Feature≥0)) (cond (decide (n_Feature < 4)) (cond (z1n n_At) (cond (zl2 n_Left) (some ((.bool (zl2 n_Right)),[])) (some ((.bool false),[]))) (some ((.bool false),[]))) (some ((.bool false),[]))) (some ((.bool false),[]))) (some ((.bool false),[])))):=by kernel_rfl
def y3j (N:Nat):Env:=mkE [(146,zdz),(145,zaa)] [] 32 N
theorem y1g (N:Nat) (n_Leaf:Bool) (n_Value n_Feature n_At n_Left n_Right:Int):z1c (y3j N) zr7 [.tmp 2] [[.int .u64]] [(.agg [(.bool n_Leaf),(.int .i64 n_Value),(.int .i64 n_Feature),(.int .i64 n_At),(.int .i64 n_Left),(.int .i64 n_Right)])]=(cond (!z9o {lf:=n_Leaf,v:=n_Value,f:=n_Feature,a:=n_At,l:=n_Left,r:=n_Right}) (some ((.int .u64 0),[])) (cond n_Leaf (some ((.int .u64 (y8e 9223372036854775808 0 32 (IntKind.wrap IntKind.u64 n_Value))),[])) (some ((.int .u64 (y8e (y8e (y8e (y8e 0 0 32 (IntKind.wrap IntKind.u64 n_At)) 32 4 (IntKind.wrap IntKind.u64 n_Feature)) 40 8 (IntKind.wrap IntKind.u64 n_Left)) 48 8 (IntKind.wrap IntKind.u64 n_Right))),[])))):=by kernel_rfl
def zpm (N:Nat):Env:=mkE [(99,z6r)] [] 11 N
theorem zpb (N:Nat) (a w x:Int):z1c (zpm N) zgj [.tmp 5] [[.int .i64]] [(.int .i64 a),(.int .i64 w),(.bor [.int .u64 x])]=(cond (decide (0≤a)&&(decide (a < 64)&&(decide (1≤w)&&decide (w≤64 - a)))) (some ((.int .i64 (IntKind.wrap IntKind.i64 (znv x a w))),[[(.int .u64 x)]])) none):=by kernel_rfl
def zx4 (N:Nat):Env:=mkE [(99,z6r),(98,z8q),(92,z7z),(100,z6h)] [] 33 N
theorem zt2 (N:Nat) (w:Int):z1c (zx4 N) zl7 [.cell 2 111,.tmp 3] [[.bool,.int .i64,.int .i64,.int .i64,.int .i64,.int .i64],[.bool]] [(.int .u64 w)]=(cond (znv w 63 1==0) (cond (w==0) (some ((.tup [(.agg [(.bool false),(.int .i64 0),(.int .i64 0),(.int .i64 0),(.int .i64 0),(.int .i64 0)]),(.bool false)]),[])) (cond (z70 {lf:=false,v:=0,f:=zcj (znv w 32 4),a:=zm2 w,l:=zcj (znv w 40 8),r:=zcj (znv w 48 8)} != w) (some ((.tup [(.agg [(.bool false),(.int .i64 0),(.int .i64 0),(.int .i64 0),(.int .i64 0),(.int .i64 0)]),(.bool false)]),[])) (some ((.tup [(.agg [(.bool false),(.int .i64 0),(.int .i64 (zcj (znv w 32 4))),(.int .i64 (zm2 w)),(.int .i64 (zcj (znv w 40 8))),(.int .i64 (zcj (znv w 48 8)))]),(.bool true)]),[])))) (cond (w==0) (some ((.tup [(.agg [(.bool false),(.int .i64 0),(.int .i64 0),(.int .i64 0),(.int .i64 0),(.int .i64 0)]),(.bool false)]),[])) (cond (z70 {lf:=true,v:=zm2 w,f:=0,a:=0,l:=0,r:=0} != w) (some ((.tup [(.agg [(.bool false),(.int .i64 0),(.int .i64 0),(.int .i64 0),(.int .i64 0),(.int .i64 0)]),(.bool false)]),[])) (some ((.tup [(.agg [(.bool true),(.int .i64 (zm2 w)),(.int .i64 0),(.int .i64 0),(.int .i64 0),(.int .i64 0)]),(.bool true)]),[]))))):=by kernel_rfl
open Go Go.Proofs
theorem y98 {n:Int} (h0:0≤n) (h1:n < 18446744073709551616):IntKind.wrap IntKind.u64 n=n:=by
 rw [ybu];omega
set_option maxRecDepth 100000 in
theorem zfk:z3c PR B0 93 z5i:=by
 refine z0m [] [] z5i [[.bool]] Tryz.func93 y2p trivial ?_;intro vs r hwf h;unfold z5i at h
 split at h
 ·rename_i n w
  cases hc:decide (w=32) with
  | false=>rw [hc] at h; simp [R.get] at h
  | true=>
   rw [hc,R.get_br,z00,R.get_ok] at h;have hc:=of_decide_eq_true hc;subst hc;refine ⟨0,?_⟩;rw [← h];refine (zyk 0 n 32).trans ?_;have e3:decide (IntKind.wrap IntKind.u64 (IntKind.wrap IntKind.i64 ((32:Int) - 1)) < 0)=false:=by kernel_rfl
   have e4:(2:Int) ^ min (Int.toNat (IntKind.wrap IntKind.u64 (IntKind.wrap IntKind.i64 ((32:Int) - 1)))) (IntKind.bits IntKind.i64)=2147483648:=by kernel_rfl
   rw [e3,e4,decide_eq_false (show ¬ (32:Int) < 1 by omega),decide_eq_false (show ¬ (32:Int) > 64 by omega),z02,z02,z02,z02]
   have h0:=Int.fdiv_mul_add_fmod n 2147483648;have h1:=Int.fmod_nonneg_of_pos n (show (0:Int) < 2147483648 by omega)
   have h2:=Int.fmod_lt_of_pos n (show (0:Int) < 2147483648 by omega)
   generalize Int.fdiv n 2147483648=q at h0 ⊢
   generalize Int.fmod n 2147483648=m at h0 h1 h2;unfold z1n;rw [zj7,zj7];cases hq:decide (q=0) with
   | true=>
    have hq:=of_decide_eq_true hq;rw [decide_eq_true (show -2147483648≤n by omega),decide_eq_true (show n≤2147483647 by omega)]
    rfl
   | false=>
    have hq:=of_decide_eq_false hq;cases hp:decide (q = -1) with
    | true=>
     have hp:=of_decide_eq_true hp;rw [decide_eq_true (show -2147483648≤n by omega),decide_eq_true (show n≤2147483647 by omega)]
     rfl
    | false=>
     have hp:=of_decide_eq_false hp;rw [z02]
     congr 3
     symm
     rw [Bool.and_eq_false_iff,decide_eq_false_iff_not,decide_eq_false_iff_not];omega
 ·simp [R.get] at h
set_option maxRecDepth 100000 in
theorem zxm:z3c PR B0 148 zcf:=by
 refine z0m [] [] zcf [[.int .i64]] Tryz.func148 y2v trivial ?_;intro vs r hwf h;unfold zcf at h
 split at h
 ·rename_i n w
  cases hc:decide (w=32) with
  | false=>rw [hc] at h; simp [R.get] at h
  | true=>
   rw [hc,R.get_br,z00,R.get_ok] at h;have hc:=of_decide_eq_true hc;subst hc;refine ⟨0,?_⟩;rw [← h];refine (zzk 0 n 32).trans ?_;have e3:decide (IntKind.wrap IntKind.u64 (IntKind.wrap IntKind.i64 ((64:Int) - 32)) < 0)=false:=by kernel_rfl
   have e4:min (Int.toNat (IntKind.wrap IntKind.u64 (IntKind.wrap IntKind.i64 ((64:Int) - 32)))) (IntKind.bits IntKind.i64)=32:=by kernel_rfl
   rw [e3,e4,decide_eq_false (show ¬ (32:Int) < 1 by omega),decide_eq_false (show ¬ (32:Int)≥64 by omega),z02,z02,z02,z02]
   rfl
 ·simp [R.get] at h
set_option maxRecDepth 100000 in
theorem zim:z3c PR B0 149 z6b:=by
 refine z0m [] [] z6b [[.bool]] Tryz.func149 y07 trivial ?_;intro vs r hwf h;unfold z6b at h
 split at h
 ·rename_i a w
  cases hc:(decide (0≤a)&&decide (a < 64)) with
  | false=>rw [hc] at h; simp [R.get] at h
  | true=>
   rw [hc,R.get_br,z00,R.get_ok] at h;rw [Bool.and_eq_true,decide_eq_true_eq,decide_eq_true_eq] at hc;refine ⟨0,?_⟩;rw [← h];refine (zww 0 a w).trans ?_;have e:IntKind.wrap IntKind.i64 (64 - a)=64 - a:=z1d (by omega) (by omega)
   have e1:decide (w≥1)=decide (1≤w):=rfl;rw [decide_eq_true (show a≥0 by omega),decide_eq_true hc.2,z00,z00,e,e1]
   cases decide (1≤w) <;> rfl
 ·simp [R.get] at h
set_option maxRecDepth 100000 in
theorem zks:z3c PR B0 150 z81:=by
 refine z0m [] [] z81 [[.int .u64]] Tryz.func150 y2t trivial ?_;intro vs r hwf h;unfold z81 at h
 split at h
 ·rename_i w
  cases hc:(decide (1≤w)&&decide (w≤64)) with
  | false=>rw [hc] at h; simp [R.get] at h
  | true=>
   rw [hc,R.get_br,z00,R.get_ok] at h;rw [Bool.and_eq_true,decide_eq_true_eq,decide_eq_true_eq] at hc;refine ⟨0,?_⟩;rw [← h];refine (zz3 0 w).trans ?_;have e:IntKind.wrap IntKind.i64 (64 - w)=64 - w:=z1d (by omega) (by omega)
   have e2:IntKind.wrap IntKind.u64 (64 - w)=64 - w:=y98 (by omega) (by omega)
   have e3:min (64 - w).toNat (IntKind.bits IntKind.u64)=(64 - w).toNat:=by
    have:IntKind.bits IntKind.u64=64:=rfl
    omega
   rw [e,e2,e3,decide_eq_false (show ¬ (64 - w < 0) by omega),z02]
   rfl
 ·simp [R.get] at h
theorem y17 {a w:Int} (hc:(decide (0≤a)&&(decide (a < 64)&&(decide (1≤w)&&decide (w≤64 - a))))=true):0≤a∧a < 64∧1≤w∧w≤64 - a:=by
 simpa only [Bool.and_eq_true,decide_eq_true_eq] using hc
set_option maxRecDepth 100000 in
theorem zzp:z3c PR B0 146 zdz:=by
 refine z0m [(149,z6b),(150,z81)] [] zdz [[.int .u64]] Tryz.func146 y7y ⟨zim,zks,trivial⟩ ?_;intro vs r hwf h;unfold zdz at h
 split at h
 ·rename_i x a w y
  cases hc:(decide (0≤a)&&(decide (a < 64)&&(decide (1≤w)&&decide (w≤64 - a)))) with
  | false=>rw [hc] at h; simp [R.get] at h
  | true=>
   rw [hc,R.get_br,z00,R.get_ok] at h;obtain ⟨h1,h2,h3,h4⟩:=y17 hc;refine ⟨0,?_⟩;rw [← h];refine (y2c 0 x a w y).trans ?_;have e2:IntKind.wrap IntKind.u64 a=a:=y98 (by omega) (by omega)
   have e3:min a.toNat (IntKind.bits IntKind.u64)=a.toNat:=by
    have:IntKind.bits IntKind.u64=64:=rfl
    omega
   rw [e2,e3,decide_eq_true h1,decide_eq_true h2,decide_eq_true h3,decide_eq_true h4,decide_eq_true (show w≤64 by omega),decide_eq_false (show ¬ a < 0 by omega)]
   simp only [Bool.and_self,Bool.not_true,z00,z02]
   rfl
 ·simp [R.get] at h
set_option maxRecDepth 100000 in
theorem zgg:z3c PR B0 99 z6r:=by
 refine z0m [(149,z6b),(150,z81)] [] z6r [[.int .u64]] Tryz.func99 y7x ⟨zim,zks,trivial⟩ ?_;intro vs r hwf h;unfold z6r at h
 split at h
 ·rename_i x a w
  cases hc:(decide (0≤a)&&(decide (a < 64)&&(decide (1≤w)&&decide (w≤64 - a)))) with
  | false=>rw [hc] at h; simp [R.get] at h
  | true=>
   rw [hc,R.get_br,z00,R.get_ok] at h;obtain ⟨h1,h2,h3,h4⟩:=y17 hc;refine ⟨0,?_⟩;rw [← h];refine (y3o 0 x a w).trans ?_;have e2:IntKind.wrap IntKind.u64 a=a:=y98 (by omega) (by omega)
   have e3:min a.toNat (IntKind.bits IntKind.u64)=a.toNat:=by
    have:IntKind.bits IntKind.u64=64:=rfl
    omega
   rw [e2,e3,decide_eq_true h1,decide_eq_true h2,decide_eq_true h3,decide_eq_true h4,decide_eq_true (show w≤64 by omega),decide_eq_false (show ¬ a < 0 by omega)]
   simp only [Bool.and_self,Bool.not_true,z00,z02]
   rfl
 ·simp [R.get] at h
set_option maxRecDepth 100000 in
theorem zrj:z3c PR B0 98 z8q:=by
 refine z0m [(99,z6r),(148,zcf)] [] z8q [[.int .i64]] Tryz.func98 zxq ⟨zgg,zxm,trivial⟩ ?_;intro vs r hwf h;unfold z8q at h
 split at h
 ·rename_i x a w
  cases hc:(decide (a=0)&&decide (w=32)) with
  | false=>rw [hc] at h; simp [R.get] at h
  | true=>
   rw [hc,R.get_br,z00,R.get_ok] at h;rw [Bool.and_eq_true,decide_eq_true_eq,decide_eq_true_eq] at hc;obtain ⟨rfl,rfl⟩:=hc;refine ⟨0,?_⟩;rw [← h];refine (ztq 0 x 0 32).trans ?_
   rfl
 ·simp [R.get] at h
set_option maxRecDepth 100000 in
theorem zsz:z3c PR B0 190 zaq:=by
 refine z0m [] [] zaq [[.bool]] Tryz.func190 y19 trivial ?_;intro vs r hwf h;unfold zaq at h
 split at h
 ·rename_i n
  refine ⟨0,?_⟩;rw [R.get_ok] at h;rw [← h];refine (zxn 0 n).trans ?_;unfold zl2;have e1:decide (n≥1)=decide (1≤n):=rfl;rw [e1];cases decide (1≤n) <;> rfl
 ·simp [R.get] at h
set_option maxRecDepth 100000 in
theorem zta:z3c PR B0 145 zaa:=by
 refine z0m [(93,z5i),(190,zaq)] [] zaa [[.bool]] Tryz.func145 y0c ⟨zfk,zsz,trivial⟩ ?_;intro vs r hwf h;unfold zaa at h
 split at h
 ·rename_i lf v f a l r'
  refine ⟨0,?_⟩;rw [← h];refine (zvy 0 lf v f a l r').trans ?_;simp only [R.get_ok,zz0];unfold z9o;cases lf with
  | true=>rfl
  | false=>rfl
 ·simp [R.get] at h
set_option maxRecDepth 100000 in
theorem zlo:z3c PR B0 92 z7z:=by
 refine z0m [(146,zdz),(145,zaa)] [] z7z [[.int .u64]] Tryz.func92 y3t ⟨zzp,zta,trivial⟩ ?_;intro vs r hwf h;unfold z7z at h
 split at h
 ·rename_i lf v f a l r'
  refine ⟨0,?_⟩;rw [← h];refine (y1g 0 lf v f a l r').trans ?_;unfold z70;cases z9o ⟨lf,v,f,a,l,r'⟩ with
  | false=>rfl
  | true=>cases lf <;> rfl
 ·simp [R.get] at h
set_option maxRecDepth 100000 in
theorem zmb:z3c PR B0 100 z6h:=by
 refine z0m [(99,z6r)] [] z6h [[.int .i64]] Tryz.func100 zrg ⟨zgg,trivial⟩ ?_;intro vs r hwf h;unfold z6h at h
 split at h
 ·rename_i a w x
  cases hc:(decide (0≤a)&&(decide (a < 64)&&(decide (1≤w)&&decide (w≤64 - a)))) with
  | false=>rw [hc] at h; simp [R.get] at h
  | true=>
   rw [hc,R.get_br,z00,R.get_ok] at h;refine ⟨0,?_⟩;rw [← h];refine (zpb 0 a w x).trans ?_;rw [hc]
   rfl
 ·simp [R.get] at h
set_option maxRecDepth 100000 in
theorem z8m:z3c PR B0 55 z2n:=by
 refine z0m [(99,z6r),(98,z8q),(92,z7z),(100,z6h)] [] z2n [[.bool,.int .i64,.int .i64,.int .i64,.int .i64,.int .i64],[.bool]] Tryz.func55 zxo ⟨zgg,zrj,zlo,zmb,trivial⟩ ?_;intro vs r hwf h;unfold z2n at h
 split at h
 ·rename_i w
  refine ⟨0,?_⟩;rw [← h];refine (zt2 0 w).trans ?_;rw [R.get_ok];unfold z08 zb6 zrb;cases (znv w 63 1==0) with
  | true=>
   simp only [cond_true];cases hw:(w==0) with
   | true=>rfl
   | false=>
    simp only [cond_false,Bool.not_false,Bool.true_and];have e:(z70 ⟨false,0,zcj (znv w 32 4),zm2 w,zcj (znv w 40 8),zcj (znv w 48 8)⟩ != w)=!(z70 ⟨false,0,zcj (znv w 32 4),zm2 w,zcj (znv w 40 8),zcj (znv w 48 8)⟩==w):=rfl;rw [e];cases (z70 ⟨false,0,zcj (znv w 32 4),zm2 w,zcj (znv w 40 8),zcj (znv w 48 8)⟩==w) <;> rfl
  | false=>
   simp only [cond_false];cases hw:(w==0) with
   | true=>rfl
   | false=>
    simp only [cond_false,Bool.not_false,Bool.true_and];have e:(z70 ⟨true,zm2 w,0,0,0,0⟩ != w)=!(z70 ⟨true,zm2 w,0,0,0,0⟩==w):=rfl;rw [e];cases (z70 ⟨true,zm2 w,0,0,0,0⟩==w) <;> rfl
 ·simp [R.get] at h
open Go Go.Proofs
def z0o (N:Nat):Env:=mkE [(55,z2n)] [(5,⟨[0,1,4,5,23,24,25],[22],[]⟩),(17,⟨[4,85,86,87],[22],[]⟩)] 94 N
abbrev z28 (l0:List IV) (x1:Int) (b4:Bool) (n5:Nat) (l23:List IV) (x24 x25:Int) (lo22:List IV):St:=⟨[(0,(.list false [(.int .u64)] l0)),(1,(.int .i64 x1)),(4,(.bool b4)),(5,(.row 22 0 n5)),(23,(.list false [(.int .u64)] l23)),(24,(.int .i64 x24)),(25,(.int .i64 x25))],[(22,(some (.row true 3 false [(.int .i64)] lo22)))]⟩
abbrev z4n (b4:Bool) (n85:Nat) (x86 x87:Int) (lo22:List IV):St:=⟨[(4,(.bool b4)),(85,(.row 22 1 n85)),(86,(.int .i64 x86)),(87,(.int .i64 x87))],[(22,(some (.row true 3 false [(.int .i64)] lo22)))]⟩
theorem zwa (N:Nat) (l:List IV) (a1:Int):z1c (z0o N) z1u [.tmp 4] [[.bool]] [(.list false [.int .u64] l),(.int .i64 a1)]=(cond (decide (ic (List.length l) < 1)) (some ((.bool false),[])) (cond (decide (ic (List.length l) > 31)) (some ((.bool false),[])) (cond (Nat.blt 0 (TI.size (Env.tyd (z0o N) 3))&&(Nat.blt 3 1000000&&decide (0≤ic (List.length l)))&&(decide (ic (List.length l)=ic (List.length l))&&decide (ic (List.length l)*ic (TI.bytes (Env.tyd (z0o N) 3))≤ic z0e))) (lpE (z0o N) (z0p z1u [1,1,1,0,1,0,0]) ⟨[0,1,4,5,23,24,25],[22],[]⟩ N (z28 l a1 false (Int.toNat (ic (List.length l))) l (ic (List.length l)) 0 (List.replicate (Int.toNat (ic (List.length l))) (IV.int 0))) (z04 0 (kSq (z0o N) (z0p z1u [1,1,1,1]) (z3f (z0o N) none [(ResultVar.tmp 4)] [[.bool]])))) none))):=by kernel_rfl
theorem zhc (N:Nat) (l0:List IV) (x1:Int) (b4:Bool) (n5:Nat) (l23:List IV) (x24 x25:Int) (lo22:List IV) (again:St→Res) (k:Out→St→Res):rnd (z0o N) (z0p z1u [1,1,1,0,1,0,0]) (z28 l0 x1 b4 n5 l23 x24 x25 lo22) (z4t again ⟨[0,1,4,5,23,24,25],[22],[]⟩ k)=(cond (decide (x25 < x24)) (cond (decide (0≤x25)&&decide (x25 < ic (List.length l23))) (cond (!zb6 (IV.toInt (List.getD l23 (Int.toNat x25) default))) (k .ret (z28 l0 x1 false n5 l23 x24 x25 lo22)) (cond (Nd.lf (z08 (IV.toInt (List.getD l23 (Int.toNat x25) default)))) (again (z28 l0 x1 b4 n5 l23 x24 (IntKind.wrap IntKind.i64 (x25+1)) lo22)) (cond (decide (Nd.f (z08 (IV.toInt (List.getD l23 (Int.toNat x25) default)))≥x1)) (k .ret (z28 l0 x1 false n5 l23 x24 x25 lo22)) (cond (Nd.l (z08 (IV.toInt (List.getD l23 (Int.toNat x25) default)))==Nd.r (z08 (IV.toInt (List.getD l23 (Int.toNat x25) default)))) (k .ret (z28 l0 x1 false n5 l23 x24 x25 lo22)) (cond (decide (min (Nd.l (z08 (IV.toInt (List.getD l23 (Int.toNat x25) default)))) (Nd.r (z08 (IV.toInt (List.getD l23 (Int.toNat x25) default))))≤x25)) (k .ret (z28 l0 x1 false n5 l23 x24 x25 lo22)) (cond (decide (max (Nd.l (z08 (IV.toInt (List.getD l23 (Int.toNat x25) default)))) (Nd.r (z08 (IV.toInt (List.getD l23 (Int.toNat x25) default))))≥ic (List.length l0))) (k .ret (z28 l0 x1 false n5 l23 x24 x25 lo22)) (cond (decide (0≤Nd.l (z08 (IV.toInt (List.getD l23 (Int.toNat x25) default))))&&decide (Nd.l (z08 (IV.toInt (List.getD l23 (Int.toNat x25) default))) < ic (n5 - 0))) (cond (decide (0≤Nd.l (z08 (IV.toInt (List.getD l23 (Int.toNat x25) default))))&&decide (Nd.l (z08 (IV.toInt (List.getD l23 (Int.toNat x25) default))) < ic (n5 - 0))) (cond (decide (0≤Nd.r (z08 (IV.toInt (List.getD l23 (Int.toNat x25) default))))&&decide (Nd.r (z08 (IV.toInt (List.getD l23 (Int.toNat x25) default))) < ic (n5 - 0))) (cond (decide (0≤Nd.r (z08 (IV.toInt (List.getD l23 (Int.toNat x25) default))))&&decide (Nd.r (z08 (IV.toInt (List.getD l23 (Int.toNat x25) default))) < ic (n5 - 0))) (again (z28 l0 x1 b4 n5 l23 x24 (IntKind.wrap IntKind.i64 (x25+1)) (List.set (List.set lo22 (0+Int.toNat (Nd.l (z08 (IV.toInt (List.getD l23 (Int.toNat x25) default))))) (zt1 false [Kd.int IntKind.i64] (List.getD lo22 (0+Int.toNat (Nd.l (z08 (IV.toInt (List.getD l23 (Int.toNat x25) default))))) default) 0 [IV.int (IntKind.wrap IntKind.i64 (IV.toInt (List.getD lo22 (0+Int.toNat (Nd.l (z08 (IV.toInt (List.getD l23 (Int.toNat x25) default))))) default)+1))])) (0+Int.toNat (Nd.r (z08 (IV.toInt (List.getD l23 (Int.toNat x25) default))))) (zt1 false [Kd.int IntKind.i64] (List.getD (List.set lo22 (0+Int.toNat (Nd.l (z08 (IV.toInt (List.getD l23 (Int.toNat x25) default))))) (zt1 false [Kd.int IntKind.i64] (List.getD lo22 (0+Int.toNat (Nd.l (z08 (IV.toInt (List.getD l23 (Int.toNat x25) default))))) default) 0 [IV.int (IntKind.wrap IntKind.i64 (IV.toInt (List.getD lo22 (0+Int.toNat (Nd.l (z08 (IV.toInt (List.getD l23 (Int.toNat x25) default))))) default)+1))])) (0+Int.toNat (Nd.r (z08 (IV.toInt (List.getD l23 (Int.toNat x25) default))))) default) 0 [IV.int (IntKind.wrap IntKind.i64 (IV.toInt (List.getD (List.set lo22 (0+Int.toNat (Nd.l (z08 (IV.toInt (List.getD l23 (Int.toNat x25) default))))) (zt1 false [Kd.int IntKind.i64] (List.getD lo22 (0+Int.toNat (Nd.l (z08 (IV.toInt (List.getD l23 (Int.toNat x25) default))))) default) 0 [IV.int (IntKind.wrap IntKind.i64 (IV.toInt (List.getD lo22 (0+Int.toNat (Nd.l (z08 (IV.toInt (List.getD l23 (Int.toNat x25) default))))) default)+1))])) (0+Int.toNat (Nd.r (z08 (IV.toInt (List.getD l23 (Int.toNat x25) default))))) default)+1))])))) none) none) none) none))))))) none) (k (.exit 0) (z28 l0 x1 b4 n5 l23 x24 x25 lo22))):=by kernel_rfl
theorem zni (N:Nat) (l0:List IV) (x1:Int) (b4:Bool) (n5:Nat) (l23:List IV) (x24 x25:Int) (lo22:List IV):(z04 0 (kSq (z0o N) (z0p z1u [1,1,1,1]) (z3f (z0o N) none [(ResultVar.tmp 4)] [[.bool]]))) (.exit 0) (z28 l0 x1 b4 n5 l23 x24 x25 lo22)=(cond (decide (0≤1)&&decide (1≤ic (n5 - 0))) (lpE (z0o N) (z0p z1u [1,1,1,1,0,1,0,0]) ⟨[4,85,86,87],[22],[]⟩ N (z4n b4 (0+(n5 - 0)) (ic (0+(n5 - 0) - 1)) 0 lo22) (z04 2 (kSq (z0o N) (z0p z1u [1,1,1,1,1]) (z3f (z0o N) none [(ResultVar.tmp 4)] [[.bool]])))) none):=by kernel_rfl
theorem zm4 (N:Nat) (l0:List IV) (x1:Int) (b4:Bool) (n5:Nat) (l23:List IV) (x24 x25:Int) (lo22:List IV):(z04 0 (kSq (z0o N) (z0p z1u [1,1,1,1]) (z3f (z0o N) none [(ResultVar.tmp 4)] [[.bool]]))) .ret (z28 l0 x1 b4 n5 l23 x24 x25 lo22)=(some ((.bool b4),[])):=by kernel_rfl
theorem zh3 (N:Nat) (b4:Bool) (n85:Nat) (x86 x87:Int) (lo22:List IV) (again:St→Res) (k:Out→St→Res):rnd (z0o N) (z0p z1u [1,1,1,1,0,1,0,0]) (z4n b4 n85 x86 x87 lo22) (z4t again ⟨[4,85,86,87],[22],[]⟩ k)=(cond (decide (x87 < x86)) (cond (decide (0≤x87)&&decide (x87 < ic (n85 - 1))) (cond (IV.toInt (List.getD lo22 (1+Int.toNat x87) default) != 1) (k .ret (z4n false n85 x86 x87 lo22)) (again (z4n b4 n85 x86 (IntKind.wrap IntKind.i64 (x87+1)) lo22))) none) (k (.exit 2) (z4n b4 n85 x86 x87 lo22))):=by kernel_rfl
theorem zm3 (N:Nat) (b4:Bool) (n85:Nat) (x86 x87:Int) (lo22:List IV):(z04 2 (kSq (z0o N) (z0p z1u [1,1,1,1,1]) (z3f (z0o N) none [(ResultVar.tmp 4)] [[.bool]]))) (.exit 2) (z4n b4 n85 x86 x87 lo22)=(some ((.bool true),[])):=by kernel_rfl
theorem zm1 (N:Nat) (b4:Bool) (n85:Nat) (x86 x87:Int) (lo22:List IV):(z04 2 (kSq (z0o N) (z0p z1u [1,1,1,1,1]) (z3f (z0o N) none [(ResultVar.tmp 4)] [[.bool]]))) .ret (z4n b4 n85 x86 x87 lo22)=(some ((.bool b4),[])):=by kernel_rfl
def zr0 (N:Nat):Env:=mkE [(96,zan)] [] 22 N
theorem zp9 (N:Nat) (k:Int) (l:List IV) (d c b0 b1 b2:Int) (ts:List IV):z1c (zr0 N) zgo [.tmp 3] [[.bool]] [(.agg [.int .i64 k,.list false [.int .u64] l]),(.bor [.int .i64 d,.int .i64 c,.int .i64 b0,.int .i64 b1,.int .i64 b2,.list true [.int .i64,.list false [.int .u64]] ts])]=(cond (decide (k < 0)) (some ((.bool true),[[(.int .i64 d),(.int .i64 c),(.int .i64 b0),(.int .i64 b1),(.int .i64 b2),(.list true [(.int .i64),(.list false [(.int .u64)])] ts)]])) (cond (decide (k≥c)) (some ((.bool true),[[(.int .i64 d),(.int .i64 c),(.int .i64 b0),(.int .i64 b1),(.int .i64 b2),(.list true [(.int .i64),(.list false [(.int .u64)])] ts)]])) (some ((.bool (!zb8 l d)),[[(.int .i64 d),(.int .i64 c),(.int .i64 b0),(.int .i64 b1),(.int .i64 b2),(.list true [(.int .i64),(.list false [(.int .u64)])] ts)]])))):=by kernel_rfl
def z06 (N:Nat):Env:=mkE [(95,z41)] [(2,⟨[0,1,4,7,8],[900000],[]⟩)] 19 N
abbrev z0n (l0:List IV) (x4 x7 x8 xo900000_0 xo900000_1 xo900000_2 xo900000_3 xo900000_4:Int) (lo900000_5:List IV):St:=⟨[(0,(.list true [(.int .i64),(.list false [(.int .u64)])] l0)),(1,(.clo 95 [(.ptr 900000 0 0)])),(4,(.int .i64 x4)),(7,(.int .i64 x7)),(8,(.int .i64 x8))],[(900000,(some (.box [(.int .i64 xo900000_0),(.int .i64 xo900000_1),(.int .i64 xo900000_2),(.int .i64 xo900000_3),(.int .i64 xo900000_4),(.list true [(.int .i64),(.list false [(.int .u64)])] lo900000_5)])))]⟩
theorem z8e (N:Nat) (l:List IV) (d c b0 b1 b2:Int) (ts:List IV):z1c (z06 N) z0d [.tmp 4] [[.int .i64]] [(.list true [.int .i64,.list false [.int .u64]] l),(.clo 95 [.bor [.int .i64 d,.int .i64 c,.int .i64 b0,.int .i64 b1,.int .i64 b2,.list true [.int .i64,.list false [.int .u64]] ts]])]=(lpE (z06 N) (z0p z0d [1,0,1,0,0]) ⟨[0,1,4,7,8],[900000],[]⟩ N (z0n l 0 (ic (List.length l)) 0 d c b0 b1 b2 ts) (z04 0 (kSq (z06 N) (z0p z0d [1,1]) (z3f (z06 N) (some [(.int .i64 d),(.int .i64 c),(.int .i64 b0),(.int .i64 b1),(.int .i64 b2),(.list true [(.int .i64),(.list false [(.int .u64)])] ts)]) [(ResultVar.tmp 4)] [[(.int .i64)]])))):=by kernel_rfl
theorem z3u (N:Nat) (l0:List IV) (x4 x7 x8 xo900000_0 xo900000_1 xo900000_2 xo900000_3 xo900000_4:Int) (lo900000_5:List IV) (again:St→Res) (k:Out→St→Res):rnd (z06 N) (z0p z0d [1,0,1,0,0]) (z0n l0 x4 x7 x8 xo900000_0 xo900000_1 xo900000_2 xo900000_3 xo900000_4 lo900000_5) (z4t again ⟨[0,1,4,7,8],[900000],[]⟩ k)=(cond (decide (x8 < x7)) (cond (decide (0≤x8)&&decide (x8 < ic (List.length l0))) (cond (!z74 xo900000_0 xo900000_1 (IV.agg [IV.int (IV.toInt (IV.cell (List.getD l0 (Int.toNat x8) default) 0)),IV.list (IV.toList (IV.cell (List.getD l0 (Int.toNat x8) default) 1))])) (k .ret (z0n l0 x8 x7 x8 xo900000_0 xo900000_1 xo900000_2 xo900000_3 xo900000_4 lo900000_5)) (again (z0n l0 x4 x7 (IntKind.wrap IntKind.i64 (x8+1)) xo900000_0 xo900000_1 xo900000_2 xo900000_3 xo900000_4 lo900000_5))) none) (k (.exit 0) (z0n l0 x4 x7 x8 xo900000_0 xo900000_1 xo900000_2 xo900000_3 xo900000_4 lo900000_5))):=by kernel_rfl
theorem z6u (N:Nat) (d c b0 b1 b2:Int) (ts l0:List IV) (x4 x7 x8 xo900000_0 xo900000_1 xo900000_2 xo900000_3 xo900000_4:Int) (lo900000_5:List IV):(z04 0 (kSq (z06 N) (z0p z0d [1,1]) (z3f (z06 N) (some [(.int .i64 d),(.int .i64 c),(.int .i64 b0),(.int .i64 b1),(.int .i64 b2),(.list true [(.int .i64),(.list false [(.int .u64)])] ts)]) [(ResultVar.tmp 4)] [[(.int .i64)]]))) (.exit 0) (z0n l0 x4 x7 x8 xo900000_0 xo900000_1 xo900000_2 xo900000_3 xo900000_4 lo900000_5)=(some ((.int .i64 (-1)),[[(.int .i64 xo900000_0),(.int .i64 xo900000_1),(.int .i64 xo900000_2),(.int .i64 xo900000_3),(.int .i64 xo900000_4),(.list true [(.int .i64),(.list false [(.int .u64)])] lo900000_5)]])):=by kernel_rfl
theorem z6s (N:Nat) (d c b0 b1 b2:Int) (ts l0:List IV) (x4 x7 x8 xo900000_0 xo900000_1 xo900000_2 xo900000_3 xo900000_4:Int) (lo900000_5:List IV):(z04 0 (kSq (z06 N) (z0p z0d [1,1]) (z3f (z06 N) (some [(.int .i64 d),(.int .i64 c),(.int .i64 b0),(.int .i64 b1),(.int .i64 b2),(.list true [(.int .i64),(.list false [(.int .u64)])] ts)]) [(ResultVar.tmp 4)] [[(.int .i64)]]))) .ret (z0n l0 x4 x7 x8 xo900000_0 xo900000_1 xo900000_2 xo900000_3 xo900000_4 lo900000_5)=(some ((.int .i64 x4),[[(.int .i64 xo900000_0),(.int .i64 xo900000_1),(.int .i64 xo900000_2),(.int .i64 xo900000_3),(.int .i64 xo900000_4),(.list true [(.int .i64),(.list false [(.int .u64)])] lo900000_5)]])):=by kernel_rfl
def z7b (N:Nat):Env:=mkE [(147,z1b)] [] 9 N
theorem z71 (N:Nat) (l:List IV) (d c b0 b1 b2:Int) (ts:List IV):z1c (z7b N) z3p [.tmp 4] [[.bool]] [(.list true [.int .i64,.list false [.int .u64]] l),(.clo 95 [.bor [.int .i64 d,.int .i64 c,.int .i64 b0,.int .i64 b1,.int .i64 b2,.list true [.int .i64,.list false [.int .u64]] ts]])]=(some ((.bool (decide (zqr d c l 0≥0))),[[(.int .i64 d),(.int .i64 c),(.int .i64 b0),(.int .i64 b1),(.int .i64 b2),(.list true [(.int .i64),(.list false [(.int .u64)])] ts)]])):=by kernel_rfl
def z2b (N:Nat):Env:=mkE [(93,z5i),(95,z41),(94,z11)] [(4,⟨[1,2,30,31],[1,53005],[]⟩)] 54 N
abbrev z0x (b2:Bool) (x30_0 x30_1 x30_2 x31 xo1_0 xo1_1 xo1_2 xo1_3 xo1_4:Int) (lo1_5:List IV):St:=⟨[(1,(.ptr 1 0 0)),(2,(.bool b2)),(30,(.agg [(.int .i64 x30_0),(.int .i64 x30_1),(.int .i64 x30_2)])),(31,(.int .i64 x31))],[(1,(some (.box [(.int .i64 xo1_0),(.int .i64 xo1_1),(.int .i64 xo1_2),(.int .i64 xo1_3),(.int .i64 xo1_4),(.list true [(.int .i64),(.list false [(.int .u64)])] lo1_5)]))),(53005,none)]⟩
theorem zu4 (N:Nat) (m_Dim m_Classes m_Bias_0 m_Bias_1 m_Bias_2:Int) (m_Trees:List IV):z1c (z2b N) z2z [.tmp 2] [[.bool]] [(.agg [(.int .i64 m_Dim),(.int .i64 m_Classes),(.int .i64 m_Bias_0),(.int .i64 m_Bias_1),(.int .i64 m_Bias_2),(.list true [.int .i64,.list false [.int .u64]] m_Trees)])]=(cond (decide (m_Dim < 1)) (some ((.bool false),[])) (cond (decide (m_Dim > 4)) (some ((.bool false),[])) (cond (decide (m_Classes < 1)) (some ((.bool false),[])) (cond (decide (m_Classes > 3)) (some ((.bool false),[])) (cond (decide (ic (List.length m_Trees) > 8)) (some ((.bool false),[])) (lpE (z2b N) (z0p z2z [1,1,0,1,0,0]) ⟨[1,2,30,31],[1,53005],[]⟩ N (z0x false m_Bias_0 m_Bias_1 m_Bias_2 0 m_Dim m_Classes m_Bias_0 m_Bias_1 m_Bias_2 m_Trees) (z04 0 (kSq (z2b N) (z0p z2z [1,1,1]) (z3f (z2b N) none [(ResultVar.tmp 2)] [[.bool]]))))))))):=by kernel_rfl
theorem zfz (N:Nat) (b2:Bool) (x30_0 x30_1 x30_2 x31 xo1_0 xo1_1 xo1_2 xo1_3 xo1_4:Int) (lo1_5:List IV) (again:St→Res) (k:Out→St→Res):rnd (z2b N) (z0p z2z [1,1,0,1,0,0]) (z0x b2 x30_0 x30_1 x30_2 x31 xo1_0 xo1_1 xo1_2 xo1_3 xo1_4 lo1_5) (z4t again ⟨[1,2,30,31],[1,53005],[]⟩ k)=(cond (decide (x31 < 3)) (cond (decide (x31=ic 0)) (cond (!z1n x30_0) (k .ret (z0x false x30_0 x30_1 x30_2 x31 xo1_0 xo1_1 xo1_2 xo1_3 xo1_4 lo1_5)) (cond (decide (x31≥xo1_1)) (cond (x30_0 != 0) (k .ret (z0x false x30_0 x30_1 x30_2 x31 xo1_0 xo1_1 xo1_2 xo1_3 xo1_4 lo1_5)) (again (z0x b2 x30_0 x30_1 x30_2 (IntKind.wrap IntKind.i64 (x31+1)) xo1_0 xo1_1 xo1_2 xo1_3 xo1_4 lo1_5))) (again (z0x b2 x30_0 x30_1 x30_2 (IntKind.wrap IntKind.i64 (x31+1)) xo1_0 xo1_1 xo1_2 xo1_3 xo1_4 lo1_5)))) (cond (decide (x31=ic 1)) (cond (!z1n x30_1) (k .ret (z0x false x30_0 x30_1 x30_2 x31 xo1_0 xo1_1 xo1_2 xo1_3 xo1_4 lo1_5)) (cond (decide (x31≥xo1_1)) (cond (x30_1 != 0) (k .ret (z0x false x30_0 x30_1 x30_2 x31 xo1_0 xo1_1 xo1_2 xo1_3 xo1_4 lo1_5)) (again (z0x b2 x30_0 x30_1 x30_2 (IntKind.wrap IntKind.i64 (x31+1)) xo1_0 xo1_1 xo1_2 xo1_3 xo1_4 lo1_5))) (again (z0x b2 x30_0 x30_1 x30_2 (IntKind.wrap IntKind.i64 (x31+1)) xo1_0 xo1_1 xo1_2 xo1_3 xo1_4 lo1_5)))) (cond (decide (x31=ic 2)) (cond (!z1n x30_2) (k .ret (z0x false x30_0 x30_1 x30_2 x31 xo1_0 xo1_1 xo1_2 xo1_3 xo1_4 lo1_5)) (cond (decide (x31≥xo1_1)) (cond (x30_2 != 0) (k .ret (z0x false x30_0 x30_1 x30_2 x31 xo1_0 xo1_1 xo1_2 xo1_3 xo1_4 lo1_5)) (again (z0x b2 x30_0 x30_1 x30_2 (IntKind.wrap IntKind.i64 (x31+1)) xo1_0 xo1_1 xo1_2 xo1_3 xo1_4 lo1_5))) (again (z0x b2 x30_0 x30_1 x30_2 (IntKind.wrap IntKind.i64 (x31+1)) xo1_0 xo1_1 xo1_2 xo1_3 xo1_4 lo1_5)))) none))) (k (.exit 0) (z0x b2 x30_0 x30_1 x30_2 x31 xo1_0 xo1_1 xo1_2 xo1_3 xo1_4 lo1_5))):=by kernel_rfl
theorem zke (N:Nat) (b2:Bool) (x30_0 x30_1 x30_2 x31 xo1_0 xo1_1 xo1_2 xo1_3 xo1_4:Int) (lo1_5:List IV):(z04 0 (kSq (z2b N) (z0p z2z [1,1,1]) (z3f (z2b N) none [(ResultVar.tmp 2)] [[.bool]]))) (.exit 0) (z0x b2 x30_0 x30_1 x30_2 x31 xo1_0 xo1_1 xo1_2 xo1_3 xo1_4 lo1_5)=(some ((.bool (!!List.all lo1_5 (z74 xo1_0 xo1_1))),[])):=by kernel_rfl
theorem zlf (N:Nat) (b2:Bool) (x30_0 x30_1 x30_2 x31 xo1_0 xo1_1 xo1_2 xo1_3 xo1_4:Int) (lo1_5:List IV):(z04 0 (kSq (z2b N) (z0p z2z [1,1,1]) (z3f (z2b N) none [(ResultVar.tmp 2)] [[.bool]]))) .ret (z0x b2 x30_0 x30_1 x30_2 x31 xo1_0 xo1_1 xo1_2 xo1_3 xo1_4 lo1_5)=(some ((.bool b2),[])):=by kernel_rfl
open Go Go.Proofs
theorem zvg {l:List IV} {i:Nat} {w:IV} (h:l[i]?=some w) (j:Nat):z4m (l.take (i+1)) j=z4m (l.take i) j+zcw (z08 w.toInt) j:=by
 unfold z4m;rw [List.take_add_one,h];simp
theorem y9v (x:Nd) (j:Nat):zcw x j≤2:=by
 unfold zcw;cases x.lf
 ·simp only [cond_false]
  split <;> split <;> omega
 ·simp only [cond_true]
  omega
theorem y4l:∀ (l:List IV) (j:Nat),z4m l j≤2*l.length
 | [],_=>Nat.le_refl _
 | w :: l,j=>by
  have:=y4l l j
  have:=y9v (z08 w.toInt) j
  unfold z4m at *;simp only [List.map_cons,List.sum_cons,List.length_cons];omega
def NM (l:List IV) (i:Nat):List IV:=(List.range l.length).map fun j=>IV.int (z4m (l.take i) j:Nat)
theorem y1f (l:List IV) (i:Nat):(NM l i).length=l.length:=by simp [NM]
theorem zv5 (l:List IV) (i:Nat) {j:Nat} (h:j < l.length):(NM l i)[j]?=some (IV.int (z4m (l.take i) j:Nat)):=by
 unfold NM;rw [List.getElem?_map,List.getElem?_range h]
 rfl
theorem yf3 (l:List IV):NM l 0=List.replicate l.length (IV.int 0):=by
 apply List.ext_getElem?;intro j
 by_cases h:j < l.length
 ·rw [zv5 l 0 h,List.getElem?_replicate,if_pos h]
  simp [z4m]
 ·rw [List.getElem?_eq_none (by rw [y1f]; omega),List.getElem?_eq_none (by simp; omega)]
theorem yea {l:List IV} {i:Nat} {w:IV} (h:l[i]?=some w) (hl:(z08 w.toInt).lf=true):NM l (i+1)=NM l i:=by
 unfold NM
 congr 1
 funext j
 rw [zvg h];unfold zcw;rw [hl]
 rfl
theorem yek {l:List IV} {i:Nat} {w:IV} (h:l[i]?=some w) (hl:(z08 w.toInt).lf=false) (hn:l.length≤31) {a b:Nat} (ha:(z08 w.toInt).l=(a:Int)) (hb:(z08 w.toInt).r=(b:Int)) (hab:a≠b) (al:a < l.length) (bl:b < l.length) :
  ((NM l i).set a (IV.int (IntKind.wrap IntKind.i64 (((NM l i).getD a default).toInt+1)))).set b (IV.int (IntKind.wrap IntKind.i64 ((((NM l i).set a (IV.int (IntKind.wrap IntKind.i64 (((NM l i).getD a default).toInt+1)))).getD b default).toInt+1)))=NM l (i+1):=by
 have hil:i < l.length:=(List.getElem?_eq_some_iff.1 h).1;have hsm:∀ j,z4m (l.take i) j≤62:=fun j=>by
  have:=y4l (l.take i) j
  rw [List.length_take] at this;omega
 have ga:((NM l i).getD a default).toInt=(z4m (l.take i) a:Nat):=by
  rw [List.getD_eq_getElem?_getD,zv5 l i al]
  rfl
 have gb:(((NM l i).set a (IV.int (IntKind.wrap IntKind.i64 (((NM l i).getD a default).toInt+1)))).getD b default).toInt=(z4m (l.take i) b:Nat):=by
  rw [List.getD_eq_getElem?_getD,List.getElem?_set_ne hab,zv5 l i bl]
  rfl
 rw [gb,ga,z1d (by omega) (by have:=hsm a; omega),z1d (by omega) (by have:=hsm b; omega)]
 apply List.ext_getElem?;intro j
 by_cases hj:j < l.length
 ·rw [zv5 l (i+1) hj,zvg h]
  have e:zcw (z08 w.toInt) j=(if a=j then 1 else 0)+(if b=j then 1 else 0):=by
   unfold zcw;rw [hl,ha,hb,cond_false];have e1:((a:Int)=(j:Int))↔a=j:=by omega
   have e2:((b:Int)=(j:Int))↔b=j:=by omega
   simp only [e1,e2]
  rw [e]
  by_cases h1:b=j
  ·subst h1
   rw [List.getElem?_set_self (by rw [List.length_set,y1f]; exact bl),if_neg hab,if_pos rfl]
   congr 2
  ·rw [List.getElem?_set_ne h1]
   by_cases h2:a=j
   ·subst h2
    rw [List.getElem?_set_self (by rw [y1f]; exact al),if_pos rfl,if_neg h1]
    congr 2
   ·rw [List.getElem?_set_ne h2,zv5 l i hj,if_neg h1,if_neg h2]
    congr 2
 ·rw [List.getElem?_eq_none (by rw [List.length_set,List.length_set,y1f]; omega),List.getElem?_eq_none (by rw [y1f]; omega)]
abbrev yh4 (l:List IV) (dim:Int) (b:Bool) (i:Int) (nm:List IV):St:=
 ⟨[(0,(.list false [(.int .u64)] l)),(1,(.int .i64 dim)),(4,(.bool b)),(5,(.row 22 0 l.length)),(23,(.list false [(.int .u64)] l)),(24,(.int .i64 (ic l.length))),(25,(.int .i64 i))],[(22,(some (.row true 3 false [(.int .i64)] nm)))]⟩
theorem zvq (N:Nat) (l:List IV) (dim:Int) (hl:l.length≤31) (K:Out→St→Res) (hK:∀ i nm,K .ret (yh4 l dim false i nm)=some (.bool false,[])):∀ (d i n:Nat),i+d=l.length→d < n →
  lpE (z0o N) (z0p z1u [1,1,1,0,1,0,0]) ⟨[0,1,4,5,23,24,25],[22],[]⟩ n (yh4 l dim false (i:Int) (NM l i)) K =
   cond (zfp dim (ic l.length) i (l.drop i)) (K (.exit 0) (yh4 l dim false (ic l.length) (NM l l.length))) (some (.bool false,[]))
 | d,i,0,_,h=>absurd h (by omega)
 | 0,i,n+1,hd,_=>by
  have hi:i=l.length:=by omega
  subst hi;rw [z05,zhc];rw [decide_eq_false (show ¬ ((l.length:Nat):Int) < ic l.length by simp only [ic]; omega),z02,List.drop_length]
  rfl
 | d+1,i,n+1,hd,hn=>by
  have hil:i < l.length:=by omega
  have hw:l[i]?=some l[i]:=List.getElem?_eq_getElem hil;rw [z05,zhc,List.drop_eq_getElem_cons hil];have hg:l.getD (Int.toNat (i:Int)) default=l[i]:=by
   rw [Int.toNat_natCast,List.getD_eq_getElem?_getD,hw]
   rfl
  rw [hg];generalize l[i]=w at hw ⊢
  have ei:IntKind.wrap IntKind.i64 ((i:Int)+1)=((i+1:Nat):Int):=by
   rw [z1d (by omega) (by omega)]
   omega
  rw [ei,decide_eq_true (show (i:Int) < ic l.length by simp only [ic]; omega),z00,decide_eq_true (show (0:Int)≤(i:Int) by omega),Bool.and_self,z00]
  unfold zfp;cases hb:zb6 w.toInt with
  | false=>
   simp only [Bool.not_false,z00,Bool.false_and,z02];exact hK (i:Int) (NM l i)
  | true=>
   simp only [Bool.not_true,z02,Bool.true_and];unfold y8l;cases hlf:(z08 w.toInt).lf with
   | true=>
    simp only [z00,Bool.true_and];rw [← yea hw hlf];exact zvq N l dim hl K hK d (i+1) n (by omega) (by omega)
   | false=>
    simp only [z02];cases h1:decide ((z08 w.toInt).f≥dim) with
    | true=>
     simp only [z00,Bool.not_true,Bool.false_and,z02];exact hK (i:Int) (NM l i)
    | false=>
    cases h2:((z08 w.toInt).l==(z08 w.toInt).r) with
    | true=>
     simp only [z00,z02,Bool.not_true,Bool.not_false,Bool.false_and,Bool.and_false];exact hK (i:Int) (NM l i)
    | false=>
    cases h3:decide (min (z08 w.toInt).l (z08 w.toInt).r≤(i:Int)) with
    | true=>
     simp only [z00,z02,Bool.not_true,Bool.not_false,Bool.false_and,Bool.and_false];exact hK (i:Int) (NM l i)
    | false=>
    cases h4:decide (max (z08 w.toInt).l (z08 w.toInt).r≥ic l.length) with
    | true=>
     simp only [z00,z02,Bool.not_true,Bool.not_false,Bool.false_and,Bool.and_false];exact hK (i:Int) (NM l i)
    | false=>
     have g2:(z08 w.toInt).l≠(z08 w.toInt).r:=beq_eq_false_iff_ne.1 h2;have g3:=of_decide_eq_false h3;have g4:=of_decide_eq_false h4;simp only [ic] at g4;obtain ⟨a,ha⟩:∃ a:Nat,(z08 w.toInt).l=(a:Int):=⟨(z08 w.toInt).l.toNat,by omega⟩
     obtain ⟨b,hb'⟩:∃ b:Nat,(z08 w.toInt).r=(b:Int):=⟨(z08 w.toInt).r.toNat,by omega⟩
     have hab:a≠b:=fun e=>g2 (by rw [ha,hb',e])
     have al:a < l.length:=by omega
     have bl:b < l.length:=by omega
     have hN:=yek hw hlf hl ha hb' hab al bl;rw [ha,hb'];rw [decide_eq_true (show (0:Int)≤(a:Int) by omega),decide_eq_true (show (0:Int)≤(b:Int) by omega),decide_eq_true (show (a:Int) < ic (l.length - 0) by simp only [ic]; omega),decide_eq_true (show (b:Int) < ic (l.length - 0) by simp only [ic]; omega)]
     simp only [z00,z02,Bool.not_false,Bool.and_self,Bool.true_and,Int.toNat_natCast,Nat.zero_add];refine Eq.trans ?_ (zvq N l dim hl K hK d (i+1) n (by omega) (by omega))
     rw [← hN]
     rfl
abbrev yii (l:List IV) (b:Bool) (j:Int):St:=
 ⟨[(4,(.bool b)),(85,(.row 22 1 (0+(l.length - 0)))),(86,(.int .i64 (ic (0+(l.length - 0) - 1)))),(87,(.int .i64 j))],[(22,(some (.row true 3 false [(.int .i64)] (NM l l.length))))]⟩
theorem y58 (N:Nat) (l:List IV) (hl:l.length≤31):∀ (d j n:Nat),j+d=l.length - 1→d < n →
  lpE (z0o N) (z0p z1u [1,1,1,1,0,1,0,0]) ⟨[4,85,86,87],[22],[]⟩ n (yii l false (j:Int)) (z04 2 (kSq (z0o N) (z0p z1u [1,1,1,1,1]) (z3f (z0o N) none [(ResultVar.tmp 4)] [[.bool]]))) =
   some (.bool ((List.range' j d).all fun j=>z4m l (j+1)==1),[])
 | d,j,0,_,h=>absurd h (by omega)
 | 0,j,n+1,hd,_=>by
  rw [z05,zh3,decide_eq_false (show ¬ (j:Int) < ic (0+(l.length - 0) - 1) by simp only [ic]; omega),z02]
  exact zm3 N false _ _ _ _
 | d+1,j,n+1,hd,hn=>by
  have ej:IntKind.wrap IntKind.i64 ((j:Int)+1)=((j+1:Nat):Int):=by
   rw [z1d (by omega) (by omega)]
   omega
  rw [z05,zh3,ej,decide_eq_true (show (j:Int) < ic (0+(l.length - 0) - 1) by simp only [ic]; omega),z00,decide_eq_true (show (0:Int)≤(j:Int) by omega),Bool.and_self,z00]
  have hg:((NM l l.length).getD (1+Int.toNat (j:Int)) default).toInt=(z4m l (j+1):Nat):=by
   rw [Int.toNat_natCast,Nat.add_comm 1 j,List.getD_eq_getElem?_getD,zv5 l l.length (by omega),List.take_length]
   rfl
  rw [hg,List.range'_succ,List.all_cons];have e:(((z4m l (j+1):Nat):Int) != 1)=!(z4m l (j+1)==1):=by
   show (!(((z4m l (j+1):Nat):Int)==1))=_
   congr 1
   rw [Bool.eq_iff_iff,beq_iff_eq,beq_iff_eq];omega
  rw [e];cases (z4m l (j+1)==1) with
  | false=>
   rw [Bool.not_false,z00];exact zm1 N false _ _ _ _
  | true=>
   rw [Bool.not_true,z02,Bool.true_and];exact y58 N l hl d (j+1) n (by omega) (by omega)
theorem yaw (N:Nat) (l:List IV) (dim:Int) (hl:l.length≤31) (h1:1≤l.length) (hN:40≤N) (i:Int) :
  (z04 0 (kSq (z0o N) (z0p z1u [1,1,1,1]) (z3f (z0o N) none [(ResultVar.tmp 4)] [[.bool]]))) (.exit 0) (yh4 l dim false i (NM l l.length))=some (.bool (ybo l),[]):=by
 refine (zni N l dim false l.length l (ic l.length) i (NM l l.length)).trans ?_;rw [decide_eq_true (show (0:Nat)≤1 by omega),decide_eq_true (show (1:Int)≤ic (l.length - 0) by simp only [ic]; omega),Bool.and_self,z00]
 have:=y58 N l hl (l.length - 1) 0 N (by omega) (by omega)
 refine this.trans ?_;unfold ybo;rw [List.range_eq_range']
set_option maxRecDepth 100000 in
theorem zt5:z3c PR B0 96 zan:=by
 refine z0m [(55,z2n)] [(5,⟨[0,1,4,5,23,24,25],[22],[]⟩),(17,⟨[4,85,86,87],[22],[]⟩)] zan [[.bool]] Tryz.func96 y15 ⟨z8m,trivial⟩ ?_;intro vs r hwf h;unfold zan at h
 split at h
 ·rename_i l dim
  refine ⟨40,?_⟩;rw [R.get_ok] at h;rw [← h];refine (zwa 40 l dim).trans ?_;unfold zb8
  by_cases h1:1≤l.length
  ·by_cases h2:l.length≤31
   ·have eb:ic (TI.bytes (Env.tyd (z0o 40) 3))=8:=rfl
    rw [decide_eq_false (show ¬ ic l.length < 1 by simp only [ic]; omega),decide_eq_false (show ¬ ic l.length > 31 by simp only [ic]; omega),z02,z02,eb,
     decide_eq_true (show (0:Int)≤ic l.length by simp only [ic]; omega),decide_eq_true (show ic l.length=ic l.length from rfl),decide_eq_true (show ic l.length*8≤ic z0e by unfold z0e; simp only [ic]; omega)]
    have e0:(Nat.blt 0 (TI.size (Env.tyd (z0o 40) 3))&&(Nat.blt 3 1000000&&true)&&(true&&true))=true:=rfl;have e1:Int.toNat (ic l.length)=l.length:=by simp only [ic]; omega
    rw [e0,z00,e1,← yf3,Nat.ble_eq_true_of_le h1,Nat.ble_eq_true_of_le h2];refine (zvq 40 l dim h2 _ (fun i nm=>?_) l.length 0 40 (by omega) (by omega)).trans ?_
    ·exact zm4 40 l dim false l.length l (ic l.length) i nm
    ·rw [List.drop_zero,yaw 40 l dim h2 h1 (by omega)]
     cases zfp dim (ic l.length) 0 l <;> rfl
   ·have e:Nat.ble l.length 31=false:=by
     cases hb:Nat.ble l.length 31 with
     | false=>rfl
     | true=>exact absurd (Nat.le_of_ble_eq_true hb) h2
    rw [decide_eq_false (show ¬ ic l.length < 1 by simp only [ic]; omega),decide_eq_true (show ic l.length > 31 by simp only [ic]; omega),z02,z00,e,Bool.and_false,Bool.false_and]
  ·have e:Nat.ble 1 l.length=false:=by
    cases hb:Nat.ble 1 l.length with
    | false=>rfl
    | true=>exact absurd (Nat.le_of_ble_eq_true hb) h1
   rw [decide_eq_true (show ic l.length < 1 by simp only [ic]; omega),z00,e,Bool.false_and,Bool.false_and]
 ·simp [R.get] at h
set_option maxRecDepth 100000 in
theorem ze6:z3c PR B0 95 z41:=by
 refine z0m [(96,zan)] [] z41 [[.bool]] Tryz.func95 zrh ⟨zt5,trivial⟩ ?_;intro vs r hwf h;unfold z41 at h
 split at h
 ·rename_i k l d c b0 b1 b2 ts
  refine ⟨0,?_⟩;rw [R.get_ok] at h;rw [← h];refine (zp9 0 k l d c b0 b1 b2 ts).trans ?_;have e:z74 d c (.agg [.int k,.list l])=(!(decide (k < 0))&&(!(decide (k≥c))&&zb8 l d)):=rfl;rw [e];cases decide (k < 0) with
  | true=>rfl
  | false=>
   cases decide (k≥c) with
   | true=>rfl
   | false=>rfl
 ·simp [R.get] at h
abbrev yij (l:List IV) (d c b0 b1 b2:Int) (ts:List IV) (r i:Int):St:=
 ⟨[(0,(.list true [(.int .i64),(.list false [(.int .u64)])] l)),(1,(.clo 95 [(.ptr 900000 0 0)])),(4,(.int .i64 r)),(7,(.int .i64 (ic l.length))),(8,(.int .i64 i))],[(900000,(some (.box [(.int .i64 d),(.int .i64 c),(.int .i64 b0),(.int .i64 b1),(.int .i64 b2),(.list true [(.int .i64),(.list false [(.int .u64)])] ts)])))]⟩
theorem y7q (d c:Int) (t:IV):z74 d c (.agg [.int (IV.toInt (IV.cell t 0)),.list (IV.toList (IV.cell t 1))])=z74 d c t:=rfl
theorem y0k (N:Nat) (l:List IV) (hl:l.length≤strMax) (d c b0 b1 b2:Int) (ts:List IV):∀ (m i n:Nat),i+m=l.length→m < n →
  lpE (z06 N) (z0p z0d [1,0,1,0,0]) ⟨[0,1,4,7,8],[900000],[]⟩ n (yij l d c b0 b1 b2 ts 0 (i:Int)) (z04 0 (kSq (z06 N) (z0p z0d [1,1]) (z3f (z06 N) (some [(.int .i64 d),(.int .i64 c),(.int .i64 b0),(.int .i64 b1),(.int .i64 b2),(.list true [(.int .i64),(.list false [(.int .u64)])] ts)]) [(ResultVar.tmp 4)] [[(.int .i64)]]))) =
   some (.int .i64 (zqr d c (l.drop i) (i:Int)),[[(.int .i64 d),(.int .i64 c),(.int .i64 b0),(.int .i64 b1),(.int .i64 b2),(.list true zwi ts)]])
 | m,i,0,_,h=>absurd h (by omega)
 | 0,i,n+1,hd,_=>by
  have hi:i=l.length:=by omega
  subst hi;rw [z05,z3u,decide_eq_false (show ¬ ((l.length:Nat):Int) < ic l.length by simp only [ic]; omega),z02,List.drop_length]
  exact z6u N d c b0 b1 b2 ts l 0 (ic l.length) (l.length:Int) d c b0 b1 b2 ts
 | m+1,i,n+1,hd,hn=>by
  have hil:i < l.length:=by omega
  have m':strMax=140737488355327:=rfl;have ei:IntKind.wrap IntKind.i64 ((i:Int)+1)=((i+1:Nat):Int):=by
   rw [z1d (by omega) (by omega)]
   omega
  have hg:l.getD (Int.toNat (i:Int)) default=l[i]:=by
   rw [Int.toNat_natCast,List.getD_eq_getElem?_getD,List.getElem?_eq_getElem hil]
   rfl
  rw [z05,z3u,ei,hg,y7q,decide_eq_true (show (i:Int) < ic l.length by simp only [ic]; omega),z00,decide_eq_true (show (0:Int)≤(i:Int) by omega),Bool.and_self,z00,List.drop_eq_getElem_cons hil,zqr]
  cases z74 d c l[i] with
  | true=>
   rw [Bool.not_true,z02,z00];exact y0k N l hl d c b0 b1 b2 ts m (i+1) n (by omega) (by omega)
  | false=>
   rw [Bool.not_false,z00,z02];exact z6s N d c b0 b1 b2 ts l (i:Int) (ic l.length) (i:Int) d c b0 b1 b2 ts
set_option maxRecDepth 100000 in
theorem z7v:z3c PR B0 147 z1b:=by
 refine z0m [(95,z41)] [(2,⟨[0,1,4,7,8],[900000],[]⟩)] z1b [[.int .i64]] Tryz.func147 z98 ⟨ze6,trivial⟩ ?_;intro vs r hwf h;unfold z1b at h
 split at h
 ·rename_i l d c b0 b1 b2 ts
  refine ⟨l.length+1,?_⟩;rw [R.get_ok] at h;rw [← h];refine (z8e (l.length+1) l d c b0 b1 b2 ts).trans ?_;have hl:l.length≤strMax:=by
   have hb:=hwf (by simp [zcl])
   have:=hb.1
   simp only [wfV,wfL] at this;exact this.1
  exact y0k (l.length+1) l hl d c b0 b1 b2 ts l.length 0 (l.length+1) (by omega) (by omega)
 ·simp [R.get] at h
theorem y9g (d c:Int):∀ (l:List IV) (i:Nat),decide (zqr d c l (i:Int)≥0)=!(l.all (z74 d c))
 | [],i=>rfl
 | t :: l,i=>by
  unfold zqr;rw [List.all_cons];cases z74 d c t with
  | true=>
   rw [z00,Bool.true_and];exact y9g d c l (i+1)
  | false=>
   rw [z02,Bool.false_and,decide_eq_true (show (i:Int)≥0 by omega)]
   rfl
set_option maxRecDepth 100000 in
theorem z6t:z3c PR B0 94 z11:=by
 refine z0m [(147,z1b)] [] z11 [[.bool]] Tryz.func94 z78 ⟨z7v,trivial⟩ ?_;intro vs r hwf h;unfold z11 at h
 split at h
 ·rename_i l d c b0 b1 b2 ts
  refine ⟨0,?_⟩;rw [R.get_ok] at h;rw [← h];refine (z71 0 l d c b0 b1 b2 ts).trans ?_
  have:=y9g d c l 0
  rw [show ((0:Nat):Int)=0 from rfl] at this
  rw [this]
 ·simp [R.get] at h
abbrev yfp (d c b0 b1 b2:Int) (ts:List IV) (b:Bool) (i:Int):St:=
 ⟨[(1,(.ptr 1 0 0)),(2,(.bool b)),(30,(.agg [(.int .i64 b0),(.int .i64 b1),(.int .i64 b2)])),(31,(.int .i64 i))],[(1,(some (.box [(.int .i64 d),(.int .i64 c),(.int .i64 b0),(.int .i64 b1),(.int .i64 b2),(.list true [(.int .i64),(.list false [(.int .u64)])] ts)]))),(53005,none)]⟩
theorem y9q (c j b:Int) {α:Type _} (x y:α):cond (!z1n b) y (cond (decide (j≥c)) (cond (b != 0) y x) x)=cond (zg5 c j b) x y:=by
 unfold zg5;have e:(b != 0)=!(b==0):=rfl;rw [e];cases z1n b <;> cases decide (j≥c) <;> cases (b==0) <;> rfl
theorem zmm (N:Nat) (d c b0 b1 b2:Int) (ts:List IV) (j:Nat) (b:Int) (h:(j=0∧b=b0)∨(j=1∧b=b1)∨(j=2∧b=b2)) (again:St→Res) (k:Out→St→Res) :
  rnd (z2b N) (z0p z2z [1,1,0,1,0,0]) (yfp d c b0 b1 b2 ts false (j:Int)) (z4t again ⟨[1,2,30,31],[1,53005],[]⟩ k) =
   cond (zg5 c (j:Int) b) (again (yfp d c b0 b1 b2 ts false ((j+1:Nat):Int))) (k .ret (yfp d c b0 b1 b2 ts false (j:Int))):=by
 rw [zfz];have ej:IntKind.wrap IntKind.i64 ((j:Int)+1)=((j+1:Nat):Int):=by
  rw [z1d (by omega) (by omega)]
  omega
 rw [ej,← y9q,decide_eq_true (show (j:Int) < 3 by omega),z00]
 rcases h with ⟨rfl,rfl⟩ | ⟨rfl,rfl⟩ | ⟨rfl,rfl⟩ <;> rfl
set_option maxRecDepth 100000 in
theorem z8o:z3c PR B0 53 z2p:=by
 refine z0m [(93,z5i),(95,z41),(94,z11)] [(4,⟨[1,2,30,31],[1,53005],[]⟩)] z2p [[.bool]] Tryz.func53 zxx ⟨zfk,ze6,z6t,trivial⟩ ?_;intro vs r hwf h;unfold z2p at h
 split at h
 ·rename_i d c b0 b1 b2 ts
  refine ⟨6,?_⟩;rw [R.get_ok] at h;rw [← h];refine (zu4 6 d c b0 b1 b2 ts).trans ?_;have run:lpE (z2b 6) (z0p z2z [1,1,0,1,0,0]) ⟨[1,2,30,31],[1,53005],[]⟩ 6 (yfp d c b0 b1 b2 ts false 0) (z04 0 (kSq (z2b 6) (z0p z2z [1,1,1]) (z3f (z2b 6) none [(ResultVar.tmp 2)] [[.bool]]))) =
    some (.bool ((zg5 c 0 b0&&(zg5 c 1 b1&&zg5 c 2 b2))&&ts.all (z74 d c)),[]):=by
   have e0:yfp d c b0 b1 b2 ts false 0=yfp d c b0 b1 b2 ts false ((0:Nat):Int):=rfl;have R2:=fun j=>zlf 6 false b0 b1 b2 j d c b0 b1 b2 ts
   have R1:=fun j=>zke 6 false b0 b1 b2 j d c b0 b1 b2 ts
   rw [e0,z05,zmm 6 d c b0 b1 b2 ts 0 b0 (by simp),R2]
   cases h0:zg5 c ((0:Nat):Int) b0 with
   | false=>rfl
   | true=>
    rw [z00,z05,zmm 6 d c b0 b1 b2 ts 1 b1 (by simp),R2]
    cases h1:zg5 c ((1:Nat):Int) b1 with
    | false=>rfl
    | true=>
     rw [z00,z05,zmm 6 d c b0 b1 b2 ts 2 b2 (by simp),R2]
     cases h2:zg5 c ((2:Nat):Int) b2 with
     | false=>rfl
     | true=>
      rw [z00,z05,zfz,decide_eq_false (show ¬ ((2+1:Nat):Int) < 3 by omega),z02,R1,Bool.not_not]
      rfl
  unfold z3z;cases decide (d < 1) with
  | true=>rfl
  | false=>
  cases decide (d > 4) with
  | true=>rfl
  | false=>
  cases decide (c < 1) with
  | true=>rfl
  | false=>
  cases decide (c > 3) with
  | true=>rfl
  | false=>
   simp only [z02,Bool.not_false,Bool.true_and]
   by_cases h8:ts.length≤8
   ·rw [decide_eq_false (show ¬ ic ts.length > 8 by simp only [ic]; omega),z02,Nat.ble_eq_true_of_le h8,Bool.true_and]
    exact run
   ·have e:Nat.ble ts.length 8=false:=by
     cases hb:Nat.ble ts.length 8 with
     | false=>rfl
     | true=>exact absurd (Nat.le_of_ble_eq_true hb) h8
    rw [decide_eq_true (show ic ts.length > 8 by simp only [ic]; omega),z00,e,Bool.false_and]
 ·simp [R.get] at h
open Go Go.Proofs
def y6p (N:Nat):Env:=mkE [(44,z5n),(144,zaf),(84,z9t),(104,z4e),(57,z2w),(86,z4c)] [] 76 N
theorem y30 (N:Nat) (s:ByteArray):z1c (y6p N) zu8 [.tmp 2,.tmp 3] [[.int .i64],[.bool]] [(.str s)] =
 (cond (decide (ByteArray.size (z14 s { data:=#[45] }) < 4294967281))
 (cond (decide (ic (ByteArray.size (zed (z14 s { data:=#[45] }) { data:=#[46] })) > 8))
 (some ((.tup [(.int .i64 0),(.bool false)]),[]))
 (cond (decide (0≤IntKind.wrap IntKind.i64 (8 - ic (ByteArray.size (zed (z14 s { data:=#[45] }) { data:=#[46] }))))&&decide (ByteArray.size { data:=#[48] }*Int.toNat (IntKind.wrap IntKind.i64 (8 - ic (ByteArray.size (zed (z14 s { data:=#[45] }) { data:=#[46] }))))≤strMax))
 (cond (decide (ByteArray.size (zed (z14 s { data:=#[45] }) { data:=#[46] })+ByteArray.size (zly { data:=#[48] } (Int.toNat (IntKind.wrap IntKind.i64 (8 - ic (ByteArray.size (zed (z14 s { data:=#[45] }) { data:=#[46] }))))))≤strMax))
 (cond (!puN (cutL (z14 s { data:=#[45] }) { data:=#[46] }))
 (some ((.tup [(.int .i64 0),(.bool false)]),[]))
 (cond (!puN (zed (z14 s { data:=#[45] }) { data:=#[46] }++zly { data:=#[48] } (Int.toNat (IntKind.wrap IntKind.i64 (8 - ic (ByteArray.size (zed (z14 s { data:=#[45] }) { data:=#[46] })))))))
 (some ((.tup [(.int .i64 0),(.bool false)]),[]))
 (cond (decide (puV (cutL (z14 s { data:=#[45] }) { data:=#[46] }) > 36028797018963968))
 (some ((.tup [(.int .i64 0),(.bool false)]),[]))
 (cond (Int.tmod (puV (zed (z14 s { data:=#[45] }) { data:=#[46] }++zly { data:=#[48] } (Int.toNat (IntKind.wrap IntKind.i64 (8 - ic (ByteArray.size (zed (z14 s { data:=#[45] }) { data:=#[46] }))))))) 390625 != 0)
 (some ((.tup [(.int .i64 0),(.bool false)]),[]))
 (cond (zdm s { data:=#[45] })
 (cond (ByteArray.toList (z0b (IntKind.wrap IntKind.i64 (IntKind.wrap IntKind.u64 (0 - IntKind.wrap IntKind.u64 (IntKind.wrap IntKind.u64 (puV (cutL (z14 s { data:=#[45] }) { data:=#[46] })*2 ^ min (Int.toNat 8) (IntKind.bits IntKind.u64))+IntKind.wrap IntKind.u64 (Int.tdiv (puV (zed (z14 s { data:=#[45] }) { data:=#[46] }++zly { data:=#[48] } (Int.toNat (IntKind.wrap IntKind.i64 (8 - ic (ByteArray.size (zed (z14 s { data:=#[45] }) { data:=#[46] }))))))) 390625))))))==ByteArray.toList s)
 (some ((.tup [(.int .i64 (IntKind.wrap IntKind.i64 (IntKind.wrap IntKind.u64 (0 - IntKind.wrap IntKind.u64 (IntKind.wrap IntKind.u64 (puV (cutL (z14 s { data:=#[45] }) { data:=#[46] })*2 ^ min (Int.toNat 8) (IntKind.bits IntKind.u64))+IntKind.wrap IntKind.u64 (Int.tdiv (puV (zed (z14 s { data:=#[45] }) { data:=#[46] }++zly { data:=#[48] } (Int.toNat (IntKind.wrap IntKind.i64 (8 - ic (ByteArray.size (zed (z14 s { data:=#[45] }) { data:=#[46] }))))))) 390625)))))),(.bool true)]),[]))
 (some ((.tup [(.int .i64 0),(.bool false)]),[])))
 (cond (ByteArray.toList (z0b (IntKind.wrap IntKind.i64 (IntKind.wrap IntKind.u64 (IntKind.wrap IntKind.u64 (puV (cutL (z14 s { data:=#[45] }) { data:=#[46] })*2 ^ min (Int.toNat 8) (IntKind.bits IntKind.u64))+IntKind.wrap IntKind.u64 (Int.tdiv (puV (zed (z14 s { data:=#[45] }) { data:=#[46] }++zly { data:=#[48] } (Int.toNat (IntKind.wrap IntKind.i64 (8 - ic (ByteArray.size (zed (z14 s { data:=#[45] }) { data:=#[46] }))))))) 390625)))))==ByteArray.toList s)
 (some ((.tup [(.int .i64 (IntKind.wrap IntKind.i64 (IntKind.wrap IntKind.u64 (IntKind.wrap IntKind.u64 (puV (cutL (z14 s { data:=#[45] }) { data:=#[46] })*2 ^ min (Int.toNat 8) (IntKind.bits IntKind.u64))+IntKind.wrap IntKind.u64 (Int.tdiv (puV (zed (z14 s { data:=#[45] }) { data:=#[46] }++zly { data:=#[48] } (Int.toNat (IntKind.wrap IntKind.i64 (8 - ic (ByteArray.size (zed (z14 s { data:=#[45] }) { data:=#[46] }))))))) 390625))))),(.bool true)]),[]))
 (some ((.tup [(.int .i64 0),(.bool false)]),[]))))))))
 none)
 none))
 none):=by kernel_rfl
open Go Go.Proofs
set_option maxRecDepth 100000 in
theorem zo7:z3c PR B0 84 z9t:=by
 refine z0m [] [(3,⟨[0,1,2],[],[]⟩)] z9t [[.int .u64]] Tryz.func84 y7c trivial ?_;intro vs r hwf h;unfold z9t at h
 split at h
 ·refine ⟨9,?_⟩
  rw [← h];show z1c (y6k 9) zv8 [.tmp 0] [[.int .u64]] []=_
  kernel_rfl
 ·simp [R.get] at h
theorem yem {s:ByteArray} (h:puN s=true):0 < s.size:=by
 unfold puN at h
 split at h
 ·rename_i v hv
  have:s.data.toList≠[]:=fun e=>by rw [e] at hv; cases hv
  rw [zfc];exact List.length_pos_iff.2 this
 ·cases h
theorem y9n {s:ByteArray} (h:puN s=true):(List.getD s.data.toList 0 0).toNat≠43:=by
 unfold puN at h
 split at h
 ·rename_i v hv
  revert hv
  cases s.data.toList with
  | nil=>intro _; decide
  | cons c r=>
   intro hv he;have he:c.toNat=43:=he;unfold Lib.parseMag at hv;rw [if_neg (by simp),Lib.parseUint10,if_neg (by omega)] at hv
   cases hv
 ·cases h
set_option maxRecDepth 100000 in
theorem ztu:z3c PR B0 144 zaf:=by
 refine z0m [(189,z5j)] [] zaf [[.int .u64],[.bool]] Tryz.func144 y0x ⟨zha,trivial⟩ ?_;intro vs r hwf h;unfold zaf at h
 split at h
 ·rename_i s
  refine ⟨0,?_⟩;rw [← h];refine (zx3 0 s).trans ?_;simp only [R.get_ok];cases hp:puN s with
  | false=>simp only [z02]
  | true=>
   have h1:(decide (0≤0)&&decide (0 < ic (ByteArray.size s)))=true:=by
    have:=yem hp
    simp [ic]; omega
   have h2:(ic (UInt8.toNat (List.getD (Array.toList (ByteArray.data s)) (Int.toNat 0) 0)) != 43)=true:=by
    have:=y9n hp
    rw [y9c];simp only [ic,Int.toNat_zero];simp only [Bool.not_eq_true',decide_eq_false_iff_not];omega
   rw [h1,h2];simp only [z00]
 ·simp [R.get] at h
theorem y89 {n:Int} (h0:0≤n) (h1:n < 18446744073709551616):IntKind.wrap .u64 n=n:=by rw [IntKind.wrap_u64]; omega
theorem ybs {n:Int} (h0:n < 0) (h1 : -9223372036854775808≤n):IntKind.wrap .u64 (0 - IntKind.wrap .u64 n)=(n.natAbs:Int):=by rw [IntKind.wrap_u64,IntKind.wrap_u64]; omega
theorem ybb {n:Int} (h0:¬ n < 0) (h1:n≤9223372036854775807):IntKind.wrap .u64 n=(n.natAbs:Int):=by rw [IntKind.wrap_u64]; omega
theorem ya3 (u:Nat) (h:u < 18446744073709551616):IntKind.wrap .u64 (ic (BitVec.toNat (BitVec.ofInt (IntKind.bits IntKind.u64) (u:Int) &&& BitVec.ofInt (IntKind.bits IntKind.u64) 255)))=((u % 256:Nat):Int):=by
 have e:BitVec.toNat (BitVec.ofInt (IntKind.bits IntKind.u64) (u:Int) &&& BitVec.ofInt (IntKind.bits IntKind.u64) 255)=u % 256:=by
  have h1:(BitVec.ofInt (IntKind.bits IntKind.u64) (u:Int)).toNat=u:=by
   show (BitVec.ofInt 64 (u:Int)).toNat=u;rw [BitVec.toNat_ofInt];omega
  have h2:(BitVec.ofInt (IntKind.bits IntKind.u64) 255).toNat=2 ^ 8 - 1:=by rfl
  rw [BitVec.toNat_and,h1,h2,Nat.and_two_pow_sub_one_eq_mod]
 rw [e];exact y89 (by simp [ic]; omega) (by simp [ic]; omega)
theorem ygw (u:Nat):Int.fdiv (u:Int) (2 ^ min (Int.toNat 8) (IntKind.bits IntKind.u64))=((u / 256:Nat):Int):=by
 have e:(2:Int) ^ min (Int.toNat 8) (IntKind.bits IntKind.u64)=((256:Nat):Int):=rfl;rw [e,Int.fdiv_eq_ediv_of_nonneg _ (by omega)]
 rfl
theorem y69 {r:Nat} (h:r < 256):IntKind.wrap .u64 ((r:Int)*390625)=((r*390625:Nat):Int):=by
 rw [y89 (by omega) (by omega)]
 omega
theorem zvr (u:Nat):z99 (u:Int)=⟨(Lib.decDigits u).toArray⟩:=rfl
theorem y8r:(List.range 256).all (fun r=>Nat.ble (Lib.decDigits (r*390625)).length 8)=true:=by kernel_rfl
theorem yco {r:Nat} (h:r < 256):(Lib.decDigits (r*390625)).length≤8:=by
 have:=List.all_eq_true.1 y8r r (List.mem_range.2 h)
 exact Nat.le_of_ble_eq_true this
theorem y9w (l:List UInt8):(⟨l.toArray⟩:ByteArray).data.toList=l:=rfl
theorem zki (s t:ByteArray):(s++t).data.toList=s.data.toList++t.data.toList:=by simp
theorem ydx (l:List UInt8):(⟨l.toArray⟩:ByteArray).size=l.length:=by rw [zfc]
theorem zuh {u:Nat} (hu:u < 18446744073709551616) (sg:ByteArray) (hsg:sg.size≤1) (K:ByteArray) (hK:K=sg++⟨(ztv u).toArray⟩) :
  (cond (decide (ByteArray.size sg+ByteArray.size (z99 ((u / 256:Nat):Int))≤strMax))
   (cond (((u % 256:Nat):Int)==0)
    (some ((.str (sg++z99 ((u / 256:Nat):Int))),[]))
    (cond (decide (ByteArray.size (sg++z99 ((u / 256:Nat):Int))+ByteArray.size { data:=#[46] }≤strMax))
     (cond (decide (0≤IntKind.wrap IntKind.i64 (8 - ic (ByteArray.size (z99 ((u % 256*390625:Nat):Int)))))&&decide (ByteArray.size { data:=#[48] }*Int.toNat (IntKind.wrap IntKind.i64 (8 - ic (ByteArray.size (z99 ((u % 256*390625:Nat):Int)))))≤strMax))
      (cond (decide (ByteArray.size (zly { data:=#[48] } (Int.toNat (IntKind.wrap IntKind.i64 (8 - ic (ByteArray.size (z99 ((u % 256*390625:Nat):Int)))))))+ByteArray.size (z99 ((u % 256*390625:Nat):Int))≤strMax))
       (cond (decide (ByteArray.size (sg++z99 ((u / 256:Nat):Int)++{ data:=#[46] })+ByteArray.size (zfw (zly { data:=#[48] } (Int.toNat (IntKind.wrap IntKind.i64 (8 - ic (ByteArray.size (z99 ((u % 256*390625:Nat):Int))))))++z99 ((u % 256*390625:Nat):Int)) { data:=#[48] })≤strMax))
        (some ((.str (sg++z99 ((u / 256:Nat):Int)++{ data:=#[46] }++zfw (zly { data:=#[48] } (Int.toNat (IntKind.wrap IntKind.i64 (8 - ic (ByteArray.size (z99 ((u % 256*390625:Nat):Int))))))++z99 ((u % 256*390625:Nat):Int)) { data:=#[48] })),[]))
        none)
       none)
      none)
     none))
   none)=(some (V.str K,[]):Res):=by
 have hr:u % 256 < 256:=by omega
 have l1:(z99 ((u / 256:Nat):Int)).size≤20:=zrr (by omega) (by omega)
 have l2:(z99 ((u % 256*390625:Nat):Int)).size=(Lib.decDigits (u % 256*390625)).length:=by rw [zvr,ydx]
 have l3:=yco hr;generalize hD:Lib.decDigits (u % 256*390625)=D at l2 l3;have e8:IntKind.wrap IntKind.i64 (8 - ic (ByteArray.size (z99 ((u % 256*390625:Nat):Int))))=((8 - D.length:Nat):Int):=by
  rw [l2,z1d (by simp [ic]; omega) (by simp [ic]; omega)]
  simp only [ic];omega
 rw [e8];simp only [Int.toNat_natCast];have s46:ByteArray.size { data:=#[46] }=1:=rfl;have s48:ByteArray.size { data:=#[48] }=1:=rfl;have l4:(zly { data:=#[48] } (8 - D.length)).size=8 - D.length:=by rw [zrx,s48]; omega
 have l5:=zr9 (zly { data:=#[48] } (8 - D.length)++z99 ((u % 256*390625:Nat):Int)) { data:=#[48] };rw [ByteArray.size_append,l4,l2] at l5;rw [decide_eq_true (show ByteArray.size sg+ByteArray.size (z99 ((u / 256:Nat):Int))≤strMax by unfold strMax; omega),
  decide_eq_true (show ByteArray.size (sg++z99 ((u / 256:Nat):Int))+ByteArray.size { data:=#[46] }≤strMax by rw [ByteArray.size_append,s46]; unfold strMax; omega),
  decide_eq_true (show (0:Int)≤((8 - D.length:Nat):Int) by omega),
  decide_eq_true (show ByteArray.size { data:=#[48] }*(8 - D.length)≤strMax by rw [s48]; unfold strMax; omega),
  decide_eq_true (show ByteArray.size (zly { data:=#[48] } (8 - D.length))+ByteArray.size (z99 ((u % 256*390625:Nat):Int))≤strMax by rw [l4,l2]; unfold strMax; omega),
  decide_eq_true (show ByteArray.size (sg++z99 ((u / 256:Nat):Int)++{ data:=#[46] })+ByteArray.size (zfw (zly { data:=#[48] } (8 - D.length)++z99 ((u % 256*390625:Nat):Int)) { data:=#[48] })≤strMax by rw [ByteArray.size_append,ByteArray.size_append,s46]; unfold strMax; omega)]
 simp only [z00,Bool.and_true];subst hK
 by_cases h0:u % 256=0
 ·have e0:(((u % 256:Nat):Int)==0)=true:=by rw [zj7]; exact decide_eq_true (by omega)
  rw [e0,z00]
  have:sg++z99 ((u / 256:Nat):Int)=sg++⟨(ztv u).toArray⟩:=by
   apply zdp;rw [zki,zki,zvr,y9w,y9w,ztv,if_pos h0,List.append_nil]
  rw [this]
 ·have e0:(((u % 256:Nat):Int)==0)=false:=by rw [zj7]; exact decide_eq_false (by omega)
  rw [e0,z02]
  have:sg++z99 ((u / 256:Nat):Int)++{ data:=#[46] }++zfw (zly { data:=#[48] } (8 - D.length)++z99 ((u % 256*390625:Nat):Int)) { data:=#[48] }=sg++⟨(ztv u).toArray⟩:=by
   apply zdp;simp only [zki,zvr,ztv,if_neg h0,zfw,zly,ztg,hD,List.append_assoc]
   rfl
  rw [this]
set_option maxRecDepth 100000 in
theorem zf1:z3c PR B0 44 z5n:=by
 refine z0m [(84,z9t),(83,z4x),(86,z4c),(85,z5f)] [] z5n [[.str]] Tryz.func44 y2a ⟨zo7,zga,zd5,zgs,trivial⟩ ?_;intro vs r hwf h;unfold z5n at h
 split at h
 ·rename_i n
  refine ⟨0,?_⟩;rw [← h];refine (y0z 0 n).trans ?_;simp only [R.get_ok];have hb:=(hwf (by simp [zcl])).1
  simp only [wfV,wfL] at hb;obtain ⟨h0,h1⟩:=hb;have e0:IntKind.i64.min = -9223372036854775808:=rfl;have e1:IntKind.i64.max=9223372036854775807:=rfl;rw [e0] at h0;rw [e1] at h1;have hu:n.natAbs < 18446744073709551616:=by omega
  by_cases hn:n < 0
  ·rw [decide_eq_true hn,z00,ybs hn h0,ygw,ya3 _ hu,y69 (by omega)]
   exact zuh hu ⟨#[45]⟩ (by decide) _ (by apply zdp; rw [zki]; unfold z0b zri; rw [if_pos hn]; rfl)
  ·rw [decide_eq_false hn,z02,ybb hn h1,ygw,ya3 _ hu,y69 (by omega)]
   exact zuh hu ⟨#[]⟩ (by decide) _ (by apply zdp; rw [zki]; unfold z0b zri; rw [if_neg hn]; rfl)
 ·simp [R.get] at h
open Go Go.Proofs
set_option maxRecDepth 100000 in
theorem zoe:z3c PR B0 91 z9r:=by
 refine z0m [(44,z5n),(144,zaf),(84,z9t),(104,z4e),(57,z2w),(86,z4c)] [] z9r [[.int .i64],[.bool]] Tryz.func91 y6d
  ⟨zf1,ztu,zo7,zc7,zae,zd5,trivial⟩ ?_
 intro vs r hwf h;unfold z9r at h
 split at h
 ·rename_i s
  refine ⟨0,?_⟩;cases hs:decide (s.size < 4294967281) with
  | false=>rw [hs] at h; simp [R.get] at h
  | true=>
   rw [hs,R.get_br,z00,R.get_ok] at h;have hs:=of_decide_eq_true hs;rw [← h];refine (y30 0 s).trans ?_;have hz:=zln s { data:=#[45] };rw [decide_eq_true (show ByteArray.size (z14 s { data:=#[45] }) < 4294967281 by omega),z00]
   have eW:cutL (z14 s { data:=#[45] }) { data:=#[46] }=zd3 s:=rfl;have eP:zed (z14 s { data:=#[45] }) { data:=#[46] }=z6k s:=rfl;have eM:zdm s { data:=#[45] }=zdm s zrf:=rfl;rw [eW,eP,eM];unfold zic
   by_cases h8:(z6k s).size≤8
   ·have c1:decide (ic (ByteArray.size (z6k s)) > 8)=false:=decide_eq_false (by simp only [ic]; omega)
    have e8:IntKind.wrap IntKind.i64 (8 - ic (ByteArray.size (z6k s)))=((8 - (z6k s).size:Nat):Int):=by
     rw [z1d (by simp only [ic]; omega) (by simp only [ic]; omega)]
     simp only [ic];omega
    rw [c1,z02,e8];simp only [Int.toNat_natCast];have s48:ByteArray.size { data:=#[48] }=1:=rfl;have eF:z6k s++zly { data:=#[48] } (8 - (z6k s).size)=zb2 s:=rfl;have l4:(zly { data:=#[48] } (8 - (z6k s).size)).size=8 - (z6k s).size:=by rw [zrx,s48]; omega
    rw [decide_eq_true (show (0:Int)≤((8 - (z6k s).size:Nat):Int) by omega),decide_eq_true (show ByteArray.size { data:=#[48] }*(8 - (z6k s).size)≤strMax by rw [s48]; unfold strMax; omega),Bool.and_true,z00,
     decide_eq_true (show ByteArray.size (z6k s)+ByteArray.size (zly { data:=#[48] } (8 - (z6k s).size))≤strMax by rw [l4]; unfold strMax; omega),z00,eF]
    have hw:=zrm (zd3 s);have hf:=zrm (zb2 s);have b0:IntKind.u64.min=0:=rfl;have b1:IntKind.u64.max=18446744073709551615:=rfl;rw [b0,b1] at hw hf;have em:Int.tmod (puV (zb2 s)) 390625=puV (zb2 s) % 390625:=Int.tmod_eq_emod_of_nonneg hf.1;have ed:IntKind.wrap IntKind.u64 (Int.tdiv (puV (zb2 s)) 390625)=puV (zb2 s) / 390625:=by
     rw [Int.tdiv_eq_ediv_of_nonneg hf.1,y89 (by omega) (by omega)]
    have e2:(2:Int) ^ min (Int.toNat 8) (IntKind.bits IntKind.u64)=256:=rfl;rw [em,ed,e2];have eS:IntKind.wrap IntKind.u64 (IntKind.wrap IntKind.u64 (puV (zd3 s)*256)+puV (zb2 s) / 390625)=zef s:=rfl;rw [eS];unfold ybh;rw [decide_eq_true h8,y9e,zn1,y9c];cases hp1:puN (zd3 s) with
    | false=>simp only [Bool.not_false,z00,z02,Bool.false_and,Bool.and_false]
    | true=>
     cases hp2:puN (zb2 s) with
     | false=>simp only [Bool.not_false,Bool.not_true,z00,z02,Bool.false_and,Bool.and_false]
     | true=>
      simp only [Bool.not_true,z02,Bool.true_and];cases hc:decide (36028797018963968 < puV (zd3 s)) with
      | true=>simp only [Bool.not_true,z00,z02,Bool.false_and]
      | false=>
       cases hd:decide (puV (zb2 s) % 390625=0) with
       | false=>simp only [Bool.not_false,z00,z02,Bool.false_and,Bool.true_and]
       | true=>
        simp only [Bool.not_false,Bool.not_true,z02,Bool.true_and];unfold ya9;cases hm:zdm s zrf with
        | false=>
         simp only [z02];rw [show IntKind.wrap IntKind.i64 (zef s)=zcj (zef s) from rfl,zzj]
         cases decide (z0b (zcj (zef s))=s) <;> simp only [z00,z02]
        | true=>
         simp only [z00];rw [show IntKind.wrap IntKind.i64 (IntKind.wrap IntKind.u64 (0 - zef s))=zcj (zvt (0 - zef s)) from rfl,zzj]
         cases decide (z0b (zcj (zvt (0 - zef s)))=s) <;> simp only [z00,z02]
   ·have c1:decide (ic (ByteArray.size (z6k s)) > 8)=true:=decide_eq_true (by simp only [ic]; omega)
    rw [c1,z00];unfold ybh;rw [decide_eq_false h8,Bool.false_and,z02]
 ·simp [R.get] at h
open Go Go.Proofs
def z0s (N:Nat):Env:=mkE [(44,z5n),(53,z2p),(55,z2n),(43,z2j),(56,z1y),(54,zcb)] [(7,⟨[1,2,3,4,28,29,30],[1,3,500],[⟨.tmp 4,500,9,false,[.str]⟩]⟩),(13,⟨[2,3,43,44,45],[3],[]⟩),(17,⟨[2,3,43,44,45,59,60,61],[3],[]⟩)] 94 N
abbrev z4l (s2:ByteArray) (n4 n28:Nat) (x29 x30 xo1_0 xo1_1 xo1_2 xo1_3 xo1_4:Int) (lo1_5:List IV) (so3:ByteArray) (lo500:List IV):St:=⟨[(1,(.ptr 1 0 0)),(2,(.str s2)),(3,(.ptr 3 0 0)),(4,(.row 500 0 n4)),(28,(.bview 1 2 3 1 n28)),(29,(.int .i64 x29)),(30,(.int .i64 x30))],[(1,(some (.box [(.int .i64 xo1_0),(.int .i64 xo1_1),(.int .i64 xo1_2),(.int .i64 xo1_3),(.int .i64 xo1_4),(.list true [(.int .i64),(.list false [(.int .u64)])] lo1_5)]))),(3,(some (.bld so3))),(500,(some (.row true 9 false [.str] lo500)))]⟩
abbrev z7g (s2:ByteArray) (l43:List IV) (x44 x45:Int) (so3:ByteArray):St:=⟨[(2,(.str s2)),(3,(.ptr 3 0 0)),(43,(.list true [(.int .i64),(.list false [(.int .u64)])] l43)),(44,(.int .i64 x44)),(45,(.int .i64 x45))],[(3,(some (.bld so3)))]⟩
abbrev z5w (s2:ByteArray) (l43:List IV) (x44 x45:Int) (l59:List IV) (x60 x61:Int) (so3:ByteArray):St:=⟨[(2,(.str s2)),(3,(.ptr 3 0 0)),(43,(.list true [(.int .i64),(.list false [(.int .u64)])] l43)),(44,(.int .i64 x44)),(45,(.int .i64 x45)),(59,(.list false [(.int .u64)] l59)),(60,(.int .i64 x60)),(61,(.int .i64 x61))],[(3,(some (.bld so3)))]⟩
theorem zy9 (N:Nat) (m_Dim m_Classes m_Bias_0 m_Bias_1 m_Bias_2:Int) (m_Trees:List IV):z1c (z0s N) z1g [.tmp 2] [[.str]] [(.agg [(.int .i64 m_Dim),(.int .i64 m_Classes),(.int .i64 m_Bias_0),(.int .i64 m_Bias_1),(.int .i64 m_Bias_2),(.list true [.int .i64,.list false [.int .u64]] m_Trees)])]=(cond (!z3z {d:=m_Dim,c:=m_Classes,b0:=m_Bias_0,b1:=m_Bias_1,b2:=m_Bias_2,ts:=m_Trees}) (some ((.str ({data:=#[]})),[])) (cond (Nat.ble (List.length (List.drop 0 (List.take 3 [IV.str {data:=#[102,111,114,101,115,116]},IV.str (z0i m_Dim),IV.str (z0i m_Classes)]))) 1000&&decide (ByteArray.size ByteArray.empty+ByteArray.size (z54 (List.map IV.toStr (List.drop 0 (List.take 3 [IV.str {data:=#[102,111,114,101,115,116]},IV.str (z0i m_Dim),IV.str (z0i m_Classes)]))))≤1000000000)) (cond (decide (0≤m_Classes)&&decide (m_Classes≤ic 3)) (lpE (z0s N) (z0p z1g [1,1,1,1,1,0,1,0,0]) ⟨[1,2,3,4,28,29,30],[1,3,500],[⟨(.tmp 4),500,9,false,[.str]⟩]⟩ N (z4l ({data:=#[]}) 1 (Int.toNat m_Classes) (ic (Int.toNat m_Classes)) 0 m_Dim m_Classes m_Bias_0 m_Bias_1 m_Bias_2 m_Trees (ByteArray.empty++z54 (List.map IV.toStr (List.drop 0 (List.take 3 [IV.str {data:=#[102,111,114,101,115,116]},IV.str (z0i m_Dim),IV.str (z0i m_Classes)])))) [(IV.str {data:=#[98,105,97,115]})]) (z04 0 (kSq (z0s N) (z0p z1g [1,1,1,1,1,1]) (z3f (z0s N) none [(ResultVar.tmp 2)] [[.str]])))) none) none)):=by kernel_rfl
theorem z96 (N:Nat) (s2:ByteArray) (n4 n28:Nat) (x29 x30 xo1_0 xo1_1 xo1_2 xo1_3 xo1_4:Int) (lo1_5:List IV) (so3:ByteArray) (lo500:List IV) (again:St→Res) (k:Out→St→Res):rnd (z0s N) (z0p z1g [1,1,1,1,1,0,1,0,0]) (z4l s2 n4 n28 x29 x30 xo1_0 xo1_1 xo1_2 xo1_3 xo1_4 lo1_5 so3 lo500) (z4t again ⟨[1,2,3,4,28,29,30],[1,3,500],[⟨(.tmp 4),500,9,false,[.str]⟩]⟩ k)=(cond (decide (x30 < x29)) (cond (decide (x30 < ic n28)) (cond (decide (x30=ic 0)) (cond (decide ((n4+List.length (List.drop 0 (List.take 1 [IV.str (z0b xo1_2)])))*TI.bytes (Env.tyd (z0s N) 9)≤z0e)) (again (z4l s2 (n4+List.length (List.drop 0 (List.take 1 [IV.str (z0b xo1_2)]))) n28 x29 (IntKind.wrap IntKind.i64 (x30+1)) xo1_0 xo1_1 xo1_2 xo1_3 xo1_4 lo1_5 so3 (List.take n4 lo500++List.drop 0 (List.take 1 [IV.str (z0b xo1_2)])))) none) (cond (decide (x30=ic 1)) (cond (decide ((n4+List.length (List.drop 0 (List.take 1 [IV.str (z0b xo1_3)])))*TI.bytes (Env.tyd (z0s N) 9)≤z0e)) (again (z4l s2 (n4+List.length (List.drop 0 (List.take 1 [IV.str (z0b xo1_3)]))) n28 x29 (IntKind.wrap IntKind.i64 (x30+1)) xo1_0 xo1_1 xo1_2 xo1_3 xo1_4 lo1_5 so3 (List.take n4 lo500++List.drop 0 (List.take 1 [IV.str (z0b xo1_3)])))) none) (cond (decide (x30=ic 2)) (cond (decide ((n4+List.length (List.drop 0 (List.take 1 [IV.str (z0b xo1_4)])))*TI.bytes (Env.tyd (z0s N) 9)≤z0e)) (again (z4l s2 (n4+List.length (List.drop 0 (List.take 1 [IV.str (z0b xo1_4)]))) n28 x29 (IntKind.wrap IntKind.i64 (x30+1)) xo1_0 xo1_1 xo1_2 xo1_3 xo1_4 lo1_5 so3 (List.take n4 lo500++List.drop 0 (List.take 1 [IV.str (z0b xo1_4)])))) none) none))) none) (k (.exit 0) (z4l s2 n4 n28 x29 x30 xo1_0 xo1_1 xo1_2 xo1_3 xo1_4 lo1_5 so3 lo500))):=by kernel_rfl
theorem znm (N:Nat) (s2:ByteArray) (n4 n28:Nat) (x29 x30 xo1_0 xo1_1 xo1_2 xo1_3 xo1_4:Int) (lo1_5:List IV) (so3:ByteArray) (lo500:List IV):(z04 0 (kSq (z0s N) (z0p z1g [1,1,1,1,1,1]) (z3f (z0s N) none [(ResultVar.tmp 2)] [[.str]]))) (.exit 0) (z4l s2 n4 n28 x29 x30 xo1_0 xo1_1 xo1_2 xo1_3 xo1_4 lo1_5 so3 lo500)=(cond (Nat.ble (List.length (List.drop 0 (List.take n4 lo500))) 1000&&decide (ByteArray.size so3+ByteArray.size (z54 (List.map IV.toStr (List.drop 0 (List.take n4 lo500))))≤1000000000)) (lpE (z0s N) (z0p z1g [1,1,1,1,1,1,1,0,1,0,0]) ⟨[2,3,43,44,45],[3],[]⟩ N (z7g s2 lo1_5 (ic (List.length lo1_5)) 0 (so3++z54 (List.map IV.toStr (List.drop 0 (List.take n4 lo500))))) (z04 2 (kSq (z0s N) (z0p z1g [1,1,1,1,1,1,1,1]) (z3f (z0s N) none [(ResultVar.tmp 2)] [[.str]])))) none):=by kernel_rfl
theorem zgk (N:Nat) (s2:ByteArray) (l43:List IV) (x44 x45:Int) (so3:ByteArray) (again:St→Res) (k:Out→St→Res):rnd (z0s N) (z0p z1g [1,1,1,1,1,1,1,0,1,0,0]) (z7g s2 l43 x44 x45 so3) (z4t again ⟨[2,3,43,44,45],[3],[]⟩ k)=(cond (decide (x45 < x44)) (cond (decide (0≤x45)&&decide (x45 < ic (List.length l43))) (cond (Nat.ble (List.length (List.drop 0 (List.take 3 [IV.str {data:=#[116,114,101,101]},IV.str (z0i (IV.toInt (IV.cell (List.getD l43 (Int.toNat x45) default) 0))),IV.str (z0i (ic (List.length (IV.toList (IV.cell (List.getD l43 (Int.toNat x45) default) 1)))))]))) 1000&&decide (ByteArray.size so3+ByteArray.size (z54 (List.map IV.toStr (List.drop 0 (List.take 3 [IV.str {data:=#[116,114,101,101]},IV.str (z0i (IV.toInt (IV.cell (List.getD l43 (Int.toNat x45) default) 0))),IV.str (z0i (ic (List.length (IV.toList (IV.cell (List.getD l43 (Int.toNat x45) default) 1)))))]))))≤1000000000)) (lpE (z0s N) (z0p z1g [1,1,1,1,1,1,1,0,1,0,0,1,1,0,0,1,1,1,0,0]) ⟨[2,3,43,44,45,59,60,61],[3],[]⟩ N (z5w s2 l43 x44 x45 (IV.toList (IV.cell (List.getD l43 (Int.toNat x45) default) 1)) (ic (List.length (IV.toList (IV.cell (List.getD l43 (Int.toNat x45) default) 1)))) 0 (so3++z54 (List.map IV.toStr (List.drop 0 (List.take 3 [IV.str {data:=#[116,114,101,101]},IV.str (z0i (IV.toInt (IV.cell (List.getD l43 (Int.toNat x45) default) 0))),IV.str (z0i (ic (List.length (IV.toList (IV.cell (List.getD l43 (Int.toNat x45) default) 1)))))]))))) (z04 4 (z04 3 (kSq (z0s N) (z0p z1g [1,1,1,1,1,1,1,0,1,0,0,1,1,1]) (z4t again ⟨[2,3,43,44,45],[3],[]⟩ k))))) none) none) (k (.exit 2) (z7g s2 l43 x44 x45 so3))):=by kernel_rfl
theorem zge (N:Nat) (s2:ByteArray) (l43:List IV) (x44 x45:Int) (l59:List IV) (x60 x61:Int) (so3:ByteArray) (again:St→Res) (k:Out→St→Res):rnd (z0s N) (z0p z1g [1,1,1,1,1,1,1,0,1,0,0,1,1,0,0,1,1,1,0,0]) (z5w s2 l43 x44 x45 l59 x60 x61 so3) (z4t again ⟨[2,3,43,44,45,59,60,61],[3],[]⟩ k)=(cond (decide (x61 < x60)) (cond (decide (0≤x61)&&decide (x61 < ic (List.length l59))) (cond (Nd.lf (z08 (IV.toInt (List.getD l59 (Int.toNat x61) default)))) (cond (Nat.ble (List.length (List.drop 0 (List.take 2 [IV.str {data:=#[108,101,97,102]},IV.str (z0b (Nd.v (z08 (IV.toInt (List.getD l59 (Int.toNat x61) default)))))]))) 1000&&decide (ByteArray.size so3+ByteArray.size (z54 (List.map IV.toStr (List.drop 0 (List.take 2 [IV.str {data:=#[108,101,97,102]},IV.str (z0b (Nd.v (z08 (IV.toInt (List.getD l59 (Int.toNat x61) default)))))]))))≤1000000000)) (again (z5w s2 l43 x44 x45 l59 x60 (IntKind.wrap IntKind.i64 (x61+1)) (so3++z54 (List.map IV.toStr (List.drop 0 (List.take 2 [IV.str {data:=#[108,101,97,102]},IV.str (z0b (Nd.v (z08 (IV.toInt (List.getD l59 (Int.toNat x61) default)))))])))))) none) (cond (Nat.ble (List.length (List.drop 0 (List.take 8 [IV.str {data:=#[105,102]},IV.str (z0i (Nd.f (z08 (IV.toInt (List.getD l59 (Int.toNat x61) default))))),IV.str {data:=#[60,61]},IV.str (z0b (Nd.a (z08 (IV.toInt (List.getD l59 (Int.toNat x61) default))))),IV.str {data:=#[116,104,101,110]},IV.str (z0i (Nd.l (z08 (IV.toInt (List.getD l59 (Int.toNat x61) default))))),IV.str {data:=#[101,108,115,101]},IV.str (z0i (Nd.r (z08 (IV.toInt (List.getD l59 (Int.toNat x61) default)))))]))) 1000&&decide (ByteArray.size so3+ByteArray.size (z54 (List.map IV.toStr (List.drop 0 (List.take 8 [IV.str {data:=#[105,102]},IV.str (z0i (Nd.f (z08 (IV.toInt (List.getD l59 (Int.toNat x61) default))))),IV.str {data:=#[60,61]},IV.str (z0b (Nd.a (z08 (IV.toInt (List.getD l59 (Int.toNat x61) default))))),IV.str {data:=#[116,104,101,110]},IV.str (z0i (Nd.l (z08 (IV.toInt (List.getD l59 (Int.toNat x61) default))))),IV.str {data:=#[101,108,115,101]},IV.str (z0i (Nd.r (z08 (IV.toInt (List.getD l59 (Int.toNat x61) default)))))]))))≤1000000000)) (again (z5w s2 l43 x44 x45 l59 x60 (IntKind.wrap IntKind.i64 (x61+1)) (so3++z54 (List.map IV.toStr (List.drop 0 (List.take 8 [IV.str {data:=#[105,102]},IV.str (z0i (Nd.f (z08 (IV.toInt (List.getD l59 (Int.toNat x61) default))))),IV.str {data:=#[60,61]},IV.str (z0b (Nd.a (z08 (IV.toInt (List.getD l59 (Int.toNat x61) default))))),IV.str {data:=#[116,104,101,110]},IV.str (z0i (Nd.l (z08 (IV.toInt (List.getD l59 (Int.toNat x61) default))))),IV.str {data:=#[101,108,115,101]},IV.str (z0i (Nd.r (z08 (IV.toInt (List.getD l59 (Int.toNat x61) default)))))])))))) none)) none) (k (.exit 4) (z5w s2 l43 x44 x45 l59 x60 x61 so3))):=by kernel_rfl
theorem zma (N:Nat) (s2:ByteArray) (l43:List IV) (x44 x45:Int) (so3:ByteArray):(z04 2 (kSq (z0s N) (z0p z1g [1,1,1,1,1,1,1,1]) (z3f (z0s N) none [(ResultVar.tmp 2)] [[.str]]))) (.exit 2) (z7g s2 l43 x44 x45 so3)=(some ((.str so3),[])):=by kernel_rfl
theorem zn2 (N:Nat) (again:St→Res) (k:Out→St→Res) (s2:ByteArray) (l43:List IV) (x44 x45:Int) (l59:List IV) (x60 x61:Int) (so3:ByteArray):(z04 4 (z04 3 (kSq (z0s N) (z0p z1g [1,1,1,1,1,1,1,0,1,0,0,1,1,1]) (z4t again ⟨[2,3,43,44,45],[3],[]⟩ k)))) (.exit 4) (z5w s2 l43 x44 x45 l59 x60 x61 so3)=(again (z7g s2 l43 x44 (IntKind.wrap IntKind.i64 (x45+1)) so3)):=by kernel_rfl
def y31 (N:Nat):Env:=mkE [(97,z1m),(60,z18),(45,z5u)] [] 10 N
theorem zyg (N:Nat) (b:ByteArray) (words:List IV):z1c (y31 N) zs6 [] [] [(.bor [.bld b]),(.list false [.str] words)]=(cond (decide (List.length words≤strMax)&&decide (ByteArray.size (z9n (List.map IV.toStr words) {data:=#[32]})≤strMax)) (cond (decide (ByteArray.size b+ByteArray.size (z9n (List.map IV.toStr words) {data:=#[32]})≤strMax)) (cond (decide (ByteArray.size (b++z9n (List.map IV.toStr words) {data:=#[32]})+1≤strMax)) (some ((.tup []),[[(.bld (ByteArray.push (b++z9n (List.map IV.toStr words) {data:=#[32]}) (zdk 10)))]])) none) none) none):=by kernel_rfl
def zkj (N:Nat):Env:=mkE [(46,z1a)] [] 26 N
theorem zjj (N:Nat) (r_lines:List IV):z1c (zkj N) zd8 [.tmp 2] [[.list false [.str]]] [(.bor [(.list false [.str] r_lines)])]=(cond (ic (List.length r_lines)==0) (some ((.list false [.str] []),[[(.list false [.str] r_lines)]])) (cond (decide (0≤0)&&decide (0 < ic (List.length r_lines))) (cond (decide (0≤1)&&decide (1≤ic (List.length r_lines))) (cond (decide (ByteArray.size (IV.toStr (List.getD r_lines (Int.toNat 0) default)) < 4294967281)&&decide (1≤ByteArray.size {data:=#[32]})) (some ((.list false [.str] (List.map IV.str (z09 (IV.toStr (List.getD r_lines (Int.toNat 0) default)) {data:=#[32]}))),[[(.list false [.str] (List.drop (Int.toNat 1) (List.take (List.length r_lines) r_lines)))]])) none) none) none)):=by kernel_rfl
def y2i (N:Nat):Env:=mkE [] [] 13 N
theorem y24 (N:Nat) (l:List IV) (i:Int):z1c (y2i N) zra [.tmp 4] [[.str]] [(.list false [.str] l),(.int .i64 i)]=(cond (decide (i≥ic (List.length l))) (some ((.str ({data:=#[]})),[])) (cond (decide (0≤i)&&decide (i < ic (List.length l))) (some ((.str (IV.toStr (List.getD l (Int.toNat i) default))),[])) none)):=by kernel_rfl
def y0d (N:Nat):Env:=mkE [(90,z2k)] [] 24 N
theorem zxe (N:Nat) (s:ByteArray) (most:Int):z1c (y0d N) zof [.tmp 4] [[.int .i64]] [(.str s),(.int .i64 most)]=(cond (!zlw s) (some ((.int .i64 0),[])) (cond (decide (z3w s < 0)) (some ((.int .i64 0),[])) (cond (decide (z3w s > most)) (some ((.int .i64 0),[])) (some ((.int .i64 (z3w s)),[]))))):=by kernel_rfl
def y3p (N:Nat):Env:=mkE [(91,z9r)] [] 11 N
theorem y13 (N:Nat) (s:ByteArray):z1c (y3p N) zq6 [.tmp 2] [[.int .i64]] [(.str s)]=(cond (decide (ByteArray.size s < 4294967281)) (some ((.int .i64 (zic s)),[])) none):=by kernel_rfl
def zl6 (N:Nat):Env:=mkE [(92,z7z),(49,z6d),(48,z2m),(51,z83),(50,z87)] [] 28 N
theorem zjm (N:Nat) (r_lines:List IV):z1c (zl6 N) zcz [.tmp 2] [[.int .u64]] [(.bor [(.list false [.str] r_lines)])]=(cond (z5d r_lines) (cond (ByteArray.toList (wAt (z2t r_lines) (Int.toNat 0))==ByteArray.toList {data:=#[108,101,97,102]}) (cond (decide (ByteArray.size (wAt (z2t r_lines) (Int.toNat 1)) < 4294967281)) (some ((.int .u64 (z70 {lf:=true,v:=zic (wAt (z2t r_lines) (Int.toNat 1)),f:=0,a:=0,l:=0,r:=0})),[[(.list false [.str] (List.drop 1 r_lines))]])) none) (cond (decide (ByteArray.size (wAt (z2t r_lines) (Int.toNat 3)) < 4294967281)) (some ((.int .u64 (z70 {lf:=false,v:=0,f:=zec (wAt (z2t r_lines) (Int.toNat 1)) 4,a:=zic (wAt (z2t r_lines) (Int.toNat 3)),l:=zec (wAt (z2t r_lines) (Int.toNat 5)) 31,r:=zec (wAt (z2t r_lines) (Int.toNat 7)) 31})),[[(.list false [.str] (List.drop 1 r_lines))]])) none)) none):=by kernel_rfl
def z9b (N:Nat):Env:=mkE [] [] 21 N
theorem z8j (N:Nat) (s suffix:ByteArray):z1c (z9b N) z4q [.tmp 4] [[.bool]] [(.str s),(.str suffix)]=(cond (decide (ic (ByteArray.size s)≥ic (ByteArray.size suffix))) (cond (decide (0≤IntKind.wrap IntKind.i64 (ic (ByteArray.size s) - ic (ByteArray.size suffix)))&&decide (IntKind.wrap IntKind.i64 (ic (ByteArray.size s) - ic (ByteArray.size suffix))≤ic (ByteArray.size s))) (some ((.bool (ByteArray.toList (ByteArray.extract s (Int.toNat (IntKind.wrap IntKind.i64 (ic (ByteArray.size s) - ic (ByteArray.size suffix)))) (ByteArray.size s))==ByteArray.toList suffix)),[])) none) (some ((.bool false),[]))):=by kernel_rfl
def z91 (N:Nat):Env:=mkE [(141,z1e)] [] 16 N
theorem z8g (N:Nat) (s suffix:ByteArray):z1c (z91 N) z4g [.tmp 4] [[.str]] [(.str s),(.str suffix)]=(cond (zq5 s suffix) (cond (decide (0≤IntKind.wrap IntKind.i64 (ic (ByteArray.size s) - ic (ByteArray.size suffix)))&&decide (IntKind.wrap IntKind.i64 (ic (ByteArray.size s) - ic (ByteArray.size suffix))≤ic (ByteArray.size s))) (some ((.str (ByteArray.extract s 0 (Int.toNat (IntKind.wrap IntKind.i64 (ic (ByteArray.size s) - ic (ByteArray.size suffix)))))),[])) none) (some ((.str s),[]))):=by kernel_rfl
def zif (N:Nat):Env:=mkE [(89,z19)] [] 8 N
theorem zhe (N:Nat) (s suffix:ByteArray):z1c (zif N) zbb [.tmp 4] [[.str]] [(.str s),(.str suffix)]=(some ((.str (z1s s suffix)),[])):=by kernel_rfl
open Go Go.Proofs
theorem y71 (l:List ByteArray) (h:∀ w∈l,w.size≤100):(z9n l z42).size≤101*l.length:=by
 have hs:(z9n l z42).size=(Lib.join (l.map (·.data.toList)) [32]).length:=by
  show (Array.size (List.toArray _))=_;rw [List.size_toArray]
 rw [hs];cases l with
 | nil=>simp [Lib.join_nil]
 | cons x r=>
  rw [List.map_cons,Lib.join_length]
  have:∀ (r:List ByteArray),(∀ w∈r,w.size≤100)→Lib.lens (r.map (·.data.toList))≤100*r.length:=fun r=>by
   induction r with
   | nil=>intro _; simp [Lib.lens]
   | cons y r ih=>
    intro h;have h1:=h y (List.mem_cons_self ..);rw [zfc] at h1;have h2:=ih (fun w hw=>h w (List.mem_cons_of_mem _ hw))
    rw [List.map_cons,List.length_cons];simp only [Lib.lens,List.map_cons,List.sum_cons] at h2 ⊢
    omega
  have:=this (x :: r) h
  rw [List.map_cons] at this;simp only [List.length_cons,List.length_map,List.length_nil] at this ⊢
  omega
theorem zgz (ws:List ByteArray) (hl:ws.length≤8) (h:∀ w∈ws,w.size≤100):(z54 ws).size≤809:=by
 unfold z54
 have:=y71 ws h
 rw [ByteArray.size_append];have e:ByteArray.size yf8=1:=rfl;rw [e];omega
theorem zqk:∀ (a b:List (List ByteArray)),z9c (a++b)=z9c a++z9c b
 | [],b=>by
  show z9c b=ByteArray.empty++z9c b;rw [ByteArray.empty_append]
 | l :: a,b=>by
  rw [List.cons_append,z9c,z9c,zqk a b,ByteArray.append_assoc]
theorem y0f:∀ (L:List (List ByteArray)),(∀ l∈L,l.length≤8∧∀ w∈l,w.size≤100)→(z9c L).size≤809*L.length
 | [],_=>by
  have:ByteArray.size (z9c [])=0:=rfl
  omega
 | l :: L,h=>by
  have h1:=zgz l (h l (List.mem_cons_self ..)).1 (h l (List.mem_cons_self ..)).2;have h2:=y0f L fun x hx=>h x (List.mem_cons_of_mem _ hx)
  rw [z9c,ByteArray.size_append,List.length_cons];omega
theorem zch {n:Int} (h:InR n):(z0i n).size≤100:=by
 have:=ze4 h.1 h.2
 omega
theorem zhj {n:Int} (h:InR n):(z0b n).size≤100:=by
 have:=(zdr n h).2
 omega
theorem y3m {n:Int} (h:z1n n=true) : -2147483648≤n∧n≤2147483647:=by
 unfold z1n at h
 rwa [Bool.and_eq_true,decide_eq_true_eq,decide_eq_true_eq] at h
structure Nd.In (x:Nd):Prop where
 v : -2147483648≤x.v∧x.v≤2147483647
 f:0≤x.f∧x.f < 4
 a : -2147483648≤x.a∧x.a≤2147483647
 l:0≤x.l∧x.l < 31
 r:0≤x.r∧x.r < 31
 lf:x.lf=true→x.f=0∧x.a=0∧x.l=0∧x.r=0
 fk:x.lf=false→x.v=0
theorem yby {x:Nd} (h:z9o x=true):x.In:=by
 obtain ⟨lf,v,f,a,l,r⟩:=x;unfold z9o at h;cases lf with
 | true=>
  simp only [cond_true,Bool.and_eq_true,Nd.eq,beq_iff_eq] at h;obtain ⟨⟨_,_,h1,h2,h3,h4,_⟩,hv⟩:=h;subst h1 h2 h3 h4;have z4:(0:Int)≤0∧(0:Int) < 4:=by decide
  have z31:(0:Int)≤0∧(0:Int) < 31:=by decide
  have zf:(-2147483648:Int)≤0∧(0:Int)≤2147483647:=by decide
  exact ⟨y3m hv,z4,zf,z31,z31,fun _=>⟨rfl,rfl,rfl,rfl⟩,fun h=>Bool.noConfusion h⟩
 | false=>
  simp only [cond_false,Bool.and_eq_true,beq_iff_eq,decide_eq_true_eq,zl2] at h;obtain ⟨hv,hf0,hf1,ha,⟨hl0,hl1⟩,hr0,hr1⟩:=h;subst hv;have zf:(-2147483648:Int)≤0∧(0:Int)≤2147483647:=by decide
  have l0:(0:Int)≤l:=by omega
  have r0:(0:Int)≤r:=by omega
  exact ⟨zf,⟨hf0,hf1⟩,y3m ha,⟨l0,hl1⟩,⟨r0,hr1⟩,fun h=>Bool.noConfusion h,fun _=>rfl⟩
theorem y67 {x:Nd} (h:x.In):(y1b x).length≤8∧∀ w∈y1b x,w.size≤100:=by
 have hv:InR x.v:=by have:=h.v; unfold InR; omega
 have hf:InR x.f:=by have:=h.f; unfold InR; omega
 have ha:InR x.a:=by have:=h.a; unfold InR; omega
 have hl:InR x.l:=by have:=h.l; unfold InR; omega
 have hr:InR x.r:=by have:=h.r; unfold InR; omega
 unfold y1b;cases x.lf with
 | true=>
  refine ⟨by simp,fun w hw=>?_⟩
  simp only [cond_true,List.mem_cons,List.not_mem_nil,or_false] at hw;rcases hw with rfl | rfl
  ·decide
  ·exact zhj hv
 | false=>
  refine ⟨by simp,fun w hw=>?_⟩
  simp only [cond_false,List.mem_cons,List.not_mem_nil,or_false] at hw;rcases hw with rfl | rfl | rfl | rfl | rfl | rfl | rfl | rfl
  ·decide
  ·exact zch hf
  ·decide
  ·exact zhj ha
  ·decide
  ·exact zch hl
  ·decide
  ·exact zch hr
theorem y54 {dim n:Int}:∀ {l:List IV} {i:Nat},zfp dim n i l=true→∀ w∈l,zb6 w.toInt=true
 | [],_,_,w,hw=>by cases hw
 | x :: l,i,h,w,hw=>by
  unfold zfp at h;rw [Bool.and_eq_true,Bool.and_eq_true] at h;rcases List.mem_cons.1 hw with rfl | hw
  ·exact h.1.1
  ·exact y54 h.2 w hw
theorem y65 {w:Int} (h:zb6 w=true):(z08 w).In:=by
 have hn:z08 w=zrb w:=by unfold z08; rw [h]; rfl
 unfold zb6 at h;simp only [Bool.and_eq_true,Bool.not_eq_true',beq_iff_eq,beq_eq_false_iff_ne] at h;rw [hn];apply yby;cases hr:z9o (zrb w) with
 | true=>rfl
 | false=>
  have:=h.2
  unfold z70 at this;rw [hr] at this;exact absurd this.symm h.1
set_option maxRecDepth 100000 in
theorem zw6:z3c PR B0 54 zcb:=by
 refine z0m [(97,z1m),(60,z18),(45,z5u)] [] zcb [] Tryz.func54 y4g ⟨z5s,z4y,zfy,trivial⟩ ?_;intro vs r hwf h;unfold zcb at h
 split at h
 ·rename_i s ws
  cases hc:(Nat.ble ws.length 1000&&decide (s.size+(z54 (ws.map IV.toStr)).size≤1000000000)) with
  | false=>rw [hc] at h; simp [R.get] at h
  | true=>
   rw [hc,R.get_br,z00,R.get_ok] at h;rw [Bool.and_eq_true,decide_eq_true_eq] at hc;have h1:=Nat.le_of_ble_eq_true hc.1;have h2:=hc.2;have m:strMax=140737488355327:=rfl;refine ⟨0,?_⟩;rw [← h];refine (zyg 0 s ws).trans ?_;have e:ByteArray.push (s++z9n (ws.map IV.toStr) z42) (zdk 10)=s++z54 (ws.map IV.toStr):=by
    apply zdp;unfold z54;simp
    rfl
   have e2:(z54 (ws.map IV.toStr)).size=(z9n (ws.map IV.toStr) z42).size+1:=by
    unfold z54;rw [ByteArray.size_append]
    rfl
   rw [e2] at h2;rw [decide_eq_true (show ws.length≤strMax by omega),decide_eq_true (show (z9n (ws.map IV.toStr) z42).size≤strMax by omega),decide_eq_true (show s.size+(z9n (ws.map IV.toStr) z42).size≤strMax by omega),
    decide_eq_true (show ByteArray.size (s++z9n (ws.map IV.toStr) z42)+1≤strMax by rw [ByteArray.size_append]; omega),Bool.and_self,z00,z00,z00,e]
 ·simp [R.get] at h
theorem y3q (s:ByteArray) (hs:s.size < 4294967281):∀ i,(wAt (z9g s) i).size < 4294967281:=by
 intro i;unfold wAt;rw [List.getD_eq_getElem?_getD];cases h:(z9g s)[i]? with
 | none=>decide
 | some x=>
  have hx:x∈z9g s:=List.mem_of_getElem? h;unfold z9g at hx;obtain ⟨w,hw,rfl⟩:=List.mem_map.1 hx
  have:=(z6f z42 _ s).2 w hw
  exact Nat.lt_of_le_of_lt this hs
theorem zm0 {ls:List IV} (h:z5d ls=true) (i:Nat):(wAt (z2t ls) i).size < 4294967281:=by
 unfold z5d at h;cases ls with
 | nil=>
  show ByteArray.size (IV.toStr (List.getD [] i default)) < _;rw [List.getD_nil]
  decide
 | cons l r=>
  rw [List.all_cons,Bool.and_eq_true,decide_eq_true_eq] at h;exact y3q _ h.1 i
theorem z6e {ls:List IV} (h:z5d ls=true) (k:Nat):z5d (ls.drop k)=true:=by
 unfold z5d at h ⊢
 rw [List.all_eq_true] at h ⊢
 exact fun x hx=>h x (List.mem_of_mem_drop hx)
set_option maxRecDepth 100000 in
theorem zb9:z3c PR B0 48 z2m:=by
 refine z0m [(46,z1a)] [] z2m [[.list false [.str]]] Tryz.func48 zlu ⟨z3v,trivial⟩ ?_;intro vs r hwf h;unfold z2m at h
 split at h
 ·rename_i ls
  cases hc:z5d ls with
  | false=>rw [hc] at h; simp [R.get] at h
  | true=>
   rw [hc,R.get_br,z00,R.get_ok] at h;refine ⟨0,?_⟩;rw [← h];refine (zjj 0 ls).trans ?_;cases ls with
   | nil=>rfl
   | cons l r=>
    unfold z5d at hc;rw [List.all_cons,Bool.and_eq_true] at hc;have e0:(ic (List.length (l :: r))==0)=false:=by
     rw [zj7];exact decide_eq_false (by simp only [ic,List.length_cons]; omega)
    have e1:IV.toStr (List.getD (l :: r) (Int.toNat 0) default)=l.toStr:=rfl;have e2:List.drop (Int.toNat 1) (List.take (List.length (l :: r)) (l :: r))=List.drop 1 (l :: r):=by rw [List.take_length]; rfl
    have e3:decide (1≤ByteArray.size z42)=true:=rfl;rw [e0,e1,e2,e3,hc.1,z02];simp only [decide_eq_true (show (0:Int) < ic (List.length (l :: r)) by simp only [ic,List.length_cons]; omega),decide_eq_true (show (1:Int)≤ic (List.length (l :: r)) by simp only [ic,List.length_cons]; omega)]
    rfl
 ·simp [R.get] at h
set_option maxRecDepth 100000 in
theorem zky:z3c PR B0 50 z87:=by
 refine z0m [] [] z87 [[.str]] Tryz.func50 y4k trivial ?_;intro vs r hwf h;unfold z87 at h
 split at h
 ·rename_i l i
  cases hc:decide (0≤i) with
  | false=>rw [hc] at h; simp [R.get] at h
  | true=>
   rw [hc,R.get_br,z00,R.get_ok] at h;have h0:=of_decide_eq_true hc;refine ⟨0,?_⟩;rw [← h];refine (y24 0 l i).trans ?_;cases hi:decide (i≥ic l.length) with
   | true=>
    have hi:=of_decide_eq_true hi;simp only [ic] at hi;have e:wAt l i.toNat=ByteArray.empty:=by
     unfold wAt;rw [List.getD_eq_getElem?_getD,List.getElem?_eq_none (by omega)]
     rfl
    rw [e,z00]
    rfl
   | false=>
    have hi:=of_decide_eq_false hi;rw [z02,decide_eq_true h0,decide_eq_true (show i < ic l.length by omega),Bool.and_self,z00]
    rfl
 ·simp [R.get] at h
set_option maxRecDepth 100000 in
theorem zj1:z3c PR B0 49 z6d:=by
 refine z0m [(90,z2k)] [] z6d [[.int .i64]] Tryz.func49 y1e ⟨z7o,trivial⟩ ?_;intro vs r hwf h;unfold z6d at h
 split at h
 ·rename_i s most
  refine ⟨0,?_⟩;rw [R.get_ok] at h;rw [← h];refine (zxe 0 s most).trans ?_;unfold zec;cases zlw s <;> cases decide (z3w s < 0) <;> cases decide (z3w s > most) <;> rfl
 ·simp [R.get] at h
set_option maxRecDepth 100000 in
theorem zkw:z3c PR B0 51 z83:=by
 refine z0m [(91,z9r)] [] z83 [[.int .i64]] Tryz.func51 y4a ⟨zoe,trivial⟩ ?_;intro vs r hwf h;unfold z83 at h
 split at h
 ·rename_i s
  cases hc:decide (s.size < 4294967281) with
  | false=>rw [hc] at h; simp [R.get] at h
  | true=>
   rw [hc,R.get_br,z00,R.get_ok] at h;refine ⟨0,?_⟩;rw [← h];refine (y13 0 s).trans ?_;rw [hc,z00]
 ·simp [R.get] at h
set_option maxRecDepth 100000 in
theorem zij:z3c PR B0 52 z4i:=by
 refine z0m [(92,z7z),(49,z6d),(48,z2m),(51,z83),(50,z87)] [] z4i [[.int .u64]] Tryz.func52 zk4 ⟨zlo,zj1,zb9,zkw,zky,trivial⟩ ?_;intro vs r hwf h;unfold z4i at h
 split at h
 ·rename_i ls
  cases hc:z5d ls with
  | false=>rw [hc] at h; simp [R.get] at h
  | true=>
   rw [hc,R.get_br,z00,R.get_ok] at h;refine ⟨0,?_⟩;rw [← h];refine (zjm 0 ls).trans ?_;rw [hc,z00,decide_eq_true (zm0 hc (Int.toNat 1)),decide_eq_true (zm0 hc (Int.toNat 3)),z00,z00];unfold yei;have e:(ByteArray.toList (wAt (z2t ls) (Int.toNat 0))==ByteArray.toList { data:=#[108,101,97,102] })=((wAt (z2t ls) 0).toList==zvh.toList):=rfl;rw [e];cases ((wAt (z2t ls) 0).toList==zvh.toList) <;> rfl
 ·simp [R.get] at h
set_option maxRecDepth 100000 in
theorem z8f:z3c PR B0 141 z1e:=by
 refine z0m [] [] z1e [[.bool]] Tryz.func141 z9d trivial ?_;intro vs r hwf h;unfold z1e at h
 split at h
 ·rename_i s t
  refine ⟨0,?_⟩;rw [R.get_ok] at h;rw [← h];refine (z8j 0 s t).trans ?_;have hb:=hwf (by simp [zcl])
  have hs:s.size≤strMax:=hb.1;have m:strMax=140737488355327:=rfl;unfold zq5
  by_cases hl:t.size≤s.size
  ·have e:IntKind.wrap IntKind.i64 (ic s.size - ic t.size)=((s.size - t.size:Nat):Int):=by
    rw [z1d (by simp only [ic]; omega) (by simp only [ic]; omega)]
    simp only [ic];omega
   rw [e,decide_eq_true (show ic s.size≥ic t.size by simp only [ic]; omega),z00,decide_eq_true (show (0:Int)≤((s.size - t.size:Nat):Int) by omega),decide_eq_true (show ((s.size - t.size:Nat):Int)≤ic s.size by simp only [ic]; omega),Bool.and_self,z00,decide_eq_true hl,Bool.true_and,Int.toNat_natCast]
  ·rw [decide_eq_false (show ¬ ic s.size≥ic t.size by simp only [ic]; omega),z02,decide_eq_false hl,Bool.false_and]
 ·simp [R.get] at h
set_option maxRecDepth 100000 in
theorem z82:z3c PR B0 89 z19:=by
 refine z0m [(141,z1e)] [] z19 [[.str]] Tryz.func89 z95 ⟨z8f,trivial⟩ ?_;intro vs r hwf h;unfold z19 at h
 split at h
 ·rename_i s t
  refine ⟨0,?_⟩;rw [R.get_ok] at h;rw [← h];refine (z8g 0 s t).trans ?_;have hb:=hwf (by simp [zcl])
  have hs:s.size≤strMax:=hb.1;have m:strMax=140737488355327:=rfl;unfold z1s;cases hh:zq5 s t with
  | false=>rfl
  | true=>
   have hl:t.size≤s.size:=by
    unfold zq5 at hh;rw [Bool.and_eq_true,decide_eq_true_eq] at hh;exact hh.1
   have e:IntKind.wrap IntKind.i64 (ic s.size - ic t.size)=((s.size - t.size:Nat):Int):=by
    rw [z1d (by simp only [ic]; omega) (by simp only [ic]; omega)]
    simp only [ic];omega
   rw [e,z00,z00,decide_eq_true (show (0:Int)≤((s.size - t.size:Nat):Int) by omega),decide_eq_true (show ((s.size - t.size:Nat):Int)≤ic s.size by simp only [ic]; omega),Bool.and_self,z00,Int.toNat_natCast]
 ·simp [R.get] at h
set_option maxRecDepth 100000 in
theorem z62:z3c PR B0 47 z1i:=by
 refine z0m [(89,z19)] [] z1i [[.str]] Tryz.func47 zik ⟨z82,trivial⟩ ?_;intro vs r hwf h;unfold z1i at h
 split at h
 ·rename_i s t
  refine ⟨0,?_⟩;rw [R.get_ok] at h;rw [← h];exact zhe 0 s t
 ·simp [R.get] at h
abbrev yic (ts:List IV) (i:Int) (l:List IV) (j:Int) (so:ByteArray):St:=
 ⟨[(2,(.str { data:=#[] })),(3,(.ptr 3 0 0)),(43,(.list true [(.int .i64),(.list false [(.int .u64)])] ts)),(44,(.int .i64 (ic ts.length))),(45,(.int .i64 i)),(59,(.list false [(.int .u64)] l)),(60,(.int .i64 (ic l.length))),(61,(.int .i64 j))],[(3,(some (.bld so)))]⟩
theorem zs0 (N:Nat) (ts:List IV) (i:Int) (l:List IV) (hl:l.length≤31) (hn:∀ w∈l,zb6 w.toInt=true) (K:Out→St→Res):∀ (d j n:Nat) (so:ByteArray),j+d=l.length→d < n→so.size+809*d≤1000000000 →
  lpE (z0s N) (z0p z1g [1,1,1,1,1,1,1,0,1,0,0,1,1,0,0,1,1,1,0,0]) ⟨[2,3,43,44,45,59,60,61],[3],[]⟩ n (yic ts i l (j:Int) so) K =
   K (.exit 4) (yic ts i l (ic l.length) (so++z9c (ziv (l.drop j))))
 | d,j,0,_,_,h,_=>absurd h (by omega)
 | 0,j,n+1,so,hd,_,_=>by
  have hj:j=l.length:=by omega
  subst hj;rw [z05,zge,decide_eq_false (show ¬ ((l.length:Nat):Int) < ic l.length by simp only [ic]; omega),z02,List.drop_length]
  have e:so++z9c (ziv [])=so:=by
   show so++ByteArray.empty=so;rw [ByteArray.append_empty]
  rw [e]
 | d+1,j,n+1,so,hd,hn',hz=>by
  have hjl:j < l.length:=by omega
  have ej:IntKind.wrap IntKind.i64 ((j:Int)+1)=((j+1:Nat):Int):=by
   rw [z1d (by omega) (by omega)]
   omega
  have hg:l.getD (Int.toNat (j:Int)) default=l[j]:=by
   rw [Int.toNat_natCast,List.getD_eq_getElem?_getD,List.getElem?_eq_getElem hjl]
   rfl
  have hin:=y65 (hn l[j] (List.getElem_mem hjl));have hw:=y67 hin;have hls:=zgz _ hw.1 hw.2;rw [z05,zge,ej,hg,decide_eq_true (show (j:Int) < ic l.length by simp only [ic]; omega),z00,decide_eq_true (show (0:Int)≤(j:Int) by omega),Bool.and_self,z00,List.drop_eq_getElem_cons hjl]
  have hr:z9c (ziv (l[j] :: l.drop (j+1)))=z54 (y1b (z08 l[j].toInt))++z9c (ziv (l.drop (j+1))):=rfl;rw [hr,← ByteArray.append_assoc];have ih:=zs0 N ts i l hl hn K d (j+1) n (so++z54 (y1b (z08 l[j].toInt))) (by omega) (by omega) (by rw [ByteArray.size_append]; omega)
  rw [← ih];have hsz:decide (so.size+(z54 (y1b (z08 l[j].toInt))).size≤1000000000)=true:=decide_eq_true (by omega)
  revert hsz
  unfold y1b;cases (z08 l[j].toInt).lf with
  | true=>
   intro hsz;have hsz:decide (ByteArray.size so+ByteArray.size (z54 [zvh,z0b (z08 l[j].toInt).v])≤1000000000)=true:=hsz;have e:List.map IV.toStr (List.drop 0 (List.take 2 [IV.str { data:=#[108,101,97,102] },IV.str (z0b (Nd.v (z08 (IV.toInt l[j]))))]))=[zvh,z0b (z08 l[j].toInt).v]:=rfl;rw [z00,e,hsz]
   rfl
  | false=>
   intro hsz;have hsz:decide (ByteArray.size so+ByteArray.size (z54 [yhu,z0i (z08 l[j].toInt).f,yhf,z0b (z08 l[j].toInt).a,y9m,z0i (z08 l[j].toInt).l,yak,z0i (z08 l[j].toInt).r])≤1000000000)=true:=hsz;have e:List.map IV.toStr (List.drop 0 (List.take 8 [IV.str { data:=#[105,102] },IV.str (z0i (Nd.f (z08 (IV.toInt l[j])))),IV.str { data:=#[60,61] },IV.str (z0b (Nd.a (z08 (IV.toInt l[j])))),IV.str { data:=#[116,104,101,110] },IV.str (z0i (Nd.l (z08 (IV.toInt l[j])))),IV.str { data:=#[101,108,115,101] },IV.str (z0i (Nd.r (z08 (IV.toInt l[j]))))]))=[yhu,z0i (z08 l[j].toInt).f,yhf,z0b (z08 l[j].toInt).a,y9m,z0i (z08 l[j].toInt).l,yak,z0i (z08 l[j].toInt).r]:=rfl;rw [z02,e,hsz]
   rfl
theorem zum {d c:Int} {t:IV} (h:z74 d c t=true):0≤(t.cell 0).toInt∧(t.cell 0).toInt < c∧1≤(t.cell 1).toList.length∧(t.cell 1).toList.length≤31∧∀ w∈(t.cell 1).toList,zb6 w.toInt=true:=by
 unfold z74 zb8 at h;simp only [Bool.and_eq_true,Bool.not_eq_true',decide_eq_false_iff_not] at h;obtain ⟨h1,h2,⟨h3,h4⟩,h5,_⟩:=h;exact ⟨by omega,by omega,Nat.le_of_ble_eq_true h3,Nat.le_of_ble_eq_true h4,y54 h5⟩
theorem ycf {d c:Int} {t:IV} (hc:c≤3) (h:z74 d c t=true):(∀ l∈y3z t,l.length≤8∧∀ w∈l,w.size≤100)∧(y3z t).length≤32:=by
 obtain ⟨h1,h2,h3,h4,h5⟩:=zum h;constructor
 ·intro l hl
  unfold y3z at hl;rcases List.mem_cons.1 hl with rfl | hl
  ·refine ⟨by simp,fun w hw=>?_⟩
   simp only [List.mem_cons,List.not_mem_nil,or_false] at hw;rcases hw with rfl | rfl | rfl
   ·decide
   ·exact zch (by unfold InR; omega)
   ·exact zch (by unfold InR; simp only [ic]; omega)
  ·unfold ziv at hl
   obtain ⟨w,hw,rfl⟩:=List.mem_map.1 hl;exact y67 (y65 (h5 w hw))
 ·unfold y3z ziv
  rw [List.length_cons,List.length_map];omega
abbrev ygm (ts:List IV) (i:Int) (so:ByteArray):St:=
 ⟨[(2,(.str { data:=#[] })),(3,(.ptr 3 0 0)),(43,(.list true [(.int .i64),(.list false [(.int .u64)])] ts)),(44,(.int .i64 (ic ts.length))),(45,(.int .i64 i))],[(3,(some (.bld so)))]⟩
theorem zr8 (N:Nat) (hN:40≤N) (d c:Int) (hc:c≤3) (ts:List IV) (hl:ts.length≤8) (ht:ts.all (z74 d c)=true) (K:Out→St→Res):∀ (m i n:Nat) (so:ByteArray),i+m=ts.length→m < n→so.size+30000*m≤1000000000 →
  lpE (z0s N) (z0p z1g [1,1,1,1,1,1,1,0,1,0,0]) ⟨[2,3,43,44,45],[3],[]⟩ n (ygm ts (i:Int) so) K =
   K (.exit 2) (ygm ts (ic ts.length) (so++z9c (zix (ts.drop i))))
 | m,i,0,_,_,h,_=>absurd h (by omega)
 | 0,i,n+1,so,hd,_,_=>by
  have hi:i=ts.length:=by omega
  subst hi;rw [z05,zgk,decide_eq_false (show ¬ ((ts.length:Nat):Int) < ic ts.length by simp only [ic]; omega),z02,List.drop_length]
  have e:so++z9c (zix [])=so:=by
   show so++ByteArray.empty=so;rw [ByteArray.append_empty]
  rw [e]
 | m+1,i,n+1,so,hd,hn,hz=>by
  have hil:i < ts.length:=by omega
  have ei:IntKind.wrap IntKind.i64 ((i:Int)+1)=((i+1:Nat):Int):=by
   rw [z1d (by omega) (by omega)]
   omega
  have hg:ts.getD (Int.toNat (i:Int)) default=ts[i]:=by
   rw [Int.toNat_natCast,List.getD_eq_getElem?_getD,List.getElem?_eq_getElem hil]
   rfl
  have hok:=List.all_eq_true.1 ht ts[i] (List.getElem_mem hil);have hw:=ycf hc hok;have hts:=y0f _ hw.1;obtain ⟨h1,h2,h3,h4,h5⟩:=zum hok;have hh:∀ w∈[zo1,z0i (ts[i].cell 0).toInt,z0i (ic (ts[i].cell 1).toList.length)],w.size≤100:=(hw.1 _ (by unfold y3z; exact List.mem_cons_self ..)).2
  have hls:=zgz _ (by simp) hh
  have e:List.map IV.toStr (List.drop 0 (List.take 3 [IV.str { data:=#[116,114,101,101] },IV.str (z0i (IV.toInt (IV.cell ts[i] 0))),IV.str (z0i (ic (List.length (IV.toList (IV.cell ts[i] 1)))))]))=[zo1,z0i (ts[i].cell 0).toInt,z0i (ic (ts[i].cell 1).toList.length)]:=rfl;have el:Nat.ble (List.length (List.drop 0 (List.take 3 [IV.str { data:=#[116,114,101,101] },IV.str (z0i (IV.toInt (IV.cell ts[i] 0))),IV.str (z0i (ic (List.length (IV.toList (IV.cell ts[i] 1)))))]))) 1000=true:=rfl;rw [z05,zgk,hg,e,el,decide_eq_true (show (i:Int) < ic ts.length by simp only [ic]; omega),z00,decide_eq_true (show (0:Int)≤(i:Int) by omega),Bool.and_self,z00,
   decide_eq_true (show so.size+(z54 [zo1,z0i (ts[i].cell 0).toInt,z0i (ic (ts[i].cell 1).toList.length)]).size≤1000000000 by omega),Bool.and_self,z00]
  refine (zs0 N ts (i:Int) (ts[i].cell 1).toList h4 h5 _ (ts[i].cell 1).toList.length 0 N (so++z54 [zo1,z0i (ts[i].cell 0).toInt,z0i (ic (ts[i].cell 1).toList.length)]) (by omega) (by omega) (by rw [ByteArray.size_append]; omega)).trans ?_
  rw [zn2,ei,List.drop_zero,List.drop_eq_getElem_cons hil];have hr:z9c (zix (ts[i] :: ts.drop (i+1)))=(z54 [zo1,z0i (ts[i].cell 0).toInt,z0i (ic (ts[i].cell 1).toList.length)]++z9c (ziv (ts[i].cell 1).toList))++z9c (zix (ts.drop (i+1))):=by
   rw [zix,zqk]
   rfl
  rw [hr,← ByteArray.append_assoc (a:=so),← ByteArray.append_assoc (a:=so)];have hsz:(z54 [zo1,z0i (ts[i].cell 0).toInt,z0i (ic (ts[i].cell 1).toList.length)]++z9c (ziv (ts[i].cell 1).toList)).size≤26000:=by
   have:z9c (y3z ts[i])=z54 [zo1,z0i (ts[i].cell 0).toInt,z0i (ic (ts[i].cell 1).toList.length)]++z9c (ziv (ts[i].cell 1).toList):=rfl
   rw [← this]
   have:=hw.2
   omega
  exact zr8 N hN d c hc ts hl ht K m (i+1) n _ (by omega) (by omega) (by rw [ByteArray.append_assoc,ByteArray.size_append]; omega)
abbrev yfj (d c b0 b1 b2:Int) (ts:List IV) (C:Nat) (so:ByteArray) (ws:List IV) (n:Nat) (i:Int):St:=
 ⟨[(1,(.ptr 1 0 0)),(2,(.str { data:=#[] })),(3,(.ptr 3 0 0)),(4,(.row 500 0 n)),(28,(.bview 1 2 3 1 C)),(29,(.int .i64 (ic C))),(30,(.int .i64 i))],[(1,(some (.box [(.int .i64 d),(.int .i64 c),(.int .i64 b0),(.int .i64 b1),(.int .i64 b2),(.list true [(.int .i64),(.list false [(.int .u64)])] ts)]))),(3,(some (.bld so))),(500,(some (.row true 9 false [.str] ws)))]⟩
theorem zhn (N:Nat) (d c b0 b1 b2:Int) (ts:List IV) (C:Nat) (so:ByteArray) (ws:List IV) (n i:Nat) (b:Int) (hi:i < C) (hn:n≤10) (h:(i=0∧b=b0)∨(i=1∧b=b1)∨(i=2∧b=b2)) (again:St→Res) (k:Out→St→Res) :
  rnd (z0s N) (z0p z1g [1,1,1,1,1,0,1,0,0]) (yfj d c b0 b1 b2 ts C so ws n (i:Int)) (z4t again ⟨[1,2,3,4,28,29,30],[1,3,500],[⟨.tmp 4,500,9,false,[.str]⟩]⟩ k) =
   again (yfj d c b0 b1 b2 ts C so (ws.take n++[.str (z0b b)]) (n+1) ((i+1:Nat):Int)):=by
 rw [z96];have ei:IntKind.wrap IntKind.i64 ((i:Int)+1)=((i+1:Nat):Int):=by
  rw [z1d (by omega) (by omega)]
  omega
 have eb:TI.bytes (Env.tyd (z0s N) 9)=16:=rfl;have e1:∀ x:IV,List.length (List.drop 0 (List.take 1 [x]))=1:=fun x=>rfl
 rw [ei,eb,e1,e1,e1,decide_eq_true (show (i:Int) < ic C by simp only [ic]; omega),z00,z00,decide_eq_true (show (n+1)*16≤z0e by unfold z0e; omega)]
 rcases h with ⟨rfl,rfl⟩ | ⟨rfl,rfl⟩ | ⟨rfl,rfl⟩ <;> rfl
theorem y4f (N:Nat) (hN:10≤N) (d b0 b1 b2:Int) (ts:List IV) (C:Nat) (h1:1≤C) (h3:C≤3) (so:ByteArray) (K:Out→St→Res) :
  lpE (z0s N) (z0p z1g [1,1,1,1,1,0,1,0,0]) ⟨[1,2,3,4,28,29,30],[1,3,500],[⟨.tmp 4,500,9,false,[.str]⟩]⟩ N (yfj d (C:Int) b0 b1 b2 ts C so [.str zfu] 1 0) K =
   K (.exit 0) (yfj d (C:Int) b0 b1 b2 ts C so ((zfu :: (([b0,b1,b2].take C).map z0b)).map IV.str) (1+C) (C:Int)):=by
 obtain ⟨M,rfl⟩:∃ M,N=M+4:=⟨N - 4,by omega⟩
 have e0:yfj d (C:Int) b0 b1 b2 ts C so [.str zfu] 1 0=yfj d (C:Int) b0 b1 b2 ts C so [.str zfu] 1 ((0:Nat):Int):=rfl;rw [e0,z05,zhn (M+4) d (C:Int) b0 b1 b2 ts C so _ 1 0 b0 (by omega) (by omega) (by simp)]
 match C,h1,h3 with
 | 1,_,_=>
  rw [z05,z96,decide_eq_false (show ¬ ((0+1:Nat):Int) < ic 1 by decide),z02]
  rfl
 | 2,_,_=>
  rw [z05,zhn (M+4) d _ b0 b1 b2 ts 2 so _ _ 1 b1 (by omega) (by omega) (by simp),z05,z96,decide_eq_false (show ¬ ((1+1:Nat):Int) < ic 2 by decide),z02]
  rfl
 | 3,_,_=>
  rw [z05,zhn (M+4) d _ b0 b1 b2 ts 3 so _ _ 1 b1 (by omega) (by omega) (by simp),z05,zhn (M+4) d _ b0 b1 b2 ts 3 so _ _ 2 b2 (by omega) (by omega) (by simp),z05,z96,decide_eq_false (show ¬ ((2+1:Nat):Int) < ic 3 by decide),z02]
  rfl
theorem zz9 {m:Md} (h:z3z m=true):(1≤m.d∧m.d≤4)∧(1≤m.c∧m.c≤3)∧m.ts.length≤8∧(zg5 m.c 0 m.b0=true∧zg5 m.c 1 m.b1=true∧zg5 m.c 2 m.b2=true)∧m.ts.all (z74 m.d m.c)=true:=by
 unfold z3z at h;simp only [Bool.and_eq_true,Bool.not_eq_true',decide_eq_false_iff_not] at h;obtain ⟨⟨h1,h2,h3,h4,h5⟩,⟨h6,h7,h8⟩,h9⟩:=h;exact ⟨⟨by omega,by omega⟩,⟨by omega,by omega⟩,Nat.le_of_ble_eq_true h5,⟨h6,h7,h8⟩,h9⟩
theorem zxv {c j b:Int} (h:zg5 c j b=true):(-2147483648≤b∧b≤2147483647)∧(c≤j→b=0):=by
 unfold zg5 at h;rw [Bool.and_eq_true] at h;refine ⟨y3m h.1,fun hj=>?_⟩
 have:=h.2
 rw [decide_eq_true (show j≥c from hj)] at this
 simpa using this
theorem ybf {m:Md} (h:z3z m=true):∀ l∈ych m,l.length≤8∧∀ w∈l,w.size≤100:=by
 obtain ⟨hd,hc,_,⟨g0,g1,g2⟩,_⟩:=zz9 h;have i0:=(zxv g0).1;have i1:=(zxv g1).1;have i2:=(zxv g2).1;intro l hl;unfold ych at hl;simp only [List.mem_cons,List.not_mem_nil,or_false] at hl;rcases hl with rfl | rfl
 ·refine ⟨by simp,fun w hw=>?_⟩
  simp only [List.mem_cons,List.not_mem_nil,or_false] at hw;rcases hw with rfl | rfl | rfl
  ·decide
  ·exact zch (by unfold InR; omega)
  ·exact zch (by unfold InR; omega)
 ·refine ⟨by simp only [List.length_cons,List.length_map,List.length_take,List.length_nil]; omega,fun w hw=>?_⟩
  rcases List.mem_cons.1 hw with rfl | hw
  ·decide
  ·obtain ⟨b,hb,rfl⟩:=List.mem_map.1 hw
   have hb:=List.mem_of_mem_take hb;simp only [List.mem_cons,List.not_mem_nil,or_false] at hb;rcases hb with rfl | rfl | rfl
   ·exact zhj (by unfold InR; omega)
   ·exact zhj (by unfold InR; omega)
   ·exact zhj (by unfold InR; omega)
set_option maxRecDepth 100000 in
set_option maxHeartbeats 1000000 in
theorem zj0:z3c PR B0 20 z6i:=by
 refine z0m [(44,z5n),(53,z2p),(55,z2n),(43,z2j),(56,z1y),(54,zcb)] [(7,⟨[1,2,3,4,28,29,30],[1,3,500],[⟨.tmp 4,500,9,false,[.str]⟩]⟩),(13,⟨[2,3,43,44,45],[3],[]⟩),(17,⟨[2,3,43,44,45,59,60,61],[3],[]⟩)] z6i [[.str]] Tryz.func20 y1s ⟨zf1,z8o,z8m,z7u,z6z,zw6,trivial⟩ ?_;intro vs r hwf h;unfold z6i at h
 split at h
 ·rename_i d c b0 b1 b2 ts
  refine ⟨40,?_⟩;rw [R.get_ok] at h;rw [← h];refine (zy9 40 d c b0 b1 b2 ts).trans ?_;unfold y25;cases hm:z3z ⟨d,c,b0,b1,b2,ts⟩ with
  | false=>rfl
  | true=>
   obtain ⟨hd,hc,hl,_,ht⟩:=zz9 hm;simp only at hd hc hl ht;have hh:=ybf hm;have hh1:=hh _ (List.mem_cons_self ..);have hh2:=hh _ (List.mem_cons_of_mem _ (List.mem_cons_self ..));have z1:=zgz _ hh1.1 hh1.2;have z2:=zgz _ hh2.1 hh2.2;obtain ⟨C,rfl⟩:∃ C:Nat,c=(C:Int):=⟨c.toNat,by omega⟩
   have e1:List.map IV.toStr (List.drop 0 (List.take 3 [IV.str { data:=#[102,111,114,101,115,116] },IV.str (z0i d),IV.str (z0i (C:Int))]))=[zd9,z0i d,z0i (C:Int)]:=rfl;have e2:Nat.ble (List.length (List.drop 0 (List.take 3 [IV.str { data:=#[102,111,114,101,115,116] },IV.str (z0i d),IV.str (z0i (C:Int))]))) 1000=true:=rfl;have e3:ByteArray.size ByteArray.empty=0:=rfl;have z1:(z54 [zd9,z0i d,z0i (C:Int)]).size≤809:=z1;rw [Bool.not_true,z02,z00,e1,e2,e3,decide_eq_true (show 0+(z54 [zd9,z0i d,z0i (C:Int)]).size≤1000000000 by omega),Bool.and_self,z00,decide_eq_true (show (0:Int)≤(C:Int) by omega),decide_eq_true (show (C:Int)≤ic 3 by simp only [ic]; omega),Bool.and_self,z00,Int.toNat_natCast,ByteArray.empty_append]
   refine (y4f 40 (by omega) d b0 b1 b2 ts C (by omega) (by omega) (z54 [zd9,z0i d,z0i (C:Int)]) _).trans ?_
   rw [znm];have e4:List.map IV.toStr (List.drop 0 (List.take (1+C) ((zfu :: (([b0,b1,b2].take C).map z0b)).map IV.str)))=zfu :: (([b0,b1,b2].take C).map z0b):=by
    match C,hc with
    | 0,hc=>exact absurd hc.1 (by decide)
    | 1,_=>rfl
    | 2,_=>rfl
    | 3,_=>rfl
    | C+4,hc=>exact absurd hc.2 (by omega)
   have e5:Nat.ble (List.length (List.drop 0 (List.take (1+C) ((zfu :: (([b0,b1,b2].take C).map z0b)).map IV.str)))) 1000=true:=by
    apply Nat.ble_eq_true_of_le;rw [List.length_drop,List.length_take];omega
   have z2:(z54 (zfu :: (([b0,b1,b2].take C).map z0b))).size≤809:=by
    have:(([b0,b1,b2].take (C:Int).toNat).map z0b)=(([b0,b1,b2].take C).map z0b):=by rw [Int.toNat_natCast]
    rw [← this];exact z2
   rw [e4,e5,decide_eq_true (show (z54 [zd9,z0i d,z0i (C:Int)]).size+(z54 (zfu :: (([b0,b1,b2].take C).map z0b))).size≤1000000000 by omega),Bool.and_self,z00]
   refine (zr8 40 (by omega) d (C:Int) (by omega) ts hl ht _ ts.length 0 40 _ (by omega) (by omega) (by rw [ByteArray.size_append]; omega)).trans ?_
   rw [zma,List.drop_zero];have e6:z9c (ydd ⟨d,(C:Int),b0,b1,b2,ts⟩)=z54 [zd9,z0i d,z0i (C:Int)]++z54 (zfu :: (([b0,b1,b2].take C).map z0b))++z9c (zix ts):=by
    show z9c (ych ⟨d,(C:Int),b0,b1,b2,ts⟩++zix ts)=_;rw [zqk];show z54 [zd9,z0i d,z0i (C:Int)]++(z54 (zfu :: (([b0,b1,b2].take (C:Int).toNat).map z0b))++ByteArray.empty)++z9c (zix ts)=_;rw [ByteArray.append_empty,Int.toNat_natCast]
   rw [e6]
 ·simp [R.get] at h
open Go Go.Proofs
def z0h (N:Nat):Env:=mkE [(46,z1a),(47,z1i),(20,z6i),(49,z6d),(48,z2m),(52,z4i),(51,z83),(50,z87)] [(6,⟨[0,2,3,4,6,7,28,29],[2,6,15],[]⟩),(10,⟨[0,2,3,4,6],[2,6,15,500],[⟨.cell 6 5,500,88,true,[.int .i64,.list false [.int .u64]]⟩]⟩),(14,⟨[0,2,3,4,6,10,61,62],[2,6,10,15,500,501],[⟨.cell 6 5,500,88,true,[.int .i64,.list false [.int .u64]]⟩,⟨.cell 10 1,501,103,false,[.int .u64]⟩]⟩)] 88 N
abbrev z4o (s0:ByteArray) (b3:Bool) (l7:List IV) (x28 x29 xo2_0 xo2_1 xo2_2 xo2_3 xo2_4 xo6_0 xo6_1 xo6_2 xo6_3 xo6_4:Int) (lo15_0:List IV):St:=⟨[(0,(.str s0)),(2,(.ptr 2 0 0)),(3,(.bool b3)),(4,(.ptr 15 0 0)),(6,(.ptr 6 0 0)),(7,(.list false [.str] l7)),(28,(.int .i64 x28)),(29,(.int .i64 x29))],[(2,(some (.box [(.int .i64 xo2_0),(.int .i64 xo2_1),(.int .i64 xo2_2),(.int .i64 xo2_3),(.int .i64 xo2_4),.zs]))),(6,(some (.box [(.int .i64 xo6_0),(.int .i64 xo6_1),(.int .i64 xo6_2),(.int .i64 xo6_3),(.int .i64 xo6_4),.zs]))),(15,(some (.box [(.list false [.str] lo15_0)])))]⟩
abbrev z5x (s0:ByteArray) (b3:Bool) (xo2_0 xo2_1 xo2_2 xo2_3 xo2_4 xo6_0 xo6_1 xo6_2 xo6_3 xo6_4:Int) (no6_5:Nat) (lo15_0 lo500:List IV):St:=⟨[(0,(.str s0)),(2,(.ptr 2 0 0)),(3,(.bool b3)),(4,(.ptr 15 0 0)),(6,(.ptr 6 0 0))],[(2,(some (.box [(.int .i64 xo2_0),(.int .i64 xo2_1),(.int .i64 xo2_2),(.int .i64 xo2_3),(.int .i64 xo2_4),.zs]))),(6,(some (.box [(.int .i64 xo6_0),(.int .i64 xo6_1),(.int .i64 xo6_2),(.int .i64 xo6_3),(.int .i64 xo6_4),(.row 500 0 no6_5)]))),(15,(some (.box [(.list false [.str] lo15_0)]))),(500,(some (.row true 88 true [(.int .i64),(.list false [(.int .u64)])] lo500)))]⟩
abbrev z7h (s0:ByteArray) (b3:Bool) (x61 x62 xo2_0 xo2_1 xo2_2 xo2_3 xo2_4 xo6_0 xo6_1 xo6_2 xo6_3 xo6_4:Int) (no6_5:Nat) (xo10_0:Int) (no10_1:Nat) (lo15_0 lo500 lo501:List IV):St:=⟨[(0,(.str s0)),(2,(.ptr 2 0 0)),(3,(.bool b3)),(4,(.ptr 15 0 0)),(6,(.ptr 6 0 0)),(10,(.ptr 10 0 0)),(61,(.int .i64 x61)),(62,(.int .i64 x62))],[(2,(some (.box [(.int .i64 xo2_0),(.int .i64 xo2_1),(.int .i64 xo2_2),(.int .i64 xo2_3),(.int .i64 xo2_4),.zs]))),(6,(some (.box [(.int .i64 xo6_0),(.int .i64 xo6_1),(.int .i64 xo6_2),(.int .i64 xo6_3),(.int .i64 xo6_4),(.row 500 0 no6_5)]))),(10,(some (.box [(.int .i64 xo10_0),(.row 501 0 no10_1)]))),(15,(some (.box [(.list false [.str] lo15_0)]))),(500,(some (.row true 88 true [(.int .i64),(.list false [(.int .u64)])] lo500))),(501,(some (.row true 103 false [(.int .u64)] lo501)))]⟩
theorem zw9 (N:Nat) (s:ByteArray):z1c (z0h N) z10 [.cell 2 30,.tmp 3] [[.int .i64,.int .i64,.int .i64,.int .i64,.int .i64,.list true [.int .i64,.list false [.int .u64]]],[.bool]] [(.str s)]=(cond (decide (ByteArray.size (z1s s {data:=#[10]}) < 4294967281)&&decide (1≤ByteArray.size {data:=#[10]})) (cond (z5d (List.map IV.str (z09 (z1s s {data:=#[10]}) {data:=#[10]}))) (cond (z5d (List.drop 1 (List.map IV.str (z09 (z1s s {data:=#[10]}) {data:=#[10]})))) (lpE (z0h N) (z0p z10 [1,1,1,1,1,0,1,0,0]) ⟨[0,2,3,4,6,7,28,29],[2,6,15],[]⟩ N (z4o s false (z2t (List.drop 1 (List.map IV.str (z09 (z1s s {data:=#[10]}) {data:=#[10]})))) (zec (wAt (z2t (List.map IV.str (z09 (z1s s {data:=#[10]}) {data:=#[10]}))) (Int.toNat 2)) 3) 0 0 0 0 0 0 (zec (wAt (z2t (List.map IV.str (z09 (z1s s {data:=#[10]}) {data:=#[10]}))) (Int.toNat 1)) 4) (zec (wAt (z2t (List.map IV.str (z09 (z1s s {data:=#[10]}) {data:=#[10]}))) (Int.toNat 2)) 3) 0 0 0 (List.drop 1 (List.drop 1 (List.map IV.str (z09 (z1s s {data:=#[10]}) {data:=#[10]}))))) (z04 0 (kSq (z0h N) (z0p z10 [1,1,1,1,1,1]) (z3f (z0h N) none [(ResultVar.cell 2 30),(ResultVar.tmp 3)] [[(.int .i64),(.int .i64),(.int .i64),(.int .i64),(.int .i64),(.list true [(.int .i64),(.list false [(.int .u64)])])],[.bool]])))) none) none) none):=by kernel_rfl
theorem z6j (N:Nat) (s0:ByteArray) (b3:Bool) (l7:List IV) (x28 x29 xo2_0 xo2_1 xo2_2 xo2_3 xo2_4 xo6_0 xo6_1 xo6_2 xo6_3 xo6_4:Int) (lo15_0:List IV) (again:St→Res) (k:Out→St→Res):rnd (z0h N) (z0p z10 [1,1,1,1,1,0,1,0,0]) (z4o s0 b3 l7 x28 x29 xo2_0 xo2_1 xo2_2 xo2_3 xo2_4 xo6_0 xo6_1 xo6_2 xo6_3 xo6_4 lo15_0) (z4t again ⟨[0,2,3,4,6,7,28,29],[2,6,15],[]⟩ k)=(cond (decide (x29 < x28)) (cond (decide (0≤IntKind.wrap IntKind.i64 (1+x29))) (cond (decide (ByteArray.size (wAt l7 (Int.toNat (IntKind.wrap IntKind.i64 (1+x29)))) < 4294967281)) (cond (decide (x29=ic 0)) (again (z4o s0 b3 l7 x28 (IntKind.wrap IntKind.i64 (x29+1)) xo2_0 xo2_1 xo2_2 xo2_3 xo2_4 xo6_0 xo6_1 (zic (wAt l7 (Int.toNat (IntKind.wrap IntKind.i64 (1+x29))))) xo6_3 xo6_4 lo15_0)) (cond (decide (x29=ic 1)) (again (z4o s0 b3 l7 x28 (IntKind.wrap IntKind.i64 (x29+1)) xo2_0 xo2_1 xo2_2 xo2_3 xo2_4 xo6_0 xo6_1 xo6_2 (zic (wAt l7 (Int.toNat (IntKind.wrap IntKind.i64 (1+x29))))) xo6_4 lo15_0)) (cond (decide (x29=ic 2)) (again (z4o s0 b3 l7 x28 (IntKind.wrap IntKind.i64 (x29+1)) xo2_0 xo2_1 xo2_2 xo2_3 xo2_4 xo6_0 xo6_1 xo6_2 xo6_3 (zic (wAt l7 (Int.toNat (IntKind.wrap IntKind.i64 (1+x29))))) lo15_0)) none))) none) none) (k (.exit 0) (z4o s0 b3 l7 x28 x29 xo2_0 xo2_1 xo2_2 xo2_3 xo2_4 xo6_0 xo6_1 xo6_2 xo6_3 xo6_4 lo15_0))):=by kernel_rfl
theorem zme (N:Nat) (s0:ByteArray) (b3:Bool) (l7:List IV) (x28 x29 xo2_0 xo2_1 xo2_2 xo2_3 xo2_4 xo6_0 xo6_1 xo6_2 xo6_3 xo6_4:Int) (lo15_0:List IV):(z04 0 (kSq (z0h N) (z0p z10 [1,1,1,1,1,1]) (z3f (z0h N) none [(ResultVar.cell 2 30),(ResultVar.tmp 3)] [[(.int .i64),(.int .i64),(.int .i64),(.int .i64),(.int .i64),(.list true [(.int .i64),(.list false [(.int .u64)])])],[.bool]]))) (.exit 0) (z4o s0 b3 l7 x28 x29 xo2_0 xo2_1 xo2_2 xo2_3 xo2_4 xo6_0 xo6_1 xo6_2 xo6_3 xo6_4 lo15_0)=(lpE (z0h N) (z0p z10 [1,1,1,1,1,1,0,0,0]) ⟨[0,2,3,4,6],[2,6,15,500],[⟨(.cell 6 5),500,88,true,[(.int .i64),(.list false [(.int .u64)])]⟩]⟩ N (z5x s0 b3 xo2_0 xo2_1 xo2_2 xo2_3 xo2_4 xo6_0 xo6_1 xo6_2 xo6_3 xo6_4 0 lo15_0 []) (z04 2 (kSq (z0h N) (z0p z10 [1,1,1,1,1,1,1]) (z3f (z0h N) none [(ResultVar.cell 2 30),(ResultVar.tmp 3)] [[(.int .i64),(.int .i64),(.int .i64),(.int .i64),(.int .i64),(.list true [(.int .i64),(.list false [(.int .u64)])])],[.bool]])))):=by kernel_rfl
theorem zc0 (N:Nat) (s0:ByteArray) (b3:Bool) (xo2_0 xo2_1 xo2_2 xo2_3 xo2_4 xo6_0 xo6_1 xo6_2 xo6_3 xo6_4:Int) (no6_5:Nat) (lo15_0 lo500:List IV) (again:St→Res) (k:Out→St→Res):rnd (z0h N) (z0p z10 [1,1,1,1,1,1,0,0,0]) (z5x s0 b3 xo2_0 xo2_1 xo2_2 xo2_3 xo2_4 xo6_0 xo6_1 xo6_2 xo6_3 xo6_4 no6_5 lo15_0 lo500) (z4t again ⟨[0,2,3,4,6],[2,6,15,500],[⟨(.cell 6 5),500,88,true,[(.int .i64),(.list false [(.int .u64)])]⟩]⟩ k)=(cond (decide (ic (List.length lo15_0) > 0)) (cond (decide (ic (no6_5 - 0)≤8)) (cond (z5d lo15_0) (lpE (z0h N) (z0p z10 [1,1,1,1,1,1,0,0,0,1,0,1,1,0,1,0,0]) ⟨[0,2,3,4,6,10,61,62],[2,6,10,15,500,501],[⟨(.cell 6 5),500,88,true,[(.int .i64),(.list false [(.int .u64)])]⟩,⟨(.cell 10 1),501,103,false,[(.int .u64)]⟩]⟩ N (z7h s0 b3 (zec (wAt (z2t lo15_0) (Int.toNat 2)) 31) 0 xo2_0 xo2_1 xo2_2 xo2_3 xo2_4 xo6_0 xo6_1 xo6_2 xo6_3 xo6_4 no6_5 (zec (wAt (z2t lo15_0) (Int.toNat 1)) 3) 0 (List.drop 1 lo15_0) lo500 []) (z04 4 (kSq (z0h N) (z0p z10 [1,1,1,1,1,1,0,0,0,1,0,1,1,1]) (z04 3 (z4t again ⟨[0,2,3,4,6],[2,6,15,500],[⟨(.cell 6 5),500,88,true,[(.int .i64),(.list false [(.int .u64)])]⟩]⟩ k))))) none) (k (.exit 2) (z5x s0 b3 xo2_0 xo2_1 xo2_2 xo2_3 xo2_4 xo6_0 xo6_1 xo6_2 xo6_3 xo6_4 no6_5 lo15_0 lo500))) (k (.exit 2) (z5x s0 b3 xo2_0 xo2_1 xo2_2 xo2_3 xo2_4 xo6_0 xo6_1 xo6_2 xo6_3 xo6_4 no6_5 lo15_0 lo500))):=by kernel_rfl
theorem zgr (N:Nat) (s0:ByteArray) (b3:Bool) (x61 x62 xo2_0 xo2_1 xo2_2 xo2_3 xo2_4 xo6_0 xo6_1 xo6_2 xo6_3 xo6_4:Int) (no6_5:Nat) (xo10_0:Int) (no10_1:Nat) (lo15_0 lo500 lo501:List IV) (again:St→Res) (k:Out→St→Res):rnd (z0h N) (z0p z10 [1,1,1,1,1,1,0,0,0,1,0,1,1,0,1,0,0]) (z7h s0 b3 x61 x62 xo2_0 xo2_1 xo2_2 xo2_3 xo2_4 xo6_0 xo6_1 xo6_2 xo6_3 xo6_4 no6_5 xo10_0 no10_1 lo15_0 lo500 lo501) (z4t again ⟨[0,2,3,4,6,10,61,62],[2,6,10,15,500,501],[⟨(.cell 6 5),500,88,true,[(.int .i64),(.list false [(.int .u64)])]⟩,⟨(.cell 10 1),501,103,false,[(.int .u64)]⟩]⟩ k)=(cond (decide (x62 < x61)) (cond (z5d lo15_0) (cond (decide ((no10_1+List.length (List.drop 0 (List.take 1 [IV.int (z70 (yei (z2t lo15_0)))])))*TI.bytes (Env.tyd (z0h N) 103)≤z0e)) (again (z7h s0 b3 x61 (IntKind.wrap IntKind.i64 (x62+1)) xo2_0 xo2_1 xo2_2 xo2_3 xo2_4 xo6_0 xo6_1 xo6_2 xo6_3 xo6_4 no6_5 xo10_0 (no10_1+List.length (List.drop 0 (List.take 1 [IV.int (z70 (yei (z2t lo15_0)))]))) (List.drop 1 lo15_0) lo500 (List.take no10_1 lo501++List.drop 0 (List.take 1 [IV.int (z70 (yei (z2t lo15_0)))])))) none) none) (k (.exit 4) (z7h s0 b3 x61 x62 xo2_0 xo2_1 xo2_2 xo2_3 xo2_4 xo6_0 xo6_1 xo6_2 xo6_3 xo6_4 no6_5 xo10_0 no10_1 lo15_0 lo500 lo501))):=by kernel_rfl
theorem zne (N:Nat) (s0:ByteArray) (b3:Bool) (xo2_0 xo2_1 xo2_2 xo2_3 xo2_4 xo6_0 xo6_1 xo6_2 xo6_3 xo6_4:Int) (no6_5:Nat) (lo15_0 lo500:List IV):(z04 2 (kSq (z0h N) (z0p z10 [1,1,1,1,1,1,1]) (z3f (z0h N) none [(ResultVar.cell 2 30),(ResultVar.tmp 3)] [[(.int .i64),(.int .i64),(.int .i64),(.int .i64),(.int .i64),(.list true [(.int .i64),(.list false [(.int .u64)])])],[.bool]]))) (.exit 2) (z5x s0 b3 xo2_0 xo2_1 xo2_2 xo2_3 xo2_4 xo6_0 xo6_1 xo6_2 xo6_3 xo6_4 no6_5 lo15_0 lo500)=(cond (ByteArray.toList s0==ByteArray.toList {data:=#[]}) (some ((.tup [(.agg [(.int .i64 0),(.int .i64 0),(.int .i64 0),(.int .i64 0),(.int .i64 0),(.list true [(.int .i64),(.list false [(.int .u64)])] [])]),(.bool false)]),[])) (cond (!ByteArray.toList (y25 {d:=xo6_0,c:=xo6_1,b0:=xo6_2,b1:=xo6_3,b2:=xo6_4,ts:=List.drop 0 (List.take no6_5 lo500)})==ByteArray.toList s0) (some ((.tup [(.agg [(.int .i64 0),(.int .i64 0),(.int .i64 0),(.int .i64 0),(.int .i64 0),(.list true [(.int .i64),(.list false [(.int .u64)])] [])]),(.bool false)]),[])) (some ((.tup [(.agg [(.int .i64 xo6_0),(.int .i64 xo6_1),(.int .i64 xo6_2),(.int .i64 xo6_3),(.int .i64 xo6_4),(.list true [(.int .i64),(.list false [(.int .u64)])] (List.drop 0 (List.take no6_5 lo500)))]),(.bool true)]),[])))):=by kernel_rfl
theorem znj (N:Nat) (again:St→Res) (k:Out→St→Res) (s0:ByteArray) (b3:Bool) (x61 x62 xo2_0 xo2_1 xo2_2 xo2_3 xo2_4 xo6_0 xo6_1 xo6_2 xo6_3 xo6_4:Int) (no6_5:Nat) (xo10_0:Int) (no10_1:Nat) (lo15_0 lo500 lo501:List IV):(z04 4 (kSq (z0h N) (z0p z10 [1,1,1,1,1,1,0,0,0,1,0,1,1,1]) (z04 3 (z4t again ⟨[0,2,3,4,6],[2,6,15,500],[⟨(.cell 6 5),500,88,true,[(.int .i64),(.list false [(.int .u64)])]⟩]⟩ k)))) (.exit 4) (z7h s0 b3 x61 x62 xo2_0 xo2_1 xo2_2 xo2_3 xo2_4 xo6_0 xo6_1 xo6_2 xo6_3 xo6_4 no6_5 xo10_0 no10_1 lo15_0 lo500 lo501)=(cond (decide ((no6_5+List.length (List.drop 0 (List.take 1 [IV.agg [IV.int xo10_0,IV.list (List.drop 0 (List.take no10_1 lo501))]])))*TI.bytes (Env.tyd (z0h N) 88)≤z0e)) (again (z5x s0 b3 xo2_0 xo2_1 xo2_2 xo2_3 xo2_4 xo6_0 xo6_1 xo6_2 xo6_3 xo6_4 (no6_5+List.length (List.drop 0 (List.take 1 [IV.agg [IV.int xo10_0,IV.list (List.drop 0 (List.take no10_1 lo501))]]))) lo15_0 (List.take no6_5 lo500++List.drop 0 (List.take 1 [IV.agg [IV.int xo10_0,IV.list (List.drop 0 (List.take no10_1 lo501))]])))) none):=by kernel_rfl
open Go Go.Proofs
theorem y9i (s:ByteArray) {most:Int} (h:0≤most):0≤zec s most∧zec s most≤most:=by
 unfold zec;cases ha:zlw s <;> cases h1:decide (z3w s < 0) <;> cases h2:decide (z3w s > most)
 all_goals simp only [Bool.not_true,Bool.not_false,Bool.and_self,Bool.and_true,Bool.and_false,Bool.false_and,Bool.true_and,cond_true,cond_false]
 all_goals first
  | exact ⟨by omega,by omega⟩
  | (have h1:=of_decide_eq_false h1; have h2:=of_decide_eq_false h2; omega)
theorem ze3 (s t:ByteArray):(z1s s t).size≤s.size:=by
 unfold z1s;cases zq5 s t with
 | true=>
  rw [z00,ByteArray.size_extract];omega
 | false=>exact Nat.le_refl _
theorem yck {s:ByteArray} (h:s.size < 4294967281):z5d (zqi s)=true:=by
 unfold z5d zqi;rw [List.all_eq_true];intro x hx;obtain ⟨w,hw,rfl⟩:=List.mem_map.1 hx
 have:=(z6f yf8 _ (y9z s)).2 w hw
 have h2:(y9z s).size≤s.size:=ze3 s yf8;refine decide_eq_true ?_;show w.size < 4294967281;omega
abbrev kpA:KP:=⟨[0,2,3,4,6,7,28,29],[2,6,15],[]⟩
abbrev kpB:KP:=⟨[0,2,3,4,6],[2,6,15,500],[⟨.cell 6 5,500,88,true,[.int .i64,.list false [.int .u64]]⟩]⟩
abbrev kpC:KP:=⟨[0,2,3,4,6,10,61,62],[2,6,10,15,500,501],[⟨.cell 6 5,500,88,true,[.int .i64,.list false [.int .u64]]⟩,⟨.cell 10 1,501,103,false,[.int .u64]⟩]⟩
abbrev yfn (s:ByteArray) (W:List IV) (C i d c b0 b1 b2:Int) (L:List IV):St:=
 ⟨[(0,(.str s)),(2,(.ptr 2 0 0)),(3,(.bool false)),(4,(.ptr 15 0 0)),(6,(.ptr 6 0 0)),(7,(.list false [.str] W)),(28,(.int .i64 C)),(29,(.int .i64 i))],[(2,(some (.box [(.int .i64 0),(.int .i64 0),(.int .i64 0),(.int .i64 0),(.int .i64 0),.zs]))),(6,(some (.box [(.int .i64 d),(.int .i64 c),(.int .i64 b0),(.int .i64 b1),(.int .i64 b2),.zs]))),(15,(some (.box [(.list false [.str] L)])))]⟩
theorem zeb (N:Nat) (s:ByteArray) (W:List IV) (hW:∀ i,(wAt W i).size < 4294967281) (C:Int) (i:Nat) (hi:(i:Int) < C) (h3:i < 3) (d c b0 b1 b2:Int) (L:List IV) (again:St→Res) (k:Out→St→Res) :
  rnd (z0h N) (z0p z10 [1,1,1,1,1,0,1,0,0]) (yfn s W C (i:Int) d c b0 b1 b2 L) (z4t again kpA k) =
   again (yfn s W C ((i+1:Nat):Int) d c (cond (Nat.beq i 0) (zic (wAt W (1+i))) b0) (cond (Nat.beq i 1) (zic (wAt W (1+i))) b1) (cond (Nat.beq i 2) (zic (wAt W (1+i))) b2) L):=by
 rw [z6j];have ei:IntKind.wrap IntKind.i64 ((i:Int)+1)=((i+1:Nat):Int):=by
  rw [z1d (by omega) (by omega)]
  omega
 have ei':IntKind.wrap IntKind.i64 (1+(i:Int))=((1+i:Nat):Int):=by
  rw [z1d (by omega) (by omega)]
  omega
 rw [ei,ei',Int.toNat_natCast,decide_eq_true hi,z00,decide_eq_true (show (0:Int)≤((1+i:Nat):Int) by omega),z00,decide_eq_true (hW (1+i)),z00]
 match i,h3 with
 | 0,_=>rfl
 | 1,_=>rfl
 | 2,_=>rfl
theorem y45 (N:Nat) (s:ByteArray) (LS W:List IV) (hWe:W=z2t (LS.drop 1)) (hW:∀ i,(wAt W i).size < 4294967281) (C:Int) (h0:0≤C) (h3:C≤3) (hN:10≤N) (d c:Int) (L:List IV) (K:Out→St→Res) :
  lpE (z0h N) (z0p z10 [1,1,1,1,1,0,1,0,0]) kpA N (yfn s W C 0 d c 0 0 0 L) K=K (.exit 0) (yfn s W C C d c (zca LS C 0) (zca LS C 1) (zca LS C 2) L):=by
 obtain ⟨M,rfl⟩:∃ M,N=M+4:=⟨N - 4,by omega⟩
 obtain ⟨n,rfl⟩:∃ n:Nat,C=(n:Int):=⟨C.toNat,by omega⟩
 subst hWe;have e0:yfn s (z2t (LS.drop 1)) (n:Int) 0 d c 0 0 0 L=yfn s (z2t (LS.drop 1)) (n:Int) ((0:Nat):Int) d c 0 0 0 L:=rfl;rw [e0]
 match n,h3 with
 | 0,_=>
  rw [z05,z6j,decide_eq_false (show ¬ ((0:Nat):Int) < ((0:Nat):Int) by omega),z02]
  rfl
 | 1,_=>
  rw [z05,zeb (M+4) s _ hW _ 0 (by omega) (by omega),z05,z6j,decide_eq_false (show ¬ ((0+1:Nat):Int) < ((1:Nat):Int) by omega),z02]
  rfl
 | 2,_=>
  rw [z05,zeb (M+4) s _ hW _ 0 (by omega) (by omega),z05,zeb (M+4) s _ hW _ 1 (by omega) (by omega),z05,z6j,decide_eq_false (show ¬ ((1+1:Nat):Int) < ((2:Nat):Int) by omega),z02]
  rfl
 | 3,_=>
  rw [z05,zeb (M+4) s _ hW _ 0 (by omega) (by omega),z05,zeb (M+4) s _ hW _ 1 (by omega) (by omega),z05,zeb (M+4) s _ hW _ 2 (by omega) (by omega),z05,z6j,decide_eq_false (show ¬ ((2+1:Nat):Int) < ((3:Nat):Int) by omega),z02]
  rfl
 | n+4,h3=>exact absurd h3 (by omega)
abbrev yhq (s:ByteArray) (d c b0 b1 b2:Int) (L T:List IV) (cl k j:Int) (NL:List IV):St:=
 ⟨[(0,(.str s)),(2,(.ptr 2 0 0)),(3,(.bool false)),(4,(.ptr 15 0 0)),(6,(.ptr 6 0 0)),(10,(.ptr 10 0 0)),(61,(.int .i64 k)),(62,(.int .i64 j))],[(2,(some (.box [(.int .i64 0),(.int .i64 0),(.int .i64 0),(.int .i64 0),(.int .i64 0),.zs]))),(6,(some (.box [(.int .i64 d),(.int .i64 c),(.int .i64 b0),(.int .i64 b1),(.int .i64 b2),(.row 500 0 T.length)]))),(10,(some (.box [(.int .i64 cl),(.row 501 0 NL.length)]))),(15,(some (.box [(.list false [.str] L)]))),(500,(some (.row true 88 true [(.int .i64),(.list false [(.int .u64)])] T))),(501,(some (.row true 103 false [(.int .u64)] NL)))]⟩
theorem y1y (L:List IV) (j:Nat):zay L (j+1)=zay L j++[.int (z70 (yei (z2t (L.drop j))))]:=by
 unfold zay;rw [List.range_succ,List.map_append]
 rfl
theorem zcc (L:List IV) (j:Nat):(zay L j).length=j:=by
 unfold zay;rw [List.length_map,List.length_range]
theorem zvk (N:Nat) (s:ByteArray) (d c b0 b1 b2:Int) (T L:List IV) (hL:z5d L=true) (cl:Int) (k:Nat) (hk:k≤31) (K:Out→St→Res):∀ (m j n:Nat),j+m=k→m < n →
  lpE (z0h N) (z0p z10 [1,1,1,1,1,1,0,0,0,1,0,1,1,0,1,0,0]) kpC n (yhq s d c b0 b1 b2 (L.drop j) T cl (k:Int) (j:Int) (zay L j)) K =
   K (.exit 4) (yhq s d c b0 b1 b2 (L.drop k) T cl (k:Int) (k:Int) (zay L k))
 | m,j,0,_,h=>absurd h (by omega)
 | 0,j,n+1,hd,_=>by
  have hj:j=k:=by omega
  subst hj;rw [z05,zgr,decide_eq_false (show ¬ (j:Int) < (j:Int) by omega),z02]
 | m+1,j,n+1,hd,hn=>by
  have ej:IntKind.wrap IntKind.i64 ((j:Int)+1)=((j+1:Nat):Int):=by
   rw [z1d (by omega) (by omega)]
   omega
  have eb:TI.bytes (Env.tyd (z0h N) 103)=8:=rfl;have e1:∀ x:IV,List.length (List.drop 0 (List.take 1 [x]))=1:=fun x=>rfl
  have e2:∀ x:IV,List.drop 0 (List.take 1 [x])=[x]:=fun x=>rfl
  rw [z05,zgr,ej,eb,e1,e2,decide_eq_true (show (j:Int) < (k:Int) by omega),z00,z6e hL j,z00,zcc,decide_eq_true (show (j+1)*8≤z0e by unfold z0e; omega),z00]
  have e3:List.take j (zay L j)=zay L j:=List.take_of_length_le (by rw [zcc]; omega)
  rw [e3,← y1y,List.drop_drop];have ih:=zvk N s d c b0 b1 b2 T L hL cl k hk K m (j+1) n (by omega) (by omega)
  unfold yhq at ih ⊢
  rw [zcc] at ih;exact ih
abbrev yh2 (s:ByteArray) (d c b0 b1 b2:Int) (L T:List IV):St:=
 ⟨[(0,(.str s)),(2,(.ptr 2 0 0)),(3,(.bool false)),(4,(.ptr 15 0 0)),(6,(.ptr 6 0 0))],[(2,(some (.box [(.int .i64 0),(.int .i64 0),(.int .i64 0),(.int .i64 0),(.int .i64 0),.zs]))),(6,(some (.box [(.int .i64 d),(.int .i64 c),(.int .i64 b0),(.int .i64 b1),(.int .i64 b2),(.row 500 0 T.length)]))),(15,(some (.box [(.list false [.str] L)]))),(500,(some (.row true 88 true [(.int .i64),(.list false [(.int .u64)])] T)))]⟩
theorem zvf (N:Nat) (hN:40≤N) (s:ByteArray) (d c b0 b1 b2:Int) (K:Out→St→Res):∀ (m n:Nat) (L T:List IV),z5d L=true→T.length+m=9→m < n →
  ∃ L',lpE (z0h N) (z0p z10 [1,1,1,1,1,1,0,0,0]) kpB n (yh2 s d c b0 b1 b2 L T) K=K (.exit 2) (yh2 s d c b0 b1 b2 L' (T++z9q m L))
 | m,0,L,T,_,_,h=>absurd h (by omega)
 | m,n+1,[],T,hL,hT,hn=>by
  refine ⟨[],?_⟩;have e:z9q m []=[]:=by cases m <;> rfl
  rw [z05,zc0,decide_eq_false (show ¬ ic (List.length ([]:List IV)) > 0 by decide),z02,e,List.append_nil]
 | 0,n+1,l :: L,T,hL,hT,hn=>by
  refine ⟨l :: L,?_⟩;rw [z05,zc0,decide_eq_true (show ic (List.length (l :: L)) > 0 by simp only [ic,List.length_cons]; omega),z00,decide_eq_false (show ¬ ic (T.length - 0)≤8 by simp only [ic]; omega),z02]
  show K (.exit 2) _=K (.exit 2) (yh2 s d c b0 b1 b2 (l :: L) (T++[]));rw [List.append_nil]
 | m+1,n+1,l :: L,T,hL,hT,hn=>by
  obtain ⟨k0,k1⟩:=y9i (wAt (z2t (l :: L)) 2) (most:=31) (by omega)
  have hk:zec (wAt (z2t (l :: L)) 2) 31=((rdK (l :: L):Nat):Int):=by unfold rdK; omega
  have hLd:=z6e hL 1;have hk31:rdK (l :: L)≤31:=by unfold rdK; omega
  have e2:Int.toNat 2=2:=rfl;have e1:Int.toNat 1=1:=rfl;rw [z05,zc0,decide_eq_true (show ic (List.length (l :: L)) > 0 by simp only [ic,List.length_cons]; omega),z00,decide_eq_true (show ic (T.length - 0)≤8 by simp only [ic]; omega),z00,hL,z00,e2,e1,hk]
  have run:=zvk N s d c b0 b1 b2 T (List.drop 1 (l :: L)) hLd (zec (wAt (z2t (l :: L)) 1) 3) (rdK (l :: L)) hk31
   (z04 4 (kSq (z0h N) (z0p z10 [1,1,1,1,1,1,0,0,0,1,0,1,1,1]) (z04 3 (z4t (fun s'=>lpE (z0h N) (z0p z10 [1,1,1,1,1,1,0,0,0]) kpB n s' K) kpB K)))) (rdK (l :: L)) 0 N (by omega) (by omega)
  have eb:TI.bytes (Env.tyd (z0h N) 88)=32:=rfl;have e3:∀ x:IV,List.length (List.drop 0 (List.take 1 [x]))=1:=fun x=>rfl
  have e4:∀ x:IV,List.drop 0 (List.take 1 [x])=[x]:=fun x=>rfl
  rw [znj,eb,e3,e4,decide_eq_true (show (T.length+1)*32≤z0e by unfold z0e; omega),z00,zcc] at run
  have e5:List.take T.length T=T:=List.take_of_length_le (Nat.le_refl _);have e6:List.drop 0 (List.take (rdK (l :: L)) (zay (List.drop 1 (l :: L)) (rdK (l :: L))))=zay (List.drop 1 (l :: L)) (rdK (l :: L)):=by
   rw [List.drop_zero,List.take_of_length_le (by rw [zcc]; omega)]
  rw [e5,e6] at run;obtain ⟨L',hL'⟩:=zvf N hN s d c b0 b1 b2 K m n (List.drop (rdK (l :: L)) (List.drop 1 (l :: L))) (T++[y4m (l :: L)]) (z6e hLd _) (by rw [List.length_append,List.length_cons,List.length_nil]; omega) (by omega)
  refine ⟨L',?_⟩;have e7:T++z9q (m+1) (l :: L)=T++[y4m (l :: L)]++z9q m (List.drop (rdK (l :: L)) (List.drop 1 (l :: L))):=by
   rw [List.append_assoc]
   rfl
  rw [e7,← hL'];refine Eq.trans ?_ (run.trans ?_)
  ·rfl
  ·have e8:(T++[y4m (l :: L)]).length=T.length+1:=by rw [List.length_append]; rfl
   unfold yh2;rw [e8]
   rfl
set_option maxRecDepth 100000 in
set_option maxHeartbeats 1000000 in
theorem zso:z3c PR B0 19 za5:=by
 refine z0m [(46,z1a),(47,z1i),(20,z6i),(49,z6d),(48,z2m),(52,z4i),(51,z83),(50,z87)] [(6,kpA),(10,kpB),(14,kpC)] za5 [[.int .i64,.int .i64,.int .i64,.int .i64,.int .i64,.list true [.int .i64,.list false [.int .u64]]],[.bool]] Tryz.func19 zzy ⟨z3v,z62,zj0,zj1,zb9,zij,zkw,zky,trivial⟩ ?_;intro vs r hwf h;unfold za5 at h
 split at h
 ·rename_i s
  cases hc:decide (s.size < 4294967281) with
  | false=>rw [hc] at h; simp [R.get] at h
  | true=>
   rw [hc,R.get_br,z00,R.get_ok] at h;have hs:=of_decide_eq_true hc;refine ⟨40,?_⟩;rw [← h];refine (zw9 40 s).trans ?_;have hok:=yck hs;have e0:List.map IV.str (z09 (z1s s { data:=#[10] }) { data:=#[10] })=zqi s:=rfl;have e1:decide (1≤ByteArray.size { data:=#[10] })=true:=rfl;have ts:=ze3 s yf8;have e2:Int.toNat 2=2:=rfl;have e3:Int.toNat 1=1:=rfl;rw [e0,e1,e2,e3,decide_eq_true (show ByteArray.size (z1s s { data:=#[10] }) < 4294967281 from Nat.lt_of_le_of_lt ts hs),Bool.and_self,z00,hok,z00,z6e hok 1,z00]
   generalize hLS:zqi s=LS at hok ⊢
   obtain ⟨c0,c3⟩:=y9i (wAt (z2t LS) 2) (most:=3) (by omega)
   refine (y45 40 s LS (z2t (LS.drop 1)) rfl (zm0 (z6e hok 1)) (zec (wAt (z2t LS) 2) 3) c0 c3 (by omega) (zec (wAt (z2t LS) 1) 4) (zec (wAt (z2t LS) 2) 3) (List.drop 1 (List.drop 1 LS)) _).trans ?_
   rw [zme];obtain ⟨L',hL'⟩:=zvf 40 (by omega) s (zec (wAt (z2t LS) 1) 4) (zec (wAt (z2t LS) 2) 3) (zca LS (zec (wAt (z2t LS) 2) 3) 0) (zca LS (zec (wAt (z2t LS) 2) 3) 1) (zca LS (zec (wAt (z2t LS) 2) 3) 2)
    (z04 2 (kSq (z0h 40) (z0p z10 [1,1,1,1,1,1,1]) (z3f (z0h 40) none [(ResultVar.cell 2 30),(ResultVar.tmp 3)] [[(.int .i64),(.int .i64),(.int .i64),(.int .i64),(.int .i64),(.list true [(.int .i64),(.list false [(.int .u64)])])],[.bool]])))
    9 40 (List.drop 1 (List.drop 1 LS)) [] (z6e (z6e hok 1) 1) rfl (by omega)
   refine hL'.trans ?_;rw [zne];have e4:([]:List IV)++z9q 9 (List.drop 1 (List.drop 1 LS))=z9q 9 (LS.drop 2):=by
    rw [List.nil_append,List.drop_drop]
   have e5:List.drop 0 (List.take (([]:List IV)++z9q 9 (List.drop 1 (List.drop 1 LS))).length (([]:List IV)++z9q 9 (List.drop 1 (List.drop 1 LS))))=z9q 9 (LS.drop 2):=by
    rw [List.drop_zero,List.take_of_length_le (Nat.le_refl _),e4]
   rw [e5];have e6:(⟨zec (wAt (z2t LS) 1) 4,zec (wAt (z2t LS) 2) 3,zca LS (zec (wAt (z2t LS) 2) 3) 0,zca LS (zec (wAt (z2t LS) 2) 3) 1,zca LS (zec (wAt (z2t LS) 2) 3) 2,z9q 9 (LS.drop 2)⟩:Md)=ycm s:=by
    unfold ycm;rw [hLS]
    rfl
   unfold zj9 zuf;rw [← e6];cases (ByteArray.toList s==ByteArray.toList y4z) with
   | true=>rfl
   | false=>
    rw [z02,Bool.not_false,Bool.true_and];cases (ByteArray.toList (y25 ⟨zec (wAt (z2t LS) 1) 4,zec (wAt (z2t LS) 2) 3,zca LS (zec (wAt (z2t LS) 2) 3) 0,zca LS (zec (wAt (z2t LS) 2) 3) 1,zca LS (zec (wAt (z2t LS) 2) 3) 2,z9q 9 (LS.drop 2)⟩)==ByteArray.toList s) <;> rfl
 ·simp [R.get] at h
open Go Go.Proofs
def y7o (N:Nat):Env:=mkE [] [] 39 N
theorem y4j (N:Nat) (q_Kind q_Class q_Region_0_Lo q_Region_0_Hi q_Region_1_Lo q_Region_1_Hi q_Region_2_Lo q_Region_2_Hi q_Region_3_Lo q_Region_3_Hi q_Region_4_Lo q_Region_4_Hi q_Lo q_Hi q_Feature:Int) (q_Falls:Bool) (q_Budget dim:Int):z1c (y7o N) zv9 [.cell 4 38] [[.int .i64,.int .i64,.int .i64,.int .i64,.int .i64,.int .i64,.int .i64,.int .i64,.int .i64,.int .i64,.int .i64,.int .i64,.int .i64,.int .i64,.int .i64,.bool,.int .i64]] [(.agg [(.int .i64 q_Kind),(.int .i64 q_Class),(.int .i64 q_Region_0_Lo),(.int .i64 q_Region_0_Hi),(.int .i64 q_Region_1_Lo),(.int .i64 q_Region_1_Hi),(.int .i64 q_Region_2_Lo),(.int .i64 q_Region_2_Hi),(.int .i64 q_Region_3_Lo),(.int .i64 q_Region_3_Hi),(.int .i64 q_Region_4_Lo),(.int .i64 q_Region_4_Hi),(.int .i64 q_Lo),(.int .i64 q_Hi),(.int .i64 q_Feature),(.bool q_Falls),(.int .i64 q_Budget)]),(.int .i64 dim)]=(cond (decide (0≤dim)&&decide (dim≤ic 5)) (cond (decide (0≤dim)&&decide (dim≤ic 5)) (cond (decide (ic (min (Int.toNat dim) (Int.toNat dim))=ic 0)) (cond (q_Kind==1) (some ((.agg [(.int .i64 q_Kind),(.int .i64 q_Class),(.int .i64 0),(.int .i64 0),(.int .i64 0),(.int .i64 0),(.int .i64 0),(.int .i64 0),(.int .i64 0),(.int .i64 0),(.int .i64 0),(.int .i64 0),(.int .i64 q_Lo),(.int .i64 q_Hi),(.int .i64 0),(.bool false),(.int .i64 q_Budget)]),[])) (cond (q_Kind==3) (some ((.agg [(.int .i64 q_Kind),(.int .i64 q_Class),(.int .i64 0),(.int .i64 0),(.int .i64 0),(.int .i64 0),(.int .i64 0),(.int .i64 0),(.int .i64 0),(.int .i64 0),(.int .i64 0),(.int .i64 0),(.int .i64 0),(.int .i64 0),(.int .i64 q_Feature),(.bool q_Falls),(.int .i64 q_Budget)]),[])) (some ((.agg [(.int .i64 q_Kind),(.int .i64 q_Class),(.int .i64 0),(.int .i64 0),(.int .i64 0),(.int .i64 0),(.int .i64 0),(.int .i64 0),(.int .i64 0),(.int .i64 0),(.int .i64 0),(.int .i64 0),(.int .i64 0),(.int .i64 0),(.int .i64 0),(.bool false),(.int .i64 q_Budget)]),[])))) (cond (decide (ic (min (Int.toNat dim) (Int.toNat dim))=ic 1)) (cond (q_Kind==1) (some ((.agg [(.int .i64 q_Kind),(.int .i64 q_Class),(.int .i64 q_Region_0_Lo),(.int .i64 q_Region_0_Hi),(.int .i64 0),(.int .i64 0),(.int .i64 0),(.int .i64 0),(.int .i64 0),(.int .i64 0),(.int .i64 0),(.int .i64 0),(.int .i64 q_Lo),(.int .i64 q_Hi),(.int .i64 0),(.bool false),(.int .i64 q_Budget)]),[])) (cond (q_Kind==3) (some ((.agg [(.int .i64 q_Kind),(.int .i64 q_Class),(.int .i64 q_Region_0_Lo),(.int .i64 q_Region_0_Hi),(.int .i64 0),(.int .i64 0),(.int .i64 0),(.int .i64 0),(.int .i64 0),(.int .i64 0),(.int .i64 0),(.int .i64 0),(.int .i64 0),(.int .i64 0),(.int .i64 q_Feature),(.bool q_Falls),(.int .i64 q_Budget)]),[])) (some ((.agg [(.int .i64 q_Kind),(.int .i64 q_Class),(.int .i64 q_Region_0_Lo),(.int .i64 q_Region_0_Hi),(.int .i64 0),(.int .i64 0),(.int .i64 0),(.int .i64 0),(.int .i64 0),(.int .i64 0),(.int .i64 0),(.int .i64 0),(.int .i64 0),(.int .i64 0),(.int .i64 0),(.bool false),(.int .i64 q_Budget)]),[])))) (cond (decide (ic (min (Int.toNat dim) (Int.toNat dim))=ic 2)) (cond (q_Kind==1) (some ((.agg [(.int .i64 q_Kind),(.int .i64 q_Class),(.int .i64 q_Region_0_Lo),(.int .i64 q_Region_0_Hi),(.int .i64 q_Region_1_Lo),(.int .i64 q_Region_1_Hi),(.int .i64 0),(.int .i64 0),(.int .i64 0),(.int .i64 0),(.int .i64 0),(.int .i64 0),(.int .i64 q_Lo),(.int .i64 q_Hi),(.int .i64 0),(.bool false),(.int .i64 q_Budget)]),[])) (cond (q_Kind==3) (some ((.agg [(.int .i64 q_Kind),(.int .i64 q_Class),(.int .i64 q_Region_0_Lo),(.int .i64 q_Region_0_Hi),(.int .i64 q_Region_1_Lo),(.int .i64 q_Region_1_Hi),(.int .i64 0),(.int .i64 0),(.int .i64 0),(.int .i64 0),(.int .i64 0),(.int .i64 0),(.int .i64 0),(.int .i64 0),(.int .i64 q_Feature),(.bool q_Falls),(.int .i64 q_Budget)]),[])) (some ((.agg [(.int .i64 q_Kind),(.int .i64 q_Class),(.int .i64 q_Region_0_Lo),(.int .i64 q_Region_0_Hi),(.int .i64 q_Region_1_Lo),(.int .i64 q_Region_1_Hi),(.int .i64 0),(.int .i64 0),(.int .i64 0),(.int .i64 0),(.int .i64 0),(.int .i64 0),(.int .i64 0),(.int .i64 0),(.int .i64 0),(.bool false),(.int .i64 q_Budget)]),[])))) (cond (decide (ic (min (Int.toNat dim) (Int.toNat dim))=ic 3)) (cond (q_Kind==1) (some ((.agg [(.int .i64 q_Kind),(.int .i64 q_Class),(.int .i64 q_Region_0_Lo),(.int .i64 q_Region_0_Hi),(.int .i64 q_Region_1_Lo),(.int .i64 q_Region_1_Hi),(.int .i64 q_Region_2_Lo),(.int .i64 q_Region_2_Hi),(.int .i64 0),(.int .i64 0),(.int .i64 0),(.int .i64 0),(.int .i64 q_Lo),(.int .i64 q_Hi),(.int .i64 0),(.bool false),(.int .i64 q_Budget)]),[])) (cond (q_Kind==3) (some ((.agg [(.int .i64 q_Kind),(.int .i64 q_Class),(.int .i64 q_Region_0_Lo),(.int .i64 q_Region_0_Hi),(.int .i64 q_Region_1_Lo),(.int .i64 q_Region_1_Hi),(.int .i64 q_Region_2_Lo),(.int .i64 q_Region_2_Hi),(.int .i64 0),(.int .i64 0),(.int .i64 0),(.int .i64 0),(.int .i64 0),(.int .i64 0),(.int .i64 q_Feature),(.bool q_Falls),(.int .i64 q_Budget)]),[])) (some ((.agg [(.int .i64 q_Kind),(.int .i64 q_Class),(.int .i64 q_Region_0_Lo),(.int .i64 q_Region_0_Hi),(.int .i64 q_Region_1_Lo),(.int .i64 q_Region_1_Hi),(.int .i64 q_Region_2_Lo),(.int .i64 q_Region_2_Hi),(.int .i64 0),(.int .i64 0),(.int .i64 0),(.int .i64 0),(.int .i64 0),(.int .i64 0),(.int .i64 0),(.bool false),(.int .i64 q_Budget)]),[])))) (cond (decide (ic (min (Int.toNat dim) (Int.toNat dim))=ic 4)) (cond (q_Kind==1) (some ((.agg [(.int .i64 q_Kind),(.int .i64 q_Class),(.int .i64 q_Region_0_Lo),(.int .i64 q_Region_0_Hi),(.int .i64 q_Region_1_Lo),(.int .i64 q_Region_1_Hi),(.int .i64 q_Region_2_Lo),(.int .i64 q_Region_2_Hi),(.int .i64 q_Region_3_Lo),(.int .i64 q_Region_3_Hi),(.int .i64 0),(.int .i64 0),(.int .i64 q_Lo),(.int .i64 q_Hi),(.int .i64 0),(.bool false),(.int .i64 q_Budget)]),[])) (cond (q_Kind==3) (some ((.agg [(.int .i64 q_Kind),(.int .i64 q_Class),(.int .i64 q_Region_0_Lo),(.int .i64 q_Region_0_Hi),(.int .i64 q_Region_1_Lo),(.int .i64 q_Region_1_Hi),(.int .i64 q_Region_2_Lo),(.int .i64 q_Region_2_Hi),(.int .i64 q_Region_3_Lo),(.int .i64 q_Region_3_Hi),(.int .i64 0),(.int .i64 0),(.int .i64 0),(.int .i64 0),(.int .i64 q_Feature),(.bool q_Falls),(.int .i64 q_Budget)]),[])) (some ((.agg [(.int .i64 q_Kind),(.int .i64 q_Class),(.int .i64 q_Region_0_Lo),(.int .i64 q_Region_0_Hi),(.int .i64 q_Region_1_Lo),(.int .i64 q_Region_1_Hi),(.int .i64 q_Region_2_Lo),(.int .i64 q_Region_2_Hi),(.int .i64 q_Region_3_Lo),(.int .i64 q_Region_3_Hi),(.int .i64 0),(.int .i64 0),(.int .i64 0),(.int .i64 0),(.int .i64 0),(.bool false),(.int .i64 q_Budget)]),[])))) (cond (decide (ic (min (Int.toNat dim) (Int.toNat dim))=ic 5)) (cond (q_Kind==1) (some ((.agg [(.int .i64 q_Kind),(.int .i64 q_Class),(.int .i64 q_Region_0_Lo),(.int .i64 q_Region_0_Hi),(.int .i64 q_Region_1_Lo),(.int .i64 q_Region_1_Hi),(.int .i64 q_Region_2_Lo),(.int .i64 q_Region_2_Hi),(.int .i64 q_Region_3_Lo),(.int .i64 q_Region_3_Hi),(.int .i64 q_Region_4_Lo),(.int .i64 q_Region_4_Hi),(.int .i64 q_Lo),(.int .i64 q_Hi),(.int .i64 0),(.bool false),(.int .i64 q_Budget)]),[])) (cond (q_Kind==3) (some ((.agg [(.int .i64 q_Kind),(.int .i64 q_Class),(.int .i64 q_Region_0_Lo),(.int .i64 q_Region_0_Hi),(.int .i64 q_Region_1_Lo),(.int .i64 q_Region_1_Hi),(.int .i64 q_Region_2_Lo),(.int .i64 q_Region_2_Hi),(.int .i64 q_Region_3_Lo),(.int .i64 q_Region_3_Hi),(.int .i64 q_Region_4_Lo),(.int .i64 q_Region_4_Hi),(.int .i64 0),(.int .i64 0),(.int .i64 q_Feature),(.bool q_Falls),(.int .i64 q_Budget)]),[])) (some ((.agg [(.int .i64 q_Kind),(.int .i64 q_Class),(.int .i64 q_Region_0_Lo),(.int .i64 q_Region_0_Hi),(.int .i64 q_Region_1_Lo),(.int .i64 q_Region_1_Hi),(.int .i64 q_Region_2_Lo),(.int .i64 q_Region_2_Hi),(.int .i64 q_Region_3_Lo),(.int .i64 q_Region_3_Hi),(.int .i64 q_Region_4_Lo),(.int .i64 q_Region_4_Hi),(.int .i64 0),(.int .i64 0),(.int .i64 0),(.bool false),(.int .i64 q_Budget)]),[])))) none)))))) none) none):=by kernel_rfl
def y3s (N:Nat):Env:=mkE [] [] 9 N
theorem y1r (N:Nat) (n:Int):z1c (y3s N) zpr [.tmp 2] [[.bool]] [(.int .i64 n)]=(cond (decide (n≥0)) (some ((.bool (decide (n≤1073741824))),[])) (some ((.bool false),[]))):=by kernel_rfl
def y2j (N:Nat):Env:=mkE [(90,z2k)] [] 11 N
theorem y0t (N:Nat) (s:ByteArray):z1c (y2j N) zrq [.tmp 2] [[.int .i64]] [(.str s)]=(some ((.int .i64 (z3w s)),[])):=by kernel_rfl
def y6r (N:Nat):Env:=mkE [(91,z9r)] [] 11 N
theorem y2r (N:Nat) (s:ByteArray):z1c (y6r N) zvi [.tmp 2] [[.int .i64]] [(.str s)]=(cond (decide (ByteArray.size s < 4294967281)) (some ((.int .i64 (zic s)),[])) none):=by kernel_rfl
def z0j (N:Nat):Env:=mkE [] [(2,⟨[0,1,4,7,8],[],[]⟩)] 19 N
abbrev z0z (l0:List IV) (s1:ByteArray) (x4 x7 x8:Int):St:=⟨[(0,(.list false [.str] l0)),(1,(.str s1)),(4,(.int .i64 x4)),(7,(.int .i64 x7)),(8,(.int .i64 x8))],[]⟩
theorem zbd (N:Nat) (s:List IV) (v:ByteArray):z1c (z0j N) z0y [.tmp 4] [[.int .i64]] [(.list false [.str] s),(.str v)]=(lpE (z0j N) (z0p z0y [1,0,1,0,0]) ⟨[0,1,4,7,8],[],[]⟩ N (z0z s v 0 (ic (List.length s)) 0) (z04 0 (kSq (z0j N) (z0p z0y [1,1]) (z3f (z0j N) none [(ResultVar.tmp 4)] [[(.int .i64)]])))):=by kernel_rfl
theorem z5b (N:Nat) (l0:List IV) (s1:ByteArray) (x4 x7 x8:Int) (again:St→Res) (k:Out→St→Res):rnd (z0j N) (z0p z0y [1,0,1,0,0]) (z0z l0 s1 x4 x7 x8) (z4t again ⟨[0,1,4,7,8],[],[]⟩ k)=(cond (decide (x8 < x7)) (cond (decide (0≤x8)&&decide (x8 < ic (List.length l0))) (cond (ByteArray.toList s1==ByteArray.toList (IV.toStr (List.getD l0 (Int.toNat x8) default))) (k .ret (z0z l0 s1 x8 x7 x8)) (again (z0z l0 s1 x4 x7 (IntKind.wrap IntKind.i64 (x8+1))))) none) (k (.exit 0) (z0z l0 s1 x4 x7 x8))):=by kernel_rfl
theorem z9e (N:Nat) (l0:List IV) (s1:ByteArray) (x4 x7 x8:Int):(z04 0 (kSq (z0j N) (z0p z0y [1,1]) (z3f (z0j N) none [(ResultVar.tmp 4)] [[(.int .i64)]]))) (.exit 0) (z0z l0 s1 x4 x7 x8)=(some ((.int .i64 (-1)),[])):=by kernel_rfl
theorem z9a (N:Nat) (l0:List IV) (s1:ByteArray) (x4 x7 x8:Int):(z04 0 (kSq (z0j N) (z0p z0y [1,1]) (z3f (z0j N) none [(ResultVar.tmp 4)] [[(.int .i64)]]))) .ret (z0z l0 s1 x4 x7 x8)=(some ((.int .i64 x4),[])):=by kernel_rfl
def zmg (N:Nat):Env:=mkE [(121,z7y),(120,z9s),(161,z2o)] [] 46 N
theorem y2h (N:Nat) (l:List IV):z1c (zmg N) zu5 [.cell 2 38] [[.int .i64,.int .i64,.int .i64,.int .i64,.int .i64,.int .i64,.int .i64,.int .i64,.int .i64,.int .i64,.int .i64,.int .i64,.int .i64,.int .i64,.int .i64,.bool,.int .i64]] [(.list false [.str] l)]=(cond (decide (List.length l≤4294967296)) (cond (decide ((List.length l+List.length (List.replicate (Int.toNat 6) (IV.str {data:=#[]})))*TI.bytes (Env.tyd (zmg N) 9)≤z0e)) (cond (decide (0≤1)&&decide (1 < ic (List.length l+List.length (List.replicate (Int.toNat 6) (IV.str {data:=#[]})) - 0))) (cond (decide (0≤0)&&decide (0 < ic (List.length l+List.length (List.replicate (Int.toNat 6) (IV.str {data:=#[]})) - 0))) (cond (ByteArray.toList (IV.toStr (List.getD (List.take (List.length l) l++List.replicate (Int.toNat 6) (IV.str {data:=#[]})) 0 default))==ByteArray.toList {data:=#[114,97,110,103,101]}) (cond (decide (0≤3)&&decide (3 < ic (List.length l+List.length (List.replicate (Int.toNat 6) (IV.str {data:=#[]})) - 0))) (cond (decide (ByteArray.size (IV.toStr (List.getD (List.take (List.length l) l++List.replicate (Int.toNat 6) (IV.str {data:=#[]})) 3 default)) < 4294967281)) (cond (decide (0≤5)&&decide (5 < ic (List.length l+List.length (List.replicate (Int.toNat 6) (IV.str {data:=#[]})) - 0))) (cond (decide (ByteArray.size (IV.toStr (List.getD (List.take (List.length l) l++List.replicate (Int.toNat 6) (IV.str {data:=#[]})) 5 default)) < 4294967281)) (some ((.agg [(.int .i64 1),(.int .i64 (z3w (IV.toStr (List.getD (List.take (List.length l) l++List.replicate (Int.toNat 6) (IV.str {data:=#[]})) 1 default)))),(.int .i64 0),(.int .i64 0),(.int .i64 0),(.int .i64 0),(.int .i64 0),(.int .i64 0),(.int .i64 0),(.int .i64 0),(.int .i64 0),(.int .i64 0),(.int .i64 (zic (IV.toStr (List.getD (List.take (List.length l) l++List.replicate (Int.toNat 6) (IV.str {data:=#[]})) 3 default)))),(.int .i64 (zic (IV.toStr (List.getD (List.take (List.length l) l++List.replicate (Int.toNat 6) (IV.str {data:=#[]})) 5 default)))),(.int .i64 0),(.bool false),(.int .i64 0)]),[])) none) none) none) none) (cond (ByteArray.toList (IV.toStr (List.getD (List.take (List.length l) l++List.replicate (Int.toNat 6) (IV.str {data:=#[]})) 0 default))==ByteArray.toList {data:=#[98,101,115,116]}) (some ((.agg [(.int .i64 2),(.int .i64 (z3w (IV.toStr (List.getD (List.take (List.length l) l++List.replicate (Int.toNat 6) (IV.str {data:=#[]})) 1 default)))),(.int .i64 0),(.int .i64 0),(.int .i64 0),(.int .i64 0),(.int .i64 0),(.int .i64 0),(.int .i64 0),(.int .i64 0),(.int .i64 0),(.int .i64 0),(.int .i64 0),(.int .i64 0),(.int .i64 0),(.bool false),(.int .i64 0)]),[])) (cond (ByteArray.toList (IV.toStr (List.getD (List.take (List.length l) l++List.replicate (Int.toNat 6) (IV.str {data:=#[]})) 0 default))==ByteArray.toList {data:=#[114,105,115,101,115]}) (cond (decide (0≤3)&&decide (3 < ic (List.length l+List.length (List.replicate (Int.toNat 6) (IV.str {data:=#[]})) - 0))) (cond (decide (0≤0)&&decide (0 < ic (List.length l+List.length (List.replicate (Int.toNat 6) (IV.str {data:=#[]})) - 0))) (some ((.agg [(.int .i64 3),(.int .i64 (z3w (IV.toStr (List.getD (List.take (List.length l) l++List.replicate (Int.toNat 6) (IV.str {data:=#[]})) 1 default)))),(.int .i64 0),(.int .i64 0),(.int .i64 0),(.int .i64 0),(.int .i64 0),(.int .i64 0),(.int .i64 0),(.int .i64 0),(.int .i64 0),(.int .i64 0),(.int .i64 0),(.int .i64 0),(.int .i64 (z3w (IV.toStr (List.getD (List.take (List.length l) l++List.replicate (Int.toNat 6) (IV.str {data:=#[]})) 3 default)))),(.bool (ByteArray.toList (IV.toStr (List.getD (List.take (List.length l) l++List.replicate (Int.toNat 6) (IV.str {data:=#[]})) 0 default))==ByteArray.toList {data:=#[102,97,108,108,115]})),(.int .i64 0)]),[])) none) none) (cond (ByteArray.toList (IV.toStr (List.getD (List.take (List.length l) l++List.replicate (Int.toNat 6) (IV.str {data:=#[]})) 0 default))==ByteArray.toList {data:=#[102,97,108,108,115]}) (cond (decide (0≤3)&&decide (3 < ic (List.length l+List.length (List.replicate (Int.toNat 6) (IV.str {data:=#[]})) - 0))) (cond (decide (0≤0)&&decide (0 < ic (List.length l+List.length (List.replicate (Int.toNat 6) (IV.str {data:=#[]})) - 0))) (some ((.agg [(.int .i64 3),(.int .i64 (z3w (IV.toStr (List.getD (List.take (List.length l) l++List.replicate (Int.toNat 6) (IV.str {data:=#[]})) 1 default)))),(.int .i64 0),(.int .i64 0),(.int .i64 0),(.int .i64 0),(.int .i64 0),(.int .i64 0),(.int .i64 0),(.int .i64 0),(.int .i64 0),(.int .i64 0),(.int .i64 0),(.int .i64 0),(.int .i64 (z3w (IV.toStr (List.getD (List.take (List.length l) l++List.replicate (Int.toNat 6) (IV.str {data:=#[]})) 3 default)))),(.bool (ByteArray.toList (IV.toStr (List.getD (List.take (List.length l) l++List.replicate (Int.toNat 6) (IV.str {data:=#[]})) 0 default))==ByteArray.toList {data:=#[102,97,108,108,115]})),(.int .i64 0)]),[])) none) none) (some ((.agg [(.int .i64 0),(.int .i64 (z3w (IV.toStr (List.getD (List.take (List.length l) l++List.replicate (Int.toNat 6) (IV.str {data:=#[]})) 1 default)))),(.int .i64 0),(.int .i64 0),(.int .i64 0),(.int .i64 0),(.int .i64 0),(.int .i64 0),(.int .i64 0),(.int .i64 0),(.int .i64 0),(.int .i64 0),(.int .i64 0),(.int .i64 0),(.int .i64 0),(.bool false),(.int .i64 0)]),[])))))) none) none) none) none):=by kernel_rfl
end Go.FM
