/-
  A small machine that reckons what a call comes to; the functions of the program, one by one. (THE LIBRARY's strings.Builder AS THE SMALL MACHINE SEES IT: , DERIVED: THE SHELF's CONTRACTS AT THIS DUMP, IN PLAIN WORDS , THE LIBRARY's strconv.FormatUint AT BASE 10: the number's de, and so on.)
-/
import Derived.Test.YtihliihljmfhlaaGreatDoorUb
import Derived.Shelf.Strings.BuilderK
import Derived.Shelf.Strings.OnBuilder
import Derived.Shelf.Strings.Trim
import Derived.Shelf.Small.Utf8
import Derived.Shelf.Small.Wraps
import Derived.Shelf.Strconv.Itoa3
import Derived.Shelf.Strconv.ErrVarAll
import Derived.Shelf.Strconv.ParseUint10b64
import Derived.Shelf.Pu.ErrVarParseUint
import Derived.Shelf.Strings.Shaped
import Derived.Shelf.Sort.Plain
import Derived.Shelf.Strings.SplitShaped
import Derived.Shelf.Strings.Runes
import Derived.Shelf.Strings.AsciiSet
import Derived.Shelf.Strings.Explode
import Derived.Shelf.Strings.Repeat
import Derived.Shelf.Unicode.DecodeSlow
import Derived.Shelf.Slices.Turned
import Derived.Shelf.Slices.Cells
import Derived.Shelf.Slices.In.SortNone
import Derived.Shelf.SlicesE.DeleteFunc
import Derived.Lib.AppendIntMem
set_option linter.all false
set_option maxRecDepth 100000
open Array renaming length_toList→CQ,getElem?_eq_some_iff→C7,toList_append→vak,getElem?_modify→vaL
open BitVec renaming ofInt→A4,toNat→CL
open Bool renaming and_eq_true→AI,not_true→A1,not_false→A6,true_and→BC,false_and→BM,and_self→BY,not_eq_true'→B5,and_true→CJ,and_false→vaq,or_eq_true→vaz,eq_iff_iff→va3
open ByteArray renaming size→AG,toList→AX,size_append→A3,empty→CG,append_assoc→vah,extract→vaP,size_push→va4,size_extract→vbd
open Go.Addr.mk renaming injEq→C5
open Go.Builtin renaming append_→C1
open Go.IntKind renaming wrap→AA,i64→AB,u64→AJ,bits→AT,signed→vam,wrap_u64→vbg
open Go.Lib renaming decDigits→CI,strCells→DC,indexByte→vat,strCells_length→vaA,bytesWorld→vaQ,byteCells→vbw,parseUint10→vbx,parseUintB_64→vbE
open Go.Result renaming andThen_ok→BP
open Go.Result.ok renaming injEq→vbh
open Go.ResultVar renaming tmp→CD
open Go.Sem renaming run_bind→CA,run_pure→CB
open Go.Value renaming ownBlock→CE
open Go.World renaming cell?→vaF,setCell→vbs
open Int renaming toNat→AD,toNat_natCast→BE,fdiv→va0
open List renaming length→AF,getD→AH,take→AK,length_cons→AN,drop→AO,mem_cons_self→AR,mem_cons→AS,length_append→AU,mem_append→AV,mem_cons_of_mem→AY,map_cons→AZ,map→A2,getElem?_eq_getElem→A5,length_take→A7,length_nil→BB,drop_eq_getElem_cons→BF,take_length→BI,getElem?_eq_some_iff→BL,replicate→BN,length_map→BQ,getD_eq_getElem?_getD→BS,getElem?_eq_none→BU,not_mem_nil→BW,mem_singleton→BX,drop_zero→BZ,getElem?_map→B9,map_nil→CC,mem_map→CN,all_eq_true→CS,take_of_length_le→CX,length_singleton→CZ,drop_of_length_le→C2,cons_append→C3,getElem_mem→C4,size_toArray→C9,append_nil→DB,mem_of_getElem?→vab,drop_length→vad,mem_of_mem_take→vag,append_assoc→var,getElem?_append→vax,mem_of_mem_drop→vay,range→vaE,length_set→vaI,all_cons→vaM,eq_nil_of_length_eq_zero→vaX,mem_range→va6,getElem?_set_ne→va8,sum_cons→vbb,isPrefixOf→vbr
open Nat renaming le_of_ble_eq_true→AM,le_refl→AW,zero_add→BJ,blt→BK,beq→BO,ble→B6,zero_le→B7,ble_eq_true_of_le→CP,le_trans→CW,add_zero→C6,eq_of_beq_eq_true→vap,strongRecOn→vbz
open Option renaming map_eq_some_iff→DD
open Option.some renaming injEq→AC
open Prod.mk renaming injEq→AQ
open UInt8 renaming toNat_ofNat_of_lt'→vaV
namespace Go.FM
open Go Go.Proofs Go.RowKit
theorem Keep.freeze {O:Nat→Prop} (w:World) (a:Addr) (n:Nat) (h:O a.block):Keep O w (w.freeze a n):=by
 unfold World.freeze;split
 ·exact Keep.refl _ _
 ·exact ⟨rfl,rfl,rfl,by simp,fun b _ hn=>by simp only [vaL]; rw [A9 (fun e:a.block=b=>hn (e ▸ h))]⟩
theorem Keep.setCell {O:Nat→Prop} (w:World) (a:Addr) (v:Value) (h:O a.block):Keep O w (w.setCell a v):=
 ⟨rfl,rfl,rfl,by simp [vbs],fun b _ hn=>Below.heap_setCell _ _ _ _ (fun e=>hn (e ▸ h))⟩
theorem fB {w:World} {b:Nat} {o:Obj} (h:w.heap[b]?=some o):b < w.heap.size:=(C7.1 h).1
theorem Ub:liesAt PR PR.depth 98 (2 / PR.cellsOf 98) 0 98 1=true:=by kernel_rfl
theorem vW:(PR.info? 98).map (·.size)=some 2:=by kernel_rfl
theorem On:(PR.info? 5).map (fun i=>(i.zero,i.size,i.bytes))=some (some (.int .u8 0),1,1):=by kernel_rfl
set_option maxHeartbeats 1000000 in
theorem Ua (b:Nat) (w:World) (h0:w.cell? ⟨b,0,none⟩=some (.pointer (some ⟨b,0,none⟩))) :
  Calls Tryz.prog 148 #[.pointer (some ⟨b,0,none⟩)] w fun e w'=>e = .returned (.tuple #[])∧w'=w:=by
 obtain ⟨j,hj,_⟩:=Option.map_eq_some_iff.1 vW
 go_enter Tryz.func148,Tryz.ntmps148
 go_wp2
 rw [Lib.run_neq_ptr_same w _ Tryz.underlying96 hj]
 go_wp2
 go_end0
 exact ⟨rfl,rfl⟩
set_option maxHeartbeats 1000000 in
theorem Tz (b:Nat) (w:World) (h0:w.cell? ⟨b,0,none⟩=some (.pointer none)) (hsh:w.shape? b=some (98,2)) (hfz:w.frozen? ⟨b,0,none⟩=false) :
  Calls Tryz.prog 148 #[.pointer (some ⟨b,0,none⟩)] w fun e w'=>e = .returned (.tuple #[])∧w'=w.setCell ⟨b,0,none⟩ (.pointer (some ⟨b,0,none⟩)):=by
 obtain ⟨j,hj,hjs⟩:=Option.map_eq_some_iff.1 vW
 go_enter Tryz.func148,Tryz.ntmps148
 go_wp2
 rw [Lib.run_to_unsafe w ⟨b,0,none⟩ Tryz.underlying96 Tryz.underlying226 hj (by rw [hjs]; decide) hsh (Nat.zero_lt_succ 1)];simp only [Result.andThen];rw [Oper.upon_value]
 go_wp2
 rw [run_callFunc_extern Tryz.func192 (by kernel_rfl) (by kernel_rfl) (by kernel_rfl) (e:=Extern.AbiNoEscape.same) (by kernel_rfl)];rw [Lib.run_noEscape];simp only [Result.andThen];rw [Oper.upon_value]
 go_wp2
 rw [Lib.run_from_unsafe w ⟨b,0,none⟩ Tryz.underlying226 Tryz.underlying96 hj hsh Ub];simp only [Result.andThen];rw [Oper.upon_value]
 go_wp2
 go_end0
 exact ⟨rfl,rfl⟩
theorem vU (b:Nat) (p v:Value) (w:World) (hp:p = .pointer none∨p = .pointer (some ⟨b,0,none⟩)) (hbk:w.heap[b]?=some (.cells #[p,v] 98 (0,0))) :
  Calls Tryz.prog 148 #[.pointer (some ⟨b,0,none⟩)] w fun e w'=>e = .returned (.tuple #[])∧w'.heap[b]?=some (.cells #[.pointer (some ⟨b,0,none⟩),v] 98 (0,0))∧Keep (fun k=>k=b) w w'∧w'.heap.size=w.heap.size:=by
 have hc0:w.cell? ⟨b,0,none⟩=some p:=by rw [Lib.cell_of_heap hbk]; rfl
 rcases hp with rfl | rfl
 ·refine (Tz b w hc0 (by simp [World.shape?,hbk]) (Lib.frozen_of_heap hbk 0)).mono ?_;rintro e w' ⟨rfl,rfl⟩;exact ⟨rfl,by simp [vbs,vaL,hbk],Keep.setCell w ⟨b,0,none⟩ _ rfl,by simp [vbs]⟩
 ·refine (Ua b w hc0).mono ?_;rintro e w' ⟨rfl,rfl⟩;exact ⟨rfl,hbk,Keep.refl _ _,rfl⟩
def aM (b:Nat) (v:Value) (bs:List Value) (w w':World):Prop:=
 ∃ v',w'.heap[b]?=some (.cells #[.pointer (some ⟨b,0,none⟩),v'] 98 (0,0))∧w'.ownsRowF 0 5 1 v' bs.length bs∧v'.ownBlock≠some b ∧
  Keep (fun k=>k=b∨v.ownBlock=some k) w w'∧∀ k,v'.ownBlock=some k→v.ownBlock=some k∨w.heap.size≤k
theorem vV {b:Nat} {v v':Value} {bs:List Value} {w w1 w2:World} (hs1:w1.heap.size=w.heap.size) (hk1:Keep (fun k=>k=b) w w1)
  (hb2:w2.heap[b]?=some (.cells #[.pointer (some ⟨b,0,none⟩),v] 98 (0,0))) (hown:w2.ownsRowF 0 5 1 v' bs.length bs) (hk2:Keep (fun k=>v.ownBlock=some k) w1 w2) (hv:∀ k,v'.ownBlock=some k→v.ownBlock=some k∨w1.heap.size≤k) :
  aM b v bs w (w2.setCell ⟨b,1,none⟩ v'):=by
 have hput:=Lib.BuilderAtF.put (T:=98) (e:=5) (B7 b) hb2 hown (by decide);obtain ⟨_,v2,q1,q2,q3⟩:=hput;have e2:v2=v':=by
  have:(w2.setCell ⟨b,1,none⟩ v').heap[b]?=some (.cells #[.pointer (some ⟨b,0,none⟩),v'] 98 (0,0)):=by simp [vbs,vaL,hb2]
  rw [this] at q1;simp at q1;exact q1.symm
 subst e2;refine ⟨v2,q1,q2,q3,?_,fun k hk=>by rw [← hs1]; exact hv k hk⟩;have h3:Keep (fun k=>k=b) w2 (w2.setCell ⟨b,1,none⟩ v2):=Keep.setCell w2 ⟨b,1,none⟩ v2 rfl;refine (hk1.mono (fun _ _ h=>Or.inl h)).trans ((hk2.mono (O':=fun k=>k=b∨v.ownBlock=some k) (fun _ _ h=>Or.inr h)).trans h3 (fun _ _ h=>Or.inl h)) (fun _ _ h=>h)
theorem Ce {w w':World} {v:Value} (hg:w.grownBy w' v.ownBlock):Keep (fun k=>v.ownBlock=some k) w w':=
 ⟨hg.os,hg.tape,hg.output,hg.size,fun b hb hn=>hg.block b hb (fun h=>hn h.symm)⟩
theorem XK {g n c k:Nat} (h:(Value.slice (some ⟨g,0,none⟩) n c).ownBlock=some k):k=g:=by
 simp only [CE,AC] at h;exact h.symm
theorem Th {P:Program} (w:World) (t u ty e:TypeId) (i:TypeInfo) (ht:P.underlying t=some (.slice e)) (hu:P.underlying u=some .string) (hi:P.info? e=some i) (hz:i.zero=some (.int .u8 0)) (hsize:i.size=1) (hby:i.bytes=1)
  (v:Value) (n:Nat) (xs:List Value) (hown:w.ownsRowF 0 e 1 v n xs) (s:BA) (hbytes:n+s.size≤140737488355328) :
  ∃ v' w',(C1 #[t,u] ty #[v,.string s]).run P w = .ok v' w'∧w'.ownsRowF 0 e 1 v' (n+s.size) (xs++DC s)∧w.grownBy w' v.ownBlock∧∀ k,v'.ownBlock=some k→v.ownBlock=some k∨w.heap.size≤k:=by
 have h63:n+s.size≤maxLen:=by unfold maxLen; omega
 rcases hown.2 with ⟨rfl,rfl⟩ | ⟨g,cap,cur,fz,rfl,hbg,hg,hfz,hnc,hcm,hcs,htake⟩
 ·obtain ⟨v',w',h1,h2,h3,_⟩:=Lib.run_append_own_string (P:=P) w w.heap.size t u ty e i ht hu hi hz hsize hby (.slice none 0 0) 0 xs ⟨hown.1,.inl ⟨rfl,rfl⟩⟩ s h63 hbytes (AW _);refine ⟨v',w',h1,⟨h2.1,?_⟩,h3,fun k hk=>.inr ?_⟩
  ·rcases h2.2 with q | ⟨g,cap,cur,q1,_,q2,q3,q4,q5,q6⟩
   ·exact .inl q
   ·exact .inr ⟨g,cap,cur,(0,0),q1,B7 _,q2,B7 _,q3,q4,q5,q6⟩
  ·rcases h2.2 with ⟨rfl,_⟩ | ⟨g,cap,cur,rfl,q1,_⟩
   ·simp [CE] at hk
   ·rw [XK hk]; exact q1
 ·obtain ⟨v',w',h1,h2,h3,_⟩:=Lib.run_append_own_stringF (P:=P) w 0 t u ty e i ht hu hi hz hsize hby _ n xs hown s h63 hbytes (B7 _);refine ⟨v',w',h1,h2,h3,fun k hk=>?_⟩;have hsmall:n+s.size≤9223372036854775807:=by omega
  by_cases hroom:n+s.size≤cap
  ·have hr:=Lib.run_append_room_stringF (P:=P) w t u ty e i ht hu hi hsize g n cap cur fz hg (by simpa using hfz) s hroom (by simp at hcs; omega);rw [h1] at hr;simp only [vbh] at hr;obtain ⟨rfl,_⟩:=hr;exact .inl (by rw [XK hk]; rfl)
  ·have hxl:xs.length=n:=by simpa using hown.1
   have hr:=Lib.run_append_grow_string (P:=P) w t u ty e i (.int .u8 0) ht hu hi hz ⟨g,0,none⟩ n cap xs (by rw [hsize]; simpa using hxl) (hown.cells (g:=g) rfl) s (by omega) (by omega) (by rw [hby]; exact growslice_fits (by omega) (by omega));rw [h1] at hr;simp only [vbh] at hr;obtain ⟨rfl,_⟩:=hr;exact .inr (by rw [XK hk]; exact AW _)
theorem zjJ {P:Program} {w:World} {ops:Array Oper} {rest:List Oper} {o:Oper} {a:Act} {Q:Exit→Act→World→Prop} (hgd:o.guard=none) (sl x:Operand) (t u:TypeId)
  (ho:o.op = .call { callee:=.builtin .append,args:=#[sl,x],argTypes:=#[t,u] })
  (e:TypeId) (i:TypeInfo) (ht:P.underlying t=some (.slice e)) (hu:P.underlying u=some .string) (hi:P.info? e=some i) (hz:i.zero=some (.int .u8 0)) (hsize:i.size=1) (hby:i.bytes=1)
  (v:Value) (n:Nat) (xs:List Value) (hs:a.eval sl=v) (hown:w.ownsRowF 0 e 1 v n xs) (s:BA) (hx:a.eval x = .string s) (hbytes:n+s.size≤140737488355328)
  (h:∀ v' w',w'.ownsRowF 0 e 1 v' (n+s.size) (xs++DC s)→w.grownBy w' v.ownBlock→(∀ k,v'.ownBlock=some k→v.ownBlock=some k∨w.heap.size≤k)→wpList P ops Q rest (a.put o.dst v') w'):wpList P ops Q (o :: rest) a w:=by
 refine wpList_plain hgd fun K hK=>?_
 obtain ⟨v',w',hr,h2,h3,h4⟩:=Th (P:=P) w t u o.type e i ht hu hi hz hsize hby v n xs hown s hbytes;unfold Oper.wp execOp;simp only [ho,resolve,invoke,builtin,CA,CB,BP,List.map_toArray,AZ,CC,hs,hx,hr];exact hK _ _ (h v' w' h2 h3 h4)
theorem Te {P:Program} (w:World) (t ty e:TypeId) (i:TypeInfo) (ht:P.underlying t=some (.slice e)) (hi:P.info? e=some i) (hz:i.zero=some (.int .u8 0)) (hsize:i.size=1) (hby:i.bytes=1)
  (v:Value) (n:Nat) (xs:List Value) (hown:w.ownsRowF 0 e 1 v n xs) (ad:Addr) (c:Nat) (x:Int) (hx:w.cell? ad=some (.int .u8 x)) (hbytes:n+1≤140737488355328) :
  ∃ v' w',(C1 #[t,t] ty #[v,.slice (some ad) 1 c]).run P w = .ok v' w'∧w'.ownsRowF 0 e 1 v' (n+1) (xs++[.int .u8 x])∧w.grownBy w' v.ownBlock∧∀ k,v'.ownBlock=some k→v.ownBlock=some k∨w.heap.size≤k:=by
 have h63:n+1≤maxLen:=by unfold maxLen; omega
 have hnews:∀ j u,[Value.int .u8 x][j]?=some u→w.cell? (ad.add j)=some u:=by
  intro j u hj
  match j,hj with
  | 0,hj=>simp at hj; subst hj; obtain ⟨b,o,p⟩:=ad; cases p <;> simpa [Addr.add] using hx
 have h1c:∀ u∈[Value.int .u8 x],u.oneCell'=true:=fun u hu=>by simp at hu; subst hu; rfl
 rcases hown.2 with ⟨rfl,rfl⟩ | ⟨g,cap,cur,fz,rfl,hbg,hg,hfz,hnc,hcm,hcs,htake⟩
 ·obtain ⟨v',w',h1,h2,h3,_⟩:=run_append_own (P:=P) w w.heap.size t ty e i (.int .u8 0) 1 1 ht hi hz hsize hby rfl (by decide) (.slice none 0 0) 0 xs ⟨hown.1,.inl ⟨rfl,rfl⟩⟩ ad 1 c [.int .u8 x] rfl hnews h1c h63 (by omega) (AW _);refine ⟨v',w',h1,⟨h2.1,?_⟩,h3,fun k hk=>.inr ?_⟩
  ·rcases h2.2 with q | ⟨g,cap,cur,q1,_,q2,q3,q4,q5,q6⟩
   ·exact .inl q
   ·exact .inr ⟨g,cap,cur,(0,0),q1,B7 _,q2,B7 _,q3,q4,q5,q6⟩
  ·rcases h2.2 with ⟨rfl,_⟩ | ⟨g,cap,cur,rfl,q1,_⟩
   ·simp [CE] at hk
   ·rw [XK hk]; exact q1
 ·obtain ⟨v',w',h1,h2,h3,_⟩:=run_append_ownF (P:=P) w 0 t ty e i (.int .u8 0) 1 1 ht hi hz hsize hby rfl (by decide) _ n xs hown ad 1 c [.int .u8 x] rfl hnews h1c h63 (by omega) (B7 _);refine ⟨v',w',h1,h2,h3,fun k hk=>?_⟩;by_cases hroom:n+1≤cap
  ·have hr:=run_append_roomF (P:=P) w t ty e i ht hi g n cap cur fz hg (by rw [hsize]; simpa using hfz) ad 1 c [.int .u8 x] (by rw [hsize]; rfl) hnews h1c hroom (by rw [hsize]; simp at hcs ⊢; omega);rw [h1] at hr;simp only [vbh] at hr;obtain ⟨rfl,_⟩:=hr;exact .inl (by rw [XK hk]; rfl)
  ·have hxl:xs.length=n:=by simpa using hown.1
   have hr:=run_append_grow (P:=P) w t ty e i (.int .u8 0) ht hi hz ⟨g,0,none⟩ n cap xs (by rw [hsize]; simpa using hxl) (hown.cells (g:=g) rfl) ad 1 c [.int .u8 x] (by rw [hsize]; rfl) hnews (by omega) (by omega) (by rw [hby]; exact growslice_fits (by omega) (by omega));rw [h1] at hr;simp only [vbh] at hr;obtain ⟨rfl,_⟩:=hr;exact .inr (by rw [XK hk]; exact AW _)
theorem zjI {P:Program} {w:World} {ops:Array Oper} {rest:List Oper} {o:Oper} {a:Act} {Q:Exit→Act→World→Prop} (hgd:o.guard=none) (sl x:Operand) (t:TypeId)
  (ho:o.op = .call { callee:=.builtin .append,args:=#[sl,x],argTypes:=#[t,t] })
  (e:TypeId) (i:TypeInfo) (ht:P.underlying t=some (.slice e)) (hi:P.info? e=some i) (hz:i.zero=some (.int .u8 0)) (hsize:i.size=1) (hby:i.bytes=1)
  (v:Value) (n:Nat) (xs:List Value) (hs:a.eval sl=v) (hown:w.ownsRowF 0 e 1 v n xs) (ad:Addr) (c:Nat) (y:Int) (hx:a.eval x = .slice (some ad) 1 c) (hc:w.cell? ad=some (.int .u8 y)) (hbytes:n+1≤140737488355328)
  (h:∀ v' w',w'.ownsRowF 0 e 1 v' (n+1) (xs++[.int .u8 y])→w.grownBy w' v.ownBlock→(∀ k,v'.ownBlock=some k→v.ownBlock=some k∨w.heap.size≤k)→wpList P ops Q rest (a.put o.dst v') w'):wpList P ops Q (o :: rest) a w:=by
 refine wpList_plain hgd fun K hK=>?_
 obtain ⟨v',w',hr,h2,h3,h4⟩:=Te (P:=P) w t o.type e i ht hi hz hsize hby v n xs hown ad c y hc hbytes;unfold Oper.wp execOp;simp only [ho,resolve,invoke,builtin,CA,CB,BP,List.map_toArray,AZ,CC,hs,hx,hr];exact hK _ _ (h v' w' h2 h3 h4)
theorem rF {w:World} {e:Nat} {v:Value} {bs:List Value} {n k:Nat} (hown:w.ownsRowF 0 e 1 v n bs) (hk:v.ownBlock=some k):k < w.heap.size:=by
 rcases hown.2 with ⟨rfl,_⟩ | ⟨g,cap,cur,fz,rfl,_,hg,_⟩
 ·simp [CE] at hk
 ·rw [XK hk];exact fB hg
set_option maxHeartbeats 2000000 in
theorem Uj (b:Nat) (p v:Value) (bs:List Value) (s:BA) (w:World) (hp:p = .pointer none∨p = .pointer (some ⟨b,0,none⟩)) (hbk:w.heap[b]?=some (.cells #[p,v] 98 (0,0)))
  (hown:w.ownsRowF 0 5 1 v bs.length bs) (hne:v.ownBlock≠some b) (hlen:bs.length+s.size≤140737488355328) :
  Calls Tryz.prog 94 #[.pointer (some ⟨b,0,none⟩),.string s] w fun e w'=>e = .returned (.tuple #[.int .i64 s.size,.nilIface])∧aM b v (bs++Lib.strCells s) w w':=by
 obtain ⟨i0,hi,hz0,hz1,hz2⟩:=info_parts On
 go_enter Tryz.func94,Tryz.ntmps94
 go_wp2_with (go_at_call 148; refine (vU b p v _ hp hbk).mono ?_)
 rintro e w1 ⟨rfl,hb1,hk1,hs1⟩;have HS:Hid (w1.heap.size=w.heap.size):=hs1;clear hs1;have hown1:w1.ownsRowF 0 5 1 v bs.length bs:=ZG hown (fun k hk=>hk1.block k (rF hown hk) (fun e=>hne (e ▸ hk)));have c0:w1.cell? ⟨b,0,none⟩=some (.pointer (some ⟨b,0,none⟩)):=by rw [Lib.cell_of_heap hb1]; rfl
 have c1:w1.cell? ⟨b,1,none⟩=some v:=by rw [Lib.cell_of_heap hb1]; rfl
 go_wp2_with (at_builtin; refine zjJ rfl _ _ 51 9 rfl 5 i0 Tryz.underlying51 Tryz.underlying9 hi hz0 hz1 hz2 _ _ _ rfl hown1 s rfl hlen ?_)
 intro v' w2 hown' hgrow hblk;have hlt:b < w1.heap.size:=fB hb1;have hb2:w2.heap[b]?=some (.cells #[.pointer (some ⟨b,0,none⟩),v] 98 (0,0)):=by
  rw [hgrow.block b hlt (fun e=>hne e.symm)];exact hb1
 have d0:w2.cell? ⟨b,0,none⟩=some (.pointer (some ⟨b,0,none⟩)):=by rw [Lib.cell_of_heap hb2]; rfl
 have d1:w2.cell? ⟨b,1,none⟩=some v:=by rw [Lib.cell_of_heap hb2]; rfl
 have f1:w2.frozen? ⟨b,1,none⟩=false:=Lib.frozen_of_heap hb2 1;have hX:Hid (aM b v (bs++Lib.strCells s) w (w2.setCell ⟨b,1,none⟩ v')):=vV HS hk1 hb2 (by simpa [Lib.strCells_length] using hown') (Ce hgrow) hblk;clear hblk HS;obtain ⟨ao,n',cap,rfl⟩:∃ ao n' cap,v' = .slice ao n' cap:=by
  rcases hown'.2 with ⟨hv,_⟩ | ⟨g,cap,cur,fz,hv,_⟩
  ·exact ⟨_,_,_,hv⟩
  ·exact ⟨_,_,_,hv⟩
 go_wp2
 go_ret2
 exact ⟨rfl,hX⟩
set_option maxHeartbeats 2000000 in
theorem Ui (b:Nat) (p v:Value) (bs:List Value) (c:Int) (w:World) (hp:p = .pointer none∨p = .pointer (some ⟨b,0,none⟩)) (hbk:w.heap[b]?=some (.cells #[p,v] 98 (0,0)))
  (hown:w.ownsRowF 0 5 1 v bs.length bs) (hne:v.ownBlock≠some b) (hlen:bs.length+1≤140737488355328) :
  Calls Tryz.prog 105 #[.pointer (some ⟨b,0,none⟩),.int .u8 c] w fun e w'=>e = .returned .nilIface∧aM b v (bs++[.int .u8 c]) w w':=by
 obtain ⟨i0,hi,hz0,hz1,hz2⟩:=info_parts On
 go_enter Tryz.func105,Tryz.ntmps105
 go_wp2_with (go_at_call 148; refine (vU b p v _ hp hbk).mono ?_)
 rintro e w1 ⟨rfl,hb1,hk1,hs1⟩;have HS:Hid (w1.heap.size=w.heap.size):=hs1;clear hs1;have hown1:w1.ownsRowF 0 5 1 v bs.length bs:=ZG hown (fun k hk=>hk1.block k (rF hown hk) (fun e=>hne (e ▸ hk)));have c0:w1.cell? ⟨b,0,none⟩=some (.pointer (some ⟨b,0,none⟩)):=by rw [Lib.cell_of_heap hb1]; rfl
 have c1:w1.cell? ⟨b,1,none⟩=some v:=by rw [Lib.cell_of_heap hb1]; rfl
 have hlt:b < w1.heap.size:=fB hb1
 go_wp2_with (at_builtin; refine zjI rfl _ _ 51 rfl 5 i0 Tryz.underlying51 hi hz0 hz1 hz2 _ _ _ rfl (hown1.alloc _) ⟨w1.heap.size,0,none⟩ 1 c rfl (by rw [Lib.cell_of_heap (heap_alloc_new w1 _)]; rfl) hlen ?_)
 intro v' w2 hown' hgrow hblk;have hb2:w2.heap[b]?=some (.cells #[.pointer (some ⟨b,0,none⟩),v] 98 (0,0)):=by
  rw [hgrow.block b (by simp; omega) (fun e=>hne e.symm),Lib.alloc_old w1 _ b hlt];exact hb1
 have d0:w2.cell? ⟨b,0,none⟩=some (.pointer (some ⟨b,0,none⟩)):=by rw [Lib.cell_of_heap hb2]; rfl
 have d1:w2.cell? ⟨b,1,none⟩=some v:=by rw [Lib.cell_of_heap hb2]; rfl
 have f1:w2.frozen? ⟨b,1,none⟩=false:=Lib.frozen_of_heap hb2 1;have hX:Hid (aM b v (bs++[.int .u8 c]) w (w2.setCell ⟨b,1,none⟩ v')):=vV HS hk1 hb2 (by simpa using hown') (((Keep.alloc (fun k=>v.ownBlock=some k) w1 _)).trans (Ce hgrow) (fun _ _ h=>h)) (fun k hk=>(hblk k hk).imp_right (fun h=>by first | omega | (simp at h; omega)));clear hblk HS;obtain ⟨ao,n',cap,rfl⟩:∃ ao n' cap,v' = .slice ao n' cap:=by
  rcases hown'.2 with ⟨hv,_⟩ | ⟨g,cap,cur,fz,hv,_⟩
  ·exact ⟨_,_,_,hv⟩
  ·exact ⟨_,_,_,hv⟩
 go_wp2
 go_ret
 exact ⟨rfl,hX⟩
def ON (b:Nat) (p v:Value) (n:Nat) (bs:List Value) (w w':World):Prop:=
 w'.heap[b]?=some (.cells #[p,v] 98 (0,0))∧w'.ownsRowF 0 5 1 v n bs∧Keep (fun k=>k=b∨v.ownBlock=some k) w w'
theorem ziW {b g cap:Nat} {p:Value} {bs:List Value} {w:World} (hbk:w.heap[b]?=some (.cells #[p,.slice (some ⟨g,0,none⟩) bs.length cap] 98 (0,0))) (hown:w.ownsRowF 0 5 1 (.slice (some ⟨g,0,none⟩) bs.length cap) bs.length bs) (hne:(Value.slice (some ⟨g,0,none⟩) bs.length cap).ownBlock≠some b) :
  ON b p (.slice (some ⟨g,0,none⟩) bs.length cap) bs.length bs w (w.drew.freeze ⟨g,0,none⟩ bs.length):=by
 have hA:Lib.BuilderAtF 98 5 0 b p bs w.drew:=⟨B7 _,_,hbk,hown,hne⟩;have c1:w.drew.cell? ⟨b,1,none⟩=some (.slice (some ⟨g,0,none⟩) bs.length cap):=by
  have:w.drew.heap[b]?=some (.cells #[p,.slice (some ⟨g,0,none⟩) bs.length cap] 98 (0,0)):=hbk
  rw [Lib.cell_of_heap this]; rfl
 obtain ⟨_,v',q1,q2,q3⟩:=hA.froze c1;have hk:Keep (fun k=>k=g) w (w.drew.freeze ⟨g,0,none⟩ bs.length):=(Keep.drew _ w).trans (Keep.freeze (O:=fun k=>k=g) w.drew ⟨g,0,none⟩ _ rfl) (fun _ _ h=>h);have hgb:b≠g:=fun e=>hne (by simp [CE,e])
 have hb2:(w.drew.freeze ⟨g,0,none⟩ bs.length).heap[b]?=some (.cells #[p,.slice (some ⟨g,0,none⟩) bs.length cap] 98 (0,0)):=(hk.block b (fB hbk) hgb).trans hbk;have e:v' = .slice (some ⟨g,0,none⟩) bs.length cap:=by
  rw [hb2] at q1;simp at q1;exact q1.symm
 subst e;exact ⟨hb2,q2,hk.mono (fun k _ h=>.inr (by rw [h]; rfl))⟩
set_option maxHeartbeats 1000000 in
theorem Uh (b g cap:Nat) (p:Value) (l:List UInt8) (w:World) (h0:l≠[]) (hbk:w.heap[b]?=some (.cells #[p,.slice (some ⟨g,0,none⟩) l.length cap] 98 (0,0)))
  (hown:w.ownsRowF 0 5 1 (.slice (some ⟨g,0,none⟩) l.length cap) l.length (Lib.byteCells l)) (hne:(Value.slice (some ⟨g,0,none⟩) l.length cap).ownBlock≠some b) :
  Calls Tryz.prog 47 #[.pointer (some ⟨b,0,none⟩)] w fun e w'=>e = .returned (.string ⟨l.toArray⟩)∧ON b p (.slice (some ⟨g,0,none⟩) l.length cap) l.length (Lib.byteCells l) w w':=by
 have hl0:l.length≠0:=by simpa using h0
 obtain ⟨cur,fz,hg,hnc,hcm,hcs⟩:∃ cur fz,w.heap[g]?=some (.cells cur 5 fz)∧l.length≤cap∧cap≤maxLen∧cur.size=cap*1:=by
  rcases hown.2 with ⟨hv,_⟩ | ⟨g',cap',cur,fz,hv,_,q1,_,q2,q3,q4,_⟩
  ·cases hv
  ·injection hv with ha _ hc
   injection ha with ha
   injection ha with hgg
   subst hgg; subst hc;exact ⟨cur,fz,q1,q2,q3,q4⟩
 have c1:w.drew.cell? ⟨b,1,none⟩=some (.slice (some ⟨g,0,none⟩) l.length cap):=by
  have:w.drew.heap[b]?=some (.cells #[p,.slice (some ⟨g,0,none⟩) l.length cap] 98 (0,0)):=hbk
  rw [Lib.cell_of_heap this]; rfl
 have hSD:(Builtin.unsafeSliceData_ #[51] 161 #[.slice (some ⟨g,0,none⟩) l.length cap]).run Tryz.prog w.drew = .ok (.pointer (some ⟨g,0,none⟩)) w.drew:=
  Lib.run_unsafeSliceData_row _ _ _ _ _ _ (by omega)
 have hcells:PR.cellsOf 5=1:=by kernel_rfl
 have hUS:(Builtin.unsafeString_ #[161,3] 9 #[.pointer (some ⟨g,0,none⟩),.int .i64 l.length]).run Tryz.prog w.drew = .ok (.string ⟨l.toArray⟩) (w.drew.freeze ⟨g,0,none⟩ l.length):=by
  refine Lib.run_unsafeString_row w.drew 161 3 9 5 Tryz.underlying161 hcells g cur.size (by have hg':w.drew.heap[g]?=some (.cells cur 5 fz):=hg; simp [World.shape?,hg']) l h0 (by omega) (by unfold maxLen at hcm; omega) ?_;intro j x hx
  have:=hown.cells (g:=g) rfl j (.int .u8 x.toNat) (by simp [Lib.byteCells,hx])
  exact this
 have hP:Hid (ON b p (.slice (some ⟨g,0,none⟩) l.length cap) l.length (Lib.byteCells l) w (w.drew.freeze ⟨g,0,none⟩ l.length)):=by
  have:=ziW (bs:=Lib.byteCells l) (by rw [Lib.byteCells_length]; exact hbk) (by rw [Lib.byteCells_length]; exact hown) (by rw [Lib.byteCells_length]; exact hne)
  rw [Lib.byteCells_length] at this;exact this
 clear hcells hcs hg hnc hcm hl0
 go_enter Tryz.func47,Tryz.ntmps47
 go_wp2
 go_region
 all_goals (go_wp2; go_ret; exact ⟨rfl,hP⟩)
set_option maxHeartbeats 2000000 in
theorem Ue (b:Nat) (p:Value) (w:World) (hbk:w.heap[b]?=some (.cells #[p,.slice none 0 0] 98 (0,0))) :
  Calls Tryz.prog 47 #[.pointer (some ⟨b,0,none⟩)] w fun e w'=>e = .returned (.string ⟨#[]⟩)∧ON b p (.slice none 0 0) 0 [] w w':=by
 have hUS:∀ (W:World) (q:Option Addr),(Builtin.unsafeString_ #[161,3] 9 #[.pointer q,.int .i64 0]).run Tryz.prog W = .ok (.string .empty) W:=fun W q=>Lib.run_unsafeString_none W _ _ _ q
 have c1:w.drew.cell? ⟨b,1,none⟩=some (.slice none 0 0):=by
  have:w.drew.heap[b]?=some (.cells #[p,.slice none 0 0] 98 (0,0)):=hbk
  rw [Lib.cell_of_heap this]; rfl
 have hSD:(Builtin.unsafeSliceData_ #[51] 161 #[.slice none 0 0]).run Tryz.prog w.drew = .ok (.pointer none) w.drew:=rfl;have hP:Hid (ON b p (.slice none 0 0) 0 [] w w.drew):=⟨hbk,⟨rfl,.inl ⟨rfl,rfl⟩⟩,Keep.drew _ w⟩
 go_enter Tryz.func47,Tryz.ntmps47
 go_wp2
 go_region
 all_goals (go_wp2; go_ret; exact ⟨rfl,hP⟩)
set_option maxHeartbeats 2000000 in
theorem Uf (b g:Nat) (p:Value) (cur:Array Value) (fz:Nat × Nat) (w:World) (hbk:w.heap[b]?=some (.cells #[p,.slice (some ⟨g,0,none⟩) 0 0] 98 (0,0))) (hg:w.heap[g]?=some (.cells cur 5 fz)) (hown:w.ownsRowF 0 5 1 (.slice (some ⟨g,0,none⟩) 0 0) 0 []) :
  Calls Tryz.prog 47 #[.pointer (some ⟨b,0,none⟩)] w fun e w'=>e = .returned (.string ⟨#[]⟩)∧ON b p (.slice (some ⟨g,0,none⟩) 0 0) 0 [] w w':=by
 have hUS:∀ (W:World) (q:Option Addr),(Builtin.unsafeString_ #[161,3] 9 #[.pointer q,.int .i64 0]).run Tryz.prog W = .ok (.string .empty) W:=fun W q=>Lib.run_unsafeString_none W _ _ _ q
 have hlt:b < w.heap.size:=fB hbk;have c1:w.drew.cell? ⟨b,1,none⟩=some (.slice (some ⟨g,0,none⟩) 0 0):=by
  have:w.drew.heap[b]?=some (.cells #[p,.slice (some ⟨g,0,none⟩) 0 0] 98 (0,0)):=hbk
  rw [Lib.cell_of_heap this]; rfl
 have hSD:(Builtin.unsafeSliceData_ #[51] 161 #[.slice (some ⟨g,0,none⟩) 0 0]).run Tryz.prog w.drew = .ok (.pointer (some ⟨w.drew.heap.size,0,none⟩)) (w.drew.alloc (.view ⟨g,0,none⟩ 5)):=
  Lib.run_unsafeSliceData_zero w.drew _ _ 5 Tryz.underlying161 ⟨g,0,none⟩ 0 (5,cur.size) (by have hg':w.drew.heap[g]?=some (.cells cur 5 fz):=hg; simp [World.shape?,hg'])
 have c2:(w.drew.alloc (.view ⟨g,0,none⟩ 5)).cell? ⟨b,1,none⟩=some (.slice (some ⟨g,0,none⟩) 0 0):=by
  have:(w.drew.alloc (.view ⟨g,0,none⟩ 5)).heap[b]?=_:=(Lib.alloc_old w.drew _ b hlt).trans hbk
  rw [Lib.cell_of_heap this]; rfl
 have c3:(w.alloc (.view ⟨g,0,none⟩ 5)).drew.cell? ⟨b,1,none⟩=some (.slice (some ⟨g,0,none⟩) 0 0):=c2;have c0:w.cell? ⟨b,1,none⟩=some (.slice (some ⟨g,0,none⟩) 0 0):=c1;have hP:∀ W:World,W.heap=(w.drew.alloc (.view ⟨g,0,none⟩ 5)).heap→W.os=w.os→W.tape=w.tape→W.output=w.output→ON b p (.slice (some ⟨g,0,none⟩) 0 0) 0 [] w W:=by
  intro W h1 h2 h3 h4;have hk:Keep (fun k=>k=b∨(Value.slice (some ⟨g,0,none⟩) 0 0).ownBlock=some k) w W:=by
   have:=Keep.alloc (fun _=>False) w.drew (.view ⟨g,0,none⟩ 5)
   exact ⟨h2,h3,h4,by rw [h1]; exact this.size,fun k hk _=>by rw [h1]; exact this.block k hk (fun h=>h)⟩
  have hblk:∀ k,k < w.heap.size→W.heap[k]?=w.heap[k]?:=fun k hk=>by
   rw [h1]; exact (Keep.alloc (fun _=>False) w.drew (.view ⟨g,0,none⟩ 5)).block k hk (fun h=>h)
  exact ⟨(hblk b hlt).trans hbk,ZG hown (fun k hk=>hblk k (rF hown hk)),hk⟩
 have hP:Hid (∀ W:World,W.heap=(w.drew.alloc (.view ⟨g,0,none⟩ 5)).heap→W.os=w.os→W.tape=w.tape→W.output=w.output→ON b p (.slice (some ⟨g,0,none⟩) 0 0) 0 [] w W):=hP
 go_enter Tryz.func47,Tryz.ntmps47
 go_wp2
 go_region
 all_goals (go_wp2; go_ret; exact ⟨rfl,hP _ rfl rfl rfl rfl⟩)
set_option maxHeartbeats 2000000 in
theorem Ug (b g cap:Nat) (p:Value) (w:World) (hc0:cap≠0) (hbk:w.heap[b]?=some (.cells #[p,.slice (some ⟨g,0,none⟩) 0 cap] 98 (0,0))) (hown:w.ownsRowF 0 5 1 (.slice (some ⟨g,0,none⟩) 0 cap) 0 []) :
  Calls Tryz.prog 47 #[.pointer (some ⟨b,0,none⟩)] w fun e w'=>e = .returned (.string ⟨#[]⟩)∧ON b p (.slice (some ⟨g,0,none⟩) 0 cap) 0 [] w w':=by
 have hUS:∀ (W:World) (q:Option Addr),(Builtin.unsafeString_ #[161,3] 9 #[.pointer q,.int .i64 0]).run Tryz.prog W = .ok (.string .empty) W:=fun W q=>Lib.run_unsafeString_none W _ _ _ q
 have c1:w.drew.cell? ⟨b,1,none⟩=some (.slice (some ⟨g,0,none⟩) 0 cap):=by
  have:w.drew.heap[b]?=some (.cells #[p,.slice (some ⟨g,0,none⟩) 0 cap] 98 (0,0)):=hbk
  rw [Lib.cell_of_heap this]; rfl
 have hSD:(Builtin.unsafeSliceData_ #[51] 161 #[.slice (some ⟨g,0,none⟩) 0 cap]).run Tryz.prog w.drew = .ok (.pointer (some ⟨g,0,none⟩)) w.drew:=
  Lib.run_unsafeSliceData_row _ _ _ _ _ _ hc0
 clear hc0;have hP:Hid (ON b p (.slice (some ⟨g,0,none⟩) 0 cap) 0 [] w w.drew):=⟨hbk,hown,Keep.drew _ w⟩
 go_enter Tryz.func47,Tryz.ntmps47
 go_wp2
 go_region
 all_goals (go_wp2; go_ret; exact ⟨rfl,hP⟩)
theorem ziV (s:BA):DC s=vbw s.data.toList:=by
 simp [DC,vbw]
theorem Ud (b:Nat) (p v:Value) (s:BA) (w:World) (hbk:w.heap[b]?=some (.cells #[p,v] 98 (0,0))) (hown:w.ownsRowF 0 5 1 v s.size (DC s)) (hne:v.ownBlock≠some b) :
  Calls Tryz.prog 47 #[.pointer (some ⟨b,0,none⟩)] w fun e w'=>e = .returned (.string s)∧ON b p v s.size (DC s) w w':=by
 obtain ⟨⟨l⟩⟩:=s;rw [ziV] at hown ⊢
 change w.ownsRowF 0 5 1 v l.length (vbw l) at hown
 change Calls Tryz.prog 47 #[.pointer (some ⟨b,0,none⟩)] w fun e w'=>e = .returned (.string ⟨l.toArray⟩)∧ON b p v l.length (vbw l) w w'
 by_cases h0:l=[]
 ·subst h0;rcases hown.2 with ⟨rfl,_⟩ | ⟨g,cap,cur,fz,rfl,_,hg,_⟩
  ·exact Ue b p w hbk
  ·by_cases hc:cap=0
   ·subst hc;exact Uf b g p cur fz w hbk hg hown
   ·exact Ug b g cap p w hc hbk hown
 ·rcases hown.2 with ⟨rfl,hz⟩ | ⟨g,cap,cur,fz,rfl,_⟩
  ·exact absurd (vaX hz) h0
  ·exact Uh b g cap p l w h0 hbk hown hne
end Go.FM
namespace Go.Proofs
open Go.Shelf
def Tryz.lays156_ren:Go.Shelf.Ren:=⟨fun | 156=>44 | 165=>103 | 166=>94 | 169=>47 | 240=>148 | 241=>162 | 276=>192 | 277=>205 | n=>n,fun | 31=>65 | 9=>9 | 3=>3 | 4=>4 | 0=>0 | 20=>20 | 72=>98 | 76=>150 | 70=>96 | 37=>51 | 75=>149 | 127=>161 | 164=>226 | 5=>5 | 80=>102 | n=>n,fun | n=>n⟩
theorem Tryz.lays156:Go.Proofs.Lays.n156 Tryz.prog Tryz.lays156_ren:= by constructor <;> first | kernel_rfl | (intro _; kernel_rfl)
theorem Tryz.Builder_Extra_156:Builder.Extra Tryz.prog Tryz.lays156_ren:={
 sizeBuilder:=by kernel_rfl
 liesBuilder:=by kernel_rfl
 t5:=Tryz.underlying5
 a5:=Tryz.isAgg5
 z5:=Tryz.sizeOf5
 v5:=Tryz.zeroValue5
 infoByte:=by kernel_rfl
 cellsByte:=by kernel_rfl
 sizeByte:=by kernel_rfl
 neB5:=by decide }
open Go.RowKit in
theorem Tryz.strings_Join_none (a:Option Addr) (c:Nat) (sep:BA) (w:World) :
 Calls Tryz.prog 44 #[.slice a 0 c,.string sep] w fun e w'=>e = .returned (.string ⟨#[]⟩)∧w'=w:=Any.strings_Join_none Tryz.lays156 Tryz.Builder_Extra_156 a c sep w
open Go.RowKit in
theorem Tryz.strings_Join (bk o c:Nat) (xs:List BA) (sep:BA) (w:World) (hcells:∀ (j:Nat) x,xs[j]?=some x→w.cell? ⟨bk,o+j,none⟩=some (.string x)) (hbk:bk < w.heap.size) (hN:xs.length≤140737488355328) (hcap:xs.length≤c) (hlen:(Lib.join (xs.map (·.data.toList)) sep.data.toList).length≤140737488355328) :
 Calls Tryz.prog 44 #[.slice (some ⟨bk,o,none⟩) xs.length c,.string sep] w fun e w'=>e = .returned (.string ⟨(Lib.join (xs.map (·.data.toList)) sep.data.toList).toArray⟩)∧Below w.heap.size w w':=Any.strings_Join Tryz.lays156 Tryz.Builder_Extra_156 bk o c xs sep w hcells hbk hN hcap hlen
def Tryz.lays162_ren:Go.Shelf.Ren:=⟨fun | 162=>101 | 232=>155 | 227=>156 | 234=>157 | 236=>158 | 228=>200 | 271=>201 | 151=>202 | 120=>238 | 197=>223 | 152=>239 | 260=>249 | 137=>121 | 119=>263 | 224=>227 | 225=>226 | 217=>177 | 266=>213 | n=>n,fun | 9=>9 | 4=>4 | 3=>3 | 5=>5 | 117=>195 | 116=>194 | 0=>0 | 124=>198 | 21=>21 | 105=>237 | 46=>156 | 119=>296 | 139=>299 | 138=>298 | n=>n,fun | 3=>4 | 4=>5 | n=>n⟩
theorem Tryz.lays162:Go.Proofs.Lays.n162 Tryz.prog Tryz.lays162_ren:={
 mixed:=by kernel_rfl
 f119:=Tryz.func263.trans (congrArg some (by kernel_rfl))
 f120:=Tryz.func238.trans (congrArg some (by kernel_rfl))
 f137:=Tryz.func121.trans (congrArg some (by kernel_rfl))
 f151:=Tryz.func202.trans (congrArg some (by kernel_rfl))
 f152:=Tryz.func239.trans (congrArg some (by kernel_rfl))
 f162:=Tryz.func101.trans (congrArg some (by kernel_rfl))
 f197:=Tryz.func223.trans (congrArg some (by kernel_rfl))
 f217:=Tryz.func177.trans (congrArg some (by kernel_rfl))
 f224:=Tryz.func227.trans (congrArg some (by kernel_rfl))
 f225:=Tryz.func226.trans (congrArg some (by kernel_rfl))
 f227:=Tryz.func156.trans (congrArg some (by kernel_rfl))
 f228:=Tryz.func200.trans (congrArg some (by kernel_rfl))
 f232:=Tryz.func155.trans (congrArg some (by kernel_rfl))
 f234:=Tryz.func157.trans (congrArg some (by kernel_rfl))
 f236:=Tryz.func158.trans (congrArg some (by kernel_rfl))
 f260:=Tryz.func249.trans (congrArg some (by kernel_rfl))
 f266:=Tryz.func213.trans (congrArg some (by kernel_rfl))
 f271:=Tryz.func201.trans (congrArg some (by kernel_rfl))
 t0:=Tryz.underlying0
 a0:=Tryz.isAgg0
 z0:=Tryz.sizeOf0
 v0:=Tryz.zeroValue0
 t3:=Tryz.underlying3
 a3:=Tryz.isAgg3
 z3:=Tryz.sizeOf3
 v3:=Tryz.zeroValue3
 t4:=Tryz.underlying4
 a4:=Tryz.isAgg4
 z4:=Tryz.sizeOf4
 v4:=Tryz.zeroValue4
 t5:=Tryz.underlying5
 a5:=Tryz.isAgg5
 z5:=Tryz.sizeOf5
 v5:=Tryz.zeroValue5
 t9:=Tryz.underlying9
 a9:=Tryz.isAgg9
 z9:=Tryz.sizeOf9
 v9:=Tryz.zeroValue9
 t21:=Tryz.underlying21
 a21:=Tryz.isAgg21
 z21:=Tryz.sizeOf21
 v21:=Tryz.zeroValue21
 t46:=Tryz.underlying156
 a46:=Tryz.isAgg156
 z46:=Tryz.sizeOf156
 v46:=Tryz.zeroValue156
 t105:=Tryz.underlying237
 a105:=Tryz.isAgg237
 z105:=Tryz.sizeOf237
 v105:=Tryz.zeroValue237
 t116:=Tryz.underlying194
 a116:=Tryz.isAgg194
 z116:=Tryz.sizeOf194
 t117:=Tryz.underlying195
 a117:=Tryz.isAgg195
 z117:=Tryz.sizeOf195
 v117:=Tryz.zeroValue195
 t119:=Tryz.underlying296
 a119:=Tryz.isAgg296
 z119:=Tryz.sizeOf296
 t124:=Tryz.underlying198
 a124:=Tryz.isAgg198
 z124:=Tryz.sizeOf198
 v124:=Tryz.zeroValue198
 t138:=Tryz.underlying298
 a138:=Tryz.isAgg298
 z138:=Tryz.sizeOf298
 v138:=Tryz.zeroValue298
 t139:=Tryz.underlying299
 a139:=Tryz.isAgg299
 z139:=Tryz.sizeOf299
 v139:=Tryz.zeroValue299
 g3:=by kernel_rfl
 g4:=by kernel_rfl }
open Go.RowKit in
theorem Tryz.strings_TrimRight_one (s:BA) (c:UInt8) (hc:c.toNat < 128) (w:World) (hs:s.size≤9223372036854775807) :
 Calls Tryz.prog 101 #[.string s,.string ⟨#[c]⟩] w fun e w'=>e = .returned (.string ⟨(Lib.trimRightB s.data.toList c).toArray⟩)∧w'=w:=Any.strings_TrimRight_one Tryz.lays162 s c hc w hs
def Tryz.lays137_ren:Go.Shelf.Ren:=⟨fun | 137=>121 | 217=>177 | 266=>213 | n=>n,fun | 9=>9 | 5=>5 | 3=>3 | n=>n,fun | n=>n⟩
theorem Tryz.lays137:Go.Proofs.Lays.n137 Tryz.prog Tryz.lays137_ren:= by constructor <;> first | kernel_rfl | (intro _; kernel_rfl)
open Go.RowKit in
theorem Tryz.strings_IndexByte (s:BA) (c:Int) (w:World) :
 Calls Tryz.prog 121 #[.string s,.int .u8 c] w fun e w'=>e = .returned (.int .i64 (Lib.indexByte s.data.toList c.toNat.toUInt8))∧w'=w:=Any.strings_IndexByte Tryz.lays137 s c w
def Tryz.lays103_ren:Go.Shelf.Ren:=⟨fun | 103=>55 | 210=>120 | 206=>176 | n=>n,fun | 9=>9 | 4=>4 | 24=>112 | 3=>3 | n=>n,fun | n=>n⟩
theorem Tryz.lays103:Go.Proofs.Lays.n103 Tryz.prog Tryz.lays103_ren:= by constructor <;> first | kernel_rfl | (intro _; kernel_rfl)
open Go.RowKit in
theorem Tryz.strings_CutPrefix (s p:BA) (w:World) :
 Calls Tryz.prog 55 #[.string s,.string p] w fun e w'=>e = .returned (.tuple #[.string ⟨(Lib.trimPrefix s.data.toList p.data.toList).toArray⟩,.bool (Lib.hasPrefix s.data.toList p.data.toList)])∧w'=w:=Any.strings_CutPrefix Tryz.lays103 s p w
def Tryz.lays283_ren:Go.Shelf.Ren:=⟨fun | 283=>196 | n=>n,fun | 3=>3 | 9=>9 | 4=>4 | n=>n,fun | n=>n⟩
theorem Tryz.lays283:Go.Proofs.Lays.n283 Tryz.prog Tryz.lays283_ren:= by constructor <;> first | kernel_rfl | (intro _; kernel_rfl)
open Go.Lib in
theorem Tryz.internal_strconv_small (i:Nat) (h:i < 100) (w:World) :
 Calls Tryz.prog 196 #[.int .i64 i] w fun e w'=>e = .returned (.string ⟨(Lib.decDigits i).toArray⟩)∧w'=w:=Any.internal_strconv_small Tryz.lays283 i h w
def Tryz.laysM284_ren:Go.Shelf.Ren:=⟨fun | 284=>197 | 129=>234 | 317=>233 | 318=>235 | n=>n,fun | 53=>106 | 3=>3 | 212=>268 | 0=>0 | 4=>4 | 46=>156 | 5=>5 | 9=>9 | n=>n,fun | 17=>1 | n=>n⟩
theorem Tryz.laysM284:Go.Proofs.LaysM.n284 Tryz.prog Tryz.laysM284_ren:={
 mixed:=by kernel_rfl
 f129:=Tryz.func234.trans (congrArg some (by kernel_rfl))
 f284:=Tryz.func197.trans (congrArg some (by kernel_rfl))
 f317:=Tryz.func233.trans (congrArg some (by kernel_rfl))
 f318:=Tryz.func235.trans (congrArg some (by kernel_rfl))
 t0:=Tryz.underlying0
 a0:=Tryz.isAgg0
 z0:=Tryz.sizeOf0
 v0:=Tryz.zeroValue0
 t3:=Tryz.underlying3
 a3:=Tryz.isAgg3
 z3:=Tryz.sizeOf3
 v3:=Tryz.zeroValue3
 t4:=Tryz.underlying4
 a4:=Tryz.isAgg4
 z4:=Tryz.sizeOf4
 v4:=Tryz.zeroValue4
 t5:=Tryz.underlying5
 a5:=Tryz.isAgg5
 z5:=Tryz.sizeOf5
 v5:=Tryz.zeroValue5
 t9:=Tryz.underlying9
 a9:=Tryz.isAgg9
 z9:=Tryz.sizeOf9
 v9:=Tryz.zeroValue9
 t46:=Tryz.underlying156
 a46:=Tryz.isAgg156
 z46:=Tryz.sizeOf156
 v46:=Tryz.zeroValue156
 t53:=Tryz.underlying106
 a53:=Tryz.isAgg106
 z53:=Tryz.sizeOf106
 v53:=Tryz.zeroValue106
 t212:=Tryz.underlying268
 a212:=Tryz.isAgg268
 z212:=Tryz.sizeOf268
 v212:=Tryz.zeroValue268
 g17:=by kernel_rfl
 i0:=by kernel_rfl
 i3:=by kernel_rfl
 i4:=by kernel_rfl
 i5:=by kernel_rfl
 i9:=by kernel_rfl
 i46:=by kernel_rfl
 i53:=by kernel_rfl
 i212:=by kernel_rfl
 m17:=by kernel_rfl }
open Go.Lib in
theorem Tryz.internal_strconv_numDigits (u:Nat) (h1:1≤u) (h2:u < 18446744073709551616) (w:World) (htab:Lib.TabIs Tryz.prog w "internal/strconv.uint64pow10" .u64 Lib.pow10Tab) :
 Calls Tryz.prog 197 #[.int .u64 u] w fun e w'=>e = .returned (.int .i64 (Lib.nDigits u))∧w'=w:=Any.internal_strconv_numDigits Tryz.laysM284 u h1 h2 w htab
def Tryz.lays285_ren:Go.Shelf.Ren:=⟨fun | 285=>198 | n=>n,fun | 37=>51 | 53=>106 | 3=>3 | 4=>4 | 51=>240 | 9=>9 | 5=>5 | 0=>0 | n=>n,fun | n=>n⟩
theorem Tryz.lays285:Go.Proofs.Lays.n285 Tryz.prog Tryz.lays285_ren:= by constructor <;> first | kernel_rfl | (intro _; kernel_rfl)
open Go.RowKit Go.Sort Go.Lib in
theorem Tryz.internal_strconv_formatBase10 (blk off cap:Nat) (u:Nat) (d:Array UInt8) (w:World) (hH:Holds (fun (b:UInt8)=>Value.int .u8 (b.toNat:Int)) w blk off d) (hu:u < 10 ^ d.size) (hu64:u < 18446744073709551616) (hsz:d.size < 4611686018427387904) :
 Calls Tryz.prog 198 #[.slice (some ⟨blk,off,none⟩) d.size cap,.int .u64 u] w fun e w'=>
  e = .returned (.tuple #[])∧∃ (n v':Nat) (dk:Array UInt8),w'=(putRow (fun (b:UInt8)=>Value.int .u8 (b.toNat:Int)) w blk off dk).drewN n∧FmtInv d.size u 0 v' dk:=Any.internal_strconv_formatBase10 Tryz.lays285 blk off cap u d w hH hu hu64 hsz
def Tryz.laysM171_ren:Go.Shelf.Ren:=⟨fun | 171=>42 | 243=>98 | 246=>153 | 283=>196 | 284=>197 | 285=>198 | 286=>199 | 129=>234 | 317=>233 | 318=>235 | 319=>236 | 320=>237 | 337=>261 | 338=>262 | n=>n,fun | 3=>3 | 9=>9 | 2=>2 | 4=>4 | 171=>231 | 0=>0 | 53=>106 | 37=>51 | 5=>5 | 173=>234 | 212=>268 | 51=>240 | 20=>20 | 213=>269 | 46=>156 | 232=>305 | 233=>306 | n=>n,fun | 17=>1 | 18=>6 | 19=>7 | n=>n⟩
theorem Tryz.laysM171:Go.Proofs.LaysM.n171 Tryz.prog Tryz.laysM171_ren:={
 mixed:=by kernel_rfl
 f129:=Tryz.func234.trans (congrArg some (by kernel_rfl))
 f171:=Tryz.func42.trans (congrArg some (by kernel_rfl))
 f243:=Tryz.func98.trans (congrArg some (by kernel_rfl))
 f246:=Tryz.func153.trans (congrArg some (by kernel_rfl))
 f283:=Tryz.func196.trans (congrArg some (by kernel_rfl))
 f284:=Tryz.func197.trans (congrArg some (by kernel_rfl))
 f285:=Tryz.func198.trans (congrArg some (by kernel_rfl))
 f286:=Tryz.func199.trans (congrArg some (by kernel_rfl))
 f317:=Tryz.func233.trans (congrArg some (by kernel_rfl))
 f318:=Tryz.func235.trans (congrArg some (by kernel_rfl))
 f319:=Tryz.func236.trans (congrArg some (by kernel_rfl))
 f320:=Tryz.func237.trans (congrArg some (by kernel_rfl))
 f337:=Tryz.func261.trans (congrArg some (by kernel_rfl))
 f338:=Tryz.func262.trans (congrArg some (by kernel_rfl))
 t0:=Tryz.underlying0
 a0:=Tryz.isAgg0
 z0:=Tryz.sizeOf0
 v0:=Tryz.zeroValue0
 t2:=Tryz.underlying2
 a2:=Tryz.isAgg2
 z2:=Tryz.sizeOf2
 v2:=Tryz.zeroValue2
 t3:=Tryz.underlying3
 a3:=Tryz.isAgg3
 z3:=Tryz.sizeOf3
 v3:=Tryz.zeroValue3
 t4:=Tryz.underlying4
 a4:=Tryz.isAgg4
 z4:=Tryz.sizeOf4
 v4:=Tryz.zeroValue4
 t5:=Tryz.underlying5
 a5:=Tryz.isAgg5
 z5:=Tryz.sizeOf5
 v5:=Tryz.zeroValue5
 t9:=Tryz.underlying9
 a9:=Tryz.isAgg9
 z9:=Tryz.sizeOf9
 v9:=Tryz.zeroValue9
 t20:=Tryz.underlying20
 a20:=Tryz.isAgg20
 z20:=Tryz.sizeOf20
 v20:=Tryz.zeroValue20
 t37:=Tryz.underlying51
 a37:=Tryz.isAgg51
 z37:=Tryz.sizeOf51
 v37:=Tryz.zeroValue51
 t46:=Tryz.underlying156
 a46:=Tryz.isAgg156
 z46:=Tryz.sizeOf156
 v46:=Tryz.zeroValue156
 t51:=Tryz.underlying240
 a51:=Tryz.isAgg240
 z51:=Tryz.sizeOf240
 v51:=Tryz.zeroValue240
 t53:=Tryz.underlying106
 a53:=Tryz.isAgg106
 z53:=Tryz.sizeOf106
 v53:=Tryz.zeroValue106
 t171:=Tryz.underlying231
 a171:=Tryz.isAgg231
 z171:=Tryz.sizeOf231
 v171:=Tryz.zeroValue231
 t173:=Tryz.underlying234
 a173:=Tryz.isAgg234
 z173:=Tryz.sizeOf234
 v173:=Tryz.zeroValue234
 t212:=Tryz.underlying268
 a212:=Tryz.isAgg268
 z212:=Tryz.sizeOf268
 v212:=Tryz.zeroValue268
 t213:=Tryz.underlying269
 a213:=Tryz.isAgg269
 z213:=Tryz.sizeOf269
 t232:=Tryz.underlying305
 a232:=Tryz.isAgg305
 z232:=Tryz.sizeOf305
 v232:=Tryz.zeroValue305
 t233:=Tryz.underlying306
 a233:=Tryz.isAgg306
 z233:=Tryz.sizeOf306
 v233:=Tryz.zeroValue306
 g17:=by kernel_rfl
 g18:=by kernel_rfl
 g19:=by kernel_rfl
 i0:=by kernel_rfl
 i2:=by kernel_rfl
 i3:=by kernel_rfl
 i4:=by kernel_rfl
 i5:=by kernel_rfl
 i9:=by kernel_rfl
 i20:=by kernel_rfl
 i37:=by kernel_rfl
 i46:=by kernel_rfl
 i51:=by kernel_rfl
 i53:=by kernel_rfl
 i171:=by kernel_rfl
 i173:=by kernel_rfl
 i212:=by kernel_rfl
 i232:=by kernel_rfl
 i233:=by kernel_rfl
 m17:=by kernel_rfl
 m18:=by kernel_rfl
 m19:=by kernel_rfl }
open Go.RowKit Go.Sort Go.Lib in
theorem Tryz.strconv_Itoa (n:Int) (h0 : -9223372036854775808≤n) (h1:n≤9223372036854775807) (w:World) (htab:Lib.TabIs Tryz.prog w "internal/strconv.uint64pow10" .u64 Lib.pow10Tab) :
 Calls Tryz.prog 42 #[.int .i64 n] w fun e w'=>e = .returned (.string ⟨(Lib.itoa n).toArray⟩)∧∃ k os,w'=grow (w.drewN k) os:=Any.strconv_Itoa Tryz.laysM171 n h0 h1 w htab
def Tryz.laysC172_ren:Go.Shelf.Ren:=⟨fun | 172=>122 | 244=>178 | 245=>179 | 247=>214 | 279=>215 | 280=>216 | 281=>217 | 282=>218 | 287=>245 | 316=>246 | 171=>42 | 205=>247 | 321=>265 | 322=>266 | 243=>98 | 246=>153 | 283=>196 | 284=>197 | 285=>198 | 286=>199 | 129=>234 | 317=>233 | 318=>235 | 319=>236 | 320=>237 | 337=>261 | 338=>262 | n=>n,fun | 9=>9 | 3=>3 | 75=>149 | 76=>150 | 4=>4 | 5=>5 | 167=>250 | 37=>51 | 0=>0 | 85=>251 | 2=>2 | 168=>253 | 53=>106 | 175=>258 | 46=>156 | 210=>277 | 127=>161 | 145=>295 | 143=>293 | 21=>21 | 171=>231 | 173=>234 | 212=>268 | 51=>240 | 20=>20 | 213=>269 | 232=>305 | 233=>306 | 80=>102 | n=>n,fun | 15=>2 | 16=>3 | 17=>1 | 18=>6 | 19=>7 | n=>n⟩
theorem Tryz.laysC172:Go.Proofs.LaysC.n172 Tryz.prog Tryz.laysC172_ren:={
 mixed:=by kernel_rfl
 f129:=Tryz.func234.trans (congrArg some (by kernel_rfl))
 f171:=Tryz.func42.trans (congrArg some (by kernel_rfl))
 f172:=Tryz.func122.trans (congrArg some (by kernel_rfl))
 f205:=Tryz.func247.trans (congrArg some (by kernel_rfl))
 f243:=Tryz.func98.trans (congrArg some (by kernel_rfl))
 f244:=Tryz.func178.trans (congrArg some (by kernel_rfl))
 f245:=Tryz.func179.trans (congrArg some (by kernel_rfl))
 f246:=Tryz.func153.trans (congrArg some (by kernel_rfl))
 f247:=Tryz.func214.trans (congrArg some (by kernel_rfl))
 f279:=Tryz.func215.trans (congrArg some (by kernel_rfl))
 f280:=Tryz.func216.trans (congrArg some (by kernel_rfl))
 f281:=Tryz.func217.trans (congrArg some (by kernel_rfl))
 f282:=Tryz.func218.trans (congrArg some (by kernel_rfl))
 f283:=Tryz.func196.trans (congrArg some (by kernel_rfl))
 f284:=Tryz.func197.trans (congrArg some (by kernel_rfl))
 f285:=Tryz.func198.trans (congrArg some (by kernel_rfl))
 f286:=Tryz.func199.trans (congrArg some (by kernel_rfl))
 f287:=Tryz.func245.trans (congrArg some (by kernel_rfl))
 f316:=Tryz.func246.trans (congrArg some (by kernel_rfl))
 f317:=Tryz.func233.trans (congrArg some (by kernel_rfl))
 f318:=Tryz.func235.trans (congrArg some (by kernel_rfl))
 f319:=Tryz.func236.trans (congrArg some (by kernel_rfl))
 f320:=Tryz.func237.trans (congrArg some (by kernel_rfl))
 f321:=Tryz.func265.trans (congrArg some (by kernel_rfl))
 f322:=Tryz.func266.trans (congrArg some (by kernel_rfl))
 f337:=Tryz.func261.trans (congrArg some (by kernel_rfl))
 f338:=Tryz.func262.trans (congrArg some (by kernel_rfl))
 t0:=Tryz.underlying0
 a0:=Tryz.isAgg0
 z0:=Tryz.sizeOf0
 v0:=Tryz.zeroValue0
 t2:=Tryz.underlying2
 a2:=Tryz.isAgg2
 z2:=Tryz.sizeOf2
 v2:=Tryz.zeroValue2
 t3:=Tryz.underlying3
 a3:=Tryz.isAgg3
 z3:=Tryz.sizeOf3
 v3:=Tryz.zeroValue3
 t4:=Tryz.underlying4
 a4:=Tryz.isAgg4
 z4:=Tryz.sizeOf4
 v4:=Tryz.zeroValue4
 t5:=Tryz.underlying5
 a5:=Tryz.isAgg5
 z5:=Tryz.sizeOf5
 v5:=Tryz.zeroValue5
 t9:=Tryz.underlying9
 a9:=Tryz.isAgg9
 z9:=Tryz.sizeOf9
 v9:=Tryz.zeroValue9
 t20:=Tryz.underlying20
 a20:=Tryz.isAgg20
 z20:=Tryz.sizeOf20
 v20:=Tryz.zeroValue20
 t21:=Tryz.underlying21
 a21:=Tryz.isAgg21
 z21:=Tryz.sizeOf21
 v21:=Tryz.zeroValue21
 t37:=Tryz.underlying51
 a37:=Tryz.isAgg51
 z37:=Tryz.sizeOf51
 v37:=Tryz.zeroValue51
 t46:=Tryz.underlying156
 a46:=Tryz.isAgg156
 z46:=Tryz.sizeOf156
 v46:=Tryz.zeroValue156
 t51:=Tryz.underlying240
 a51:=Tryz.isAgg240
 z51:=Tryz.sizeOf240
 v51:=Tryz.zeroValue240
 t53:=Tryz.underlying106
 a53:=Tryz.isAgg106
 z53:=Tryz.sizeOf106
 v53:=Tryz.zeroValue106
 t75:=Tryz.underlying149
 a75:=Tryz.isAgg149
 z75:=Tryz.sizeOf149
 v75:=Tryz.zeroValue149
 t76:=Tryz.underlying150
 a76:=Tryz.isAgg150
 z76:=Tryz.sizeOf150
 v76:=Tryz.zeroValue150
 t85:=Tryz.underlying251
 a85:=Tryz.isAgg251
 z85:=Tryz.sizeOf251
 v85:=Tryz.zeroValue251
 t127:=Tryz.underlying161
 a127:=Tryz.isAgg161
 z127:=Tryz.sizeOf161
 v127:=Tryz.zeroValue161
 t143:=Tryz.underlying293
 a143:=Tryz.isAgg293
 z143:=Tryz.sizeOf293
 v143:=Tryz.zeroValue293
 t145:=Tryz.underlying295
 a145:=Tryz.isAgg295
 z145:=Tryz.sizeOf295
 v145:=Tryz.zeroValue295
 t167:=Tryz.underlying250
 a167:=Tryz.isAgg250
 z167:=Tryz.sizeOf250
 v167:=Tryz.zeroValue250
 t168:=Tryz.underlying253
 a168:=Tryz.isAgg253
 z168:=Tryz.sizeOf253
 v168:=Tryz.zeroValue253
 t171:=Tryz.underlying231
 a171:=Tryz.isAgg231
 z171:=Tryz.sizeOf231
 v171:=Tryz.zeroValue231
 t173:=Tryz.underlying234
 a173:=Tryz.isAgg234
 z173:=Tryz.sizeOf234
 v173:=Tryz.zeroValue234
 t175:=Tryz.underlying258
 a175:=Tryz.isAgg258
 z175:=Tryz.sizeOf258
 v175:=Tryz.zeroValue258
 t210:=Tryz.underlying277
 a210:=Tryz.isAgg277
 z210:=Tryz.sizeOf277
 v210:=Tryz.zeroValue277
 t212:=Tryz.underlying268
 a212:=Tryz.isAgg268
 z212:=Tryz.sizeOf268
 v212:=Tryz.zeroValue268
 t213:=Tryz.underlying269
 a213:=Tryz.isAgg269
 z213:=Tryz.sizeOf269
 t232:=Tryz.underlying305
 a232:=Tryz.isAgg305
 z232:=Tryz.sizeOf305
 v232:=Tryz.zeroValue305
 t233:=Tryz.underlying306
 a233:=Tryz.isAgg306
 z233:=Tryz.sizeOf306
 v233:=Tryz.zeroValue306
 g15:=by kernel_rfl
 g16:=by kernel_rfl
 g17:=by kernel_rfl
 g18:=by kernel_rfl
 g19:=by kernel_rfl
 t80:=Tryz.underlying102
 a80:=Tryz.isAgg102
 z80:=Tryz.sizeOf102
 v80:=Tryz.zeroValue102
 i0:=by kernel_rfl
 i2:=by kernel_rfl
 i3:=by kernel_rfl
 i4:=by kernel_rfl
 i5:=by kernel_rfl
 i9:=by kernel_rfl
 i20:=by kernel_rfl
 i21:=by kernel_rfl
 i37:=by kernel_rfl
 i46:=by kernel_rfl
 i51:=by kernel_rfl
 i53:=by kernel_rfl
 i75:=by kernel_rfl
 i76:=by kernel_rfl
 i80:=by kernel_rfl
 i85:=by kernel_rfl
 i127:=by kernel_rfl
 i143:=by kernel_rfl
 i145:=by kernel_rfl
 i167:=by kernel_rfl
 i168:=by kernel_rfl
 i171:=by kernel_rfl
 i173:=by kernel_rfl
 i175:=by kernel_rfl
 i210:=by kernel_rfl
 i212:=by kernel_rfl
 i232:=by kernel_rfl
 i233:=by kernel_rfl
 m15:=by kernel_rfl
 m16:=by kernel_rfl
 m17:=by kernel_rfl
 m18:=by kernel_rfl
 m19:=by kernel_rfl
 c0:=by kernel_rfl
 c2:=by kernel_rfl
 c3:=by kernel_rfl
 c4:=by kernel_rfl
 c5:=by kernel_rfl
 c9:=by kernel_rfl
 c20:=by kernel_rfl
 c21:=by kernel_rfl
 c37:=by kernel_rfl
 c46:=by kernel_rfl
 c51:=by kernel_rfl
 c53:=by kernel_rfl
 c75:=by kernel_rfl
 c76:=by kernel_rfl
 c80:=by kernel_rfl
 c85:=by kernel_rfl
 c127:=by kernel_rfl
 c143:=by kernel_rfl
 c145:=by kernel_rfl
 c167:=by kernel_rfl
 c168:=by kernel_rfl
 c171:=by kernel_rfl
 c173:=by kernel_rfl
 c175:=by kernel_rfl
 c210:=by kernel_rfl
 c212:=by kernel_rfl
 c213:=by kernel_rfl
 c232:=by kernel_rfl
 c233:=by kernel_rfl }
open Go.RowKit in
theorem Tryz.strconv_Atoi_ok (s:BA) (hmax:s.size≤9223372036854775806) (v:Int) (h:Lib.atoiAll s.data.toList = .ok v) (w:World) :
 Calls Tryz.prog 122 #[.string s] w fun e w'=>e = .returned (.tuple #[.int .i64 v,.nilIface])∧(w'=w∨∃ t,w'=Lib.bytesWorld w 5 t):=Any.strconv_Atoi_ok Tryz.laysC172 s hmax v h w
open Go.RowKit in
theorem Tryz.strconv_Atoi_syntax (s:BA) (hlim:s.size≤281474976710656) (h:Lib.atoiAll s.data.toList=Lib.NumEnd.syntax) (ev:Value) (w:World) (hv:w.cell? ⟨2,0,none⟩=some ev) (hev:ev = .nilIface∨∃ te pe,ev = .iface te pe) :
 Calls Tryz.prog 122 #[.string s] w fun e w'=>∃ N,e = .returned (.tuple #[.int .i64 (0),.iface 253 (.pointer (some ⟨N,0,none⟩))])∧w.heap.size≤N∧w'.heap[N]?=some (.cells #[.string ⟨#[65,116,111,105]⟩,.string s,ev] 277 (0,0))∧Below w.heap.size w w':=Any.strconv_Atoi_syntax Tryz.laysC172 s hlim h ev w hv hev
open Go.RowKit in
theorem Tryz.strconv_Atoi_range (s:BA) (hlim:s.size≤281474976710656) (h:Lib.atoiAll s.data.toList = .range) (ev:Value) (w:World) (hv:w.cell? ⟨3,0,none⟩=some ev) (hev:ev = .nilIface∨∃ te pe,ev = .iface te pe) :
 Calls Tryz.prog 122 #[.string s] w fun e w'=>∃ N,e = .returned (.tuple #[.int .i64 (Lib.atoiSat s.data.toList),.iface 253 (.pointer (some ⟨N,0,none⟩))])∧w.heap.size≤N∧w'.heap[N]?=some (.cells #[.string ⟨#[65,116,111,105]⟩,.string s,ev] 277 (0,0))∧Below w.heap.size w w':=Any.strconv_Atoi_range Tryz.laysC172 s hlim h ev w hv hev
def Tryz.laysPu14_ren:Go.Shelf.Ren:=⟨fun | 14=>225 | 16=>245 | 17=>179 | 19=>265 | 20=>266 | 21=>215 | 22=>216 | 23=>217 | 24=>218 | 25=>246 | 27=>42 | 26=>247 | 28=>98 | 29=>153 | 30=>196 | 31=>197 | 32=>198 | 33=>199 | 35=>234 | 34=>233 | 36=>235 | 37=>236 | 38=>237 | 39=>261 | 40=>262 | n=>n,fun | 9=>9 | 3=>3 | 22=>106 | 24=>149 | 25=>258 | 4=>4 | 34=>250 | 5=>5 | 36=>156 | 37=>51 | 0=>0 | 39=>253 | 21=>21 | 44=>277 | 47=>161 | 50=>295 | 48=>293 | 2=>2 | 52=>231 | 55=>234 | 59=>268 | 60=>240 | 20=>20 | 61=>269 | 65=>305 | 66=>306 | 67=>102 | n=>n,fun | 0=>2 | 1=>3 | 2=>1 | 3=>6 | 4=>7 | n=>n⟩
theorem Tryz.laysPu14:Go.Proofs.LaysPu.n14 Tryz.prog Tryz.laysPu14_ren:={
 mixed:=by kernel_rfl
 f14:=Tryz.func225.trans (congrArg some (by kernel_rfl))
 f16:=Tryz.func245.trans (congrArg some (by kernel_rfl))
 f17:=Tryz.func179.trans (congrArg some (by kernel_rfl))
 f19:=Tryz.func265.trans (congrArg some (by kernel_rfl))
 f20:=Tryz.func266.trans (congrArg some (by kernel_rfl))
 f21:=Tryz.func215.trans (congrArg some (by kernel_rfl))
 f22:=Tryz.func216.trans (congrArg some (by kernel_rfl))
 f23:=Tryz.func217.trans (congrArg some (by kernel_rfl))
 f24:=Tryz.func218.trans (congrArg some (by kernel_rfl))
 f25:=Tryz.func246.trans (congrArg some (by kernel_rfl))
 f26:=Tryz.func247.trans (congrArg some (by kernel_rfl))
 f27:=Tryz.func42.trans (congrArg some (by kernel_rfl))
 f28:=Tryz.func98.trans (congrArg some (by kernel_rfl))
 f29:=Tryz.func153.trans (congrArg some (by kernel_rfl))
 f30:=Tryz.func196.trans (congrArg some (by kernel_rfl))
 f31:=Tryz.func197.trans (congrArg some (by kernel_rfl))
 f32:=Tryz.func198.trans (congrArg some (by kernel_rfl))
 f33:=Tryz.func199.trans (congrArg some (by kernel_rfl))
 f34:=Tryz.func233.trans (congrArg some (by kernel_rfl))
 f35:=Tryz.func234.trans (congrArg some (by kernel_rfl))
 f36:=Tryz.func235.trans (congrArg some (by kernel_rfl))
 f37:=Tryz.func236.trans (congrArg some (by kernel_rfl))
 f38:=Tryz.func237.trans (congrArg some (by kernel_rfl))
 f39:=Tryz.func261.trans (congrArg some (by kernel_rfl))
 f40:=Tryz.func262.trans (congrArg some (by kernel_rfl))
 t0:=Tryz.underlying0
 a0:=Tryz.isAgg0
 z0:=Tryz.sizeOf0
 v0:=Tryz.zeroValue0
 i0:=by kernel_rfl
 t2:=Tryz.underlying2
 a2:=Tryz.isAgg2
 z2:=Tryz.sizeOf2
 v2:=Tryz.zeroValue2
 i2:=by kernel_rfl
 t3:=Tryz.underlying3
 a3:=Tryz.isAgg3
 z3:=Tryz.sizeOf3
 v3:=Tryz.zeroValue3
 i3:=by kernel_rfl
 t4:=Tryz.underlying4
 a4:=Tryz.isAgg4
 z4:=Tryz.sizeOf4
 v4:=Tryz.zeroValue4
 i4:=by kernel_rfl
 t5:=Tryz.underlying5
 a5:=Tryz.isAgg5
 z5:=Tryz.sizeOf5
 v5:=Tryz.zeroValue5
 i5:=by kernel_rfl
 t9:=Tryz.underlying9
 a9:=Tryz.isAgg9
 z9:=Tryz.sizeOf9
 v9:=Tryz.zeroValue9
 i9:=by kernel_rfl
 t20:=Tryz.underlying20
 a20:=Tryz.isAgg20
 z20:=Tryz.sizeOf20
 v20:=Tryz.zeroValue20
 i20:=by kernel_rfl
 t21:=Tryz.underlying21
 a21:=Tryz.isAgg21
 z21:=Tryz.sizeOf21
 v21:=Tryz.zeroValue21
 i21:=by kernel_rfl
 t22:=Tryz.underlying106
 a22:=Tryz.isAgg106
 z22:=Tryz.sizeOf106
 v22:=Tryz.zeroValue106
 i22:=by kernel_rfl
 t24:=Tryz.underlying149
 a24:=Tryz.isAgg149
 z24:=Tryz.sizeOf149
 v24:=Tryz.zeroValue149
 i24:=by kernel_rfl
 t25:=Tryz.underlying258
 a25:=Tryz.isAgg258
 z25:=Tryz.sizeOf258
 v25:=Tryz.zeroValue258
 i25:=by kernel_rfl
 t34:=Tryz.underlying250
 a34:=Tryz.isAgg250
 z34:=Tryz.sizeOf250
 v34:=Tryz.zeroValue250
 i34:=by kernel_rfl
 c34:=by kernel_rfl
 t36:=Tryz.underlying156
 a36:=Tryz.isAgg156
 z36:=Tryz.sizeOf156
 v36:=Tryz.zeroValue156
 i36:=by kernel_rfl
 t37:=Tryz.underlying51
 a37:=Tryz.isAgg51
 z37:=Tryz.sizeOf51
 v37:=Tryz.zeroValue51
 i37:=by kernel_rfl
 t39:=Tryz.underlying253
 a39:=Tryz.isAgg253
 z39:=Tryz.sizeOf253
 v39:=Tryz.zeroValue253
 i39:=by kernel_rfl
 t44:=Tryz.underlying277
 a44:=Tryz.isAgg277
 z44:=Tryz.sizeOf277
 v44:=Tryz.zeroValue277
 i44:=by kernel_rfl
 t47:=Tryz.underlying161
 a47:=Tryz.isAgg161
 z47:=Tryz.sizeOf161
 v47:=Tryz.zeroValue161
 i47:=by kernel_rfl
 t48:=Tryz.underlying293
 a48:=Tryz.isAgg293
 z48:=Tryz.sizeOf293
 v48:=Tryz.zeroValue293
 i48:=by kernel_rfl
 t50:=Tryz.underlying295
 a50:=Tryz.isAgg295
 z50:=Tryz.sizeOf295
 v50:=Tryz.zeroValue295
 i50:=by kernel_rfl
 t52:=Tryz.underlying231
 a52:=Tryz.isAgg231
 z52:=Tryz.sizeOf231
 v52:=Tryz.zeroValue231
 i52:=by kernel_rfl
 t55:=Tryz.underlying234
 a55:=Tryz.isAgg234
 z55:=Tryz.sizeOf234
 v55:=Tryz.zeroValue234
 i55:=by kernel_rfl
 t59:=Tryz.underlying268
 a59:=Tryz.isAgg268
 z59:=Tryz.sizeOf268
 v59:=Tryz.zeroValue268
 i59:=by kernel_rfl
 t60:=Tryz.underlying240
 a60:=Tryz.isAgg240
 z60:=Tryz.sizeOf240
 v60:=Tryz.zeroValue240
 i60:=by kernel_rfl
 t61:=Tryz.underlying269
 a61:=Tryz.isAgg269
 z61:=Tryz.sizeOf269
 t65:=Tryz.underlying305
 a65:=Tryz.isAgg305
 z65:=Tryz.sizeOf305
 v65:=Tryz.zeroValue305
 i65:=by kernel_rfl
 t66:=Tryz.underlying306
 a66:=Tryz.isAgg306
 z66:=Tryz.sizeOf306
 v66:=Tryz.zeroValue306
 i66:=by kernel_rfl
 t67:=Tryz.underlying102
 a67:=Tryz.isAgg102
 z67:=Tryz.sizeOf102
 v67:=Tryz.zeroValue102
 i67:=by kernel_rfl
 g0:=by kernel_rfl
 m0:=by kernel_rfl
 g1:=by kernel_rfl
 m1:=by kernel_rfl
 g2:=by kernel_rfl
 m2:=by kernel_rfl
 g3:=by kernel_rfl
 m3:=by kernel_rfl
 g4:=by kernel_rfl
 m4:=by kernel_rfl }
open Go.RowKit in
theorem Tryz.strconv_ParseUint_10_at64_ok (s:BA) (hmax:s.size≤9223372036854775806) (u:Nat) (h:Lib.parseUintB 64 s.data.toList = .ok u) (w:World) :
 Calls Tryz.prog 225 #[.string s,.int .i64 10,.int .i64 64] w fun e w'=>e = .returned (.tuple #[.int .u64 u,.nilIface])∧(w'=w∨w'=Lib.bytesWorld w 5 s):=Any.strconv_ParseUint_10_at64_ok Tryz.laysPu14 s hmax u h w
open Go.RowKit in
theorem Tryz.strconv_ParseUint_10_at64_syntax (s:BA) (hlim:s.size≤281474976710656) (h:Lib.parseUintB 64 s.data.toList=Lib.NumEnd.syntax) (ev:Value) (w:World) (hv:w.cell? ⟨2,0,none⟩=some ev) (hev:ev = .nilIface∨∃ te pe,ev = .iface te pe) :
 Calls Tryz.prog 225 #[.string s,.int .i64 10,.int .i64 64] w fun e w'=>∃ N,e = .returned (.tuple #[.int .u64 0,.iface 253 (.pointer (some ⟨N,0,none⟩))])∧w.heap.size≤N∧w'.heap[N]?=some (.cells #[.string ⟨#[80,97,114,115,101,85,105,110,116]⟩,.string s,ev] 277 (0,0))∧Below w.heap.size w w':=Any.strconv_ParseUint_10_at64_syntax Tryz.laysPu14 s hlim h ev w hv hev
open Go.RowKit in
theorem Tryz.strconv_ParseUint_10_at64_range (s:BA) (hlim:s.size≤281474976710656) (h:Lib.parseUintB 64 s.data.toList = .range) (ev:Value) (w:World) (hv:w.cell? ⟨3,0,none⟩=some ev) (hev:ev = .nilIface∨∃ te pe,ev = .iface te pe) :
 Calls Tryz.prog 225 #[.string s,.int .i64 10,.int .i64 64] w fun e w'=>∃ N,e = .returned (.tuple #[.int .u64 18446744073709551615,.iface 253 (.pointer (some ⟨N,0,none⟩))])∧w.heap.size≤N∧w'.heap[N]?=some (.cells #[.string ⟨#[80,97,114,115,101,85,105,110,116]⟩,.string s,ev] 277 (0,0))∧Below w.heap.size w w':=Any.strconv_ParseUint_10_at64_range Tryz.laysPu14 s hlim h ev w hv hev
def Tryz.lays145_ren:Go.Shelf.Ren:=⟨fun | 145=>82 | 220=>139 | 219=>188 | 217=>177 | 225=>226 | 224=>227 | 267=>228 | 266=>213 | 314=>250 | n=>n,fun | 9=>9 | 4=>4 | 59=>114 | 3=>3 | 5=>5 | 46=>156 | 146=>241 | 51=>240 | n=>n,fun | 1=>0 | n=>n⟩
theorem Tryz.lays145:Go.Proofs.Lays.n145 Tryz.prog Tryz.lays145_ren:={
 mixed:=by kernel_rfl
 f145:=Tryz.func82.trans (congrArg some (by kernel_rfl))
 f217:=Tryz.func177.trans (congrArg some (by kernel_rfl))
 f219:=Tryz.func188.trans (congrArg some (by kernel_rfl))
 f220:=Tryz.func139.trans (congrArg some (by kernel_rfl))
 f224:=Tryz.func227.trans (congrArg some (by kernel_rfl))
 f225:=Tryz.func226.trans (congrArg some (by kernel_rfl))
 f266:=Tryz.func213.trans (congrArg some (by kernel_rfl))
 f267:=Tryz.func228.trans (congrArg some (by kernel_rfl))
 f314:=Tryz.func250.trans (congrArg some (by kernel_rfl))
 t3:=Tryz.underlying3
 a3:=Tryz.isAgg3
 z3:=Tryz.sizeOf3
 v3:=Tryz.zeroValue3
 t4:=Tryz.underlying4
 a4:=Tryz.isAgg4
 z4:=Tryz.sizeOf4
 v4:=Tryz.zeroValue4
 t5:=Tryz.underlying5
 a5:=Tryz.isAgg5
 z5:=Tryz.sizeOf5
 v5:=Tryz.zeroValue5
 t9:=Tryz.underlying9
 a9:=Tryz.isAgg9
 z9:=Tryz.sizeOf9
 v9:=Tryz.zeroValue9
 t46:=Tryz.underlying156
 a46:=Tryz.isAgg156
 z46:=Tryz.sizeOf156
 v46:=Tryz.zeroValue156
 t51:=Tryz.underlying240
 a51:=Tryz.isAgg240
 z51:=Tryz.sizeOf240
 v51:=Tryz.zeroValue240
 t59:=Tryz.underlying114
 a59:=Tryz.isAgg114
 z59:=Tryz.sizeOf114
 v59:=Tryz.zeroValue114
 t146:=Tryz.underlying241
 a146:=Tryz.isAgg241
 z146:=Tryz.sizeOf241
 v146:=Tryz.zeroValue241
 g1:=by kernel_rfl }
open Go.RowKit Go.Lib in
theorem Tryz.strings_Cut (s sep:BA) (m:Int) (w:World) (hs:s.size < 4294967281) (hm:w.cell? ⟨0,0,none⟩=some (.int .i64 m)) :
 Calls Tryz.prog 82 #[.string s,.string sep] w fun e w'=>e = .returned (.tuple #[.string ⟨(Lib.cut s.data.toList sep.data.toList).1.toArray⟩,.string ⟨(Lib.cut s.data.toList sep.data.toList).2.1.toArray⟩,.bool (Lib.cut s.data.toList sep.data.toList).2.2])∧∃ n,w'=w.drewN n:=Any.strings_Cut Tryz.lays145 s sep m w hs hm
def Tryz.lays189_ren:Go.Shelf.Ren:=⟨fun | 189=>194 | 125=>232 | 257=>231 | 128=>260 | 129=>234 | 294=>251 | 295=>252 | 296=>253 | 297=>254 | 298=>255 | 299=>256 | 216=>257 | 300=>258 | 301=>259 | 328=>267 | 329=>268 | 330=>269 | 331=>270 | 332=>271 | 215=>272 | 343=>273 | n=>n,fun | 28=>22 | 3=>3 | 46=>156 | 0=>0 | 51=>240 | 53=>106 | 4=>4 | 183=>284 | 182=>283 | 131=>86 | 5=>5 | 9=>9 | 218=>300 | 222=>303 | 228=>307 | 229=>211 | n=>n,fun | n=>n⟩
theorem Tryz.lays189:Go.Proofs.Lays.n189 Tryz.prog Tryz.lays189_ren:= by constructor <;> first | kernel_rfl | (intro _; kernel_rfl)
open Go.Sort Go.RowKit in
theorem Tryz.slices_Sort_int (blk off cap:Nat) (zs:List Int) (w:World) (hH:Holds (Value.int .i64) w blk off zs.toArray) (hblk:blk < w.heap.size) (hsz:zs.length < 4611686018427387904) :
 Calls Tryz.prog 194 #[.slice (some ⟨blk,off,none⟩) zs.length cap] w fun e w'=>
  e = .returned (.tuple #[])∧∃ n os,w'=grow (putRow (Value.int .i64) (Sort.ahead w n) blk off (zs.mergeSort fun x y=>decide (x≤y)).toArray) os:=Any.slices_Sort_int Tryz.lays189 blk off cap zs w hH hblk hsz
def Tryz.lays146_ren:Go.Shelf.Ren:=⟨fun | 146=>64 | 221=>129 | 268=>183 | 138=>184 | 143=>185 | 195=>222 | 197=>223 | 218=>224 | 219=>188 | 260=>249 | 217=>177 | 225=>226 | 224=>227 | 267=>228 | 266=>213 | 314=>250 | n=>n,fun | 9=>9 | 31=>65 | 3=>3 | 4=>4 | 0=>0 | 105=>237 | 21=>21 | 5=>5 | 46=>156 | 119=>296 | 139=>299 | 138=>298 | 146=>241 | 51=>240 | n=>n,fun | 1=>0 | 3=>4 | 4=>5 | n=>n⟩
theorem Tryz.lays146:Go.Proofs.Lays.n146 Tryz.prog Tryz.lays146_ren:={
 mixed:=by kernel_rfl
 f138:=Tryz.func184.trans (congrArg some (by kernel_rfl))
 f143:=Tryz.func185.trans (congrArg some (by kernel_rfl))
 f146:=Tryz.func64.trans (congrArg some (by kernel_rfl))
 f195:=Tryz.func222.trans (congrArg some (by kernel_rfl))
 f197:=Tryz.func223.trans (congrArg some (by kernel_rfl))
 f217:=Tryz.func177.trans (congrArg some (by kernel_rfl))
 f218:=Tryz.func224.trans (congrArg some (by kernel_rfl))
 f219:=Tryz.func188.trans (congrArg some (by kernel_rfl))
 f221:=Tryz.func129.trans (congrArg some (by kernel_rfl))
 f224:=Tryz.func227.trans (congrArg some (by kernel_rfl))
 f225:=Tryz.func226.trans (congrArg some (by kernel_rfl))
 f260:=Tryz.func249.trans (congrArg some (by kernel_rfl))
 f266:=Tryz.func213.trans (congrArg some (by kernel_rfl))
 f267:=Tryz.func228.trans (congrArg some (by kernel_rfl))
 f268:=Tryz.func183.trans (congrArg some (by kernel_rfl))
 f314:=Tryz.func250.trans (congrArg some (by kernel_rfl))
 t0:=Tryz.underlying0
 a0:=Tryz.isAgg0
 z0:=Tryz.sizeOf0
 v0:=Tryz.zeroValue0
 t3:=Tryz.underlying3
 a3:=Tryz.isAgg3
 z3:=Tryz.sizeOf3
 v3:=Tryz.zeroValue3
 t4:=Tryz.underlying4
 a4:=Tryz.isAgg4
 z4:=Tryz.sizeOf4
 v4:=Tryz.zeroValue4
 t5:=Tryz.underlying5
 a5:=Tryz.isAgg5
 z5:=Tryz.sizeOf5
 v5:=Tryz.zeroValue5
 t9:=Tryz.underlying9
 a9:=Tryz.isAgg9
 z9:=Tryz.sizeOf9
 v9:=Tryz.zeroValue9
 t21:=Tryz.underlying21
 a21:=Tryz.isAgg21
 z21:=Tryz.sizeOf21
 v21:=Tryz.zeroValue21
 t31:=Tryz.underlying65
 a31:=Tryz.isAgg65
 z31:=Tryz.sizeOf65
 v31:=Tryz.zeroValue65
 t46:=Tryz.underlying156
 a46:=Tryz.isAgg156
 z46:=Tryz.sizeOf156
 v46:=Tryz.zeroValue156
 t51:=Tryz.underlying240
 a51:=Tryz.isAgg240
 z51:=Tryz.sizeOf240
 v51:=Tryz.zeroValue240
 t105:=Tryz.underlying237
 a105:=Tryz.isAgg237
 z105:=Tryz.sizeOf237
 v105:=Tryz.zeroValue237
 t119:=Tryz.underlying296
 a119:=Tryz.isAgg296
 z119:=Tryz.sizeOf296
 t138:=Tryz.underlying298
 a138:=Tryz.isAgg298
 z138:=Tryz.sizeOf298
 v138:=Tryz.zeroValue298
 t139:=Tryz.underlying299
 a139:=Tryz.isAgg299
 z139:=Tryz.sizeOf299
 v139:=Tryz.zeroValue299
 t146:=Tryz.underlying241
 a146:=Tryz.isAgg241
 z146:=Tryz.sizeOf241
 v146:=Tryz.zeroValue241
 g1:=by kernel_rfl
 g3:=by kernel_rfl
 g4:=by kernel_rfl }
open Go.RowKit Go.Lib in
theorem Tryz.strings_Split (s sep:BA) (m:Int) (w:World) (hs:s.size < 4294967281) (hm:w.cell? ⟨0,0,none⟩=some (.int .i64 m)) (h1:1≤sep.size) :
 Calls Tryz.prog 64 #[.string s,.string sep] w fun e w'=>
  e = .returned (.slice (some ⟨w.heap.size,0,none⟩) (Lib.countB s sep+1) (Lib.countB s sep+1))∧w'=w.alloc (.cells ((Lib.splitB sep 0 (Lib.countB s sep) s).map Value.string).toArray 9):=Any.strings_Split Tryz.lays146 (by kernel_rfl) s sep m w hs hm h1
def Tryz.lays105_ren:Go.Shelf.Ren:=⟨fun | 105=>102 | 212=>159 | 99=>160 | 165=>103 | 166=>94 | 170=>161 | 169=>47 | 263=>203 | 264=>204 | 206=>176 | 240=>148 | 241=>162 | 276=>192 | 277=>205 | n=>n,fun | 9=>9 | 3=>3 | 4=>4 | 20=>20 | 0=>0 | 46=>156 | 109=>199 | 5=>5 | 72=>98 | 76=>150 | 51=>240 | 146=>241 | 53=>106 | 148=>243 | 70=>96 | 37=>51 | 75=>149 | 127=>161 | 164=>226 | 80=>102 | n=>n,fun | n=>n⟩
theorem Tryz.lays105:Go.Proofs.Lays.n105 Tryz.prog Tryz.lays105_ren:= by constructor <;> first | kernel_rfl | (intro _; kernel_rfl)
theorem Tryz.Builder_Extra_105:Builder.Extra Tryz.prog Tryz.lays105_ren:={
 sizeBuilder:=by kernel_rfl
 liesBuilder:=by kernel_rfl
 t5:=Tryz.underlying5
 a5:=Tryz.isAgg5
 z5:=Tryz.sizeOf5
 v5:=Tryz.zeroValue5
 infoByte:=by kernel_rfl
 cellsByte:=by kernel_rfl
 sizeByte:=by kernel_rfl
 neB5:=by decide }
open Go.RowKit Go.Lib in
theorem Tryz.strings_Repeat (s:BA) (c:Nat) (w:World) (hc:c≤9223372036854775807) (hlen:s.size*c≤140737488355328) :
 Calls Tryz.prog 102 #[.string s,.int .i64 c] w fun e w'=>e = .returned (.string ⟨(Lib.repeatL s.data.toList c).toArray⟩)∧Below w.heap.size w w':=Any.strings_Repeat Tryz.lays105 Tryz.Builder_Extra_105 s c w hc hlen
def Tryz.laysNm220_ren:Go.Shelf.Ren:=⟨fun | 20=>195 | n=>n,fun | 22=>22 | 3=>3 | 4=>4 | 0=>0 | n=>n,fun | n=>n⟩
theorem Tryz.laysNm220:Go.Proofs.Lays2.n20 Tryz.prog Tryz.laysNm220_ren:={
 mixed:=by kernel_rfl
 f20:=Tryz.func195.trans (congrArg some (by kernel_rfl))
 t0:=Tryz.underlying0
 a0:=Tryz.isAgg0
 z0:=Tryz.sizeOf0
 v0:=Tryz.zeroValue0
 t3:=Tryz.underlying3
 a3:=Tryz.isAgg3
 z3:=Tryz.sizeOf3
 v3:=Tryz.zeroValue3
 t4:=Tryz.underlying4
 a4:=Tryz.isAgg4
 z4:=Tryz.sizeOf4
 v4:=Tryz.zeroValue4
 t22:=Tryz.underlying22
 a22:=Tryz.isAgg22
 z22:=Tryz.sizeOf22
 v22:=Tryz.zeroValue22
 i3:=by kernel_rfl }
open Go.RowKit Go.Lib Go.Sort in
theorem Tryz.slices_Compact_int (blk off cap:Nat) (zs:List Int) (w:World) (hH:Holds (Value.int .i64) w blk off zs.toArray) (hsz:zs.length≤9223372036854775807) (hcap:zs.length≤cap) :
 Calls Tryz.prog 195 #[.slice (some ⟨blk,off,none⟩) zs.length cap] w fun e w'=>e = .returned (.slice (some ⟨blk,off,none⟩) (Lib.compact zs).length cap)∧∃ q,w'=putRow (Value.int .i64) (Sort.ahead w q) blk off (Lib.compact zs++List.replicate (zs.length - (Lib.compact zs).length) 0).toArray:=Any.slices_Compact_int Tryz.laysNm220 blk off cap zs w hH hsz hcap
open Go.RowKit Go.Lib Go.Sort in
theorem Tryz.slices_Compact_int_empty (a:Option Addr) (cap:Nat) (w:World) :
 Calls Tryz.prog 195 #[.slice a 0 cap] w fun e w'=>e = .returned (.slice a 0 cap)∧w'=w:=Any.slices_Compact_int_empty Tryz.laysNm220 a cap w
open Go.RowKit Go.Sort in
theorem Tryz.slices_Sort_int_none (p:Option Addr) (cap:Nat) (w:World) :
 Calls Tryz.prog 194 #[.slice p 0 cap] w fun e w'=>e = .returned (.tuple #[])∧w'=w:=Any.slices_Sort_int_none Tryz.lays189 p cap w
def Tryz.laysSlH6_f193_ren:Go.Shelf.Ren:=⟨fun | 6=>193 | n=>n,fun | 22=>22 | 23=>3 | 25=>91 | 3=>3 | 0=>0 | 4=>4 | n=>n,fun | n=>n⟩
theorem Tryz.laysSlH6_f193:Go.Proofs.SlLaysH.n6 Tryz.prog Tryz.laysSlH6_f193_ren:={
 mixed:=by kernel_rfl
 f6:=⟨Tryz.f193.name,by decide,Tryz.func193.trans (congrArg some (by kernel_rfl))⟩
 t0:=Tryz.underlying0
 a0:=Tryz.isAgg0
 z0:=Tryz.sizeOf0
 v0:=Tryz.zeroValue0
 t3:=Tryz.underlying3
 a3:=Tryz.isAgg3
 z3:=Tryz.sizeOf3
 v3:=Tryz.zeroValue3
 t4:=Tryz.underlying4
 a4:=Tryz.isAgg4
 z4:=Tryz.sizeOf4
 v4:=Tryz.zeroValue4
 t22:=Tryz.underlying22
 a22:=Tryz.isAgg22
 z22:=Tryz.sizeOf22
 v22:=Tryz.zeroValue22
 a23:=Tryz.isAgg3
 z23:=Tryz.sizeOf3
 t25:=Tryz.underlying91
 a25:=Tryz.isAgg91
 z25:=Tryz.sizeOf91
 v25:=Tryz.zeroValue91 }
open Go.RowKit Go.Lib in
theorem Tryz.slices_IndexFunc_empty {α:Type} [Inhabited α] (a:Option Addr) (c:Nat) (fv:Value) (w:World) :
 Calls Tryz.prog 193 #[.slice a 0 c,fv] w fun e w'=>e = .returned (.int .i64 (-1))∧w'=w:=AnyE.slices_IndexFunc_empty Tryz.laysSlH6_f193 a c fv w
def Tryz.laysSlH10_f150_ren:Go.Shelf.Ren:=⟨fun | 10=>150 | 6=>193 | n=>n,fun | 22=>22 | 23=>3 | 25=>91 | 3=>3 | 4=>4 | 0=>0 | n=>n,fun | n=>n⟩
theorem Tryz.laysSlH10_f150:Go.Proofs.SlLaysH.n10 Tryz.prog Tryz.laysSlH10_f150_ren:={
 mixed:=by kernel_rfl
 f6:=⟨Tryz.f193.name,by decide,Tryz.func193.trans (congrArg some (by kernel_rfl))⟩
 f10:=⟨Tryz.f150.name,by decide,Tryz.func150.trans (congrArg some (by kernel_rfl))⟩
 t0:=Tryz.underlying0
 a0:=Tryz.isAgg0
 z0:=Tryz.sizeOf0
 v0:=Tryz.zeroValue0
 t3:=Tryz.underlying3
 a3:=Tryz.isAgg3
 z3:=Tryz.sizeOf3
 v3:=Tryz.zeroValue3
 t4:=Tryz.underlying4
 a4:=Tryz.isAgg4
 z4:=Tryz.sizeOf4
 v4:=Tryz.zeroValue4
 t22:=Tryz.underlying22
 a22:=Tryz.isAgg22
 z22:=Tryz.sizeOf22
 v22:=Tryz.zeroValue22
 a23:=Tryz.isAgg3
 z23:=Tryz.sizeOf3
 t25:=Tryz.underlying91
 a25:=Tryz.isAgg91
 z25:=Tryz.sizeOf91
 v25:=Tryz.zeroValue91 }
open Go.RowKit Go.Lib Go.Sort in
theorem Tryz.slices_DeleteFunc {α:Type} [Inhabited α] (enc:α→Value) (hO:OneCell enc) (p:α→Bool) (g:Nat) (lb:Array Value) (eg:∀ args w,(callFunc g args).run Tryz.prog w = .ok (.enter g args) w) (zr:α) (v23:∀ w,(zeroValue 3).run Tryz.prog w = .ok (enc zr) w) (blk off cap:Nat) (d:Array α) (w:World) (hp:PredAt Tryz.prog g lb enc p w) (hpo:PredOver Tryz.prog g lb enc p blk off d.size w) (hH:Holds enc w blk off d) (hsz:d.size≤9223372036854775807) (hcap:d.size≤cap) :
 Calls Tryz.prog 150 #[.slice (some ⟨blk,off,none⟩) d.size cap,.func (.func g) #[] lb] w fun e w'=>e = .returned (.slice (some ⟨blk,off,none⟩) (d.toList.filter fun x=>!p x).length cap)∧∃ q,w'=putRow enc (Sort.ahead w q) blk off ((d.toList.filter fun x=>!p x)++List.replicate (d.size - (d.toList.filter fun x=>!p x).length) zr).toArray:=AnyE.slices_DeleteFunc Tryz.laysSlH10_f150 enc hO p g lb eg zr v23 blk off cap d w hp hpo hH hsz hcap
end Go.Proofs
namespace Go.FM
open Go Go.Proofs Go.RowKit Go.Sort Go.Lib
set_option maxHeartbeats 12800000 in
theorem Zz (u:Nat) (hu64:u < 18446744073709551616) (w:World) (htab:Lib.TabIs Tryz.prog w "internal/strconv.uint64pow10" .u64 Lib.pow10Tab) :
  Calls Tryz.prog 154 #[.int .u64 u,.int .i64 10] w fun e w'=>e = .returned (.string ⟨(Lib.decDigits u).toArray⟩)∧∃ k os,w'=grow (w.drewN k) os:=by
 by_cases hs:u < 100
 ·have hwr:IntKind.i64.wrap (u:Int)=(u:Int):=by rw [IntKind.wrap_i64]; omega
  have iu:(u:Int) < 100:=by omega
  go_enter Tryz.func154,Tryz.ntmps154
  go_wp2_with (go_at_call 196; refine (Tryz.internal_strconv_small u hs _).mono ?_; rintro e w' ⟨rfl,rfl⟩)
  go_ret
  exact ⟨rfl,0,#[],by simp [World.drewN_zero]⟩
 ·have hu1:1≤u:=by omega
  have hnd20:Lib.nDigits u≤20:=by have:=Lib.numDigits_eq u hu1 hu64; split at this <;> omega
  have hal:Tryz.prog.arrayLen 231=24:=by simp [Program.arrayLen,Tryz.underlying231]
  have hsl:∀ W,(Instr.sliceAt 231 (.pointer (some ⟨w.heap.size,0,none⟩)) none (some (.int .i64 (Lib.nDigits u:Int))) none).run Tryz.prog W = .ok (.slice (some ⟨w.heap.size,0,none⟩) (Lib.nDigits u) 24) W:=fun W=>by
   rw [run_sliceAt_array_h W 231 ⟨w.heap.size,0,none⟩ (by simp [Program.arrayLen,Program.elem,Tryz.underlying231]) .i64 (Lib.nDigits u:Int) (by omega) (by rw [hal]; omega)]
   go_simp
  have hH0:=Lib.holds_zero0 w 231 (Lib.nDigits u) (by omega);have hfmt:=Tryz.internal_strconv_formatBase10 w.heap.size 0 24 u (Array.replicate (Lib.nDigits u) 0) (w.alloc (.cells Lib.zeros24 231)) hH0 (by rw [Array.size_replicate]; exact Lib.lt_pow_nDigits u) hu64 (by rw [Array.size_replicate]; omega);rw [Array.size_replicate] at hfmt;have HH0:=Lib.hid hH0;have iu:¬ (u:Int) < 100:=by omega
  clear hH0 hal hs
  go_enter Tryz.func154,Tryz.ntmps154
  go_wp2_with (first
   | (go_at_call 197; refine (Tryz.internal_strconv_numDigits u hu1 hu64 _ (Lib.tabIs_alloc htab _)).mono ?_; rintro e w' ⟨rfl,rfl⟩))
  go_at_call 198
  refine hfmt.mono ?_;rintro e w' ⟨rfl,k,v',dk,rfl,hF⟩;have hcv:(convert 51 9 (.slice (some ⟨w.heap.size,0,none⟩) (Lib.nDigits u) 24)).run Tryz.prog ((putRow (fun (b:UInt8)=>Value.int .u8 (b.toNat:Int)) (w.alloc (.cells Lib.zeros24 231)) w.heap.size 0 dk).drewN k) = .ok (.string ⟨(Lib.decDigits u).toArray⟩) ((putRow (fun (b:UInt8)=>Value.int .u8 (b.toNat:Int)) (w.alloc (.cells Lib.zeros24 231)) w.heap.size 0 dk).drewN k):=by
   have h:=run_convert_bytes_back (P:=Tryz.prog) ((putRow (fun (b:UInt8)=>Value.int .u8 (b.toNat:Int)) (w.alloc (.cells Lib.zeros24 231)) w.heap.size 0 dk).drewN k) 51 9 5 ⟨w.heap.size,0,none⟩ 24 (Lib.decDigits u) Tryz.underlying51 Tryz.underlying5 Tryz.underlying9 (fun j hj=>by
    rw [Lib.row_is_numeral hF j hj,Lib.add_plain,World.cell?_drewN];exact cell?_putRow (fun (b:UInt8)=>Value.int .u8 (b.toNat:Int)) _ w.heap.size 0 _ dk HH0.out (by rw [hF.size,Array.size_replicate]) j (by rw [hF.size]; rw [Lib.decDigits_length] at hj; exact hj))
   rw [Lib.decDigits_length] at h;exact h
  go_wp2
  go_ret
  obtain ⟨os,eo⟩:=Lib.fin_at w (.cells Lib.zeros24 231) dk k 0;exact ⟨rfl,k,os,eo⟩
set_option maxHeartbeats 1600000 in
theorem Zy (u:Nat) (hu64:u < 18446744073709551616) (w:World) (htab:Lib.TabIs Tryz.prog w "internal/strconv.uint64pow10" .u64 Lib.pow10Tab) :
  Calls Tryz.prog 99 #[.int .u64 u,.int .i64 10] w fun e w'=>e = .returned (.string ⟨(Lib.decDigits u).toArray⟩)∧∃ k os,w'=grow (w.drewN k) os:=by
 go_enter Tryz.func99,Tryz.ntmps99
 go_wp2_with (go_at_call 154; refine (Zz u hu64 _ htab).mono ?_; rintro e w' ⟨rfl,hw⟩)
 go_ret
 exact ⟨rfl,hw⟩
theorem ziX:(PR.info? 9).map (fun i=>(i.zero,i.size,i.bytes))=some (some (.string .empty),1,16):=by kernel_rfl
set_option maxHeartbeats 4000000 in
theorem Vm (b:Addr) (n c:Nat) (news:List Value) (w:World) (hl:news.length=n) (hn:n≤maxLen) (hbig:n*16≤140737488355328)
  (hc:∀ j u,news[j]?=some u→w.cell? (b.add j)=some u) (h1:∀ u∈news,u.oneCell'=true) :
  Calls Tryz.prog 138 #[.slice (some b) n c] w fun e w'=>∃ v',e = .returned v'∧w'.ownsRow w.heap.size 9 1 v' n news∧Below w.heap.size w w':=by
 obtain ⟨i0,hi,hz0,hz1,hz2⟩:=info_parts ziX;have qS:∀ (w:World) (a:Option Addr) (n c n' c':Nat),(binOp .eql 65 (.slice a n c) (.slice none n' c')).run Tryz.prog w = .ok (.bool a.isNone) w:=fun w a n c n' c'=>Lib.run_eql_slice_nil w _ _ a n c n' c' Tryz.underlying65
 have A:Aside (∀ j u,news[j]?=some u→w.cell? (b.add j)=some u):=hc;clear hc
 go_enter Tryz.func138,Tryz.ntmps138
 go_wp2_with (at_builtin; refine wpList_append_own _ rfl _ _ 65 rfl w.heap.size 9 i0 (.string .empty) 1 16 Tryz.underlying65 hi hz0 hz1 hz2 rfl (by decide) _ _ _ rfl (World.ownsRow_made w #[] 0 (Nat.le_refl _) (Nat.zero_le _) (by simp)) b n c news rfl ?qc1 ?qc2 ?qc3 ?qc4 ?qc5 ?qc6 ?_)
 case qc1=>rw [Nat.mul_one]; exact hl
 case qc2=>
  intro j u hj;exact Lib.cell?_alloc_some _ (A.out j u hj)
 case qc3=>exact h1
 case qc4=>rw [Nat.zero_add]; exact hn
 case qc5=>rw [Nat.zero_add]; exact hbig
 case qc6=>simp
 intro v' w1 hown hgrow hnil
 go_wp2
 go_ret
 refine ⟨v',rfl,by simpa using hown,?_⟩;exact ((Below.refl _ w).alloc (Nat.le_refl _) _).grown hgrow (by simp) (by intro k hk; simp [Value.ownBlock] at hk; omega)
set_option maxHeartbeats 1000000 in
theorem Vj (n c:Nat) (w:World):Calls Tryz.prog 138 #[.slice none n c] w fun e w'=>e = .returned (.slice none 0 0)∧w'=w:=by
 have qS:∀ (w:World) (a:Option Addr) (n c n' c':Nat),(binOp .eql 65 (.slice a n c) (.slice none n' c')).run Tryz.prog w = .ok (.bool a.isNone) w:=fun w a n c n' c'=>Lib.run_eql_slice_nil w _ _ a n c n' c' Tryz.underlying65
 go_enter Tryz.func138,Tryz.ntmps138
 go_wp2
 go_ret
 exact ⟨rfl,rfl⟩
open Go Go.RowKit
def iB:DR
 | [.list false [.str] l]=>.br (decide (l.length≤4294967296)) (.ok (.vec 9 false [.str] l) []) .no
 | _=>.no
def dA:DR
 | [.list false [.str] l,.str s]=>.ok (.int .i64 (FU l s 0)) []
 | _=>.no
open Go Go.Proofs Go.RowKit
structure GF (h:Nat→Option Obj):Prop where
 unit:True
 gm:∃ c T fr m,h 0=some (.cells c T fr)∧c[0]?=some (.int .i64 m)
 gp:∃ T fr,h 1=some (.cells (Lib.pow10Tab.map fun z=>Value.int .u64 z).toArray T fr)
 gs:∃ c T fr te pe,h 2=some (.cells c T fr)∧c[0]?=some (.iface te pe)
 gr:∃ c T fr te pe,h 3=some (.cells c T fr)∧c[0]?=some (.iface te pe)
def B0:BT:={ T:=98,e:=5,ng:=4,F:=GF }
theorem jS {w:World} {h:Nat→Option Obj} (hh:h=fun b=>if b < B0.ng then w.heap[b]? else none) {g:Nat} (hg:g < 4) {o:Obj} (ho:h g=some o):w.heap[g]?=some o:=by
 rw [hh] at ho;simp only at ho;rw [BR (show g < B0.ng from hg)] at ho;exact ho
theorem Ca {w:World} (h:Glob B0 w):∃ m,w.cell? ⟨0,0,none⟩=some (.int .i64 m):=by
 obtain ⟨c,T,fr,m,h1,h2⟩:=h.2.gm;exact ⟨m,by simp only [vaF,jS rfl (by decide) h1]; exact h2⟩
theorem Cb {w:World} (h:Glob B0 w):Lib.TabIs Tryz.prog w "internal/strconv.uint64pow10" .u64 Lib.pow10Tab:=by
 obtain ⟨T,fr,h1⟩:=h.2.gp;have hn:Tryz.prog.globalNamed "internal/strconv.uint64pow10" = some 1:=by kernel_rfl
 unfold Lib.TabIs World.var?;rw [hn];simp only [Option.bind_some,jS rfl (by decide) h1]
theorem Cd {w:World} (h:Glob B0 w):∃ ev,w.cell? ⟨2,0,none⟩=some ev∧(ev = .nilIface∨∃ te pe,ev = .iface te pe):=by
 obtain ⟨c,T,fr,te,pe,h1,h2⟩:=h.2.gs;exact ⟨_,by simp only [vaF,jS rfl (by decide) h1]; exact h2,.inr ⟨te,pe,rfl⟩⟩
theorem Cc {w:World} (h:Glob B0 w):∃ ev,w.cell? ⟨3,0,none⟩=some ev∧(ev = .nilIface∨∃ te pe,ev = .iface te pe):=by
 obtain ⟨c,T,fr,te,pe,h1,h2⟩:=h.2.gr;exact ⟨_,by simp only [vaF,jS rfl (by decide) h1]; exact h2,.inr ⟨te,pe,rfl⟩⟩
theorem Keep.below {w w':World} (h:Below w.heap.size w w'):Keep (fun _=>False) w w':=⟨h.os,h.tape,h.output,h.size,fun b hb _=>h.block b hb⟩
theorem Keep.drewN {O:Nat→Prop} (w:World):∀ n,Keep O w (w.drewN n):=fun _=>⟨rfl,rfl,rfl,AW _,fun _ _ _=>rfl⟩
theorem Keep.grow (w:World) (os:Array Obj):Keep (fun _=>False) w (Go.Sort.grow w os):=⟨rfl,rfl,rfl,by simp [Go.Sort.grow],fun b hb _=>by simp [Go.Sort.grow,Array.getElem?_append_left hb]⟩
theorem tA:DS PR B0 94 TQ:=by
 intro w X γ vs xs r out hsp hg hx hR hV;unfold TQ at hsp;simp only at hsp;split at hsp
 ·rename_i s t;cases hc:decide (s.size+t.size≤strMax) with
  | false=>rw [hc] at hsp; simp [R.get] at hsp
  | true=>
   rw [hc] at hsp;simp only [R.get,AC,AQ] at hsp;obtain ⟨rfl,rfl⟩:=hsp;have hle:s.size+t.size≤strMax:=A0 hc;refine sV hR rfl rfl (fun γ' o w' O x h=>by
    simp only [VRel] at h ⊢;obtain ⟨cs,rfl,h⟩:=h;refine ⟨cs,rfl,?_⟩
    match cs,h with
    | ⟨[a,b]⟩,h=>simp only [VRels,VRel] at h ⊢; exact h) (fun b v p hgm hB=>?_)
   obtain ⟨x0,x1,rfl⟩:∃ x0 x1,xs=[x0,x1]:=by
    have:=hV.length
    simp at this
    match xs,this with
    | [a,b],_=>exact ⟨a,b,rfl⟩
   simp only [AZ,CC,EC,VRels] at hV;have h0:=nF hgm hV.1;have h1:=hV.2.1;simp only [VRel] at h1;obtain ⟨rfl,ht⟩:=h1;subst h0;refine Does.of_calls Tryz.func94 (by kernel_rfl) (by kernel_rfl) ((Uj b p v (DC s) t w hB.self hB.heap (by rw [vaA]; exact hB.own) hB.ne (by rw [vaA]; unfold strMax at hle; omega)).mono ?_);rintro e w' ⟨rfl,v',q1,q2,q3,q4,q5⟩;refine ⟨_,rfl,⟨_,v',⟨.inr rfl,q1,?_,q3,?_⟩,q4,q5⟩,fun O=>?_⟩
   ·have e1:DC (s++t)=DC s++DC t:=by simp [DC]
    have e2:(s++t).size=(DC s++DC t).length:=by simp [vaA]
    rw [e1,e2];exact q2
   ·simp only [A3]; exact hle
   ·simp only [VRel];refine ⟨_,rfl,?_⟩;simp only [VRels,VRel,ic,B4];refine ⟨trivial,?_,?_⟩
    ·have:AB.min = -9223372036854775808:=rfl
     omega
    ·have:AB.max=9223372036854775807:=rfl
     unfold strMax at hle;omega
 ·simp [R.get] at hsp
theorem Un {c:Int} (h0:IntKind.u8.min≤c) (h1:c≤IntKind.u8.max):(Value.int .u8 ((MZ c).toNat:Int)) = .int .u8 c:=by
 have e1:IntKind.u8.min=0:=rfl;have e2:IntKind.u8.max=255:=rfl
 have:((MZ c).toNat:Int)=c:=by
  unfold MZ;rw [vaV (by simp [UInt8.size]; omega)];omega
 rw [this]
theorem Kq:DS PR B0 105 YD:=by
 intro w X γ vs xs r out hsp hg hx hR hV;unfold YD at hsp;simp only at hsp;split at hsp
 ·rename_i s c;cases hc:decide (s.size+1≤strMax) with
  | false=>rw [hc] at hsp; simp [R.get] at hsp
  | true=>
   rw [hc] at hsp;simp only [R.get,AC,AQ] at hsp;obtain ⟨rfl,rfl⟩:=hsp;have hle:s.size+1≤strMax:=A0 hc;refine sV hR rfl rfl (fun γ' o w' O x h=>by simp only [VRel] at h ⊢; exact h) (fun b v p hgm hB=>?_);obtain ⟨x0,x1,rfl⟩:∃ x0 x1,xs=[x0,x1]:=by
    have:=hV.length
    simp at this
    match xs,this with
    | [a,b],_=>exact ⟨a,b,rfl⟩
   simp only [AZ,CC,EC,VRels] at hV;have h0:=nF hgm hV.1;have h1:=hV.2.1;simp only [VRel] at h1;obtain ⟨rfl,hc0,hc1⟩:=h1;subst h0;refine Does.of_calls Tryz.func105 (by kernel_rfl) (by kernel_rfl) ((Ui b p v (DC s) c w hB.self hB.heap (by rw [vaA]; exact hB.own) hB.ne (by rw [vaA]; unfold strMax at hle; omega)).mono ?_);rintro e w' ⟨rfl,v',q1,q2,q3,q4,q5⟩;refine ⟨_,rfl,⟨_,v',⟨.inr rfl,q1,?_,q3,?_⟩,q4,q5⟩,fun O=>by simp only [VRel]⟩
   ·have e1:DC (s.push (MZ c))=DC s++[.int .u8 c]:=by
     rw [← Un hc0 hc1];simp [DC]
    have e2:(s.push (MZ c)).size=(DC s++[Value.int .u8 c]).length:=by simp [vaA]
    rw [e1,e2];exact q2
   ·simp only [va4]; exact hle
 ·simp [R.get] at hsp
theorem s9:DS PR B0 47 TP:=by
 intro w X γ vs xs r out hsp hg hx hR hV;unfold TP at hsp;simp only at hsp;split at hsp
 ·rename_i s;simp only [R.get,AC,AQ] at hsp;obtain ⟨rfl,rfl⟩:=hsp;refine sV hR rfl rfl (fun γ' o w' O x h=>by simp only [VRel] at h ⊢; exact h) (fun b v p hgm hB=>?_);obtain ⟨x0,rfl⟩:∃ x0,xs=[x0]:=by
   have:=hV.length
   simp at this
   match xs,this with
   | [a],_=>exact ⟨a,rfl⟩
  simp only [AZ,CC,EC,VRels] at hV;have h0:=nF hgm hV.1;subst h0;refine Does.of_calls Tryz.func47 (by kernel_rfl) (by kernel_rfl) ((Ud b p v s w hB.heap hB.own hB.ne).mono ?_);rintro e w' ⟨rfl,q1,q2,q3⟩;exact ⟨_,rfl,⟨p,v,⟨hB.self,q1,q2,hB.ne,hB.size⟩,q3,fun k hk=>.inl hk⟩,fun O=>by simp only [VRel]; exact ⟨trivial,hB.size⟩⟩
 ·simp [R.get] at hsp
theorem gH:DS PR B0 42 OM:=by
 intro w X γ vs xs r out hsp hg hx hR hV;unfold OM at hsp;simp only at hsp;split at hsp
 ·rename_i n;simp only [R.get,AC,AQ] at hsp;obtain ⟨rfl,rfl⟩:=hsp;obtain ⟨x0,rfl⟩:∃ x0,xs=[x0]:=by
   have:=hV.length
   simp at this
   match xs,this with
   | [a],_=>exact ⟨a,rfl⟩
  simp only [AZ,CC,EC,VRels,VRel,B4] at hV;obtain ⟨rfl,h0,h1⟩:=hV;refine P7 hR rfl rfl (Does.of_calls Tryz.func42 (by kernel_rfl) (by kernel_rfl) ((Tryz.strconv_Itoa n h0 h1 w (Cb hg)).mono ?_));rintro e w' ⟨rfl,k,os,rfl⟩;exact ⟨_,rfl,((Keep.drewN w k).trans (Keep.grow _ os) (fun _ _ h=>h)),fun O _=>by
   simp only [VRel];exact ⟨rfl,by have:=Y6 h0 h1; unfold strMax; omega⟩⟩
 ·simp [R.get] at hsp
theorem lR:DS PR B0 122 QS:=by
 intro w X γ vs xs r out hsp hg hx hR hV;unfold QS at hsp;simp only at hsp;split at hsp
 ·rename_i s;simp only [R.get,AC,AQ] at hsp;obtain ⟨rfl,rfl⟩:=hsp;obtain ⟨x0,rfl⟩:∃ x0,xs=[x0]:=by
   have:=hV.length
   simp at this
   match xs,this with
   | [a],_=>exact ⟨a,rfl⟩
  simp only [AZ,CC,EC,VRels,VRel,B4] at hV;obtain ⟨rfl,hs⟩:=hV;unfold strMax at hs;have hb:=vL s;refine P7 hR rfl rfl (Does.of_calls Tryz.func122 (by kernel_rfl) (by kernel_rfl) ?_);cases ha:Lib.atoiAll s.data.toList
  ·rename_i v;refine (Tryz.strconv_Atoi_ok s (by omega) v ha w).mono ?_;rintro e w' ⟨rfl,hw⟩;have e1:FA s=v:=by unfold FA; rw [ha]
   have e2:LC s=true:=by unfold LC; rw [ha]
   rw [e1] at hb ⊢;rw [e2];refine ⟨_,rfl,?_,fun O _=>?_⟩
   ·rcases hw with rfl | ⟨t,rfl⟩
    ·exact Keep.refl _ _
    ·unfold vaQ;have h1:=Keep.alloc (fun _=>False) w.drew (.cells (Lib.bytesCells w 5 t) 5);refine ((Keep.drew (fun _=>False) w).trans h1 (fun _ _ h=>h)).trans (Keep.freeze (O:=fun k=>k=w.heap.size) _ ⟨w.heap.size,_,none⟩ 1 rfl) (fun b hb h=>?_);subst h;exact absurd hb (Nat.lt_irrefl _)
   ·simp only [VRel];exact ⟨_,rfl,by simp only [VRels,VRel,B4,vaO]; exact hb⟩
  ·skip
   obtain ⟨ev,h1,h2⟩:=Cd hg;refine (Tryz.strconv_Atoi_syntax s (by omega) ha ev w h1 h2).mono ?_;rintro e w' ⟨N,rfl,_,_,hw⟩;have e1:FA s=0:=by unfold FA; rw [ha]
   have e2:LC s=false:=by unfold LC; rw [ha]
   rw [e1] at hb ⊢;rw [e2];refine ⟨_,rfl,Keep.below hw,fun O _=>?_⟩;simp only [VRel];exact ⟨_,rfl,by simp only [VRels,VRel,B4]; exact ⟨⟨trivial,hb⟩,_,_,rfl⟩⟩
  ·skip
   obtain ⟨ev,h1,h2⟩:=Cc hg;refine (Tryz.strconv_Atoi_range s (by omega) ha ev w h1 h2).mono ?_;rintro e w' ⟨N,rfl,_,_,hw⟩;have e1:FA s=Lib.atoiSat s.data.toList:=by unfold FA; rw [ha]
   have e2:LC s=false:=by unfold LC; rw [ha]
   rw [e1] at hb ⊢;rw [e2];refine ⟨_,rfl,Keep.below hw,fun O _=>?_⟩;simp only [VRel];exact ⟨_,rfl,by simp only [VRels,VRel,B4]; exact ⟨⟨trivial,hb⟩,_,_,rfl⟩⟩
 ·simp [R.get] at hsp
theorem ziz:DS PR B0 99 iD:=by
 intro w X γ vs xs r out hsp hg hx hR hV;unfold iD at hsp;simp only at hsp;split at hsp
 ·rename_i n b;cases hc:decide (b=10) with
  | false=>rw [hc] at hsp; simp [R.get] at hsp
  | true=>
   rw [hc] at hsp;have hb:=A0 hc;subst hb;simp only [R.get,AC,AQ] at hsp;obtain ⟨rfl,rfl⟩:=hsp;obtain ⟨x0,x1,rfl⟩:∃ x0 x1,xs=[x0,x1]:=by
    have:=hV.length
    simp at this
    match xs,this with
    | [a,b],_=>exact ⟨a,b,rfl⟩
   simp only [AZ,CC,EC,VRels,VRel,B4] at hV;obtain ⟨⟨rfl,h0,h1⟩,rfl,_⟩:=hV;have e0:AJ.min=0:=rfl;have e1:AJ.max=18446744073709551615:=rfl;rw [e0] at h0;rw [e1] at h1;obtain ⟨u,rfl⟩:∃ u:Nat,n=u:=⟨n.toNat,by omega⟩;refine P7 hR rfl rfl (Does.of_calls Tryz.func99 (by kernel_rfl) (by kernel_rfl) ((Zy u (by omega) w (Cb hg)).mono ?_));rintro e w' ⟨rfl,k,os,rfl⟩;refine ⟨_,rfl,((Keep.drewN w k).trans (Keep.grow _ os) (fun _ _ h=>h)),fun O _=>?_⟩;simp only [VRel];have hz:=qT h0 h1;exact ⟨by simp [E1],by unfold strMax; omega⟩
 ·simp [R.get] at hsp
theorem ziA:DS PR B0 225 iE:=by
 intro w X γ vs xs r out hsp hg hx hR hV;unfold iE at hsp;simp only at hsp;split at hsp
 ·rename_i s b c;cases hc:(decide (b=10)&&decide (c=64)) with
  | false=>rw [hc] at hsp; simp [R.get] at hsp
  | true=>
   rw [hc] at hsp;simp only [AI,AP] at hc;obtain ⟨rfl,rfl⟩:=hc;simp only [R.get,AC,AQ] at hsp;obtain ⟨rfl,rfl⟩:=hsp;obtain ⟨x0,x1,x2,rfl⟩:∃ x0 x1 x2,xs=[x0,x1,x2]:=by
    have:=hV.length
    simp at this
    match xs,this with
    | [a,b,c],_=>exact ⟨a,b,c,rfl⟩
   simp only [AZ,CC,EC,VRels,VRel,B4] at hV;obtain ⟨⟨rfl,hs⟩,⟨rfl,_⟩,rfl,_⟩:=hV;unfold strMax at hs;have hb:=rW s;refine P7 hR rfl rfl (Does.of_calls Tryz.func225 (by kernel_rfl) (by kernel_rfl) ?_);cases ha:Lib.parseMag s.data.toList
   ·rename_i v;refine (Tryz.strconv_ParseUint_10_at64_ok s (by omega) v (by rw [vbE]; exact ha) w).mono ?_;rintro e w' ⟨rfl,hw⟩;have e1:GG s=v:=by unfold GG; rw [ha]
    have e2:I4 s=true:=by unfold I4; rw [ha]
    rw [e1] at hb ⊢;rw [e2];refine ⟨_,rfl,?_,fun O _=>?_⟩
    ·rcases hw with rfl | rfl
     ·exact Keep.refl _ _
     ·unfold vaQ;have h1:=Keep.alloc (fun _=>False) w.drew (.cells (Lib.bytesCells w 5 s) 5);refine ((Keep.drew (fun _=>False) w).trans h1 (fun _ _ h=>h)).trans (Keep.freeze (O:=fun k=>k=w.heap.size) _ ⟨w.heap.size,_,none⟩ 1 rfl) (fun b hb h=>?_);subst h;exact absurd hb (Nat.lt_irrefl _)
    ·simp only [VRel];exact ⟨_,rfl,by simp only [VRels,VRel,B4,vaO]; exact hb⟩
   ·skip
    obtain ⟨ev,h1,h2⟩:=Cd hg;refine (Tryz.strconv_ParseUint_10_at64_syntax s (by omega) (by rw [vbE]; exact ha) ev w h1 h2).mono ?_;rintro e w' ⟨N,rfl,_,_,hw⟩;have e1:GG s=0:=by unfold GG; rw [ha]
    have e2:I4 s=false:=by unfold I4; rw [ha]
    rw [e1] at hb ⊢;rw [e2];refine ⟨_,rfl,Keep.below hw,fun O _=>?_⟩;simp only [VRel];exact ⟨_,rfl,by simp only [VRels,VRel,B4]; exact ⟨⟨trivial,hb⟩,_,_,rfl⟩⟩
   ·skip
    obtain ⟨ev,h1,h2⟩:=Cc hg;refine (Tryz.strconv_ParseUint_10_at64_range s (by omega) (by rw [vbE]; exact ha) ev w h1 h2).mono ?_;rintro e w' ⟨N,rfl,_,_,hw⟩;have e1:GG s=18446744073709551615:=by unfold GG; rw [ha]
    have e2:I4 s=false:=by unfold I4; rw [ha]
    rw [e1] at hb ⊢;rw [e2];refine ⟨_,rfl,Keep.below hw,fun O _=>?_⟩;simp only [VRel];exact ⟨_,rfl,by simp only [VRels,VRel,B4]; exact ⟨⟨trivial,hb⟩,_,_,rfl⟩⟩
 ·simp [R.get] at hsp
theorem ziC:DS PR B0 101 iG:=by
 intro w X γ vs xs r out hsp hg hx hR hV;unfold iG at hsp;simp only at hsp;split at hsp
 ·rename_i s cs;cases hc:(decide (cs.size=1)&&decide ((cs.data.toList.headD 0).toNat < 128)) with
  | false=>rw [hc] at hsp; simp [R.get] at hsp
  | true=>
   rw [hc] at hsp;simp only [AI,AP] at hc;simp only [R.get,AC,AQ] at hsp;obtain ⟨rfl,rfl⟩:=hsp;obtain ⟨c,rfl⟩:∃ c,cs=⟨#[c]⟩:=by
    obtain ⟨⟨l⟩⟩:=cs;have h1:l.length=1:=hc.1
    match l,h1 with
    | [c],_=>exact ⟨c,rfl⟩
   obtain ⟨x0,x1,rfl⟩:∃ x0 x1,xs=[x0,x1]:=by
    have:=hV.length
    simp at this
    match xs,this with
    | [a,b],_=>exact ⟨a,b,rfl⟩
   simp only [AZ,CC,EC,VRels,VRel,B4] at hV;obtain ⟨⟨rfl,hs⟩,rfl,_⟩:=hV;have hz:=Ol s ⟨#[c]⟩;unfold strMax at hs;refine P7 hR rfl rfl (Does.of_calls Tryz.func101 (by kernel_rfl) (by kernel_rfl) ((Tryz.strings_TrimRight_one s c hc.2 w (by omega)).mono ?_));rintro e w' ⟨rfl,rfl⟩;refine ⟨_,rfl,Keep.refl _ _,fun O _=>?_⟩;simp only [VRel];exact ⟨rfl,by unfold strMax; omega⟩
 ·simp [R.get] at hsp
theorem Kt:DS PR B0 102 YG:=by
 intro w X γ vs xs r out hsp hg hx hR hV;unfold YG at hsp;simp only at hsp;split at hsp
 ·rename_i s n;cases hc:(decide (0≤n)&&decide (s.size*n.toNat≤strMax)) with
  | false=>rw [hc] at hsp; simp [R.get] at hsp
  | true=>
   rw [hc] at hsp;simp only [AI,AP] at hc;simp only [R.get,AC,AQ] at hsp;obtain ⟨rfl,rfl⟩:=hsp;obtain ⟨x0,x1,rfl⟩:∃ x0 x1,xs=[x0,x1]:=by
    have:=hV.length
    simp at this
    match xs,this with
    | [a,b],_=>exact ⟨a,b,rfl⟩
   simp only [AZ,CC,EC,VRels,VRel,B4] at hV;obtain ⟨⟨rfl,hs⟩,rfl,_,hn1⟩:=hV;have e1:AB.max=9223372036854775807:=rfl;rw [e1] at hn1;obtain ⟨c,rfl⟩:∃ c:Nat,n=c:=⟨n.toNat,by omega⟩;have hz:=sB s c;have hle:=hc.2;simp only [BE] at hle ⊢;unfold strMax at hle;refine P7 hR rfl rfl (Does.of_calls Tryz.func102 (by kernel_rfl) (by kernel_rfl) ((Tryz.strings_Repeat s c w (by omega) (by omega)).mono ?_));rintro e w' ⟨rfl,hw⟩;refine ⟨_,rfl,Keep.below hw,fun O _=>?_⟩;simp only [VRel];exact ⟨rfl,by rw [hz]; unfold strMax; omega⟩
 ·simp [R.get] at hsp
theorem Kr:DS PR B0 55 YE:=by
 intro w X γ vs xs r out hsp hg hx hR hV;unfold YE at hsp;simp only at hsp;split at hsp
 ·rename_i s p;simp only [R.get,AC,AQ] at hsp;obtain ⟨rfl,rfl⟩:=hsp;obtain ⟨x0,x1,rfl⟩:∃ x0 x1,xs=[x0,x1]:=by
   have:=hV.length
   simp at this
   match xs,this with
   | [a,b],_=>exact ⟨a,b,rfl⟩
  simp only [AZ,CC,EC,VRels,VRel,B4] at hV;obtain ⟨⟨rfl,hs⟩,rfl,_⟩:=hV;have hz:=Ok s p;refine P7 hR rfl rfl (Does.of_calls Tryz.func55 (by kernel_rfl) (by kernel_rfl) ((Tryz.strings_CutPrefix s p w).mono ?_));rintro e w' ⟨rfl,rfl⟩;refine ⟨_,rfl,Keep.refl _ _,fun O _=>?_⟩;simp only [VRel];exact ⟨_,rfl,by simp only [VRels,VRel,B4]; exact ⟨⟨rfl,by omega⟩,rfl⟩⟩
 ·simp [R.get] at hsp
theorem tB:DS PR B0 82 TR:=by
 intro w X γ vs xs r out hsp hg hx hR hV;unfold TR at hsp;simp only at hsp;split at hsp
 ·rename_i s sep;cases hc:decide (s.size < 4294967281) with
  | false=>rw [hc] at hsp; simp [R.get] at hsp
  | true=>
   rw [hc] at hsp;simp only [R.get,AC,AQ] at hsp;obtain ⟨rfl,rfl⟩:=hsp;obtain ⟨x0,x1,rfl⟩:∃ x0 x1,xs=[x0,x1]:=by
    have:=hV.length
    simp at this
    match xs,this with
    | [a,b],_=>exact ⟨a,b,rfl⟩
   simp only [AZ,CC,EC,VRels,VRel,B4] at hV;obtain ⟨⟨rfl,hs⟩,rfl,hsep⟩:=hV;obtain ⟨m,hm⟩:=Ca hg;refine P7 hR rfl rfl (Does.of_calls Tryz.func82 (by kernel_rfl) (by kernel_rfl) ((Tryz.strings_Cut s sep m w (A0 hc) hm).mono ?_));rintro e w' ⟨rfl,n,rfl⟩;have hsz:=jC s sep;refine ⟨_,rfl,Keep.drewN w n,fun O _=>?_⟩;simp only [VRel];exact ⟨_,rfl,by simp only [VRels,VRel,B4]; exact ⟨⟨rfl,by omega⟩,⟨rfl,by omega⟩,rfl⟩⟩
 ·simp [R.get] at hsp
theorem ZZ:DS PR B0 64 MX:=by
 intro w X γ vs xs r out hsp hg hx hR hV;unfold MX at hsp;simp only at hsp;split at hsp
 ·rename_i s sep;cases hc:(decide (s.size < 4294967281)&&decide (1≤sep.size)) with
  | false=>rw [hc] at hsp; simp [R.get] at hsp
  | true=>
   rw [hc] at hsp;simp only [AI,AP] at hc;simp only [R.get,AC,AQ] at hsp;obtain ⟨rfl,rfl⟩:=hsp;obtain ⟨x0,x1,rfl⟩:∃ x0 x1,xs=[x0,x1]:=by
    have:=hV.length
    simp at this
    match xs,this with
    | [a,b],_=>exact ⟨a,b,rfl⟩
   simp only [AZ,CC,EC,VRels,VRel,B4] at hV;obtain ⟨⟨rfl,hs⟩,rfl,hsep⟩:=hV;obtain ⟨m,hm⟩:=Ca hg;have hlen:=Lib.splitB_all sep hc.2 0 _ s rfl;have hcnt:=Lib.countB_le sep hc.2 s.size s (AW _);refine P7 hR rfl rfl (Does.of_calls Tryz.func64 (by kernel_rfl) (by kernel_rfl) ((Tryz.strings_Split s sep m w hc.1 hm hc.2).mono ?_));rintro e w' ⟨rfl,rfl⟩;refine ⟨_,rfl,Keep.alloc _ w _,fun O hO=>?_⟩;simp only [VRel]
   have:=ziY (w:=w) (w':=w.alloc (.cells ((D1 s sep).map Value.string).toArray 9)) hO (g:=w.heap.size) (AW _) (vas w _) (l:=D1 s sep) (c:=Lib.countB s sep+1) (by unfold D1; omega) (by unfold maxLen; omega) (by unfold D1 strMax; omega) (fun p hp=>CW ((XS sep _ s).2 p hp) hs)
   unfold D1 at this ⊢;rw [hlen] at this;exact this
 ·simp [R.get] at hsp
theorem Nn {w:World} {O:Nat→Prop} {l:LI} {x:Value} (h:Kd.Rel w O (.list false [.str]) (.list l) x):∃ p c,x = .slice p l.length c∧l.length≤c∧c≤maxLen∧l.length≤strMax∧∀ j y,l[j]?=some y→∃ b o,p=some ⟨b,o,none⟩∧b < w.heap.size∧w.cell? ⟨b,o+j,none⟩=some (.string y.toStr)∧y.toStr.size≤strMax:=by
 simp only [Kd.Rel,IV.toList] at h;obtain ⟨p,c,rfl,hc,hm,hl,hi⟩:=h;refine ⟨p,c,rfl,hc,hm,hl,fun j y hy=>?_⟩;obtain ⟨b,o,rfl,_,hb,hr⟩:=hi j y hy;simp only [Kd.RelAll,AN,BB,BJ,Nat.mul_one,C6,B4] at hr;obtain ⟨u,hu,hs⟩:=hr;simp only [Kd.Rel,FS] at hs;obtain ⟨rfl,hs⟩:=hs;exact ⟨b,o,rfl,hb,hu,hs⟩
theorem Ks:DS PR B0 44 YF:=by
 intro w X γ vs xs r out hsp hg hx hR hV;unfold YF at hsp;simp only at hsp;split at hsp
 ·rename_i l sep;cases hc:(decide (l.length≤strMax)&&decide ((F9 (l.map IV.toStr) sep).size≤strMax)) with
  | false=>rw [hc] at hsp; simp [R.get] at hsp
  | true=>
   rw [hc] at hsp;simp only [AI,AP] at hc;simp only [R.get,AC,AQ] at hsp;obtain ⟨rfl,rfl⟩:=hsp;obtain ⟨x0,x1,rfl⟩:∃ x0 x1,xs=[x0,x1]:=by
    have:=hV.length
    simp at this
    match xs,this with
    | [a,b],_=>exact ⟨a,b,rfl⟩
   simp only [AZ,CC,EC,VRels,VRel,B4] at hV;obtain ⟨h0,rfl,_⟩:=hV;obtain ⟨p,c,rfl,hc1,hc2,hc3,hcell⟩:=Nn h0;have hz:(F9 (l.map IV.toStr) sep).size=(Lib.join ((l.map IV.toStr).map (·.data.toList)) sep.data.toList).length:=by
    show (Array.size (List.toArray _))=_;rw [C9]
   have hle:=hc.2;rw [hz] at hle;unfold strMax at hle hc3;refine P7 hR rfl rfl (Does.of_calls Tryz.func44 (by kernel_rfl) (by kernel_rfl) (Calls.mono (R:=fun e w'=>e = .returned (.string (F9 (l.map IV.toStr) sep))∧Below w.heap.size w w') ?_ ?_))
   ·cases l with
    | nil=>
     refine (Tryz.strings_Join_none p c sep w).mono ?_;rintro e w' ⟨rfl,rfl⟩;exact ⟨rfl,Below.refl _ _⟩
    | cons y r=>
     obtain ⟨b,o,rfl,hb,_⟩:=hcell 0 y rfl
     have:=Tryz.strings_Join b o c ((y :: r).map IV.toStr) sep w (fun j x hj=>by
      rw [B9,DD] at hj;obtain ⟨y',hj,rfl⟩:=hj;obtain ⟨b',o',hp,_,hu,_⟩:=hcell j y' hj;simp only [AC,C5,B4] at hp;obtain ⟨rfl,rfl⟩:=hp;exact hu) hb (by rw [BQ]; omega) (by rw [BQ]; omega) (by omega)
     rw [BQ] at this;exact this
   ·rintro e w' ⟨rfl,hw⟩;refine ⟨_,rfl,Keep.below hw,fun O _=>?_⟩;simp only [VRel];exact ⟨trivial,by rw [hz]; unfold strMax; omega⟩
 ·simp [R.get] at hsp
theorem zir:DS PR B0 138 iB:=by
 intro w X γ vs xs r out hsp hg hx hR hV;unfold iB at hsp;simp only at hsp;split at hsp
 ·rename_i l;cases hc:decide (l.length≤4294967296) with
  | false=>rw [hc] at hsp; simp [R.get] at hsp
  | true=>
   rw [hc] at hsp;have hc:=A0 hc;simp only [R.get,AC,AQ] at hsp;obtain ⟨rfl,rfl⟩:=hsp;obtain ⟨x0,rfl⟩:∃ x0,xs=[x0]:=by
    have:=hV.length
    simp at this
    match xs,this with
    | [a],_=>exact ⟨a,rfl⟩
   simp only [AZ,CC,EC,VRels,VRel,B4] at hV;obtain ⟨p,c,rfl,hc1,hc2,hc3,hcell⟩:=Nn hV;have hel:∀ (w':World) (O:Nat→Prop) i y,l[i]?=some y→Kd.RelAll w' O [.str] (FS false y) 0 (fun j u=>(l.map fun y=>Value.string y.toStr)[i*[Kd.str].length+j]?=some u):=fun w' O i y hy=>by
    obtain ⟨b,o,_,_,_,hs⟩:=hcell i y hy;simp only [Kd.RelAll,AN,BB,BJ,Nat.mul_one,C6,B4];refine ⟨.string y.toStr,by rw [B9,hy]; rfl,?_⟩;simp only [Kd.Rel,FS];exact ⟨trivial,hs⟩
   refine Kf hR rfl (by decide) (by decide) hc3 (Does.of_calls Tryz.func138 (by kernel_rfl) (by kernel_rfl) ?_);cases p with
   | none=>
    have h0:l=[]:=by
     cases l with
     | nil=>rfl
     | cons y r=>
      obtain ⟨b,o,hp,_⟩:=hcell 0 y rfl;cases hp
    subst h0;refine (Vj _ c w).mono ?_;rintro e w' ⟨rfl,rfl⟩;exact ⟨_,[],rfl,Keep.refl _ _,⟨rfl,.inl ⟨rfl,rfl⟩⟩,hel _⟩
   | some a=>
    refine (Vm a l.length c (l.map fun y=>Value.string y.toStr) w (by rw [BQ]) (by unfold maxLen; omega) (by omega) (fun j u hj=>?_) (fun u hu=>?_)).mono ?_
    ·rw [B9,DD] at hj;obtain ⟨y,hj,rfl⟩:=hj;obtain ⟨b,o,hp,_,hu,_⟩:=hcell j y hj;simp only [AC] at hp;subst hp;rw [Addr.add_lit];exact hu
    ·rw [CN] at hu;obtain ⟨y,_,rfl⟩:=hu;rfl
    ·rintro e w' ⟨v',rfl,hown,hw⟩;exact ⟨v',_,rfl,Keep.below hw,hown,hel _⟩
 ·simp [R.get] at hsp
def SpsOK:List (Nat × DR)→Prop
 | []=>True
 | (f,sp) :: r=>DS PR B0 f sp∧SpsOK r
theorem SpsOK.get:∀ {l:List (Nat × DR)},SpsOK l→∀ f sp,lk l f=some sp→DS PR B0 f sp
 | [],_,f,sp,h=>by simp [lk] at h
 | (g,sg) :: r,hs,f,sp,h=>by
  simp only [lk] at h;split at h
  ·rename_i hb;simp only [AC] at h;subst h;rw [← FL.1 hb];exact hs.1
  ·exact SpsOK.get hs.2 f sp h
theorem D2 {f:Nat} {fn:Func} {code:Code} {rs:List ResultVar} {nt:Nat} (sps:List (Nat × DR)) (lp:List (Nat × KP)) (sp:DR) (rks:List (List Kd)) (hf:PR.funcs[f]?=some fn)
  (hc:(fn.name == "runtime.NumGoroutine")=false∧fn.body=some code∧fn.ntmps=nt∧B6 nt 900000=true∧fn.results.toList=rs) (hs:SpsOK sps)
  (h:∀ vs r,(K2 vs (FI vs)→S8 vs)→(sp vs).get=some r→∃ N,DV (D0 sps lp nt N) code rs rks vs=some r):DS PR B0 f sp:=
 Kg (D0 sps lp nt) sp rks hf hc (fun _=>rfl) Et (fun _=>Nw rfl Nv) (fun _=>Aw rfl Av) (fun _=>hs.get) (fun _ f p hp=>by cases hp) (fun _ h=>vT h) h
def IpsOK:List (Nat × Ip)→Prop
 | []=>True
 | (f,p) :: r=>RV PR f p∧IpsOK r
theorem IpsOK.get:∀ {l:List (Nat × Ip)},IpsOK l→∀ f p,lk l f=some p→RV PR f p
 | [],_,f,p,h=>by simp [lk] at h
 | (g,pg) :: r,hs,f,p,h=>by
  simp only [lk] at h;split at h
  ·rename_i hb;simp only [AC] at h;subst h;rw [← FL.1 hb];exact hs.1
  ·exact IpsOK.get hs.2 f p h
theorem Ki {f:Nat} {fn:Func} {code:Code} {rs:List ResultVar} {nt:Nat} (sps:List (Nat × DR)) (ips:List (Nat × Ip)) (lp:List (Nat × KP)) (sp:DR) (rks:List (List Kd)) (hf:PR.funcs[f]?=some fn)
  (hc:(fn.name == "runtime.NumGoroutine")=false∧fn.body=some code∧fn.ntmps=nt∧B6 nt 900000=true∧fn.results.toList=rs) (hs:SpsOK sps) (hi:IpsOK ips)
  (h:∀ vs r,(K2 vs (FI vs)→S8 vs)→(sp vs).get=some r→∃ N,DV (kP sps ips lp nt N) code rs rks vs=some r):DS PR B0 f sp:=
 Kg (kP sps ips lp nt) sp rks hf hc (fun _=>rfl) Et (fun _=>Nw rfl Nv) (fun _=>Aw rfl Av) (fun _=>hs.get) (fun _=>hi.get) (fun _ h=>vT h) h
open Go Go.RowKit
theorem EI {n:Int} (h0 : -9223372036854775808≤n) (h1:n≤9223372036854775807):AA .i64 n=n:=by
 have e:AA .i64 n=(n+9223372036854775808) % 18446744073709551616 - 9223372036854775808:=by
  simp [AA,AT,vam];omega
 rw [e];omega
theorem H0 {α:Type} {l:List α} {i:Nat} (h:i < l.length):decide ((i:Int) < ic l.length)=true:=by simp [ic]; omega
theorem IT {α:Type} {l:List α} {i:Nat} (h:l.length≤i):decide ((i:Int) < ic l.length)=false:=by simp [ic]; omega
theorem IH {i:Nat}:decide (0≤(i:Int))=true:=by simp
theorem GQ {i:Nat} (h:i < 9223372036854775807):AA .i64 ((i:Int)+1)=((i+1:Nat):Int):=by rw [EI (by omega) (by omega)]; rfl
theorem IS {α:Type} [Inhabited α] {l:List α} {i:Nat} (h:i < l.length):l.getD (i:Int).toNat default=l[i]:=by simp [h]
theorem oC (a b:Int):decide (a≤b)=!decide (b < a):=by rw [va3]; simp
theorem oB (a b:Int):decide (a > b)=decide (b < a):=rfl
theorem TU (a b:Int):(a==b)=decide (a=b):=rfl
theorem vX (a b:Int):(a != b)=!decide (a=b):=rfl
theorem DE {α:Type _} (a b:α):cond true a b=a:=Eq.trans (Eq.refl a) (Eq.refl a)
theorem DG {α:Type _} (a b:α):cond false a b=b:=Eq.trans (Eq.refl b) (Eq.refl b)
open Go
def FD (n:Int):Int:=AA .i64 n
def JJ (n:Int):Int:=AA .u64 n
def NH (lo hi:Int):Int:=FD (FD (hi - lo)+1)
def DO (n lo hi:Int):Int:=cond (decide (n.tmod (NH lo hi) < 0)) (FD (lo+FD (FD (FD (n.tmod (NH lo hi)+hi) - lo)+1))) (FD (lo+n.tmod (NH lo hi)))
def PI:DR
 | [.int .i64 n,.int .i64 lo,.int .i64 hi]=>.br (decide (NH lo hi=0)) .no (.ok (.int .i64 (DO n lo hi)) [])
 | _=>.no
abbrev X2:BA:=⟨#[45]⟩
abbrev Pa:BA:=⟨#[46]⟩
abbrev zjz:BA:=⟨#[48]⟩
abbrev X3:BA:=⟨#[]⟩
def V2:DR
 | []=>.ok (.int .u64 390625) []
 | _=>.no
def JZ (r:Nat):List UInt8:=Lib.trimRightB (Lib.repeatL [48] (8 - (CI (r*390625)).length)++CI (r*390625)) 48
def H8 (u:Nat):List UInt8:=CI (u / 256)++(if u % 256=0 then [] else 46 :: JZ (u % 256))
def KJ (n:Int):List UInt8:=if n < 0 then 45 :: H8 n.natAbs else H8 n.natAbs
def DQ (n:Int):BA:=⟨(KJ n).toArray⟩
def R4:DR
 | [.int .i64 n]=>.ok (.str (DQ n)) []
 | _=>.no
def bV:DR
 | [.str s]=>.ok (.tup [.int .u64 (GG s),.bool (I4 s)]) []
 | _=>.no
def PQ (s:BA):BA:=cutL (F8 s X2) Pa
def JE (s:BA):BA:=FT (F8 s X2) Pa
def M3 (s:BA):BA:=JE s++HL zjz (8 - (JE s).size)
def PP (s:BA):Int:=JJ (JJ (GG (PQ s)*256)+GG (M3 s) / 390625)
def d6 (s:BA):Int:=FD (cond (OT s X2) (JJ (0 - PP s)) (PP s))
def WT (s:BA):Bool:=
 decide ((JE s).size≤8)&&(I4 (PQ s)&&(I4 (M3 s)&&(decide (GG (PQ s)≤36028797018963968)&&(decide (GG (M3 s) % 390625=0)&&decide (DQ (d6 s)=s)))))
def F1 (s:BA):Int:=cond (WT s) (d6 s) 0
def V1:DR
 | [.str s]=>.br (decide (s.size < 4294967281)) (.ok (.tup [.int .i64 (F1 s),.bool (WT s)]) []) .no
 | _=>.no
open Go Go.Proofs
def Qh (N:Nat):Env:=D0 [] [] 24 N
theorem zdK (N:Nat) (n lo hi:Int):DV (Qh N) wX [.tmp 6] [[.z]] [.i n,.i lo,.i hi] =
 (cond (decide (AA AB (AA AB (hi - lo)+1)=0))
 none
 (cond (decide (Int.tmod n (AA AB (AA AB (hi - lo)+1)) < 0))
 (some ((.i (AA AB (lo+AA AB (AA AB (AA AB (Int.tmod n (AA AB (AA AB (hi - lo)+1))+hi) - lo)+1)))),[]))
 (some ((.i (AA AB (lo+Int.tmod n (AA AB (AA AB (hi - lo)+1))))),[])))):=by kernel_rfl
def Qz (N:Nat):Env:=D0 [] [(3,⟨[0,1,2],[],[]⟩)] 8 N
def Qx (N:Nat):Env:=D0 [(225,iE)] [] 19 N
theorem zd4 (N:Nat) (s:BA):DV (Qx N) xL [.tmp 2,.tmp 3] [[.int .u64],[.bool]] [.str s] =
 (cond (I4 s)
 (cond (decide (0≤0)&&decide (0 < ic (AG s)))
 (some ((.tup [.int .u64 (GG s),.bool (ic (UInt8.toNat (AH (Array.toList (ByteArray.data s)) (AD 0) 0)) != 43)]),[]))
 none)
 (some ((.tup [.int .u64 (GG s),.bool false]),[]))):=by kernel_rfl
def Qv (N:Nat):Env:=D0 [(100,V2),(99,iD),(102,YG),(101,iG)] [] 38 N
theorem zd2 (N:Nat) (n:Int):DV (Qv N) xJ [.tmp 2] [[.str]] [.i n] =
 (cond (decide (n < 0))
 (cond (decide (AG { data:=#[45] }+AG (E1 (va0 (AA AJ (0 - AA AJ n)) (2 ^ min (AD 8) (AT AJ))))≤strMax))
 (cond (AA AJ (ic (CL (A4 (AT AJ) (AA AJ (0 - AA AJ n)) &&& A4 (AT AJ) 255)))==0)
 (some ((.str ({ data:=#[45] }++E1 (va0 (AA AJ (0 - AA AJ n)) (2 ^ min (AD 8) (AT AJ))))),[]))
 (cond (decide (AG ({ data:=#[45] }++E1 (va0 (AA AJ (0 - AA AJ n)) (2 ^ min (AD 8) (AT AJ))))+AG { data:=#[46] }≤strMax))
 (cond (decide (0≤AA AB (8 - ic (AG (E1 (AA AJ (AA AJ (ic (CL (A4 (AT AJ) (AA AJ (0 - AA AJ n)) &&& A4 (AT AJ) 255)))*390625))))))&&decide (AG { data:=#[48] }*AD (AA AB (8 - ic (AG (E1 (AA AJ (AA AJ (ic (CL (A4 (AT AJ) (AA AJ (0 - AA AJ n)) &&& A4 (AT AJ) 255)))*390625))))))≤strMax))
 (cond (decide (AG (HL { data:=#[48] } (AD (AA AB (8 - ic (AG (E1 (AA AJ (AA AJ (ic (CL (A4 (AT AJ) (AA AJ (0 - AA AJ n)) &&& A4 (AT AJ) 255)))*390625))))))))+AG (E1 (AA AJ (AA AJ (ic (CL (A4 (AT AJ) (AA AJ (0 - AA AJ n)) &&& A4 (AT AJ) 255)))*390625)))≤strMax))
 (cond (decide (AG ({ data:=#[45] }++E1 (va0 (AA AJ (0 - AA AJ n)) (2 ^ min (AD 8) (AT AJ)))++{ data:=#[46] })+AG (PD (HL { data:=#[48] } (AD (AA AB (8 - ic (AG (E1 (AA AJ (AA AJ (ic (CL (A4 (AT AJ) (AA AJ (0 - AA AJ n)) &&& A4 (AT AJ) 255)))*390625)))))))++E1 (AA AJ (AA AJ (ic (CL (A4 (AT AJ) (AA AJ (0 - AA AJ n)) &&& A4 (AT AJ) 255)))*390625))) { data:=#[48] })≤strMax))
 (some ((.str ({ data:=#[45] }++E1 (va0 (AA AJ (0 - AA AJ n)) (2 ^ min (AD 8) (AT AJ)))++{ data:=#[46] }++PD (HL { data:=#[48] } (AD (AA AB (8 - ic (AG (E1 (AA AJ (AA AJ (ic (CL (A4 (AT AJ) (AA AJ (0 - AA AJ n)) &&& A4 (AT AJ) 255)))*390625)))))))++E1 (AA AJ (AA AJ (ic (CL (A4 (AT AJ) (AA AJ (0 - AA AJ n)) &&& A4 (AT AJ) 255)))*390625))) { data:=#[48] })),[]))
 none)
 none)
 none)
 none))
 none)
 (cond (decide (AG { data:=#[] }+AG (E1 (va0 (AA AJ n) (2 ^ min (AD 8) (AT AJ))))≤strMax))
 (cond (AA AJ (ic (CL (A4 (AT AJ) (AA AJ n) &&& A4 (AT AJ) 255)))==0)
 (some ((.str ({ data:=#[] }++E1 (va0 (AA AJ n) (2 ^ min (AD 8) (AT AJ))))),[]))
 (cond (decide (AG ({ data:=#[] }++E1 (va0 (AA AJ n) (2 ^ min (AD 8) (AT AJ))))+AG { data:=#[46] }≤strMax))
 (cond (decide (0≤AA AB (8 - ic (AG (E1 (AA AJ (AA AJ (ic (CL (A4 (AT AJ) (AA AJ n) &&& A4 (AT AJ) 255)))*390625))))))&&decide (AG { data:=#[48] }*AD (AA AB (8 - ic (AG (E1 (AA AJ (AA AJ (ic (CL (A4 (AT AJ) (AA AJ n) &&& A4 (AT AJ) 255)))*390625))))))≤strMax))
 (cond (decide (AG (HL { data:=#[48] } (AD (AA AB (8 - ic (AG (E1 (AA AJ (AA AJ (ic (CL (A4 (AT AJ) (AA AJ n) &&& A4 (AT AJ) 255)))*390625))))))))+AG (E1 (AA AJ (AA AJ (ic (CL (A4 (AT AJ) (AA AJ n) &&& A4 (AT AJ) 255)))*390625)))≤strMax))
 (cond (decide (AG ({ data:=#[] }++E1 (va0 (AA AJ n) (2 ^ min (AD 8) (AT AJ)))++{ data:=#[46] })+AG (PD (HL { data:=#[48] } (AD (AA AB (8 - ic (AG (E1 (AA AJ (AA AJ (ic (CL (A4 (AT AJ) (AA AJ n) &&& A4 (AT AJ) 255)))*390625)))))))++E1 (AA AJ (AA AJ (ic (CL (A4 (AT AJ) (AA AJ n) &&& A4 (AT AJ) 255)))*390625))) { data:=#[48] })≤strMax))
 (some ((.str ({ data:=#[] }++E1 (va0 (AA AJ n) (2 ^ min (AD 8) (AT AJ)))++{ data:=#[46] }++PD (HL { data:=#[48] } (AD (AA AB (8 - ic (AG (E1 (AA AJ (AA AJ (ic (CL (A4 (AT AJ) (AA AJ n) &&& A4 (AT AJ) 255)))*390625)))))))++E1 (AA AJ (AA AJ (ic (CL (A4 (AT AJ) (AA AJ n) &&& A4 (AT AJ) 255)))*390625))) { data:=#[48] })),[]))
 none)
 none)
 none)
 none))
 none)):=by kernel_rfl
open Go Go.Proofs
theorem lO:DS PR B0 32 PI:=by
 refine D2 [] [] PI [[.z]] Tryz.func32 zaR trivial ?_;intro vs r hwf h;unfold PI at h;split at h
 ·rename_i n lo hi;refine ⟨0,?_⟩;rw [← h];refine (zdK 0 n lo hi).trans ?_;simp only [R.get_br,R.get_ok,R.get_no];unfold DO NH FD;cases decide (AA AB (AA AB (hi - lo)+1)=0) <;> cases decide (Int.tmod n (AA AB (AA AB (hi - lo)+1)) < 0) <;> rfl
 ·simp [R.get] at h
open Go
theorem TW {s t:BA} (h:s.data.toList=t.data.toList):s=t:=ByteArray.ext (Array.ext' h)
theorem iR (s t:BA):(s.toList==t.toList)=decide (s=t):=by
 rw [Lib.toList_data,Lib.toList_data];by_cases h:s=t
 ·subst h; simp
 ·rw [AL h,A8];exact fun e=>h (TW e)
theorem S1 (s:BA):s.size=s.data.toList.length:=by rw [CQ]; rfl
theorem WS (u:Nat):∀ c∈CI u,48≤c.toNat∧c.toNat≤57:=by
 induction u using vbz with
 | _ u ih=>
  intro c hc;rw [CI] at hc;split at hc
  ·rename_i h;simp only [BX] at hc;subst hc;rw [vaV (by simp [UInt8.size]; omega)];omega
  ·rename_i h;rw [AV,BX] at hc;rcases hc with hc | hc
   ·exact ih (u / 10) (by omega) c hc
   ·subst hc;rw [vaV (by simp [UInt8.size]; omega)];omega
theorem jD (u:Nat):CI u≠[]:=by
 rw [CI];split <;> simp
theorem zcq (n:Int):∀ c∈Lib.itoa n,c.toNat=45∨(48≤c.toNat∧c.toNat≤57):=by
 intro c hc;unfold Lib.itoa at hc;split at hc
 ·rcases AS.1 hc with h | h
  ·subst h; exact .inl rfl
  ·exact .inr (WS _ c h)
 ·exact .inr (WS _ c hc)
theorem zf0 (u:Nat):∀ (acc:Nat) (r:List UInt8),acc*10 ^ (CI u).length+u < 18446744073709551616 →
  vbx acc (CI u++r)=vbx (acc*10 ^ (CI u).length+u) r:=by
 induction u using vbz with
 | _ u ih=>
  intro acc r hlt;rw [CI] at hlt ⊢;split at hlt
  ·rename_i h;rw [dif_pos h];simp only [CZ,Nat.pow_one,List.singleton_append] at hlt ⊢;have hc:(UInt8.ofNat (48+u)).toNat=48+u:=vaV (by simp [UInt8.size]; omega);rw [vbx,hc,BR (by omega),A9 (by omega),A9 (by omega)];congr 1;omega
  ·rename_i h;rw [dif_neg h];simp only [AU,CZ,Nat.pow_succ,var,List.singleton_append] at hlt ⊢;have ea:acc*(10 ^ (CI (u / 10)).length*10)=acc*10 ^ (CI (u / 10)).length*10:=by rw [Nat.mul_assoc]
   rw [ea] at hlt ⊢;rw [ih (u / 10) (by omega) acc _ (by omega)];have hc:(UInt8.ofNat (48+u % 10)).toNat=48+u % 10:=vaV (by simp [UInt8.size]; omega);rw [vbx,hc,BR (by omega),A9 (by omega),A9 (by omega)];congr 1;omega
theorem rI (u:Nat) (h:u < 18446744073709551616):Lib.parseMag (CI u) = .ok u:=by
 unfold Lib.parseMag;rw [A9 (jD u)]
 have:=zf0 u 0 [] (by omega)
 rw [DB] at this;rw [this,Nat.zero_mul,BJ];rfl
theorem vN (n:Int) (h0 : -9223372036854775808≤n) (h1:n≤9223372036854775807):Lib.atoiAll (Lib.itoa n) = .ok n:=by
 unfold Lib.itoa;split
 ·rename_i hn;unfold Lib.atoiAll;have e:(45:UInt8).toNat=45:=rfl;simp only [e,or_true,CO,rI n.natAbs (by omega),vbt,false_and,if_false,vaO];rw [A9 (by omega)];congr 1;omega
 ·rename_i hn;obtain ⟨c,r,hl⟩:∃ c r,CI n.toNat=c :: r:=by
   cases h:CI n.toNat with
   | nil=>exact absurd h (jD _)
   | cons c r=>exact ⟨c,r,rfl⟩
  have hc:=WS n.toNat c (by rw [hl]; exact AR ..);have hm:=rI n.toNat (by omega);rw [hl] at hm ⊢;unfold Lib.atoiAll;have e1:¬ c.toNat=43:=by omega
  have e2:¬ c.toNat=45:=by omega
  simp only [e1,e2,or_self,if_false,hm,false_and,not_false_eq_true,vaO];rw [A9 (by omega)];congr 1;omega
theorem vM {s:BA} {n:Int} (h:s.data.toList=Lib.itoa n) (h0 : -9223372036854775808≤n) (h1:n≤9223372036854775807):FA s=n:=by
 unfold FA;rw [h,vN n h0 h1]
theorem pB:∀ (w r:List UInt8) (c:UInt8),c ∉ w→vat (w++c :: r) c=w.length
 | [],r,c,_=>by simp [vat]
 | b :: w,r,c,h=>by
  simp only [AS,not_or] at h;have e:(b==c)=false:=A8.2 (fun e=>h.1 e.symm);have e2:((w.length:Int) == -1)=false:=by rw [A8]; omega
  simp only [C3,vat,e,pB w r c h.2,e2,AN];simp
theorem Cp:∀ (w:List UInt8) (c:UInt8),c ∉ w→vat w c = -1
 | [],c,_=>rfl
 | b :: w,c,h=>by
  simp only [AS,not_or] at h;have e:(b==c)=false:=A8.2 (fun e=>h.1 e.symm);simp [vat,e,Cp w c h.2]
theorem Vy (w r:List UInt8) (c:UInt8) (h:c ∉ w):Lib.cut (w++c :: r) [c]=(w,r,true):=by
 unfold Lib.cut;rw [Lib.index_one,pB w r c h,BR (by omega)];simp
theorem Li (w r:List UInt8) (c:UInt8) (h:c ∉ w):Lib.split (w++c :: r) [c]=w :: Lib.split r [c]:=by
 unfold Lib.split;have ec:Lib.count (w++c :: r) [c]=Lib.count r [c]+1:=by
  rw [Lib.count_one,Lib.count_one,List.count_append,List.count_eq_zero_of_not_mem h,List.count_cons_self,BJ]
 rw [ec,Lib.splitK,Lib.index_one,pB w r c h];have e2:((w.length:Int) == -1)=false:=by rw [A8]; omega
 rw [e2];simp
theorem Ll (w:List UInt8) (c:UInt8) (h:c ∉ w):Lib.split w [c]=[w]:=by
 unfold Lib.split;rw [Lib.count_one,List.count_eq_zero_of_not_mem h];rfl
theorem Lh (s sep:BA):(D1 s sep).map (·.data.toList)=Lib.split s.data.toList sep.data.toList:=by
 unfold D1 Lib.split;rw [Lib.splitB_data]
open Go
theorem zjf {n m:Int} (h:0 < m) : -m < n.tmod m∧n.tmod m < m:=by
 constructor
 ·rcases Int.lt_or_le n 0 with hn | hn
  ·have e:n.tmod m = -((-n).tmod m):=by rw [Int.neg_tmod,Int.neg_neg]
   have:=Int.tmod_lt_of_pos (-n) h
   omega
  ·have:=Int.tmod_nonneg m hn
   omega
 ·exact Int.tmod_lt_of_pos n h
theorem G2 {n lo hi:Int} (h:lo≤hi) (h0 : -2000000000000000000≤lo) (h1:hi≤2000000000000000000):NH lo hi=hi - lo+1∧lo≤DO n lo hi∧DO n lo hi≤hi:=by
 have e1:FD (hi - lo)=hi - lo:=EI (by omega) (by omega);have e2:NH lo hi=hi - lo+1:=by
  unfold NH;rw [e1];exact EI (by omega) (by omega)
 refine ⟨e2,?_⟩;unfold DO;rw [e2];obtain ⟨t0,t1⟩:=zjf (n:=n) (m:=hi - lo+1) (by omega);generalize n.tmod (hi - lo+1)=q at t0 t1 ⊢;cases hq:decide (q < 0) with
 | true=>
  have hq:=A0 hq;simp only [B1];have a1:FD (q+hi)=q+hi:=EI (by omega) (by omega);have a2:FD (q+hi - lo)=q+hi - lo:=EI (by omega) (by omega);have a3:FD (q+hi - lo+1)=q+hi - lo+1:=EI (by omega) (by omega);have a4:FD (lo+(q+hi - lo+1))=lo+(q+hi - lo+1):=EI (by omega) (by omega);rw [a1,a2,a3,a4];omega
 | false=>
  have hq:=BH hq;simp only [BG];have a1:FD (lo+q)=lo+q:=EI (by omega) (by omega);rw [a1];omega
theorem mF (n:Int):AA .u64 n=n % 18446744073709551616:=by simp [AA,AT,vam]
abbrev D7 (n:Int):Prop := -9223372036854775808≤n∧n≤9223372036854775807
theorem u6 {f:Nat→Bool} (h:(vaE 256).all f=true) {r:Nat} (hr:r < 256):f r=true:=CS.1 h r (va6.2 hr)
def Gb (r:Nat):Bool:=match Lib.parseMag ((if r=0 then [] else JZ r)++Lib.repeatL [48] (8 - (if r=0 then [] else JZ r).length)) with | .ok v=>BO v (r*390625) | _=>false
theorem zf3:(vaE 256).all Gb=true:=by kernel_rfl
theorem zf2 {r:Nat} (h:r < 256):Lib.parseMag ((if r=0 then [] else JZ r)++Lib.repeatL [48] (8 - (if r=0 then [] else JZ r).length)) = .ok (r*390625):=by
 have:=u6 zf3 h
 unfold Gb at this;split at this
 ·rename_i v hv;rw [hv,vap this]
 ·cases this
def Fy (r:Nat):Bool:=BO r 0||(B6 (JZ r).length 8&&((JZ r).all (fun c=>B6 48 c.toNat&&B6 c.toNat 57)&&(match (JZ r).reverse with | []=>false | c :: _=>!(BO c.toNat 48))))
theorem Wi:(vaE 256).all Fy=true:=by kernel_rfl
theorem jE {r:Nat} (h0:r≠0) (h:r < 256):(JZ r).length≤8∧(∀ c∈JZ r,48≤c.toNat∧c.toNat≤57)∧∃ l c,JZ r=l++[c]∧c.toNat≠48:=by
 have:=u6 Wi h
 unfold Fy at this;simp only [vaz,AI,CS] at this;rcases this with h1 | ⟨h1,h2,h3⟩
 ·exact absurd (vap h1) h0
 ·refine ⟨AM h1,fun c hc=>⟨AM (h2 c hc).1,AM (h2 c hc).2⟩,?_⟩;cases hr:(JZ r).reverse with
  | nil=>rw [hr] at h3; cases h3
  | cons c l=>
   rw [hr] at h3;refine ⟨l.reverse,c,?_,?_⟩
   ·have:=congrArg List.reverse hr
    simpa using this
   ·intro e;have h3:(!c.toNat.beq 48)=true:=h3;rw [e] at h3;cases h3
theorem gE (u:Nat):H8 u=CI (u / 256)++(if u % 256=0 then [] else 46 :: JZ (u % 256)):=rfl
theorem We (v:Nat):∃ c r,CI v=c :: r∧48≤c.toNat∧c.toNat≤57:=by
 cases h:CI v with
 | nil=>exact absurd h (jD v)
 | cons c r=>exact ⟨c,r,rfl,WS v c (by rw [h]; exact AR ..)⟩
theorem sR (u:Nat):∃ c r,H8 u=c :: r∧48≤c.toNat∧c.toNat≤57:=by
 obtain ⟨c,r,h,h1⟩:=We (u / 256);exact ⟨c,r++_,by rw [gE,h]; rfl,h1⟩
theorem Wf (v:Nat) {c:UInt8} (h:c.toNat < 48):c ∉ CI v:=fun hc=>by
 have:=WS v c hc
 omega
theorem Wa (w:List UInt8) (c:UInt8) (h:c ∉ w):Lib.cut w [c]=(w,[],false):=by
 unfold Lib.cut;rw [Lib.index_one,Cp w c h,A9 (by omega)]
theorem zhg (u:Nat):(Lib.cut (H8 u) [46]).1=CI (u / 256)∧(Lib.cut (H8 u) [46]).2.1=(if u % 256=0 then [] else JZ (u % 256)):=by
 have hno:(46:UInt8) ∉ CI (u / 256):=Wf _ (by decide);rw [gE];by_cases h:u % 256=0
 ·rw [BR h,BR h,DB,Wa _ _ hno];exact ⟨rfl,rfl⟩
 ·rw [A9 h,A9 h,Vy _ _ _ hno];exact ⟨rfl,rfl⟩
theorem zgb (n:Int):OT (DQ n) X2=decide (n < 0)∧F8 (DQ n) X2=⟨(H8 n.natAbs).toArray⟩:=by
 unfold OT F8 Lib.trimPrefix Lib.hasPrefix DQ KJ;show [(45:UInt8)].isPrefixOf (if n < 0 then 45 :: H8 n.natAbs else H8 n.natAbs)=_∧(⟨(if [(45:UInt8)].isPrefixOf (if n < 0 then 45 :: H8 n.natAbs else H8 n.natAbs)=true then _ else (if n < 0 then 45 :: H8 n.natAbs else H8 n.natAbs)).toArray⟩:BA)=_;by_cases h:n < 0
 ·rw [BR h,AE h];have e:[(45:UInt8)].isPrefixOf (45 :: H8 n.natAbs)=true:=by simp [vbr]
  rw [e,BR rfl];exact ⟨rfl,rfl⟩
 ·rw [A9 h,AL h];obtain ⟨c,r,hc,hc1,_⟩:=sR n.natAbs;have e:[(45:UInt8)].isPrefixOf (H8 n.natAbs)=false:=by
   rw [hc];simp only [vbr,CJ,A8];intro e;rw [← e] at hc1;revert hc1;decide
  rw [e];simp
theorem Ht {s:BA} {v:Nat} (h:Lib.parseMag s.data.toList = .ok v):GG s=v∧I4 s=true:=by
 unfold GG I4;rw [h];exact ⟨rfl,rfl⟩
theorem zgd {n:Int} (hn:D7 n):WT (DQ n)=true∧F1 (DQ n)=n:=by
 obtain ⟨hn0,hn1⟩:=hn;obtain ⟨hm,hb⟩:=zgb n;have hu:n.natAbs≤9223372036854775808:=by omega
 obtain ⟨c1,c2⟩:=zhg n.natAbs;have hW:PQ (DQ n)=⟨(CI (n.natAbs / 256)).toArray⟩:=by
  unfold PQ cutL;rw [hb];show (⟨(Lib.cut (H8 n.natAbs) [46]).1.toArray⟩:BA)=_;rw [c1]
 have hP:JE (DQ n)=⟨(if n.natAbs % 256=0 then [] else JZ (n.natAbs % 256)).toArray⟩:=by
  unfold JE FT;rw [hb];show (⟨(Lib.cut (H8 n.natAbs) [46]).2.1.toArray⟩:BA)=_;rw [c2]
 have hr:n.natAbs % 256 < 256:=by omega
 obtain ⟨v1,n1⟩:=Ht (s:=PQ (DQ n)) (v:=n.natAbs / 256) (by rw [hW]; exact rI _ (by omega));have hz:(JE (DQ n)).size=(if n.natAbs % 256=0 then ([]:List UInt8) else JZ (n.natAbs % 256)).length:=by rw [hP,S1]
 have h8:(JE (DQ n)).size≤8:=by
  rw [hz];split
  ·simp
  ·rename_i h0;exact (jE h0 hr).1
 obtain ⟨v2,n2⟩:=Ht (s:=M3 (DQ n)) (v:=n.natAbs % 256*390625) (by
  have:=zf2 hr
  unfold M3;rw [hz,hP];simp only [ByteArray.data_append,vak];exact this)
 have hS:PP (DQ n)=(n.natAbs:Int):=by
  unfold PP JJ;rw [v1,v2];rw [mF,mF];omega
 have hN:d6 (DQ n)=n:=by
  unfold d6;rw [hm,hS];unfold FD JJ;cases hd:decide (n < 0) with
  | true=>
   have:=A0 hd
   simp only [B1];rw [IntKind.wrap_i64,mF];omega
  | false=>
   have:=BH hd
   simp only [BG];rw [EI (by omega) (by omega)];omega
 have hI:WT (DQ n)=true:=by
  unfold WT;rw [AE h8,n1,n2,v1,v2,hN,AE (show ((n.natAbs / 256:Nat):Int)≤36028797018963968 by omega),AE (show ((n.natAbs % 256*390625:Nat):Int) % 390625=0 by omega),AE rfl];rfl
 refine ⟨hI,?_⟩;unfold F1;rw [hI,hN];rfl
theorem Hh (n:Int):∃ c r,(DQ n).data.toList=c :: r∧c.toNat≠43:=by
 show ∃ c r,KJ n=c :: r∧c.toNat≠43;unfold KJ;split
 ·exact ⟨45,_,rfl,by decide⟩
 ·obtain ⟨c,r,h,h1,_⟩:=sR n.natAbs;exact ⟨c,r,h,by omega⟩
theorem XL (n:Int) (hn:D7 n):1≤(DQ n).size∧(DQ n).size≤40:=by
 obtain ⟨c,r,h,_⟩:=Hh n;refine ⟨by rw [S1,h]; simp,?_⟩;rw [S1];show (KJ n).length≤40;have hs:(H8 n.natAbs).length≤30:=by
  rw [gE,AU];have h1:(CI (n.natAbs / 256)).length≤20:=by
   have:=qT (n:=((n.natAbs / 256:Nat):Int)) (by omega) (by obtain ⟨_,_⟩:=hn; omega)
   rw [S1] at this;exact this
  split
  ·simp; omega
  ·rename_i h0
   have:=(jE h0 (by omega:n.natAbs % 256 < 256)).1
   simp only [AN];omega
 unfold KJ;split
 ·simp only [AN]; omega
 ·omega
open Go
structure Qy where
 k:Int
 c:Int
 a0:Int
 b0:Int
 a1:Int
 b1:Int
 a2:Int
 b2:Int
 a3:Int
 b3:Int
 a4:Int
 b4:Int
 lo:Int
 hi:Int
 ft:Int
 fl:Bool
 bu:Int
def Qy.V (q:Qy):V:=.agg [.int .i64 q.k,.int .i64 q.c,.int .i64 q.a0,.int .i64 q.b0,.int .i64 q.a1,.int .i64 q.b1,.int .i64 q.a2,.int .i64 q.b2,.int .i64 q.a3,.int .i64 q.b3,.int .i64 q.a4,.int .i64 q.b4,.int .i64 q.lo,.int .i64 q.hi,.int .i64 q.ft,.bool q.fl,.int .i64 q.bu]
def Qy.none:Qy:=⟨0,0,0,0,0,0,0,0,0,0,0,0,0,0,0,false,0⟩
def Qy.eq (p q:Qy):Bool:=
 (p.k==q.k)&&((p.c==q.c)&&((p.a0==q.a0)&&((p.b0==q.b0)&&((p.a1==q.a1)&&((p.b1==q.b1)&&((p.a2==q.a2)&&((p.b2==q.b2)&&((p.a3==q.a3)&&((p.b3==q.b3)&&((p.a4==q.a4)&&((p.b4==q.b4)&&((p.lo==q.lo)&&((p.hi==q.hi)&&((p.ft==q.ft)&&((p.fl==q.fl)&&((p.bu==q.bu)&&true))))))))))))))))
def FO (q:Qy) (d:Int):Qy:=
 ⟨q.k,q.c,cond (decide (0 < d)) q.a0 0,cond (decide (0 < d)) q.b0 0,cond (decide (1 < d)) q.a1 0,cond (decide (1 < d)) q.b1 0,cond (decide (2 < d)) q.a2 0,cond (decide (2 < d)) q.b2 0,cond (decide (3 < d)) q.a3 0,cond (decide (3 < d)) q.b3 0,cond (decide (4 < d)) q.a4 0,cond (decide (4 < d)) q.b4 0,
  cond (q.k==1) q.lo 0,cond (q.k==1) q.hi 0,cond (q.k==3) q.ft 0,cond (q.k==3) q.fl false,q.bu⟩
def aQ:DR
 | [.agg [.int .i64 k,.int .i64 c,.int .i64 a0,.int .i64 b0,.int .i64 a1,.int .i64 b1,.int .i64 a2,.int .i64 b2,.int .i64 a3,.int .i64 b3,.int .i64 a4,.int .i64 b4,.int .i64 lo,.int .i64 hi,.int .i64 ft,.bool fl,.int .i64 bu],.int .i64 d]=>
  .br (decide (0≤d)&&decide (d≤5)) (.ok (.agg [.int .i64 (FO ⟨k,c,a0,b0,a1,b1,a2,b2,a3,b3,a4,b4,lo,hi,ft,fl,bu⟩ d).k,.int .i64 (FO ⟨k,c,a0,b0,a1,b1,a2,b2,a3,b3,a4,b4,lo,hi,ft,fl,bu⟩ d).c,
   .int .i64 (FO ⟨k,c,a0,b0,a1,b1,a2,b2,a3,b3,a4,b4,lo,hi,ft,fl,bu⟩ d).a0,.int .i64 (FO ⟨k,c,a0,b0,a1,b1,a2,b2,a3,b3,a4,b4,lo,hi,ft,fl,bu⟩ d).b0,
   .int .i64 (FO ⟨k,c,a0,b0,a1,b1,a2,b2,a3,b3,a4,b4,lo,hi,ft,fl,bu⟩ d).a1,.int .i64 (FO ⟨k,c,a0,b0,a1,b1,a2,b2,a3,b3,a4,b4,lo,hi,ft,fl,bu⟩ d).b1,
   .int .i64 (FO ⟨k,c,a0,b0,a1,b1,a2,b2,a3,b3,a4,b4,lo,hi,ft,fl,bu⟩ d).a2,.int .i64 (FO ⟨k,c,a0,b0,a1,b1,a2,b2,a3,b3,a4,b4,lo,hi,ft,fl,bu⟩ d).b2,
   .int .i64 (FO ⟨k,c,a0,b0,a1,b1,a2,b2,a3,b3,a4,b4,lo,hi,ft,fl,bu⟩ d).a3,.int .i64 (FO ⟨k,c,a0,b0,a1,b1,a2,b2,a3,b3,a4,b4,lo,hi,ft,fl,bu⟩ d).b3,
   .int .i64 (FO ⟨k,c,a0,b0,a1,b1,a2,b2,a3,b3,a4,b4,lo,hi,ft,fl,bu⟩ d).a4,.int .i64 (FO ⟨k,c,a0,b0,a1,b1,a2,b2,a3,b3,a4,b4,lo,hi,ft,fl,bu⟩ d).b4,
   .int .i64 (FO ⟨k,c,a0,b0,a1,b1,a2,b2,a3,b3,a4,b4,lo,hi,ft,fl,bu⟩ d).lo,.int .i64 (FO ⟨k,c,a0,b0,a1,b1,a2,b2,a3,b3,a4,b4,lo,hi,ft,fl,bu⟩ d).hi,
   .int .i64 (FO ⟨k,c,a0,b0,a1,b1,a2,b2,a3,b3,a4,b4,lo,hi,ft,fl,bu⟩ d).ft,.bool (FO ⟨k,c,a0,b0,a1,b1,a2,b2,a3,b3,a4,b4,lo,hi,ft,fl,bu⟩ d).fl,
   .int .i64 (FO ⟨k,c,a0,b0,a1,b1,a2,b2,a3,b3,a4,b4,lo,hi,ft,fl,bu⟩ d).bu]) []) .no
 | _=>.no
def JS (n:Int):Bool:=decide (0≤n)&&decide (n≤1073741824)
def aP:DR
 | [.int .i64 n]=>.ok (.bool (JS n)) []
 | _=>.no
def VU:DR
 | [.str s]=>.ok (.int .i64 (FA s)) []
 | _=>.no
def VV:DR
 | [.str s]=>.br (decide (s.size < 4294967281)) (.ok (.int .i64 (F1 s)) []) .no
 | _=>.no
abbrev MS:BA:=⟨#[114,97,110,103,101]⟩
abbrev OD:BA:=⟨#[98,101,115,116]⟩
abbrev MT:BA:=⟨#[114,105,115,101,115]⟩
abbrev L3:BA:=⟨#[102,97,108,108,115]⟩
abbrev U4:BA:=⟨#[102,114,111,109]⟩
abbrev U8:BA:=⟨#[116,111]⟩
abbrev OE:BA:=⟨#[98,121]⟩
abbrev NG:BA:=⟨#[105,110]⟩
abbrev U3:BA:=⟨#[98,117,100,103,101,116]⟩
abbrev Z7:BA:=⟨#[46,46]⟩
abbrev GR:BA:=⟨#[32]⟩
def MR (a b:Int):BA:=DQ a++Z7++DQ b
def HH (q:Qy):List BA:=
 cond (q.k==1) [MS,DL q.c,U4,DQ q.lo,U8,DQ q.hi]
 (cond (q.k==2) [OD,DL q.c] [cond q.fl L3 MT,DL q.c,OE,DL q.ft])
def Qy.spans (q:Qy):List (Int × Int):=[(q.a0,q.b0),(q.a1,q.b1),(q.a2,q.b2),(q.a3,q.b3),(q.a4,q.b4)]
def I8 (q:Qy) (d:Nat):List BA:=HH q++NG :: ((q.spans.take d).map fun s=>MR s.1 s.2)++[U3,DL q.bu]
def N6 (q:Qy) (d:Int):Bool:=
 (!(decide (d < 1))&&!(decide (d > 4)))&&(q.eq (FO q d)&&(JS q.c&&(JS q.ft&&(JS q.bu&&((q.k==1)||((q.k==2)||(q.k==3)))))))
def E6 (q:Qy) (d:Int):BA:=cond (N6 q d) (F9 (I8 q d.toNat) GR) X3
def VT:DR
 | [.agg [.int .i64 k,.int .i64 c,.int .i64 a0,.int .i64 b0,.int .i64 a1,.int .i64 b1,.int .i64 a2,.int .i64 b2,.int .i64 a3,.int .i64 b3,.int .i64 a4,.int .i64 b4,.int .i64 lo,.int .i64 hi,.int .i64 ft,.bool fl,.int .i64 bu],.int .i64 d]=>
  .ok (.str (E6 ⟨k,c,a0,b0,a1,b1,a2,b2,a3,b3,a4,b4,lo,hi,ft,fl,bu⟩ d)) []
 | _=>.no
def DU (l:LI) (i:Nat):BA:=(l.getD i default).toStr
def EK (l:LI):Qy:=
 cond ((DU l 0).toList==MS.toList) ⟨1,FA (DU l 1),0,0,0,0,0,0,0,0,0,0,F1 (DU l 3),F1 (DU l 5),0,false,0⟩
 (cond ((DU l 0).toList==OD.toList) ⟨2,FA (DU l 1),0,0,0,0,0,0,0,0,0,0,0,0,0,false,0⟩
 (cond ((DU l 0).toList==MT.toList||(DU l 0).toList==L3.toList) ⟨3,FA (DU l 1),0,0,0,0,0,0,0,0,0,0,0,0,FA (DU l 3),(DU l 0).toList==L3.toList,0⟩
 ⟨0,FA (DU l 1),0,0,0,0,0,0,0,0,0,0,0,0,0,false,0⟩))
def aO:DR
 | [.list false [.str] l]=>.br (decide (l.length≤4294967290)&&l.all (fun x=>decide (x.toStr.size < 4294967281)))
  (.ok (.agg [.int .i64 (EK l).k,.int .i64 (EK l).c,.int .i64 (EK l).a0,.int .i64 (EK l).b0,.int .i64 (EK l).a1,.int .i64 (EK l).b1,.int .i64 (EK l).a2,.int .i64 (EK l).b2,.int .i64 (EK l).a3,.int .i64 (EK l).b3,.int .i64 (EK l).a4,.int .i64 (EK l).b4,
   .int .i64 (EK l).lo,.int .i64 (EK l).hi,.int .i64 (EK l).ft,.bool (EK l).fl,.int .i64 (EK l).bu]) []) .no
 | _=>.no
def RK (l:LI) (i:Nat):Int:=F1 (cutL (DU l i) Z7)
def RL (l:LI) (i:Nat):Int:=F1 (FT (DU l i) Z7)
def fU (l:LI) (i d:Nat):Qy:=
 ⟨(
  EK (l.take i)).k,(EK (l.take i)).c,
  cond (BK 0 d) (RK l (i+1)) 0,cond (BK 0 d) (RL l (i+1)) 0,cond (BK 1 d) (RK l (i+2)) 0,cond (BK 1 d) (RL l (i+2)) 0,cond (BK 2 d) (RK l (i+3)) 0,cond (BK 2 d) (RL l (i+3)) 0,cond (BK 3 d) (RK l (i+4)) 0,cond (BK 3 d) (RL l (i+4)) 0,0,0,
  (EK (l.take i)).lo,(EK (l.take i)).hi,(EK (l.take i)).ft,(EK (l.take i)).fl,FA (DU l (l.length - 1))⟩
def G4 (s:BA):LI:=(D1 s GR).map IV.str
def M6 (s:BA):Int:=FU (G4 s) NG 0
def N3 (s:BA):Int:=ic (G4 s).length - 2 - M6 s - 1
def eZ (s:BA):Qy:=fU (G4 s) (M6 s).toNat (N3 s).toNat
def MY (s:BA):Bool:=(!(decide (M6 s < 0))&&(!(decide (N3 s < 1))&&!(decide (N3 s > 4))))&&(E6 (eZ s) (N3 s)).toList==s.toList
def FK (s:BA):Qy:=cond (MY s) (eZ s) Qy.none
def MA (s:BA):Int:=cond (MY s) (N3 s) 0
def VS:DR
 | [.str s]=>.br (decide (s.size < 4294967281))
  (.ok (.tup [.agg [.int .i64 (FK s).k,.int .i64 (FK s).c,.int .i64 (FK s).a0,.int .i64 (FK s).b0,.int .i64 (FK s).a1,.int .i64 (FK s).b1,.int .i64 (FK s).a2,.int .i64 (FK s).b2,.int .i64 (FK s).a3,.int .i64 (FK s).b3,.int .i64 (FK s).a4,.int .i64 (FK s).b4,
   .int .i64 (FK s).lo,.int .i64 (FK s).hi,.int .i64 (FK s).ft,.bool (FK s).fl,.int .i64 (FK s).bu],.int .i64 (MA s),.bool (MY s)]) []) .no
 | _=>.no
open Go
def EH (l:LI) (i:Int):Int:=cond (ic l.length==0) 0 (l.getD (i.tmod (ic l.length)).toNat default).toInt
def R3:DR
 | [.list false [.z] l,.int .i64 i]=>.br (decide (0≤i)) (.ok (.int .i64 (EH l i)) []) .no
 | _=>.no
def EZ (n:Int):Bool:=decide (-2147483648≤n)&&decide (n≤2147483647)
def bN:DR
 | [.int .i64 n,.int .i64 w]=>.br (decide (w=32)) (.ok (.bool (EZ n)) []) .no
 | _=>.no
def fY (lf:Bool) (v f a l r:Int):Bool:=
 cond lf (EZ v&&((f==0)&&((a==0)&&((l==0)&&(r==0)))))
  ((v==0)&&(decide (0≤f)&&(decide (f < 4)&&(EZ a&&(decide (1≤l)&&(decide (l < 31)&&(decide (1≤r)&&decide (r < 31))))))))
def bO:DR
 | [.agg [.bool lf,.int .i64 v,.int .i64 f,.int .i64 a,.int .i64 l,.int .i64 r]]=>.ok (.bool (fY lf v f a l r)) []
 | _=>.no
def iJ (a b:Int):Int:=JJ (ic (CL (A4 (AT AJ) a &&& A4 (AT AJ) b)))
def fL (a b:Int):Int:=JJ (ic (CL (A4 (AT AJ) a ||| A4 (AT AJ) b)))
def ZU (a:Int) (k:Nat):Int:=JJ (a*2 ^ k)
def H2 (lf:Bool) (v f a l r:Int):Int:=
 cond (fY lf v f a l r)
  (cond lf (fL 9223372036854775808 (iJ (JJ v) 4294967295))
   (fL (fL (fL (iJ (JJ a) 4294967295) (ZU (JJ f) 32)) (ZU (JJ l) 40)) (ZU (JJ r) 48)))
  0
def V0:DR
 | [.agg [.bool lf,.int .i64 v,.int .i64 f,.int .i64 a,.int .i64 l,.int .i64 r]]=>.ok (.int .u64 (H2 lf v f a l r)) []
 | _=>.no
def ST (lf:Bool) (v f a l r:Int):IV:=.agg [.bool lf,.int v,.int f,.int a,.int l,.int r]
def LP (v:Int):IV:=ST true v 0 0 0 0
def SY (x:IV):IV:=.int (H2 (x.cell 0).toBool (x.cell 1).toInt (x.cell 2).toInt (x.cell 3).toInt (x.cell 4).toInt (x.cell 5).toInt)
structure Ns where
 nodes:LI
 leaves:LI
def HT (part:LI) (i:Nat) (s:Ns):Int:=DO (part.getD i default).toInt 0 (ic s.leaves.length - 1)
def RB (part:LI) (i:Nat) (s:Ns):Int:=(s.leaves.getD (HT part i s).toNat default).toInt
def J4 (part byl atl val:LI) (dim:Int) (i:Nat) (s:Ns):Ns:=
 ⟨s.nodes.set (RB part i s).toNat (ST false 0 (DO (EH byl (i:Int)) 0 (dim - 1)) (DO (EH atl (i:Int)) 0 9) (ic s.nodes.length) (ic s.nodes.length+1)) ++
   [LP (DO (EH val (2*(i:Int)+1)) (-3000) 3000),LP (DO (EH val (2*(i:Int)+2)) (-3000) 3000)],
  s.leaves.take (HT part i s).toNat++s.leaves.drop ((HT part i s).toNat+1)++[.int (ic s.nodes.length),.int (ic s.nodes.length+1)]⟩
def ZB (part byl atl val:LI) (dim:Int):Nat→Nat→Ns→Ns
 | 0,_,s=>s
 | d+1,i,s=>ZB part byl atl val dim d (i+1) (J4 part byl atl val dim i s)
def O3 (part byl atl val:LI) (dim:Int):Ns:=ZB part byl atl val dim (min part.length 7) 0 ⟨[LP (DO (EH val 0) (-3000) 3000)],[.int 0]⟩
def MJ (part byl atl val:LI) (dim:Int):LI:=(O3 part byl atl val dim).nodes.map SY
def bM:DR
 | [.agg [.int .i64 _,.list false [.z] part,.list false [.z] byl,.list false [.z] atl,.list false [.z] val],.int .i64 dim]=>
  .br (decide (1≤dim)&&decide (dim≤4)) (.ok (.list false [.int .u64] (MJ part byl atl val dim)) []) .no
 | _=>.no
def NY (d:Int):Int:=DO d 1 3
def KF (c:Int):Int:=DO c 1 3
def SC (c:Int) (bias:LI) (j:Int):Int:=cond (decide (j < KF c)) (DO (EH bias j) (-500) 500) 0
def Z2 (d c:Int) (t:IV):IV:=.agg [.int (DO (t.cell 0).toInt 0 (KF c - 1)),.list (MJ (t.cell 1).toList (t.cell 2).toList (t.cell 3).toList (t.cell 4).toList (NY d))]
def RN (d c:Int) (ts:LI):LI:=(ts.take 4).map (Z2 d c)
def hZ:DR
 | [.agg [.int .i64 d,.int .i64 c,.list false [.z] bias,.list true [.z,.list false [.z],.list false [.z],.list false [.z],.list false [.z]] ts]]=>
  .ok (.agg [.int .i64 (NY d),.int .i64 (KF c),.int .i64 (SC c bias 0),.int .i64 (SC c bias 1),.int .i64 (SC c bias 2),.list true [.z,.list false [.int .u64]] (RN d c ts)]) []
 | _=>.no
def FP (d:Int) (l:LI) (i:Int):Int:=cond (decide (i < d)) (DO (EH l (2*i)) (-2) 9) 0
def FQ (d:Int) (l:LI) (i:Int):Int:=cond (decide (i < d)) (DO (EH l (2*i)) (-2) 9+DO (EH l (2*i+1)) 0 11) 0
def bK:DR
 | [.agg [.int .i64 d,.int .i64 _,.int .i64 _,.int .i64 _,.int .i64 _,.list true [.z,.list false [.int .u64]] _],.list false [.z] l]=>
  .br (decide (0≤d)&&decide (d≤4)) (.ok (.agg [.int .i64 (FP d l 0),.int .i64 (FQ d l 0),.int .i64 (FP d l 1),.int .i64 (FQ d l 1),.int .i64 (FP d l 2),.int .i64 (FQ d l 2),.int .i64 (FP d l 3),.int .i64 (FQ d l 3),.int .i64 0,.int .i64 0]) []) .no
 | _=>.no
structure Ak where
 k:Int
 c:Int
 lo:Int
 size:Int
 ft:Int
 bu:Int
 fl:Bool
 sp:LI
def FE (a:Ak) (cls:Int):Int:=cond (DO a.k 1 3==2&&decide (cls < 2)) 1 (DO a.k 1 3)
def J1 (a:Ak):Int:=DO a.lo (-9000) 9000
def I5 (a:Ak) (dim cls:Int):Qy:=
 ⟨FE a cls,DO a.c 0 (cls - 1),FP dim a.sp 0,FQ dim a.sp 0,FP dim a.sp 1,FQ dim a.sp 1,FP dim a.sp 2,FQ dim a.sp 2,FP dim a.sp 3,FQ dim a.sp 3,0,0,
  cond (FE a cls==1) (J1 a) 0,cond (FE a cls==1) (J1 a+DO a.size 0 18000) 0,cond (FE a cls==3) (DO a.ft 0 (dim - 1)) 0,cond (FE a cls==3) a.fl false,DO a.bu 0 65536⟩
def hU:DR
 | [.agg [.int .i64 k,.int .i64 c,.int .i64 lo,.int .i64 size,.int .i64 ft,.int .i64 bu,.bool fl,.list false [.z] sp],.agg [.int .i64 dim,.int .i64 cls,.int .i64 _,.int .i64 _,.int .i64 _,.list true [.z,.list false [.int .u64]] _]]=>
  .br ((decide (1≤dim)&&decide (dim≤4))&&(decide (1≤cls)&&decide (cls≤3)))
   (.ok (.agg [.int .i64 (I5 ⟨k,c,lo,size,ft,bu,fl,sp⟩ dim cls).k,.int .i64 (I5 ⟨k,c,lo,size,ft,bu,fl,sp⟩ dim cls).c,
    .int .i64 (I5 ⟨k,c,lo,size,ft,bu,fl,sp⟩ dim cls).a0,.int .i64 (I5 ⟨k,c,lo,size,ft,bu,fl,sp⟩ dim cls).b0,.int .i64 (I5 ⟨k,c,lo,size,ft,bu,fl,sp⟩ dim cls).a1,.int .i64 (I5 ⟨k,c,lo,size,ft,bu,fl,sp⟩ dim cls).b1,
    .int .i64 (I5 ⟨k,c,lo,size,ft,bu,fl,sp⟩ dim cls).a2,.int .i64 (I5 ⟨k,c,lo,size,ft,bu,fl,sp⟩ dim cls).b2,.int .i64 (I5 ⟨k,c,lo,size,ft,bu,fl,sp⟩ dim cls).a3,.int .i64 (I5 ⟨k,c,lo,size,ft,bu,fl,sp⟩ dim cls).b3,
    .int .i64 (I5 ⟨k,c,lo,size,ft,bu,fl,sp⟩ dim cls).a4,.int .i64 (I5 ⟨k,c,lo,size,ft,bu,fl,sp⟩ dim cls).b4,.int .i64 (I5 ⟨k,c,lo,size,ft,bu,fl,sp⟩ dim cls).lo,.int .i64 (I5 ⟨k,c,lo,size,ft,bu,fl,sp⟩ dim cls).hi,
    .int .i64 (I5 ⟨k,c,lo,size,ft,bu,fl,sp⟩ dim cls).ft,.bool (I5 ⟨k,c,lo,size,ft,bu,fl,sp⟩ dim cls).fl,.int .i64 (I5 ⟨k,c,lo,size,ft,bu,fl,sp⟩ dim cls).bu]) []) .no
 | _=>.no
open Go Go.Proofs
def Qk (N:Nat):Env:=D0 [] [] 15 N
theorem zdQ (N:Nat) (l:LI) (i:Int):DV (Qk N) w8 [.tmp 4] [[.z]] [.list false [.z] l,.i i]=(cond (ic (AF l)==0) (some ((.i 0),[])) (cond (decide (ic (AF l)=0)) none (cond (decide (0≤Int.tmod i (ic (AF l)))&&decide (Int.tmod i (ic (AF l)) < ic (AF l))) (some ((.i (IV.toInt (AH l (AD (Int.tmod i (ic (AF l)))) default))),[])) none))):=by kernel_rfl
def Ql (N:Nat):Env:=D0 [] [] 27 N
theorem zdR (N:Nat) (n w:Int):DV (Ql N) w9 [.tmp 4] [[.bool]] [.i n,.i w]=(cond (decide (w < 1)) (some ((.bool false),[])) (cond (decide (w > 64)) (some ((.bool false),[])) (cond (w==64) (some ((.bool true),[])) (cond (decide (AA AB (w - 1) < 0)) none (cond (decide (n≥AA AB (0 - AA AB (1*2 ^ min (AD (AA AB (w - 1))) (AT AB))))) (some ((.bool (decide (n≤AA AB (AA AB (1*2 ^ min (AD (AA AB (w - 1))) (AT AB)) - 1)))),[])) (some ((.bool false),[]))))))):=by kernel_rfl
def Qn (N:Nat):Env:=D0 [(134,bN)] [] 66 N
theorem zdT (N:Nat) (u01:Bool) (u04 u00 n_At u02 u03:Int):DV (Qn N) xB [.tmp 2] [[.bool]] [.agg [.bool u01,.i u04,.i u00,.i n_At,.i u02,.i u03]]=(cond u01 (cond (EZ u04) (cond (u00==0) (cond (n_At==0) (cond (u02==0) (some ((.bool (u03==0)),[])) (some ((.bool false),[]))) (some ((.bool false),[]))) (some ((.bool false),[]))) (some ((.bool false),[]))) (cond (u04==0) (cond (decide (u00≥0)) (cond (decide (u00 < 4)) (cond (EZ n_At) (cond (decide (u02≥1)) (cond (decide (u02 < 31)) (cond (decide (u03≥1)) (some ((.bool (decide (u03 < 31))),[])) (some ((.bool false),[]))) (some ((.bool false),[]))) (some ((.bool false),[]))) (some ((.bool false),[]))) (some ((.bool false),[]))) (some ((.bool false),[]))) (some ((.bool false),[])))):=by kernel_rfl
def Qm (N:Nat):Env:=D0 [(133,bO)] [] 32 N
theorem zdS (N:Nat) (u01:Bool) (u04 u00 n_At u02 u03:Int):DV (Qm N) xA [.tmp 2] [[.int .u64]] [.agg [.bool u01,.i u04,.i u00,.i n_At,.i u02,.i u03]]=(cond (!fY u01 u04 u00 n_At u02 u03) (some ((.int .u64 0),[])) (cond u01 (some ((.int .u64 (AA AJ (ic (CL (A4 (AT AJ) 9223372036854775808 ||| A4 (AT AJ) (AA AJ (ic (CL (A4 (AT AJ) (AA AJ u04) &&& A4 (AT AJ) 4294967295))))))))),[])) (some ((.int .u64 (AA AJ (ic (CL (A4 (AT AJ) (AA AJ (ic (CL (A4 (AT AJ) (AA AJ (ic (CL (A4 (AT AJ) (AA AJ (ic (CL (A4 (AT AJ) (AA AJ n_At) &&& A4 (AT AJ) 4294967295)))) ||| A4 (AT AJ) (AA AJ (AA AJ u00*2 ^ min (AD 32) (AT AJ))))))) ||| A4 (AT AJ) (AA AJ (AA AJ u02*2 ^ min (AD 40) (AT AJ))))))) ||| A4 (AT AJ) (AA AJ (AA AJ u03*2 ^ min (AD 48) (AT AJ)))))))),[])))):=by kernel_rfl
def RU (N:Nat):Env:=D0 [(32,PI),(35,R3)] [(3,⟨[1,4,5,9,10],[4,5],[]⟩)] 32 N
abbrev RQ (l1:LI) (x9 x10 u00 u01 u02 u03 u04 u05 u06 u07 u08 u09 u0a u0b u0c u0d u0e u0f u0g u0h u0i u0j:Int):St:=⟨[(1,(.list false [.z] l1)),(4,(.ptr 4 0 0)),(5,(.ptr 5 0 0)),(9,(.i x9)),(10,(.i x10))],[(4,(some (.box [.i u00,.i u01,.i u02,.i u03,.i u04,.i u05,.i u06,.i u07,.i u08,.i u09]))),(5,(some (.box [.i u0a,.i u0b,.i u0c,.i u0d,.i u0e,.i u0f,.i u0g,.i u0h,.i u0i,.i u0j])))]⟩
theorem zdN (N:Nat) (u04 u03 u00 u01 u02:Int) (u05 l:LI):DV (RU N) T4 [.cell 4 37] [[.z,.z,.z,.z,.z,.z,.z,.z,.z,.z]] [.agg [.i u04,.i u03,.i u00,.i u01,.i u02,.list true [.z,.list false [.int .u64]] u05],.list false [.z] l]=(DT (RU N) (DF T4 [1,1,0,1,0,0]) ⟨[1,4,5,9,10],[4,5],[]⟩ N (RQ l u04 0 0 0 0 0 0 0 0 0 0 0 0 0 0 0 0 0 0 0 0 0) (DM 0 (DN (RU N) (DF T4 [1,1,1]) (DP (RU N) none [.cell 4 37] [[.z,.z,.z,.z,.z,.z,.z,.z,.z,.z]])))):=by kernel_rfl
theorem Me (N:Nat) (l1:LI) (x9 x10 u00 u01 u02 u03 u04 u05 u06 u07 u08 u09 u0a u0b u0c u0d u0e u0f u0g u0h u0i u0j:Int) (again:St→DJ) (k:Out→St→DJ):EX (RU N) (DF T4 [1,1,0,1,0,0]) (RQ l1 x9 x10 u00 u01 u02 u03 u04 u05 u06 u07 u08 u09 u0a u0b u0c u0d u0e u0f u0g u0h u0i u0j) (ED again ⟨[1,4,5,9,10],[4,5],[]⟩ k)=(cond (decide (x10 < x9)) (cond (decide (0≤AA AB (2*x10))) (cond (decide (0≤AA AB (AA AB (2*x10)+1))) (cond (decide (x10=ic 0)) (again (RQ l1 x9 (AA AB (x10+1)) u00 u01 u02 u03 u04 u05 u06 u07 u08 u09 (DO (EH l1 (AA AB (2*x10))) (-2) 9) (AA AB (DO (EH l1 (AA AB (2*x10))) (-2) 9+DO (EH l1 (AA AB (AA AB (2*x10)+1))) 0 11)) u0c u0d u0e u0f u0g u0h u0i u0j)) (cond (decide (x10=ic 1)) (again (RQ l1 x9 (AA AB (x10+1)) u00 u01 u02 u03 u04 u05 u06 u07 u08 u09 u0a u0b (DO (EH l1 (AA AB (2*x10))) (-2) 9) (AA AB (DO (EH l1 (AA AB (2*x10))) (-2) 9+DO (EH l1 (AA AB (AA AB (2*x10)+1))) 0 11)) u0e u0f u0g u0h u0i u0j)) (cond (decide (x10=ic 2)) (again (RQ l1 x9 (AA AB (x10+1)) u00 u01 u02 u03 u04 u05 u06 u07 u08 u09 u0a u0b u0c u0d (DO (EH l1 (AA AB (2*x10))) (-2) 9) (AA AB (DO (EH l1 (AA AB (2*x10))) (-2) 9+DO (EH l1 (AA AB (AA AB (2*x10)+1))) 0 11)) u0g u0h u0i u0j)) (cond (decide (x10=ic 3)) (again (RQ l1 x9 (AA AB (x10+1)) u00 u01 u02 u03 u04 u05 u06 u07 u08 u09 u0a u0b u0c u0d u0e u0f (DO (EH l1 (AA AB (2*x10))) (-2) 9) (AA AB (DO (EH l1 (AA AB (2*x10))) (-2) 9+DO (EH l1 (AA AB (AA AB (2*x10)+1))) 0 11)) u0i u0j)) (cond (decide (x10=ic 4)) (again (RQ l1 x9 (AA AB (x10+1)) u00 u01 u02 u03 u04 u05 u06 u07 u08 u09 u0a u0b u0c u0d u0e u0f u0g u0h (DO (EH l1 (AA AB (2*x10))) (-2) 9) (AA AB (DO (EH l1 (AA AB (2*x10))) (-2) 9+DO (EH l1 (AA AB (AA AB (2*x10)+1))) 0 11)))) none))))) none) none) (k (.exit 0) (RQ l1 x9 x10 u00 u01 u02 u03 u04 u05 u06 u07 u08 u09 u0a u0b u0c u0d u0e u0f u0g u0h u0i u0j))):=by kernel_rfl
theorem Xz (N:Nat) (l1:LI) (x9 x10 u00 u01 u02 u03 u04 u05 u06 u07 u08 u09 u0a u0b u0c u0d u0e u0f u0g u0h u0i u0j:Int):(DM 0 (DN (RU N) (DF T4 [1,1,1]) (DP (RU N) none [.cell 4 37] [[.z,.z,.z,.z,.z,.z,.z,.z,.z,.z]]))) (.exit 0) (RQ l1 x9 x10 u00 u01 u02 u03 u04 u05 u06 u07 u08 u09 u0a u0b u0c u0d u0e u0f u0g u0h u0i u0j)=(some ((.agg [.i u0a,.i u0b,.i u0c,.i u0d,.i u0e,.i u0f,.i u0g,.i u0h,.i u0i,.i u0j]),[])):=by kernel_rfl
open Go Go.Proofs
def Qi (N:Nat):Env:=D0 [(32,PI),(39,bK)] [] 58 N
theorem zdL (N:Nat) (u04 u01 a_Lo u05 u03 u00:Int) (u02:Bool) (u06:LI) (u0b u0a u07 u08 u09:Int) (u0c:LI):DV (Qi N) wY [.cell 4 39] [[.z,.z,.z,.z,.z,.z,.z,.z,.z,.z,.z,.z,.z,.z,.z,.bool,.z]] [.agg [.i u04,.i u01,.i a_Lo,.i u05,.i u03,.i u00,.bool u02,.list false [.z] u06],.agg [.i u0b,.i u0a,.i u07,.i u08,.i u09,.list true [.z,.list false [.int .u64]] u0c]]=(cond (decide (NH 0 (AA AB (u0a - 1))=0)) none (cond (decide (0≤u0b)&&decide (u0b≤4)) (cond (DO u04 1 3==2) (cond (decide (u0a < 2)) (some ((.agg [.i 1,.i (DO u01 0 (AA AB (u0a - 1))),.i (FP u0b u06 0),.i (FQ u0b u06 0),.i (FP u0b u06 1),.i (FQ u0b u06 1),.i (FP u0b u06 2),.i (FQ u0b u06 2),.i (FP u0b u06 3),.i (FQ u0b u06 3),.i 0,.i 0,.i (DO a_Lo (-9000) 9000),.i (AA AB (DO a_Lo (-9000) 9000+DO u05 0 18000)),.i 0,.bool false,.i (DO u00 0 65536)]),[])) (cond (DO u04 1 3==1) (some ((.agg [.i (DO u04 1 3),.i (DO u01 0 (AA AB (u0a - 1))),.i (FP u0b u06 0),.i (FQ u0b u06 0),.i (FP u0b u06 1),.i (FQ u0b u06 1),.i (FP u0b u06 2),.i (FQ u0b u06 2),.i (FP u0b u06 3),.i (FQ u0b u06 3),.i 0,.i 0,.i (DO a_Lo (-9000) 9000),.i (AA AB (DO a_Lo (-9000) 9000+DO u05 0 18000)),.i 0,.bool false,.i (DO u00 0 65536)]),[])) (some ((.agg [.i (DO u04 1 3),.i (DO u01 0 (AA AB (u0a - 1))),.i (FP u0b u06 0),.i (FQ u0b u06 0),.i (FP u0b u06 1),.i (FQ u0b u06 1),.i (FP u0b u06 2),.i (FQ u0b u06 2),.i (FP u0b u06 3),.i (FQ u0b u06 3),.i 0,.i 0,.i 0,.i 0,.i 0,.bool false,.i (DO u00 0 65536)]),[])))) (cond (DO u04 1 3==3) (cond (decide (NH 0 (AA AB (u0b - 1))=0)) none (cond (DO u04 1 3==1) (some ((.agg [.i (DO u04 1 3),.i (DO u01 0 (AA AB (u0a - 1))),.i (FP u0b u06 0),.i (FQ u0b u06 0),.i (FP u0b u06 1),.i (FQ u0b u06 1),.i (FP u0b u06 2),.i (FQ u0b u06 2),.i (FP u0b u06 3),.i (FQ u0b u06 3),.i 0,.i 0,.i (DO a_Lo (-9000) 9000),.i (AA AB (DO a_Lo (-9000) 9000+DO u05 0 18000)),.i (DO u03 0 (AA AB (u0b - 1))),.bool u02,.i (DO u00 0 65536)]),[])) (some ((.agg [.i (DO u04 1 3),.i (DO u01 0 (AA AB (u0a - 1))),.i (FP u0b u06 0),.i (FQ u0b u06 0),.i (FP u0b u06 1),.i (FQ u0b u06 1),.i (FP u0b u06 2),.i (FQ u0b u06 2),.i (FP u0b u06 3),.i (FQ u0b u06 3),.i 0,.i 0,.i 0,.i 0,.i (DO u03 0 (AA AB (u0b - 1))),.bool u02,.i (DO u00 0 65536)]),[])))) (cond (DO u04 1 3==1) (some ((.agg [.i (DO u04 1 3),.i (DO u01 0 (AA AB (u0a - 1))),.i (FP u0b u06 0),.i (FQ u0b u06 0),.i (FP u0b u06 1),.i (FQ u0b u06 1),.i (FP u0b u06 2),.i (FQ u0b u06 2),.i (FP u0b u06 3),.i (FQ u0b u06 3),.i 0,.i 0,.i (DO a_Lo (-9000) 9000),.i (AA AB (DO a_Lo (-9000) 9000+DO u05 0 18000)),.i 0,.bool false,.i (DO u00 0 65536)]),[])) (some ((.agg [.i (DO u04 1 3),.i (DO u01 0 (AA AB (u0a - 1))),.i (FP u0b u06 0),.i (FQ u0b u06 0),.i (FP u0b u06 1),.i (FQ u0b u06 1),.i (FP u0b u06 2),.i (FQ u0b u06 2),.i (FP u0b u06 3),.i (FQ u0b u06 3),.i 0,.i 0,.i 0,.i 0,.i 0,.bool false,.i (DO u00 0 65536)]),[]))))) none)):=by kernel_rfl
open Go Go.Proofs
theorem sZ:DS PR B0 35 R3:=by
 refine D2 [] [] R3 [[.z]] Tryz.func35 zaX trivial ?_;intro vs r hwf h;unfold R3 at h;split at h
 ·rename_i l i;cases hc:decide (0≤i) with
  | false=>rw [hc] at h; simp [R.get] at h
  | true=>
   rw [hc,R.get_br,DE,R.get_ok] at h;have hc:=A0 hc;refine ⟨0,?_⟩;rw [← h];refine (zdQ 0 l i).trans ?_;unfold EH;cases h0:(ic (AF l)==0) with
   | true=>rfl
   | false=>
    rw [TU] at h0;have h0':=BH h0;have hl:0 < (l.length:Int):=by simp only [ic] at h0'; omega
    have t0:=Int.tmod_nonneg (l.length:Int) hc;have t1:=Int.tmod_lt_of_pos i hl;rw [DG,h0,DG,AE (show 0≤Int.tmod i (ic (AF l)) from t0),AE (show Int.tmod i (ic (AF l)) < ic (AF l) from t1),CJ,DE,DG]
 ·simp [R.get] at h
theorem zhL:DS PR B0 134 bN:=by
 refine D2 [] [] bN [[.bool]] Tryz.func134 zaY trivial ?_;intro vs r hwf h;unfold bN at h;split at h
 ·rename_i n w;cases hc:decide (w=32) with
  | false=>rw [hc] at h; simp [R.get] at h
  | true=>
   rw [hc,R.get_br,DE,R.get_ok] at h;have hc:=A0 hc;subst hc;refine ⟨0,?_⟩;rw [← h];refine (zdR 0 n 32).trans ?_;have e1:AA AB (0 - AA AB (1*2 ^ min (AD (AA AB ((32:Int) - 1))) (AT AB))) = -2147483648:=by kernel_rfl
   have e2:AA AB (AA AB (1*2 ^ min (AD (AA AB ((32:Int) - 1))) (AT AB)) - 1)=2147483647:=by kernel_rfl
   have e3:decide (AA AB ((32:Int) - 1) < 0)=false:=by kernel_rfl
   rw [e1,e2,e3];unfold EZ;have e4:decide (n ≥ -2147483648)=decide (-2147483648≤n):=rfl;rw [e4];cases decide (-2147483648≤n) <;> rfl
 ·simp [R.get] at h
theorem zT (a b:Bool):cond a (some (V.bool b,[])) (some (V.bool false,[]))=(some (V.bool (a&&b),[]):DJ):=by cases a <;> rfl
theorem zhM:DS PR B0 133 bO:=by
 refine D2 [(134,bN)] [] bO [[.bool]] Tryz.func133 za0 ⟨zhL,trivial⟩ ?_;intro vs r hwf h;unfold bO at h;split at h
 ·rename_i lf v f a l r';refine ⟨0,?_⟩;rw [← h];refine (zdT 0 lf v f a l r').trans ?_;simp only [R.get_ok,zT];unfold fY;cases lf with
  | true=>rfl
  | false=>rfl
 ·simp [R.get] at h
theorem Ka:DS PR B0 74 V0:=by
 refine D2 [(133,bO)] [] V0 [[.int .u64]] Tryz.func74 zaZ ⟨zhM,trivial⟩ ?_;intro vs r hwf h;unfold V0 at h;split at h
 ·rename_i lf v f a l r';refine ⟨0,?_⟩;rw [← h];refine (zdS 0 lf v f a l r').trans ?_;unfold H2;cases fY lf v f a l r' with
  | false=>rfl
  | true=>cases lf <;> rfl
 ·simp [R.get] at h
def LW (l:LI) (j:Int):Int:=DO (EH l (2*j)) (-2) 9
def K7 (l:LI) (j:Int):Int:=DO (EH l (2*j)) (-2) 9+DO (EH l (2*j+1)) 0 11
def rgC (l:LI) (i:Nat):List V:=[.int .i64 (cond (BK 0 i) (LW l 0) 0),.int .i64 (cond (BK 0 i) (K7 l 0) 0),.int .i64 (cond (BK 1 i) (LW l 1) 0),.int .i64 (cond (BK 1 i) (K7 l 1) 0),.int .i64 (cond (BK 2 i) (LW l 2) 0),.int .i64 (cond (BK 2 i) (K7 l 2) 0),.int .i64 (cond (BK 3 i) (LW l 3) 0),.int .i64 (cond (BK 3 i) (K7 l 3) 0),.int .i64 0,.int .i64 0]
abbrev lU (l:LI) (D:Int) (i:Nat) (x:Int):St:=⟨[(1,(.list false [.z] l)),(4,(.ptr 4 0 0)),(5,(.ptr 5 0 0)),(9,(.int .i64 D)),(10,(.int .i64 x))],[(4,(some (.box [(.int .i64 0),(.int .i64 0),(.int .i64 0),(.int .i64 0),(.int .i64 0),(.int .i64 0),(.int .i64 0),(.int .i64 0),(.int .i64 0),(.int .i64 0)]))),(5,(some (.box (rgC l i))))]⟩
theorem zi0 (l:LI) (j:Int):AA AB (DO (EH l (2*j)) (-2) 9+DO (EH l (2*j+1)) 0 11)=K7 l j:=by
 obtain ⟨_,a1,a2⟩:=G2 (n:=EH l (2*j)) (lo := -2) (hi:=9) (by omega) (by omega) (by omega);obtain ⟨_,b1,b2⟩:=G2 (n:=EH l (2*j+1)) (lo:=0) (hi:=11) (by omega) (by omega) (by omega);exact EI (by omega) (by omega)
theorem zgO (N:Nat) (l:LI) (D:Int) (i:Nat) (hi:(i:Int) < D) (h4:i < 4) (again:St→DJ) (k:Out→St→DJ) :
  EX (RU N) (DF T4 [1,1,0,1,0,0]) (lU l D i (i:Int)) (ED again ⟨[1,4,5,9,10],[4,5],[]⟩ k)=again (lU l D (i+1) ((i+1:Nat):Int)):=by
 refine (Me N l D i 0 0 0 0 0 0 0 0 0 0 (cond (BK 0 i) (LW l 0) 0) (cond (BK 0 i) (K7 l 0) 0) (cond (BK 1 i) (LW l 1) 0) (cond (BK 1 i) (K7 l 1) 0) (cond (BK 2 i) (LW l 2) 0) (cond (BK 2 i) (K7 l 2) 0) (cond (BK 3 i) (LW l 3) 0) (cond (BK 3 i) (K7 l 3) 0) 0 0 again k).trans ?_;have w2:AA AB (2*(i:Int))=2*(i:Int):=EI (by omega) (by omega);have w3:AA AB (2*(i:Int)+1)=2*(i:Int)+1:=EI (by omega) (by omega);rw [AE hi,DE,w2,w3,AE (show 0≤2*(i:Int) by omega),DE,AE (show 0≤2*(i:Int)+1 by omega),DE,zi0];have hi4:i=0∨i=1∨i=2∨i=3:=by omega
 rcases hi4 with rfl | rfl | rfl | rfl
 ·rw [show decide (((0:Nat):Int)=ic 0)=true from rfl,DE];rfl
 ·rw [show decide (((1:Nat):Int)=ic 0)=false from rfl,show decide (((1:Nat):Int)=ic 1)=true from rfl,DG,DE];rfl
 ·rw [show decide (((2:Nat):Int)=ic 0)=false from rfl,show decide (((2:Nat):Int)=ic 1)=false from rfl,show decide (((2:Nat):Int)=ic 2)=true from rfl,DG,DG,DE];rfl
 ·rw [show decide (((3:Nat):Int)=ic 0)=false from rfl,show decide (((3:Nat):Int)=ic 1)=false from rfl,show decide (((3:Nat):Int)=ic 2)=false from rfl,show decide (((3:Nat):Int)=ic 3)=true from rfl,DG,DG,DG,DE];rfl
theorem Ig (N:Nat) (l:LI) (D:Nat) (hD:D≤4) (K:Out→St→DJ):∀ (d i n:Nat),i+d=D→d < n →
  DT (RU N) (DF T4 [1,1,0,1,0,0]) ⟨[1,4,5,9,10],[4,5],[]⟩ n (lU l D i (i:Int)) K=K (.exit 0) (lU l D D (D:Int))
 | 0,i,n+1,hd,hn=>by
  have hi:i=D:=by omega
  subst hi;rw [DX];refine (Me N l _ _ 0 0 0 0 0 0 0 0 0 0 (cond (BK 0 i) (LW l 0) 0) (cond (BK 0 i) (K7 l 0) 0) (cond (BK 1 i) (LW l 1) 0) (cond (BK 1 i) (K7 l 1) 0) (cond (BK 2 i) (LW l 2) 0) (cond (BK 2 i) (K7 l 2) 0) (cond (BK 3 i) (LW l 3) 0) (cond (BK 3 i) (K7 l 3) 0) 0 0 _ _).trans ?_;rw [AL (show ¬ (i:Int) < (i:Int) by omega),DG];rfl
 | d+1,i,n+1,hd,hn=>by
  rw [DX,zgO N l D i (by omega) (by omega)];exact Ig N l D hD K d (i+1) n (by omega) (by omega)
 | _,_,0,_,h=>by omega
theorem zhI:DS PR B0 39 bK:=by
 refine D2 [(32,PI),(35,R3)] [(3,⟨[1,4,5,9,10],[4,5],[]⟩)] bK [[.z,.z,.z,.z,.z,.z,.z,.z,.z,.z]] Tryz.func39 zaU
  ⟨lO,sZ,trivial⟩ ?_
 intro vs r hwf h;unfold bK at h;split at h
 ·rename_i d c b0 b1 b2 ts l;cases hc:(decide (0≤d)&&decide (d≤4)) with
  | false=>rw [hc] at h; simp [R.get] at h
  | true=>
   rw [hc,R.get_br,DE,R.get_ok] at h;simp only [AI,AP] at hc;refine ⟨10,?_⟩;rw [← h];refine (zdN 10 d c b0 b1 b2 ts l).trans ?_;obtain ⟨D,rfl⟩:∃ D:Nat,d=D:=⟨d.toNat,by omega⟩;refine (Ig 10 l D (by omega) _ D 0 10 (by omega) (by omega)).trans ?_;refine (Xz 10 l D D 0 0 0 0 0 0 0 0 0 0 (cond (BK 0 D) (LW l 0) 0) (cond (BK 0 D) (K7 l 0) 0) (cond (BK 1 D) (LW l 1) 0) (cond (BK 1 D) (K7 l 1) 0) (cond (BK 2 D) (LW l 2) 0) (cond (BK 2 D) (K7 l 2) 0) (cond (BK 3 D) (LW l 3) 0) (cond (BK 3 D) (K7 l 3) 0) 0 0).trans ?_;have hD:D=0∨D=1∨D=2∨D=3∨D=4:=by omega
   rcases hD with rfl | rfl | rfl | rfl | rfl <;> rfl
 ·simp [R.get] at h
theorem zhG:DS PR B0 9 hU:=by
 refine D2 [(32,PI),(39,bK)] [] hU [[.z,.z,.z,.z,.z,.z,.z,.z,.z,.z,.z,.z,.z,.z,.z,.bool,.z]] Tryz.func9 zaS
  ⟨lO,zhI,trivial⟩ ?_
 intro vs r hwf h;unfold hU at h;split at h
 ·rename_i k c lo size ft bu fl sp dim cls b0 b1 b2 ts;cases hc:((decide (1≤dim)&&decide (dim≤4))&&(decide (1≤cls)&&decide (cls≤3))) with
  | false=>rw [hc] at h; simp [R.get] at h
  | true=>
   rw [hc,R.get_br,DE,R.get_ok] at h;simp only [AI,AP] at hc;obtain ⟨⟨d1,d4⟩,c1,c3⟩:=hc;refine ⟨0,?_⟩;rw [← h];refine (zdL 0 k c lo size ft bu fl sp dim cls b0 b1 b2 ts).trans ?_;have w1:AA AB (cls - 1)=cls - 1:=EI (by omega) (by omega);have w2:AA AB (dim - 1)=dim - 1:=EI (by omega) (by omega);obtain ⟨m1,_,_⟩:=G2 (n:=c) (lo:=0) (hi:=cls - 1) (by omega) (by omega) (by omega);obtain ⟨m2,_,_⟩:=G2 (n:=ft) (lo:=0) (hi:=dim - 1) (by omega) (by omega) (by omega);obtain ⟨_,l1,l2⟩:=G2 (n:=lo) (lo := -9000) (hi:=9000) (by omega) (by omega) (by omega);obtain ⟨_,s1,s2⟩:=G2 (n:=size) (lo:=0) (hi:=18000) (by omega) (by omega) (by omega);have w3:AA AB (DO lo (-9000) 9000+DO size 0 18000)=DO lo (-9000) 9000+DO size 0 18000:=EI (by omega) (by omega);rw [w1,w2,w3,m1,m2,AL (show ¬ (cls - 1 - 0+1=0) by omega),AL (show ¬ (dim - 1 - 0+1=0) by omega),AE (show 0≤dim by omega),AE (show dim≤4 by omega)];unfold I5 FE J1;obtain ⟨_,k1,k2⟩:=G2 (n:=k) (lo:=1) (hi:=3) (by omega) (by omega) (by omega);generalize DO k 1 3=K at k1 k2;have hK:K=1∨K=2∨K=3:=by omega
   simp only;generalize decide (cls < 2)=cl;rcases hK with rfl | rfl | rfl <;> cases cl <;> rfl
 ·simp [R.get] at h
open Go
def RW:DR
 | [.int .i64 n,.int .i64 w]=>.br (decide (w=32)) (.ok (.bool (EZ n)) []) .no
 | _=>.no
def VX:DR
 | [.int .i64 a,.int .i64 w]=>.br (decide (0≤a)&&decide (a < 64)) (.ok (.bool (decide (1≤w)&&decide (w≤64 - a))) []) .no
 | _=>.no
def XB (w:Int):Int:=(18446744073709551615:Int).fdiv (2 ^ (64 - w).toNat)
def VY:DR
 | [.int .i64 w]=>.br (decide (1≤w)&&decide (w≤64)) (.ok (.int .u64 (XB w)) []) .no
 | _=>.no
def Sz (a b:Int):Int:=JJ (ic (CL (A4 (AT AJ) a &&& ~~~ (A4 (AT AJ) b))))
def PZ (x a w y:Int):Int:=fL (Sz x (ZU (XB w) a.toNat)) (iJ (ZU y a.toNat) (ZU (XB w) a.toNat))
def HY (x a w:Int):Int:=iJ (x.fdiv (2 ^ a.toNat)) (XB w)
def aV:DR
 | [.int .u64 x,.int .i64 a,.int .i64 w,.int .u64 y]=>.br (decide (0≤a)&&(decide (a < 64)&&(decide (1≤w)&&decide (w≤64 - a)))) (.ok (.int .u64 (PZ x a w y)) []) .no
 | _=>.no
def RX:DR
 | [.int .u64 x,.int .i64 a,.int .i64 w]=>.br (decide (0≤a)&&(decide (a < 64)&&(decide (1≤w)&&decide (w≤64 - a)))) (.ok (.int .u64 (HY x a w)) []) .no
 | _=>.no
def uO (n:Int):Int:=(FD (n*2 ^ 32)).fdiv (2 ^ 32)
def aX:DR
 | [.int .i64 n,.int .i64 w]=>.br (decide (w=32)) (.ok (.int .i64 (uO n)) []) .no
 | _=>.no
def OA (x:Int):Int:=uO (FD (HY x 0 32))
def aW:DR
 | [.int .u64 x,.int .i64 a,.int .i64 w]=>.br (decide (a=0)&&decide (w=32)) (.ok (.int .i64 (OA x)) []) .no
 | _=>.no
structure Nd where
 lf:Bool
 v:Int
 f:Int
 a:Int
 l:Int
 r:Int
def Nd.eq (x y:Nd):Bool:=(x.lf==y.lf)&&((x.v==y.v)&&((x.f==y.f)&&((x.a==y.a)&&((x.l==y.l)&&((x.r==y.r)&&true)))))
def Nd.zero:Nd:=⟨false,0,0,0,0,0⟩
def QV (n:Int):Bool:=decide (1≤n)&&decide (n < 31)
def cO:DR
 | [.int .i64 n]=>.ok (.bool (QV n)) []
 | _=>.no
def MN (x:Nd):Bool:=
 cond x.lf (x.eq ⟨true,x.v,0,0,0,0⟩&&EZ x.v)
  ((x.v==0)&&(decide (0≤x.f)&&(decide (x.f < 4)&&(EZ x.a&&(QV x.l&&QV x.r)))))
def cM:DR
 | [.agg [.bool lf,.int .i64 v,.int .i64 f,.int .i64 a,.int .i64 l,.int .i64 r]]=>.ok (.bool (MN ⟨lf,v,f,a,l,r⟩)) []
 | _=>.no
def IM (x:Nd):Int:=
 cond (MN x)
  (cond x.lf (PZ 9223372036854775808 0 32 (JJ x.v))
   (PZ (PZ (PZ (PZ 0 0 32 (JJ x.a)) 32 4 (JJ x.f)) 40 8 (JJ x.l)) 48 8 (JJ x.r)))
  0
def V6:DR
 | [.agg [.bool lf,.int .i64 v,.int .i64 f,.int .i64 a,.int .i64 l,.int .i64 r]]=>.ok (.int .u64 (IM ⟨lf,v,f,a,l,r⟩)) []
 | _=>.no
def XM (w:Int):Nd:=
 cond (HY w 63 1==0) ⟨false,0,FD (HY w 32 4),OA w,FD (HY w 40 8),FD (HY w 48 8)⟩ ⟨true,OA w,0,0,0,0⟩
def F6 (w:Int):Bool:=!(w==0)&&(IM (XM w)==w)
def DH (w:Int):Nd:=cond (F6 w) (XM w) Nd.zero
def L7:DR
 | [.int .u64 w]=>.ok (.tup [.agg [.bool (DH w).lf,.int .i64 (DH w).v,.int .i64 (DH w).f,.int .i64 (DH w).a,.int .i64 (DH w).l,.int .i64 (DH w).r],.bool (F6 w)]) []
 | _=>.no
def cN:DR
 | [.int .i64 a,.int .i64 w,.bor [.int .u64 x]]=>.br (decide (0≤a)&&(decide (a < 64)&&(decide (1≤w)&&decide (w≤64 - a)))) (.ok (.int .i64 (FD (HY x a w))) [[.int .u64 x]]) .no
 | _=>.no
def KZ (x:Nd) (j:Nat):Nat:=cond x.lf 0 ((if x.l=(j:Int) then 1 else 0)+(if x.r=(j:Int) then 1 else 0))
def IJ (l:LI) (j:Nat):Nat:=(l.map fun w=>KZ (DH w.toInt) j).sum
def N1 (dim n:Int) (i:Nat) (x:Nd):Bool:=
 cond x.lf true (!(decide (x.f≥dim))&&(!(x.l==x.r)&&(!(decide (min x.l x.r≤(i:Int)))&&!(decide (max x.l x.r≥n)))))
def J3 (dim n:Int):Nat→LI→Bool
 | _,[]=>true
 | i,w :: r=>(F6 w.toInt&&N1 dim n i (DH w.toInt))&&J3 dim n (i+1) r
def ZF (l:LI):Bool:=(vaE (l.length - 1)).all fun j=>IJ l (j+1)==1
def GK (l:LI) (dim:Int):Bool:=(B6 1 l.length&&B6 l.length 31)&&(J3 dim (ic l.length) 0 l&&ZF l)
def WH:DR
 | [.list false [.int .u64] l,.int .i64 dim]=>.ok (.bool (GK l dim)) []
 | _=>.no
structure Md where
 d:Int
 c:Int
 b0:Int
 b1:Int
 b2:Int
 ts:LI
def G8 (d c:Int) (t:IV):Bool:=!(decide ((t.cell 0).toInt < 0))&&(!(decide ((t.cell 0).toInt≥c))&&GK (t.cell 1).toList d)
def HE (c j b:Int):Bool:=EZ b&&!(decide (j≥c)&&!(b==0))
def EP (m:Md):Bool:=
 (!(decide (m.d < 1))&&(!(decide (m.d > 4))&&(!(decide (m.c < 1))&&(!(decide (m.c > 3))&&B6 m.ts.length 8)))) &&
  ((HE m.c 0 m.b0&&(HE m.c 1 m.b1&&HE m.c 2 m.b2))&&m.ts.all (G8 m.d m.c))
abbrev LN:List Kd:=[.z,.list false [.int .u64]]
def V5:DR
 | [.agg [.int .i64 k,.list false [.int .u64] l],.bor [.int .i64 d,.int .i64 c,.int .i64 b0,.int .i64 b1,.int .i64 b2,.list true [.z,.list false [.int .u64]] ts]]=>
  .ok (.bool (!(G8 d c (.agg [.int k,.list l])))) [[.int .i64 d,.int .i64 c,.int .i64 b0,.int .i64 b1,.int .i64 b2,.list true LN ts]]
 | _=>.no
def WY (d c:Int):LI→Int→Int
 | [],_ => -1
 | t :: r,i=>cond (G8 d c t) (WY d c r (i+1)) i
def c8:DR
 | [.list true [.z,.list false [.int .u64]] l,.clo 108 [.bor [.int .i64 d,.int .i64 c,.int .i64 b0,.int .i64 b1,.int .i64 b2,.list true [.z,.list false [.int .u64]] ts]]]=>
  .ok (.int .i64 (WY d c l 0)) [[.int .i64 d,.int .i64 c,.int .i64 b0,.int .i64 b1,.int .i64 b2,.list true LN ts]]
 | _=>.no
def c6:DR
 | [.list true [.z,.list false [.int .u64]] l,.clo 108 [.bor [.int .i64 d,.int .i64 c,.int .i64 b0,.int .i64 b1,.int .i64 b2,.list true [.z,.list false [.int .u64]] ts]]]=>
  .ok (.bool (!(l.all (G8 d c)))) [[.int .i64 d,.int .i64 c,.int .i64 b0,.int .i64 b1,.int .i64 b2,.list true LN ts]]
 | _=>.no
def L6:DR
 | [.agg [.int .i64 d,.int .i64 c,.int .i64 b0,.int .i64 b1,.int .i64 b2,.list true [.z,.list false [.int .u64]] ts]]=>.ok (.bool (EP ⟨d,c,b0,b1,b2,ts⟩)) []
 | _=>.no
abbrev NF:BA:=⟨#[102,111,114,101,115,116]⟩
abbrev IZ:BA:=⟨#[98,105,97,115]⟩
abbrev OF:BA:=⟨#[116,114,101,101]⟩
abbrev S6:BA:=⟨#[108,101,97,102]⟩
abbrev mI:BA:=⟨#[105,102]⟩
abbrev uJ:BA:=⟨#[60,61]⟩
abbrev uK:BA:=⟨#[116,104,101,110]⟩
abbrev uI:BA:=⟨#[101,108,115,101]⟩
abbrev PG:BA:=⟨#[10]⟩
def FG (ws:List BA):BA:=F9 ws GR++PG
def FY:List (List BA)→BA
 | []=>CG
 | l :: r=>FG l++FY r
def LU (x:Nd):List BA:=
 cond x.lf [S6,DQ x.v] [mI,DL x.f,uJ,DQ x.a,uK,DL x.l,uI,DL x.r]
def HI (l:LI):List (List BA):=l.map fun w=>LU (DH w.toInt)
def S4 (t:IV):List (List BA):=[OF,DL (t.cell 0).toInt,DL (ic (t.cell 1).toList.length)] :: HI (t.cell 1).toList
def GH:LI→List (List BA)
 | []=>[]
 | t :: r=>S4 t++GH r
def SP (m:Md):List (List BA):=[[NF,DL m.d,DL m.c],IZ :: ([m.b0,m.b1,m.b2].take m.c.toNat).map DQ]
def LQ (m:Md):List (List BA):=SP m++GH m.ts
def H3 (m:Md):BA:=cond (EP m) (FY (LQ m)) X3
def FB (s:BA) (most:Int):Int:=cond (LC s&&(!(decide (FA s < 0))&&!(decide (FA s > most)))) (FA s) 0
def EW (ls:LI):LI:=match ls with | []=>[] | l :: _=>G4 l.toStr
def ND (l:LI):Nd:=
 cond ((DU l 0).toList==S6.toList) ⟨true,F1 (DU l 1),0,0,0,0⟩ ⟨false,0,FB (DU l 1) 4,F1 (DU l 3),FB (DU l 5) 31,FB (DU l 7) 31⟩
def ML (ls:LI) (k:Nat):LI:=(vaE k).map fun i=>.int (IM (ND (EW (ls.drop i))))
def MK (ls:LI):Nat:=(FB (DU (EW ls) 2) 31).toNat
def ZL (ls:LI):IV:=.agg [.int (FB (DU (EW ls) 1) 3),.list (ML (ls.drop 1) (MK ls))]
def K6:Nat→LI→LI
 | 0,_=>[]
 | n+1,ls=>match ls with
  | []=>[]
  | l :: r=>ZL (l :: r) :: K6 n (r.drop (MK (l :: r)))
def K5 (ls:LI) (c:Int) (j:Nat):Int:=cond (decide ((j:Int) < c)) (F1 (DU (EW (ls.drop 1)) (1+j))) 0
def ZK (ls:LI):Int:=FB (DU (EW ls) 2) 3
def r8 (ls:LI):Md:=⟨FB (DU (EW ls) 1) 4,ZK ls,K5 ls (ZK ls) 0,K5 ls (ZK ls) 1,K5 ls (ZK ls) 2,K6 9 (ls.drop 2)⟩
def SO (s t:BA):Bool:=decide (t.size≤s.size)&&(s.extract (s.size - t.size) s.size).toList==t.toList
def F3 (s t:BA):BA:=cond (SO s t) (s.extract 0 (s.size - t.size)) s
def Z4 (s:BA):BA:=F3 s PG
def UH (s:BA):LI:=(D1 (Z4 s) PG).map IV.str
def YR (s:BA):Md:=r8 (UH s)
def Md.zero:Md:=⟨0,0,0,0,0,[]⟩
def PC (s:BA):Bool:=!(s.toList==X3.toList)&&(H3 (YR s)).toList==s.toList
def G5 (s:BA):Md:=cond (PC s) (YR s) Md.zero
def J5 (l:LI):Bool:=l.all fun x=>decide (x.toStr.size < 4294967281)
def dD:DR
 | [.bor [.bld s],.list false [.str] ws]=>.br (B6 ws.length 1000&&decide (s.size+(FG (ws.map IV.toStr)).size≤1000000000)) (.ok (.tup []) [[.bld (s++FG (ws.map IV.toStr))]]) .no
 | _=>.no
def R8:DR
 | [.agg [.int .i64 d,.int .i64 c,.int .i64 b0,.int .i64 b1,.int .i64 b2,.list true [.z,.list false [.int .u64]] ts]]=>.ok (.str (H3 ⟨d,c,b0,b1,b2,ts⟩)) []
 | _=>.no
def WE:DR
 | [.bor [.list false [.str] ls]]=>.br (J5 ls) (.ok (.list false [.str] (EW ls)) [[.list false [.str] (ls.drop 1)]]) .no
 | _=>.no
def WG:DR
 | [.list false [.str] l,.int .i64 i]=>.br (decide (0≤i)) (.ok (.str (DU l i.toNat)) []) .no
 | _=>.no
def WD:DR
 | [.str s,.int .i64 most]=>.ok (.int .i64 (FB s most)) []
 | _=>.no
def WF:DR
 | [.str s]=>.br (decide (s.size < 4294967281)) (.ok (.int .i64 (F1 s)) []) .no
 | _=>.no
def dE:DR
 | [.bor [.list false [.str] ls]]=>.br (J5 ls) (.ok (.int .u64 (IM (ND (EW ls)))) [[.list false [.str] (ls.drop 1)]]) .no
 | _=>.no
def cF:DR
 | [.str s,.str t]=>.ok (.bool (SO s t)) []
 | _=>.no
def cG:DR
 | [.str s,.str t]=>.ok (.str (F3 s t)) []
 | _=>.no
def R7:DR
 | [.str s,.str t]=>.ok (.str (F3 s t)) []
 | _=>.no
def WC:DR
 | [.str s]=>.br (decide (s.size < 4294967281)) (.ok (.tup [.agg [.int .i64 (G5 s).d,.int .i64 (G5 s).c,.int .i64 (G5 s).b0,.int .i64 (G5 s).b1,.int .i64 (G5 s).b2,.list true LN (G5 s).ts],.bool (PC s)]) []) .no
 | _=>.no
open Go Go.Proofs
def Pu (N:Nat):Env:=D0 [] [] 25 N
theorem zdq (N:Nat) (n w:Int):DV (Pu N) wK [.tmp 4] [[.bool]] [.i n,.i w]=(cond (decide (w < 1)) (some ((.bool false),[])) (cond (decide (w > 64)) (some ((.bool false),[])) (cond (decide (AA AJ (AA AB (w - 1)) < 0)) none (cond (va0 n (2 ^ min (AD (AA AJ (AA AB (w - 1)))) (AT AB))==0) (some ((.bool true),[])) (cond (decide (AA AJ (AA AB (w - 1)) < 0)) none (some ((.bool (va0 n (2 ^ min (AD (AA AJ (AA AB (w - 1)))) (AT AB)) == -1)),[]))))))):=by kernel_rfl
def Py (N:Nat):Env:=D0 [] [] 21 N
theorem zdu (N:Nat) (n w:Int):DV (Py N) wO [.tmp 4] [[.z]] [.i n,.i w]=(cond (decide (w < 1)) (some ((.i n),[])) (cond (decide (w≥64)) (some ((.i n),[])) (cond (decide (AA AJ (AA AB (64 - w)) < 0)) none (cond (decide (AA AJ (AA AB (64 - w)) < 0)) none (some ((.i (va0 (AA AB (n*2 ^ min (AD (AA AJ (AA AB (64 - w)))) (AT AB))) (2 ^ min (AD (AA AJ (AA AB (64 - w)))) (AT AB)))),[])))))):=by kernel_rfl
def Pz (N:Nat):Env:=D0 [] [] 21 N
theorem zdv (N:Nat) (atv w:Int):DV (Pz N) wP [.tmp 4] [[.bool]] [.i atv,.i w]=(cond (decide (atv≥0)) (cond (decide (atv < 64)) (cond (decide (w≥1)) (some ((.bool (decide (w≤AA AB (64 - atv)))),[])) (some ((.bool false),[]))) (some ((.bool false),[]))) (some ((.bool false),[]))):=by kernel_rfl
def Qa (N:Nat):Env:=D0 [] [] 7 N
theorem zdw (N:Nat) (w:Int):DV (Qa N) wQ [.tmp 2] [[.int .u64]] [.i w]=(cond (decide (AA AJ (AA AB (64 - w)) < 0)) none (some ((.int .u64 (va0 18446744073709551615 (2 ^ min (AD (AA AJ (AA AB (64 - w)))) (AT AJ)))),[]))):=by kernel_rfl
def Pw (N:Nat):Env:=D0 [(165,VX),(166,VY)] [] 30 N
theorem zds (N:Nat) (x atv w y:Int):DV (Pw N) wM [.tmp 8] [[.int .u64]] [.int .u64 x,.i atv,.i w,.int .u64 y]=(cond (decide (0≤atv)&&decide (atv < 64)) (cond (! (decide (1≤w)&&decide (w≤64 - atv))) (some ((.int .u64 x),[])) (cond (decide (1≤w)&&decide (w≤64)) (cond (decide (AA AJ atv < 0)) none (cond (decide (AA AJ atv < 0)) none (some ((.int .u64 (AA AJ (ic (CL (A4 (AT AJ) (AA AJ (ic (CL (A4 (AT AJ) x &&& ~~~A4 (AT AJ) (AA AJ (XB w*2 ^ min (AD (AA AJ atv)) (AT AJ))))))) ||| A4 (AT AJ) (AA AJ (ic (CL (A4 (AT AJ) (AA AJ (y*2 ^ min (AD (AA AJ atv)) (AT AJ))) &&& A4 (AT AJ) (AA AJ (XB w*2 ^ min (AD (AA AJ atv)) (AT AJ)))))))))))),[])))) none)) none):=by kernel_rfl
def Pv (N:Nat):Env:=D0 [(165,VX),(166,VY)] [] 18 N
theorem zdr (N:Nat) (x atv w:Int):DV (Pv N) wL [.tmp 6] [[.int .u64]] [.int .u64 x,.i atv,.i w]=(cond (decide (0≤atv)&&decide (atv < 64)) (cond (! (decide (1≤w)&&decide (w≤64 - atv))) (some ((.int .u64 0),[])) (cond (decide (AA AJ atv < 0)) none (cond (decide (1≤w)&&decide (w≤64)) (some ((.int .u64 (AA AJ (ic (CL (A4 (AT AJ) (va0 x (2 ^ min (AD (AA AJ atv)) (AT AJ))) &&& A4 (AT AJ) (XB w)))))),[])) none))) none):=by kernel_rfl
def Px (N:Nat):Env:=D0 [(111,RX),(164,aX)] [] 14 N
theorem zdt (N:Nat) (x atv w:Int):DV (Px N) wN [.tmp 6] [[.z]] [.int .u64 x,.i atv,.i w]=(cond (decide (0≤atv)&&(decide (atv < 64)&&(decide (1≤w)&&decide (w≤64 - atv)))) (cond (decide (w=32)) (some ((.i (uO (AA AB (HY x atv w)))),[])) none) none):=by kernel_rfl
def Rp (N:Nat):Env:=D0 [] [] 9 N
theorem zeu (N:Nat) (n:Int):DV (Rp N) yC [.tmp 2] [[.bool]] [.i n]=(cond (decide (n≥1)) (some ((.bool (decide (n < 31))),[])) (some ((.bool false),[]))):=by kernel_rfl
def Rm (N:Nat):Env:=D0 [(106,RW),(206,cO)] [] 43 N
theorem zer (N:Nat) (u01:Bool) (u04 u00 n_At u02 u03:Int):DV (Rm N) xZ [.tmp 2] [[.bool]] [.agg [.bool u01,.i u04,.i u00,.i n_At,.i u02,.i u03]]=(cond u01 (cond (u01==true&&(u04==u04&&(u00==0&&(n_At==0&&(u02==0&&(u03==0&&true)))))) (some ((.bool (EZ u04)),[])) (some ((.bool false),[]))) (cond (u04==0) (cond (decide (u00≥0)) (cond (decide (u00 < 4)) (cond (EZ n_At) (cond (QV u02) (some ((.bool (QV u03)),[])) (some ((.bool false),[]))) (some ((.bool false),[]))) (some ((.bool false),[]))) (some ((.bool false),[]))) (some ((.bool false),[])))):=by kernel_rfl
def Rl (N:Nat):Env:=D0 [(168,aV),(167,cM)] [] 32 N
theorem zeq (N:Nat) (u01:Bool) (u04 u00 n_At u02 u03:Int):DV (Rl N) xY [.tmp 2] [[.int .u64]] [.agg [.bool u01,.i u04,.i u00,.i n_At,.i u02,.i u03]]=(cond (!MN {lf:=u01,v:=u04,f:=u00,a:=n_At,l:=u02,r:=u03}) (some ((.int .u64 0),[])) (cond u01 (some ((.int .u64 (PZ 9223372036854775808 0 32 (AA AJ u04))),[])) (some ((.int .u64 (PZ (PZ (PZ (PZ 0 0 32 (AA AJ n_At)) 32 4 (AA AJ u00)) 40 8 (AA AJ u02)) 48 8 (AA AJ u03))),[])))):=by kernel_rfl
def Ro (N:Nat):Env:=D0 [(111,RX)] [] 11 N
theorem zet (N:Nat) (a w x:Int):DV (Ro N) yB [.tmp 5] [[.z]] [.i a,.i w,.bor [.int .u64 x]]=(cond (decide (0≤a)&&(decide (a < 64)&&(decide (1≤w)&&decide (w≤64 - a)))) (some ((.i (AA AB (HY x a w))),[[.int .u64 x]])) none):=by kernel_rfl
def Rn (N:Nat):Env:=D0 [(111,RX),(110,aW),(113,V6),(112,cN)] [] 33 N
theorem zes (N:Nat) (w:Int):DV (Rn N) yA [.cell 2 108,.tmp 3] [[.bool,.z,.z,.z,.z,.z],[.bool]] [.int .u64 w]=(cond (HY w 63 1==0) (cond (w==0) (some ((.tup [.agg [.bool false,.i 0,.i 0,.i 0,.i 0,.i 0],.bool false]),[])) (cond (IM {lf:=false,v:=0,f:=FD (HY w 32 4),a:=OA w,l:=FD (HY w 40 8),r:=FD (HY w 48 8)} != w) (some ((.tup [.agg [.bool false,.i 0,.i 0,.i 0,.i 0,.i 0],.bool false]),[])) (some ((.tup [.agg [.bool false,.i 0,.i (FD (HY w 32 4)),.i (OA w),.i (FD (HY w 40 8)),.i (FD (HY w 48 8))],.bool true]),[])))) (cond (w==0) (some ((.tup [.agg [.bool false,.i 0,.i 0,.i 0,.i 0,.i 0],.bool false]),[])) (cond (IM {lf:=true,v:=OA w,f:=0,a:=0,l:=0,r:=0} != w) (some ((.tup [.agg [.bool false,.i 0,.i 0,.i 0,.i 0,.i 0],.bool false]),[])) (some ((.tup [.agg [.bool true,.i (OA w),.i 0,.i 0,.i 0,.i 0],.bool true]),[]))))):=by kernel_rfl
open Go Go.Proofs
theorem uB {n:Int} (h0:0≤n) (h1:n < 18446744073709551616):AA AJ n=n:=by
 rw [mF];omega
theorem sT:DS PR B0 106 RW:=by
 refine D2 [] [] RW [[.bool]] Tryz.func106 zas trivial ?_;intro vs r hwf h;unfold RW at h;split at h
 ·rename_i n w;cases hc:decide (w=32) with
  | false=>rw [hc] at h; simp [R.get] at h
  | true=>
   rw [hc,R.get_br,DE,R.get_ok] at h;have hc:=A0 hc;subst hc;refine ⟨0,?_⟩;rw [← h];refine (zdq 0 n 32).trans ?_;have e3:decide (AA AJ (AA AB ((32:Int) - 1)) < 0)=false:=by kernel_rfl
   have e4:(2:Int) ^ min (AD (AA AJ (AA AB ((32:Int) - 1)))) (AT AB)=2147483648:=by kernel_rfl
   rw [e3,e4,AL (show ¬ (32:Int) < 1 by omega),AL (show ¬ (32:Int) > 64 by omega),DG,DG,DG,DG];have h0:=Int.fdiv_mul_add_fmod n 2147483648;have h1:=Int.fmod_nonneg_of_pos n (show (0:Int) < 2147483648 by omega);have h2:=Int.fmod_lt_of_pos n (show (0:Int) < 2147483648 by omega);generalize va0 n 2147483648=q at h0 ⊢;generalize Int.fmod n 2147483648=m at h0 h1 h2;unfold EZ;rw [TU,TU];cases hq:decide (q=0) with
   | true=>
    have hq:=A0 hq;rw [AE (show -2147483648≤n by omega),AE (show n≤2147483647 by omega)];rfl
   | false=>
    have hq:=BH hq;cases hp:decide (q = -1) with
    | true=>
     have hp:=A0 hp;rw [AE (show -2147483648≤n by omega),AE (show n≤2147483647 by omega)];rfl
    | false=>
     have hp:=BH hp;rw [DG];congr 3
     symm
     rw [Bool.and_eq_false_iff,BV,BV];omega
 ·simp [R.get] at h
theorem zht:DS PR B0 164 aX:=by
 refine D2 [] [] aX [[.z]] Tryz.func164 zaw trivial ?_;intro vs r hwf h;unfold aX at h;split at h
 ·rename_i n w;cases hc:decide (w=32) with
  | false=>rw [hc] at h; simp [R.get] at h
  | true=>
   rw [hc,R.get_br,DE,R.get_ok] at h;have hc:=A0 hc;subst hc;refine ⟨0,?_⟩;rw [← h];refine (zdu 0 n 32).trans ?_;have e3:decide (AA AJ (AA AB ((64:Int) - 32)) < 0)=false:=by kernel_rfl
   have e4:min (AD (AA AJ (AA AB ((64:Int) - 32)))) (AT AB)=32:=by kernel_rfl
   rw [e3,e4,AL (show ¬ (32:Int) < 1 by omega),AL (show ¬ (32:Int)≥64 by omega),DG,DG,DG,DG];rfl
 ·simp [R.get] at h
theorem Jx:DS PR B0 165 VX:=by
 refine D2 [] [] VX [[.bool]] Tryz.func165 zax trivial ?_;intro vs r hwf h;unfold VX at h;split at h
 ·rename_i a w;cases hc:(decide (0≤a)&&decide (a < 64)) with
  | false=>rw [hc] at h; simp [R.get] at h
  | true=>
   rw [hc,R.get_br,DE,R.get_ok] at h;rw [AI,AP,AP] at hc;refine ⟨0,?_⟩;rw [← h];refine (zdv 0 a w).trans ?_;have e:AA AB (64 - a)=64 - a:=EI (by omega) (by omega);have e1:decide (w≥1)=decide (1≤w):=rfl;rw [AE (show a≥0 by omega),AE hc.2,DE,DE,e,e1];cases decide (1≤w) <;> rfl
 ·simp [R.get] at h
theorem Jy:DS PR B0 166 VY:=by
 refine D2 [] [] VY [[.int .u64]] Tryz.func166 zay trivial ?_;intro vs r hwf h;unfold VY at h;split at h
 ·rename_i w;cases hc:(decide (1≤w)&&decide (w≤64)) with
  | false=>rw [hc] at h; simp [R.get] at h
  | true=>
   rw [hc,R.get_br,DE,R.get_ok] at h;rw [AI,AP,AP] at hc;refine ⟨0,?_⟩;rw [← h];refine (zdw 0 w).trans ?_;have e:AA AB (64 - w)=64 - w:=EI (by omega) (by omega);have e2:AA AJ (64 - w)=64 - w:=uB (by omega) (by omega);have e3:min (64 - w).toNat (AT AJ)=(64 - w).toNat:=by
    have:AT AJ=64:=rfl
    omega
   rw [e,e2,e3,AL (show ¬ (64 - w < 0) by omega),DG];rfl
 ·simp [R.get] at h
theorem Bg {a w:Int} (hc:(decide (0≤a)&&(decide (a < 64)&&(decide (1≤w)&&decide (w≤64 - a))))=true):0≤a∧a < 64∧1≤w∧w≤64 - a:=by
 simpa only [AI,AP] using hc
theorem zhr:DS PR B0 168 aV:=by
 refine D2 [(165,VX),(166,VY)] [] aV [[.int .u64]] Tryz.func168 zau ⟨Jx,Jy,trivial⟩ ?_;intro vs r hwf h;unfold aV at h;split at h
 ·rename_i x a w y;cases hc:(decide (0≤a)&&(decide (a < 64)&&(decide (1≤w)&&decide (w≤64 - a)))) with
  | false=>rw [hc] at h; simp [R.get] at h
  | true=>
   rw [hc,R.get_br,DE,R.get_ok] at h;obtain ⟨h1,h2,h3,h4⟩:=Bg hc;refine ⟨0,?_⟩;rw [← h];refine (zds 0 x a w y).trans ?_;have e2:AA AJ a=a:=uB (by omega) (by omega);have e3:min a.toNat (AT AJ)=a.toNat:=by
    have:AT AJ=64:=rfl
    omega
   rw [e2,e3,AE h1,AE h2,AE h3,AE h4,AE (show w≤64 by omega),AL (show ¬ a < 0 by omega)];simp only [BY,A1,DE,DG];rfl
 ·simp [R.get] at h
theorem sU:DS PR B0 111 RX:=by
 refine D2 [(165,VX),(166,VY)] [] RX [[.int .u64]] Tryz.func111 zat ⟨Jx,Jy,trivial⟩ ?_;intro vs r hwf h;unfold RX at h;split at h
 ·rename_i x a w;cases hc:(decide (0≤a)&&(decide (a < 64)&&(decide (1≤w)&&decide (w≤64 - a)))) with
  | false=>rw [hc] at h; simp [R.get] at h
  | true=>
   rw [hc,R.get_br,DE,R.get_ok] at h;obtain ⟨h1,h2,h3,h4⟩:=Bg hc;refine ⟨0,?_⟩;rw [← h];refine (zdr 0 x a w).trans ?_;have e2:AA AJ a=a:=uB (by omega) (by omega);have e3:min a.toNat (AT AJ)=a.toNat:=by
    have:AT AJ=64:=rfl
    omega
   rw [e2,e3,AE h1,AE h2,AE h3,AE h4,AE (show w≤64 by omega),AL (show ¬ a < 0 by omega)];simp only [BY,A1,DE,DG];rfl
 ·simp [R.get] at h
theorem zhs:DS PR B0 110 aW:=by
 refine D2 [(111,RX),(164,aX)] [] aW [[.z]] Tryz.func110 zav ⟨sU,zht,trivial⟩ ?_;intro vs r hwf h;unfold aW at h;split at h
 ·rename_i x a w;cases hc:(decide (a=0)&&decide (w=32)) with
  | false=>rw [hc] at h; simp [R.get] at h
  | true=>
   rw [hc,R.get_br,DE,R.get_ok] at h;rw [AI,AP,AP] at hc;obtain ⟨rfl,rfl⟩:=hc;refine ⟨0,?_⟩;rw [← h];refine (zdt 0 x 0 32).trans ?_;rfl
 ·simp [R.get] at h
theorem zif:DS PR B0 206 cO:=by
 refine D2 [] [] cO [[.bool]] Tryz.func206 zbB trivial ?_;intro vs r hwf h;unfold cO at h;split at h
 ·rename_i n;refine ⟨0,?_⟩;rw [R.get_ok] at h;rw [← h];refine (zeu 0 n).trans ?_;unfold QV;have e1:decide (n≥1)=decide (1≤n):=rfl;rw [e1];cases decide (1≤n) <;> rfl
 ·simp [R.get] at h
theorem zid:DS PR B0 167 cM:=by
 refine D2 [(106,RW),(206,cO)] [] cM [[.bool]] Tryz.func167 zby ⟨sT,zif,trivial⟩ ?_;intro vs r hwf h;unfold cM at h;split at h
 ·rename_i lf v f a l r';refine ⟨0,?_⟩;rw [← h];refine (zer 0 lf v f a l r').trans ?_;simp only [R.get_ok,zT];unfold MN;cases lf with
  | true=>rfl
  | false=>rfl
 ·simp [R.get] at h
theorem Kk:DS PR B0 113 V6:=by
 refine D2 [(168,aV),(167,cM)] [] V6 [[.int .u64]] Tryz.func113 zbx ⟨zhr,zid,trivial⟩ ?_;intro vs r hwf h;unfold V6 at h;split at h
 ·rename_i lf v f a l r';refine ⟨0,?_⟩;rw [← h];refine (zeq 0 lf v f a l r').trans ?_;unfold IM;cases MN ⟨lf,v,f,a,l,r'⟩ with
  | false=>rfl
  | true=>cases lf <;> rfl
 ·simp [R.get] at h
theorem zie:DS PR B0 112 cN:=by
 refine D2 [(111,RX)] [] cN [[.z]] Tryz.func112 zbA ⟨sU,trivial⟩ ?_;intro vs r hwf h;unfold cN at h;split at h
 ·rename_i a w x;cases hc:(decide (0≤a)&&(decide (a < 64)&&(decide (1≤w)&&decide (w≤64 - a)))) with
  | false=>rw [hc] at h; simp [R.get] at h
  | true=>
   rw [hc,R.get_br,DE,R.get_ok] at h;refine ⟨0,?_⟩;rw [← h];refine (zet 0 a w x).trans ?_;rw [hc];rfl
 ·simp [R.get] at h
theorem ZX:DS PR B0 51 L7:=by
 refine D2 [(111,RX),(110,aW),(113,V6),(112,cN)] [] L7 [[.bool,.z,.z,.z,.z,.z],[.bool]] Tryz.func51 zbz ⟨sU,zhs,Kk,zie,trivial⟩ ?_;intro vs r hwf h;unfold L7 at h;split at h
 ·rename_i w;refine ⟨0,?_⟩;rw [← h];refine (zes 0 w).trans ?_;rw [R.get_ok];unfold DH F6 XM;cases (HY w 63 1==0) with
  | true=>
   simp only [B1];cases hw:(w==0) with
   | true=>rfl
   | false=>
    simp only [BG,A6,BC];have e:(IM ⟨false,0,FD (HY w 32 4),OA w,FD (HY w 40 8),FD (HY w 48 8)⟩ != w)=!(IM ⟨false,0,FD (HY w 32 4),OA w,FD (HY w 40 8),FD (HY w 48 8)⟩==w):=rfl;rw [e];cases (IM ⟨false,0,FD (HY w 32 4),OA w,FD (HY w 40 8),FD (HY w 48 8)⟩==w) <;> rfl
  | false=>
   simp only [BG];cases hw:(w==0) with
   | true=>rfl
   | false=>
    simp only [BG,A6,BC];have e:(IM ⟨true,OA w,0,0,0,0⟩ != w)=!(IM ⟨true,OA w,0,0,0,0⟩==w):=rfl;rw [e];cases (IM ⟨true,OA w,0,0,0,0⟩==w) <;> rfl
 ·simp [R.get] at h
open Go Go.Proofs
def HP (N:Nat):Env:=D0 [(51,L7)] [(5,⟨[0,1,4,5,23,24,25],[22],[]⟩),(17,⟨[4,85,86,87],[22],[]⟩)] 94 N
abbrev OI (l0:LI) (x1:Int) (b4:Bool) (n5:Nat) (l23:LI) (x24 x25:Int) (lo22:LI):St:=⟨[(0,(.list false [.int .u64] l0)),(1,(.i x1)),(4,(.bool b4)),(5,(.row 22 0 n5)),(23,(.list false [.int .u64] l23)),(24,(.i x24)),(25,(.i x25))],[(22,(some (.row true 3 false [.z] lo22)))]⟩
abbrev VR (b4:Bool) (n85:Nat) (x86 x87:Int) (lo22:LI):St:=⟨[(4,(.bool b4)),(85,(.row 22 1 n85)),(86,(.i x86)),(87,(.i x87))],[(22,(some (.row true 3 false [.z] lo22)))]⟩
theorem ze6 (N:Nat) (l:LI) (a1:Int):DV (HP N) LH [.tmp 4] [[.bool]] [.list false [.int .u64] l,.i a1]=(cond (decide (ic (AF l) < 1)) (some ((.bool false),[])) (cond (decide (ic (AF l) > 31)) (some ((.bool false),[])) (cond (BK 0 (TI.size (Env.tyd (HP N) 3))&&(BK 3 1000000&&decide (0≤ic (AF l)))&&(decide (ic (AF l)=ic (AF l))&&decide (ic (AF l)*ic (TI.bytes (Env.tyd (HP N) 3))≤ic D6))) (DT (HP N) (DF LH [1,1,1,0,1,0,0]) ⟨[0,1,4,5,23,24,25],[22],[]⟩ N (OI l a1 false (AD (ic (AF l))) l (ic (AF l)) 0 (BN (AD (ic (AF l))) (IV.int 0))) (DM 0 (DN (HP N) (DF LH [1,1,1,1]) (DP (HP N) none [.tmp 4] [[.bool]])))) none))):=by kernel_rfl
theorem Ng (N:Nat) (l0:LI) (x1:Int) (b4:Bool) (n5:Nat) (l23:LI) (x24 x25:Int) (lo22:LI) (again:St→DJ) (k:Out→St→DJ):EX (HP N) (DF LH [1,1,1,0,1,0,0]) (OI l0 x1 b4 n5 l23 x24 x25 lo22) (ED again ⟨[0,1,4,5,23,24,25],[22],[]⟩ k)=(cond (decide (x25 < x24)) (cond (decide (0≤x25)&&decide (x25 < ic (AF l23))) (cond (!F6 (IV.toInt (AH l23 (AD x25) default))) (k .ret (OI l0 x1 false n5 l23 x24 x25 lo22)) (cond (Nd.lf (DH (IV.toInt (AH l23 (AD x25) default)))) (again (OI l0 x1 b4 n5 l23 x24 (AA AB (x25+1)) lo22)) (cond (decide (Nd.f (DH (IV.toInt (AH l23 (AD x25) default)))≥x1)) (k .ret (OI l0 x1 false n5 l23 x24 x25 lo22)) (cond (Nd.l (DH (IV.toInt (AH l23 (AD x25) default)))==Nd.r (DH (IV.toInt (AH l23 (AD x25) default)))) (k .ret (OI l0 x1 false n5 l23 x24 x25 lo22)) (cond (decide (min (Nd.l (DH (IV.toInt (AH l23 (AD x25) default)))) (Nd.r (DH (IV.toInt (AH l23 (AD x25) default))))≤x25)) (k .ret (OI l0 x1 false n5 l23 x24 x25 lo22)) (cond (decide (max (Nd.l (DH (IV.toInt (AH l23 (AD x25) default)))) (Nd.r (DH (IV.toInt (AH l23 (AD x25) default))))≥ic (AF l0))) (k .ret (OI l0 x1 false n5 l23 x24 x25 lo22)) (cond (decide (0≤Nd.l (DH (IV.toInt (AH l23 (AD x25) default))))&&decide (Nd.l (DH (IV.toInt (AH l23 (AD x25) default))) < ic (n5 - 0))) (cond (decide (0≤Nd.l (DH (IV.toInt (AH l23 (AD x25) default))))&&decide (Nd.l (DH (IV.toInt (AH l23 (AD x25) default))) < ic (n5 - 0))) (cond (decide (0≤Nd.r (DH (IV.toInt (AH l23 (AD x25) default))))&&decide (Nd.r (DH (IV.toInt (AH l23 (AD x25) default))) < ic (n5 - 0))) (cond (decide (0≤Nd.r (DH (IV.toInt (AH l23 (AD x25) default))))&&decide (Nd.r (DH (IV.toInt (AH l23 (AD x25) default))) < ic (n5 - 0))) (again (OI l0 x1 b4 n5 l23 x24 (AA AB (x25+1)) (List.set (List.set lo22 (0+AD (Nd.l (DH (IV.toInt (AH l23 (AD x25) default))))) (N8 false [Kd.int AB] (AH lo22 (0+AD (Nd.l (DH (IV.toInt (AH l23 (AD x25) default))))) default) 0 [IV.int (AA AB (IV.toInt (AH lo22 (0+AD (Nd.l (DH (IV.toInt (AH l23 (AD x25) default))))) default)+1))])) (0+AD (Nd.r (DH (IV.toInt (AH l23 (AD x25) default))))) (N8 false [Kd.int AB] (AH (List.set lo22 (0+AD (Nd.l (DH (IV.toInt (AH l23 (AD x25) default))))) (N8 false [Kd.int AB] (AH lo22 (0+AD (Nd.l (DH (IV.toInt (AH l23 (AD x25) default))))) default) 0 [IV.int (AA AB (IV.toInt (AH lo22 (0+AD (Nd.l (DH (IV.toInt (AH l23 (AD x25) default))))) default)+1))])) (0+AD (Nd.r (DH (IV.toInt (AH l23 (AD x25) default))))) default) 0 [IV.int (AA AB (IV.toInt (AH (List.set lo22 (0+AD (Nd.l (DH (IV.toInt (AH l23 (AD x25) default))))) (N8 false [Kd.int AB] (AH lo22 (0+AD (Nd.l (DH (IV.toInt (AH l23 (AD x25) default))))) default) 0 [IV.int (AA AB (IV.toInt (AH lo22 (0+AD (Nd.l (DH (IV.toInt (AH l23 (AD x25) default))))) default)+1))])) (0+AD (Nd.r (DH (IV.toInt (AH l23 (AD x25) default))))) default)+1))])))) none) none) none) none))))))) none) (k (.exit 0) (OI l0 x1 b4 n5 l23 x24 x25 lo22))):=by kernel_rfl
theorem Zl (N:Nat) (l0:LI) (x1:Int) (b4:Bool) (n5:Nat) (l23:LI) (x24 x25:Int) (lo22:LI):(DM 0 (DN (HP N) (DF LH [1,1,1,1]) (DP (HP N) none [.tmp 4] [[.bool]]))) (.exit 0) (OI l0 x1 b4 n5 l23 x24 x25 lo22)=(cond (decide (0≤1)&&decide (1≤ic (n5 - 0))) (DT (HP N) (DF LH [1,1,1,1,0,1,0,0]) ⟨[4,85,86,87],[22],[]⟩ N (VR b4 (0+(n5 - 0)) (ic (0+(n5 - 0) - 1)) 0 lo22) (DM 2 (DN (HP N) (DF LH [1,1,1,1,1]) (DP (HP N) none [.tmp 4] [[.bool]])))) none):=by kernel_rfl
theorem Zm (N:Nat) (l0:LI) (x1:Int) (b4:Bool) (n5:Nat) (l23:LI) (x24 x25:Int) (lo22:LI):(DM 0 (DN (HP N) (DF LH [1,1,1,1]) (DP (HP N) none [.tmp 4] [[.bool]]))) .ret (OI l0 x1 b4 n5 l23 x24 x25 lo22)=(some ((.bool b4),[])):=by kernel_rfl
theorem Nh (N:Nat) (b4:Bool) (n85:Nat) (x86 x87:Int) (lo22:LI) (again:St→DJ) (k:Out→St→DJ):EX (HP N) (DF LH [1,1,1,1,0,1,0,0]) (VR b4 n85 x86 x87 lo22) (ED again ⟨[4,85,86,87],[22],[]⟩ k)=(cond (decide (x87 < x86)) (cond (decide (0≤x87)&&decide (x87 < ic (n85 - 1))) (cond (IV.toInt (AH lo22 (1+AD x87) default) != 1) (k .ret (VR false n85 x86 x87 lo22)) (again (VR b4 n85 x86 (AA AB (x87+1)) lo22))) none) (k (.exit 2) (VR b4 n85 x86 x87 lo22))):=by kernel_rfl
theorem Zn (N:Nat) (b4:Bool) (n85:Nat) (x86 x87:Int) (lo22:LI):(DM 2 (DN (HP N) (DF LH [1,1,1,1,1]) (DP (HP N) none [.tmp 4] [[.bool]]))) (.exit 2) (VR b4 n85 x86 x87 lo22)=(some ((.bool true),[])):=by kernel_rfl
theorem Zo (N:Nat) (b4:Bool) (n85:Nat) (x86 x87:Int) (lo22:LI):(DM 2 (DN (HP N) (DF LH [1,1,1,1,1]) (DP (HP N) none [.tmp 4] [[.bool]]))) .ret (VR b4 n85 x86 x87 lo22)=(some ((.bool b4),[])):=by kernel_rfl
def Rk (N:Nat):Env:=D0 [(109,WH)] [] 22 N
theorem zen (N:Nat) (k:Int) (l:LI) (d c b0 b1 b2:Int) (ts:LI):DV (Rk N) xX [.tmp 3] [[.bool]] [.agg [.i k,.list false [.int .u64] l],.bor [.i d,.i c,.i b0,.i b1,.i b2,.list true [.z,.list false [.int .u64]] ts]]=(cond (decide (k < 0)) (some ((.bool true),[[.i d,.i c,.i b0,.i b1,.i b2,.list true [.z,.list false [.int .u64]] ts]])) (cond (decide (k≥c)) (some ((.bool true),[[.i d,.i c,.i b0,.i b1,.i b2,.list true [.z,.list false [.int .u64]] ts]])) (some ((.bool (!GK l d)),[[.i d,.i c,.i b0,.i b1,.i b2,.list true [.z,.list false [.int .u64]] ts]])))):=by kernel_rfl
def OL (N:Nat):Env:=D0 [(108,V5)] [(2,⟨[0,1,4,7,8],[900000],[]⟩)] 19 N
abbrev VN (l0:LI) (x4 x7 x8 u01 u02 u03 u04 u05:Int) (u00:LI):St:=⟨[(0,(.list true [.z,.list false [.int .u64]] l0)),(1,(.clo 108 [.ptr 900000 0 0])),(4,(.i x4)),(7,(.i x7)),(8,(.i x8))],[(900000,(some (.box [.i u01,.i u02,.i u03,.i u04,.i u05,.list true [.z,.list false [.int .u64]] u00])))]⟩
theorem zeQ (N:Nat) (l:LI) (d c b0 b1 b2:Int) (ts:LI):DV (OL N) SF [.tmp 4] [[.z]] [.list true [.z,.list false [.int .u64]] l,.clo 108 [.bor [.i d,.i c,.i b0,.i b1,.i b2,.list true [.z,.list false [.int .u64]] ts]]]=(DT (OL N) (DF SF [1,0,1,0,0]) ⟨[0,1,4,7,8],[900000],[]⟩ N (VN l 0 (ic (AF l)) 0 d c b0 b1 b2 ts) (DM 0 (DN (OL N) (DF SF [1,1]) (DP (OL N) (some [.i d,.i c,.i b0,.i b1,.i b2,.list true [.z,.list false [.int .u64]] ts]) [.tmp 4] [[.z]])))):=by kernel_rfl
theorem Mz (N:Nat) (l0:LI) (x4 x7 x8 u01 u02 u03 u04 u05:Int) (u00:LI) (again:St→DJ) (k:Out→St→DJ):EX (OL N) (DF SF [1,0,1,0,0]) (VN l0 x4 x7 x8 u01 u02 u03 u04 u05 u00) (ED again ⟨[0,1,4,7,8],[900000],[]⟩ k)=(cond (decide (x8 < x7)) (cond (decide (0≤x8)&&decide (x8 < ic (AF l0))) (cond (!G8 u01 u02 (IV.agg [IV.int (IV.toInt (IV.cell (AH l0 (AD x8) default) 0)),IV.list (IV.toList (IV.cell (AH l0 (AD x8) default) 1))])) (k .ret (VN l0 x8 x7 x8 u01 u02 u03 u04 u05 u00)) (again (VN l0 x4 x7 (AA AB (x8+1)) u01 u02 u03 u04 u05 u00))) none) (k (.exit 0) (VN l0 x4 x7 x8 u01 u02 u03 u04 u05 u00))):=by kernel_rfl
theorem Zb (N:Nat) (d c b0 b1 b2:Int) (ts l0:LI) (x4 x7 x8 u01 u02 u03 u04 u05:Int) (u00:LI):(DM 0 (DN (OL N) (DF SF [1,1]) (DP (OL N) (some [.i d,.i c,.i b0,.i b1,.i b2,.list true [.z,.list false [.int .u64]] ts]) [.tmp 4] [[.z]]))) (.exit 0) (VN l0 x4 x7 x8 u01 u02 u03 u04 u05 u00)=(some ((.i (-1)),[[.i u01,.i u02,.i u03,.i u04,.i u05,.list true [.z,.list false [.int .u64]] u00]])):=by kernel_rfl
theorem Zc (N:Nat) (d c b0 b1 b2:Int) (ts l0:LI) (x4 x7 x8 u01 u02 u03 u04 u05:Int) (u00:LI):(DM 0 (DN (OL N) (DF SF [1,1]) (DP (OL N) (some [.i d,.i c,.i b0,.i b1,.i b2,.list true [.z,.list false [.int .u64]] ts]) [.tmp 4] [[.z]]))) .ret (VN l0 x4 x7 x8 u01 u02 u03 u04 u05 u00)=(some ((.i x4),[[.i u01,.i u02,.i u03,.i u04,.i u05,.list true [.z,.list false [.int .u64]] u00]])):=by kernel_rfl
def Sa (N:Nat):Env:=D0 [(163,c8)] [] 9 N
theorem zeO (N:Nat) (l:LI) (d c b0 b1 b2:Int) (ts:LI):DV (Sa N) yN [.tmp 4] [[.bool]] [.list true [.z,.list false [.int .u64]] l,.clo 108 [.bor [.i d,.i c,.i b0,.i b1,.i b2,.list true [.z,.list false [.int .u64]] ts]]]=(some ((.bool (decide (WY d c l 0≥0))),[[.i d,.i c,.i b0,.i b1,.i b2,.list true [.z,.list false [.int .u64]] ts]])):=by kernel_rfl
def NK (N:Nat):Env:=D0 [(106,RW),(108,V5),(107,c6)] [(4,⟨[1,2,30,31],[1,53005],[]⟩)] 54 N
abbrev KU (b2:Bool) (u01 u02 u03 x31 u04 u05 u06 u07 u08:Int) (u00:LI):St:=⟨[(1,(.ptr 1 0 0)),(2,(.bool b2)),(30,(.agg [.i u01,.i u02,.i u03])),(31,(.i x31))],[(1,(some (.box [.i u04,.i u05,.i u06,.i u07,.i u08,.list true [.z,.list false [.int .u64]] u00]))),(53005,none)]⟩
theorem zem (N:Nat) (u04 u03 u00 u01 u02:Int) (u05:LI):DV (NK N) QU [.tmp 2] [[.bool]] [.agg [.i u04,.i u03,.i u00,.i u01,.i u02,.list true [.z,.list false [.int .u64]] u05]]=(cond (decide (u04 < 1)) (some ((.bool false),[])) (cond (decide (u04 > 4)) (some ((.bool false),[])) (cond (decide (u03 < 1)) (some ((.bool false),[])) (cond (decide (u03 > 3)) (some ((.bool false),[])) (cond (decide (ic (AF u05) > 8)) (some ((.bool false),[])) (DT (NK N) (DF QU [1,1,0,1,0,0]) ⟨[1,2,30,31],[1,53005],[]⟩ N (KU false u00 u01 u02 0 u04 u03 u00 u01 u02 u05) (DM 0 (DN (NK N) (DF QU [1,1,1]) (DP (NK N) none [.tmp 2] [[.bool]]))))))))):=by kernel_rfl
theorem Mr (N:Nat) (b2:Bool) (u01 u02 u03 x31 u04 u05 u06 u07 u08:Int) (u00:LI) (again:St→DJ) (k:Out→St→DJ):EX (NK N) (DF QU [1,1,0,1,0,0]) (KU b2 u01 u02 u03 x31 u04 u05 u06 u07 u08 u00) (ED again ⟨[1,2,30,31],[1,53005],[]⟩ k)=(cond (decide (x31 < 3)) (cond (decide (x31=ic 0)) (cond (!EZ u01) (k .ret (KU false u01 u02 u03 x31 u04 u05 u06 u07 u08 u00)) (cond (decide (x31≥u05)) (cond (u01 != 0) (k .ret (KU false u01 u02 u03 x31 u04 u05 u06 u07 u08 u00)) (again (KU b2 u01 u02 u03 (AA AB (x31+1)) u04 u05 u06 u07 u08 u00))) (again (KU b2 u01 u02 u03 (AA AB (x31+1)) u04 u05 u06 u07 u08 u00)))) (cond (decide (x31=ic 1)) (cond (!EZ u02) (k .ret (KU false u01 u02 u03 x31 u04 u05 u06 u07 u08 u00)) (cond (decide (x31≥u05)) (cond (u02 != 0) (k .ret (KU false u01 u02 u03 x31 u04 u05 u06 u07 u08 u00)) (again (KU b2 u01 u02 u03 (AA AB (x31+1)) u04 u05 u06 u07 u08 u00))) (again (KU b2 u01 u02 u03 (AA AB (x31+1)) u04 u05 u06 u07 u08 u00)))) (cond (decide (x31=ic 2)) (cond (!EZ u03) (k .ret (KU false u01 u02 u03 x31 u04 u05 u06 u07 u08 u00)) (cond (decide (x31≥u05)) (cond (u03 != 0) (k .ret (KU false u01 u02 u03 x31 u04 u05 u06 u07 u08 u00)) (again (KU b2 u01 u02 u03 (AA AB (x31+1)) u04 u05 u06 u07 u08 u00))) (again (KU b2 u01 u02 u03 (AA AB (x31+1)) u04 u05 u06 u07 u08 u00)))) none))) (k (.exit 0) (KU b2 u01 u02 u03 x31 u04 u05 u06 u07 u08 u00))):=by kernel_rfl
theorem Yo (N:Nat) (b2:Bool) (u01 u02 u03 x31 u04 u05 u06 u07 u08:Int) (u00:LI):(DM 0 (DN (NK N) (DF QU [1,1,1]) (DP (NK N) none [.tmp 2] [[.bool]]))) (.exit 0) (KU b2 u01 u02 u03 x31 u04 u05 u06 u07 u08 u00)=(some ((.bool (!!List.all u00 (G8 u04 u05))),[])):=by kernel_rfl
theorem Yp (N:Nat) (b2:Bool) (u01 u02 u03 x31 u04 u05 u06 u07 u08:Int) (u00:LI):(DM 0 (DN (NK N) (DF QU [1,1,1]) (DP (NK N) none [.tmp 2] [[.bool]]))) .ret (KU b2 u01 u02 u03 x31 u04 u05 u06 u07 u08 u00)=(some ((.bool b2),[])):=by kernel_rfl
open Go Go.Proofs
theorem Ex {l:LI} {i:Nat} {w:IV} (h:l[i]?=some w) (j:Nat):IJ (l.take (i+1)) j=IJ (l.take i) j+KZ (DH w.toInt) j:=by
 unfold IJ;rw [List.take_add_one,h];simp
theorem zdc (x:Nd) (j:Nat):KZ x j≤2:=by
 unfold KZ;cases x.lf
 ·simp only [BG];split <;> split <;> omega
 ·simp only [B1];omega
theorem Ev:∀ (l:LI) (j:Nat),IJ l j≤2*l.length
 | [],_=>AW _
 | w :: l,j=>by
  have:=Ev l j
  have:=zdc (DH w.toInt) j
  unfold IJ at *;simp only [AZ,vbb,AN];omega
def NM (l:LI) (i:Nat):LI:=(vaE l.length).map fun j=>IV.int (IJ (l.take i) j:Nat)
theorem aN (l:LI) (i:Nat):(NM l i).length=l.length:=by simp [NM]
theorem YC (l:LI) (i:Nat) {j:Nat} (h:j < l.length):(NM l i)[j]?=some (IV.int (IJ (l.take i) j:Nat)):=by
 unfold NM;rw [B9,List.getElem?_range h];rfl
theorem Sv (l:LI):NM l 0=BN l.length (IV.int 0):=by
 apply List.ext_getElem?;intro j;by_cases h:j < l.length
 ·rw [YC l 0 h,List.getElem?_replicate,BR h];simp [IJ]
 ·rw [BU (by rw [aN]; omega),BU (by simp; omega)]
theorem Su {l:LI} {i:Nat} {w:IV} (h:l[i]?=some w) (hl:(DH w.toInt).lf=true):NM l (i+1)=NM l i:=by
 unfold NM;congr 1
 funext j
 rw [Ex h];unfold KZ;rw [hl];rfl
theorem Ss {l:LI} {i:Nat} {w:IV} (h:l[i]?=some w) (hl:(DH w.toInt).lf=false) (hn:l.length≤31) {a b:Nat} (ha:(DH w.toInt).l=(a:Int)) (hb:(DH w.toInt).r=(b:Int)) (hab:a≠b) (al:a < l.length) (bl:b < l.length) :
  ((NM l i).set a (IV.int (AA AB (((NM l i).getD a default).toInt+1)))).set b (IV.int (AA AB ((((NM l i).set a (IV.int (AA AB (((NM l i).getD a default).toInt+1)))).getD b default).toInt+1)))=NM l (i+1):=by
 have hil:i < l.length:=(BL.1 h).1;have hsm:∀ j,IJ (l.take i) j≤62:=fun j=>by
  have:=Ev (l.take i) j
  rw [A7] at this;omega
 have ga:((NM l i).getD a default).toInt=(IJ (l.take i) a:Nat):=by
  rw [BS,YC l i al];rfl
 have gb:(((NM l i).set a (IV.int (AA AB (((NM l i).getD a default).toInt+1)))).getD b default).toInt=(IJ (l.take i) b:Nat):=by
  rw [BS,va8 hab,YC l i bl];rfl
 rw [gb,ga,EI (by omega) (by have:=hsm a; omega),EI (by omega) (by have:=hsm b; omega)];apply List.ext_getElem?;intro j;by_cases hj:j < l.length
 ·rw [YC l (i+1) hj,Ex h];have e:KZ (DH w.toInt) j=(if a=j then 1 else 0)+(if b=j then 1 else 0):=by
   unfold KZ;rw [hl,ha,hb,BG];have e1:((a:Int)=(j:Int))↔a=j:=by omega
   have e2:((b:Int)=(j:Int))↔b=j:=by omega
   simp only [e1,e2]
  rw [e];by_cases h1:b=j
  ·subst h1;rw [List.getElem?_set_self (by rw [vaI,aN]; exact bl),A9 hab,BR rfl];congr 2
  ·rw [va8 h1];by_cases h2:a=j
   ·subst h2;rw [List.getElem?_set_self (by rw [aN]; exact al),BR rfl,A9 h1];congr 2
   ·rw [va8 h2,YC l i hj,A9 h1,A9 h2];congr 2
 ·rw [BU (by rw [vaI,vaI,aN]; omega),BU (by rw [aN]; omega)]
abbrev mO (l:LI) (dim:Int) (b:Bool) (i:Int) (nm:LI):St:=
 ⟨[(0,(.list false [(.int .u64)] l)),(1,(.int .i64 dim)),(4,(.bool b)),(5,(.row 22 0 l.length)),(23,(.list false [(.int .u64)] l)),(24,(.int .i64 (ic l.length))),(25,(.int .i64 i))],[(22,(some (.row true 3 false [.z] nm)))]⟩
theorem uA (N:Nat) (l:LI) (dim:Int) (hl:l.length≤31) (K:Out→St→DJ) (hK:∀ i nm,K .ret (mO l dim false i nm)=some (.bool false,[])):∀ (d i n:Nat),i+d=l.length→d < n →
  DT (HP N) (DF LH [1,1,1,0,1,0,0]) ⟨[0,1,4,5,23,24,25],[22],[]⟩ n (mO l dim false (i:Int) (NM l i)) K =
   cond (J3 dim (ic l.length) i (l.drop i)) (K (.exit 0) (mO l dim false (ic l.length) (NM l l.length))) (some (.bool false,[]))
 | d,i,0,_,h=>absurd h (by omega)
 | 0,i,n+1,hd,_=>by
  have hi:i=l.length:=by omega
  subst hi;rw [DX,Ng];rw [AL (show ¬ ((l.length:Nat):Int) < ic l.length by simp only [ic]; omega),DG,vad];rfl
 | d+1,i,n+1,hd,hn=>by
  have hil:i < l.length:=by omega
  have hw:l[i]?=some l[i]:=A5 hil;rw [DX,Ng,BF hil];have hg:l.getD (AD (i:Int)) default=l[i]:=by
   rw [BE,BS,hw];rfl
  rw [hg];generalize l[i]=w at hw ⊢;have ei:AA AB ((i:Int)+1)=((i+1:Nat):Int):=by
   rw [EI (by omega) (by omega)];omega
  rw [ei,AE (show (i:Int) < ic l.length by simp only [ic]; omega),DE,AE (show (0:Int)≤(i:Int) by omega),BY,DE];unfold J3;cases hb:F6 w.toInt with
  | false=>
   simp only [A6,DE,BM,DG];exact hK (i:Int) (NM l i)
  | true=>
   simp only [A1,DG,BC];unfold N1;cases hlf:(DH w.toInt).lf with
   | true=>
    simp only [DE,BC];rw [← Su hw hlf];exact uA N l dim hl K hK d (i+1) n (by omega) (by omega)
   | false=>
    simp only [DG];cases h1:decide ((DH w.toInt).f≥dim) with
    | true=>
     simp only [DE,A1,BM,DG];exact hK (i:Int) (NM l i)
    | false=>
    cases h2:((DH w.toInt).l==(DH w.toInt).r) with
    | true=>
     simp only [DE,DG,A1,A6,BM,vaq];exact hK (i:Int) (NM l i)
    | false=>
    cases h3:decide (min (DH w.toInt).l (DH w.toInt).r≤(i:Int)) with
    | true=>
     simp only [DE,DG,A1,A6,BM,vaq];exact hK (i:Int) (NM l i)
    | false=>
    cases h4:decide (max (DH w.toInt).l (DH w.toInt).r≥ic l.length) with
    | true=>
     simp only [DE,DG,A1,A6,BM,vaq];exact hK (i:Int) (NM l i)
    | false=>
     have g2:(DH w.toInt).l≠(DH w.toInt).r:=A8.1 h2;have g3:=BH h3;have g4:=BH h4;simp only [ic] at g4;obtain ⟨a,ha⟩:∃ a:Nat,(DH w.toInt).l=(a:Int):=⟨(DH w.toInt).l.toNat,by omega⟩;obtain ⟨b,hb'⟩:∃ b:Nat,(DH w.toInt).r=(b:Int):=⟨(DH w.toInt).r.toNat,by omega⟩;have hab:a≠b:=fun e=>g2 (by rw [ha,hb',e])
     have al:a < l.length:=by omega
     have bl:b < l.length:=by omega
     have hN:=Ss hw hlf hl ha hb' hab al bl;rw [ha,hb'];rw [AE (show (0:Int)≤(a:Int) by omega),AE (show (0:Int)≤(b:Int) by omega),AE (show (a:Int) < ic (l.length - 0) by simp only [ic]; omega),AE (show (b:Int) < ic (l.length - 0) by simp only [ic]; omega)];simp only [DE,DG,A6,BY,BC,BE,BJ];refine Eq.trans ?_ (uA N l dim hl K hK d (i+1) n (by omega) (by omega));rw [← hN];rfl
abbrev zjT (l:LI) (b:Bool) (j:Int):St:=
 ⟨[(4,(.bool b)),(85,(.row 22 1 (0+(l.length - 0)))),(86,(.int .i64 (ic (0+(l.length - 0) - 1)))),(87,(.int .i64 j))],[(22,(some (.row true 3 false [.z] (NM l l.length))))]⟩
theorem Gd (N:Nat) (l:LI) (hl:l.length≤31):∀ (d j n:Nat),j+d=l.length - 1→d < n →
  DT (HP N) (DF LH [1,1,1,1,0,1,0,0]) ⟨[4,85,86,87],[22],[]⟩ n (zjT l false (j:Int)) (DM 2 (DN (HP N) (DF LH [1,1,1,1,1]) (DP (HP N) none [(CD 4)] [[.bool]]))) =
   some (.bool ((List.range' j d).all fun j=>IJ l (j+1)==1),[])
 | d,j,0,_,h=>absurd h (by omega)
 | 0,j,n+1,hd,_=>by
  rw [DX,Nh,AL (show ¬ (j:Int) < ic (0+(l.length - 0) - 1) by simp only [ic]; omega),DG];exact Zn N false _ _ _ _
 | d+1,j,n+1,hd,hn=>by
  have ej:AA AB ((j:Int)+1)=((j+1:Nat):Int):=by
   rw [EI (by omega) (by omega)];omega
  rw [DX,Nh,ej,AE (show (j:Int) < ic (0+(l.length - 0) - 1) by simp only [ic]; omega),DE,AE (show (0:Int)≤(j:Int) by omega),BY,DE];have hg:((NM l l.length).getD (1+AD (j:Int)) default).toInt=(IJ l (j+1):Nat):=by
   rw [BE,Nat.add_comm 1 j,BS,YC l l.length (by omega),BI];rfl
  rw [hg,List.range'_succ,vaM];have e:(((IJ l (j+1):Nat):Int) != 1)=!(IJ l (j+1)==1):=by
   show (!(((IJ l (j+1):Nat):Int)==1))=_;congr 1;rw [va3,B8,B8];omega
  rw [e];cases (IJ l (j+1)==1) with
  | false=>
   rw [A6,DE];exact Zo N false _ _ _ _
  | true=>
   rw [A1,DG,BC];exact Gd N l hl d (j+1) n (by omega) (by omega)
theorem zjk (N:Nat) (l:LI) (dim:Int) (hl:l.length≤31) (h1:1≤l.length) (hN:40≤N) (i:Int) :
  (DM 0 (DN (HP N) (DF LH [1,1,1,1]) (DP (HP N) none [(CD 4)] [[.bool]]))) (.exit 0) (mO l dim false i (NM l l.length))=some (.bool (ZF l),[]):=by
 refine (Zl N l dim false l.length l (ic l.length) i (NM l l.length)).trans ?_;rw [AE (show (0:Nat)≤1 by omega),AE (show (1:Int)≤ic (l.length - 0) by simp only [ic]; omega),BY,DE]
 have:=Gd N l hl (l.length - 1) 0 N (by omega) (by omega)
 refine this.trans ?_;unfold ZF;rw [List.range_eq_range']
theorem Kz:DS PR B0 109 WH:=by
 refine D2 [(51,L7)] [(5,⟨[0,1,4,5,23,24,25],[22],[]⟩),(17,⟨[4,85,86,87],[22],[]⟩)] WH [[.bool]] Tryz.func109 zca ⟨ZX,trivial⟩ ?_;intro vs r hwf h;unfold WH at h;split at h
 ·rename_i l dim;refine ⟨40,?_⟩;rw [R.get_ok] at h;rw [← h];refine (ze6 40 l dim).trans ?_;unfold GK;by_cases h1:1≤l.length
  ·by_cases h2:l.length≤31
   ·have eb:ic (TI.bytes (Env.tyd (HP 40) 3))=8:=rfl;rw [AL (show ¬ ic l.length < 1 by simp only [ic]; omega),AL (show ¬ ic l.length > 31 by simp only [ic]; omega),DG,DG,eb,
     AE (show (0:Int)≤ic l.length by simp only [ic]; omega),AE (show ic l.length=ic l.length from rfl),AE (show ic l.length*8≤ic D6 by unfold D6; simp only [ic]; omega)]
    have e0:(BK 0 (TI.size (Env.tyd (HP 40) 3))&&(BK 3 1000000&&true)&&(true&&true))=true:=rfl;have e1:AD (ic l.length)=l.length:=by simp only [ic]; omega
    rw [e0,DE,e1,← Sv,CP h1,CP h2];refine (uA 40 l dim h2 _ (fun i nm=>?_) l.length 0 40 (by omega) (by omega)).trans ?_
    ·exact Zm 40 l dim false l.length l (ic l.length) i nm
    ·rw [BZ,zjk 40 l dim h2 h1 (by omega)];cases J3 dim (ic l.length) 0 l <;> rfl
   ·have e:B6 l.length 31=false:=by
     cases hb:B6 l.length 31 with
     | false=>rfl
     | true=>exact absurd (AM hb) h2
    rw [AL (show ¬ ic l.length < 1 by simp only [ic]; omega),AE (show ic l.length > 31 by simp only [ic]; omega),DG,DE,e,vaq,BM]
  ·have e:B6 1 l.length=false:=by
    cases hb:B6 1 l.length with
    | false=>rfl
    | true=>exact absurd (AM hb) h1
   rw [AE (show ic l.length < 1 by simp only [ic]; omega),DE,e,BM,BM]
 ·simp [R.get] at h
theorem Kj:DS PR B0 108 V5:=by
 refine D2 [(109,WH)] [] V5 [[.bool]] Tryz.func108 zbu ⟨Kz,trivial⟩ ?_;intro vs r hwf h;unfold V5 at h;split at h
 ·rename_i k l d c b0 b1 b2 ts;refine ⟨0,?_⟩;rw [R.get_ok] at h;rw [← h];refine (zen 0 k l d c b0 b1 b2 ts).trans ?_;have e:G8 d c (.agg [.int k,.list l])=(!(decide (k < 0))&&(!(decide (k≥c))&&GK l d)):=rfl;rw [e];cases decide (k < 0) with
  | true=>rfl
  | false=>
   cases decide (k≥c) with
   | true=>rfl
   | false=>rfl
 ·simp [R.get] at h
abbrev zjO (l:LI) (d c b0 b1 b2:Int) (ts:LI) (r i:Int):St:=
 ⟨[(0,(.list true [.z,(.list false [(.int .u64)])] l)),(1,(.clo 108 [(.ptr 900000 0 0)])),(4,(.int .i64 r)),(7,(.int .i64 (ic l.length))),(8,(.int .i64 i))],[(900000,(some (.box [(.int .i64 d),(.int .i64 c),(.int .i64 b0),(.int .i64 b1),(.int .i64 b2),(.list true [.z,(.list false [(.int .u64)])] ts)])))]⟩
theorem zjh (d c:Int) (t:IV):G8 d c (.agg [.int (IV.toInt (IV.cell t 0)),.list (IV.toList (IV.cell t 1))])=G8 d c t:=rfl
theorem Cq (N:Nat) (l:LI) (hl:l.length≤strMax) (d c b0 b1 b2:Int) (ts:LI):∀ (m i n:Nat),i+m=l.length→m < n →
  DT (OL N) (DF SF [1,0,1,0,0]) ⟨[0,1,4,7,8],[900000],[]⟩ n (zjO l d c b0 b1 b2 ts 0 (i:Int)) (DM 0 (DN (OL N) (DF SF [1,1]) (DP (OL N) (some [(.int .i64 d),(.int .i64 c),(.int .i64 b0),(.int .i64 b1),(.int .i64 b2),(.list true [.z,(.list false [(.int .u64)])] ts)]) [(CD 4)] [[.z]]))) =
   some (.int .i64 (WY d c (l.drop i) (i:Int)),[[(.int .i64 d),(.int .i64 c),(.int .i64 b0),(.int .i64 b1),(.int .i64 b2),(.list true LN ts)]])
 | m,i,0,_,h=>absurd h (by omega)
 | 0,i,n+1,hd,_=>by
  have hi:i=l.length:=by omega
  subst hi;rw [DX,Mz,AL (show ¬ ((l.length:Nat):Int) < ic l.length by simp only [ic]; omega),DG,vad];exact Zb N d c b0 b1 b2 ts l 0 (ic l.length) (l.length:Int) d c b0 b1 b2 ts
 | m+1,i,n+1,hd,hn=>by
  have hil:i < l.length:=by omega
  have m':strMax=140737488355327:=rfl;have ei:AA AB ((i:Int)+1)=((i+1:Nat):Int):=by
   rw [EI (by omega) (by omega)];omega
  have hg:l.getD (AD (i:Int)) default=l[i]:=by
   rw [BE,BS,A5 hil];rfl
  rw [DX,Mz,ei,hg,zjh,AE (show (i:Int) < ic l.length by simp only [ic]; omega),DE,AE (show (0:Int)≤(i:Int) by omega),BY,DE,BF hil,WY];cases G8 d c l[i] with
  | true=>
   rw [A1,DG,DE];exact Cq N l hl d c b0 b1 b2 ts m (i+1) n (by omega) (by omega)
  | false=>
   rw [A6,DE,DG];exact Zc N d c b0 b1 b2 ts l (i:Int) (ic l.length) (i:Int) d c b0 b1 b2 ts
theorem ziv:DS PR B0 163 c8:=by
 refine D2 [(108,V5)] [(2,⟨[0,1,4,7,8],[900000],[]⟩)] c8 [[.z]] Tryz.func163 zbU ⟨Kj,trivial⟩ ?_;intro vs r hwf h;unfold c8 at h;split at h
 ·rename_i l d c b0 b1 b2 ts;refine ⟨l.length+1,?_⟩;rw [R.get_ok] at h;rw [← h];refine (zeQ (l.length+1) l d c b0 b1 b2 ts).trans ?_;have hl:l.length≤strMax:=by
   have hb:=hwf (by simp [K2])
   have:=hb.1
   simp only [QE,wfL] at this;exact this.1
  exact Cq (l.length+1) l hl d c b0 b1 b2 ts l.length 0 (l.length+1) (by omega) (by omega)
 ·simp [R.get] at h
theorem Cn (d c:Int):∀ (l:LI) (i:Nat),decide (WY d c l (i:Int)≥0)=!(l.all (G8 d c))
 | [],i=>rfl
 | t :: l,i=>by
  unfold WY;rw [vaM];cases G8 d c t with
  | true=>
   rw [DE,BC];exact Cn d c l (i+1)
  | false=>
   rw [DG,BM,AE (show (i:Int)≥0 by omega)];rfl
theorem zit:DS PR B0 107 c6:=by
 refine D2 [(163,c8)] [] c6 [[.bool]] Tryz.func107 zbS ⟨ziv,trivial⟩ ?_;intro vs r hwf h;unfold c6 at h;split at h
 ·rename_i l d c b0 b1 b2 ts;refine ⟨0,?_⟩;rw [R.get_ok] at h;rw [← h];refine (zeO 0 l d c b0 b1 b2 ts).trans ?_
  have:=Cn d c l 0
  rw [show ((0:Nat):Int)=0 from rfl] at this;rw [this]
 ·simp [R.get] at h
abbrev aD (d c b0 b1 b2:Int) (ts:LI) (b:Bool) (i:Int):St:=
 ⟨[(1,(.ptr 1 0 0)),(2,(.bool b)),(30,(.agg [(.int .i64 b0),(.int .i64 b1),(.int .i64 b2)])),(31,(.int .i64 i))],[(1,(some (.box [(.int .i64 d),(.int .i64 c),(.int .i64 b0),(.int .i64 b1),(.int .i64 b2),(.list true [.z,(.list false [(.int .u64)])] ts)]))),(53005,none)]⟩
theorem Tv (c j b:Int) {α:Type _} (x y:α):cond (!EZ b) y (cond (decide (j≥c)) (cond (b != 0) y x) x)=cond (HE c j b) x y:=by
 unfold HE;have e:(b != 0)=!(b==0):=rfl;rw [e];cases EZ b <;> cases decide (j≥c) <;> cases (b==0) <;> rfl
theorem nD (N:Nat) (d c b0 b1 b2:Int) (ts:LI) (j:Nat) (b:Int) (h:(j=0∧b=b0)∨(j=1∧b=b1)∨(j=2∧b=b2)) (again:St→DJ) (k:Out→St→DJ) :
  EX (NK N) (DF QU [1,1,0,1,0,0]) (aD d c b0 b1 b2 ts false (j:Int)) (ED again ⟨[1,2,30,31],[1,53005],[]⟩ k) =
   cond (HE c (j:Int) b) (again (aD d c b0 b1 b2 ts false ((j+1:Nat):Int))) (k .ret (aD d c b0 b1 b2 ts false (j:Int))):=by
 rw [Mr];have ej:AA AB ((j:Int)+1)=((j+1:Nat):Int):=by
  rw [EI (by omega) (by omega)];omega
 rw [ej,← Tv,AE (show (j:Int) < 3 by omega),DE];rcases h with ⟨rfl,rfl⟩ | ⟨rfl,rfl⟩ | ⟨rfl,rfl⟩ <;> rfl
theorem ZW:DS PR B0 49 L6:=by
 refine D2 [(106,RW),(108,V5),(107,c6)] [(4,⟨[1,2,30,31],[1,53005],[]⟩)] L6 [[.bool]] Tryz.func49 zbt ⟨sT,Kj,zit,trivial⟩ ?_;intro vs r hwf h;unfold L6 at h;split at h
 ·rename_i d c b0 b1 b2 ts;refine ⟨6,?_⟩;rw [R.get_ok] at h;rw [← h];refine (zem 6 d c b0 b1 b2 ts).trans ?_;have run:DT (NK 6) (DF QU [1,1,0,1,0,0]) ⟨[1,2,30,31],[1,53005],[]⟩ 6 (aD d c b0 b1 b2 ts false 0) (DM 0 (DN (NK 6) (DF QU [1,1,1]) (DP (NK 6) none [(CD 2)] [[.bool]]))) =
    some (.bool ((HE c 0 b0&&(HE c 1 b1&&HE c 2 b2))&&ts.all (G8 d c)),[]):=by
   have e0:aD d c b0 b1 b2 ts false 0=aD d c b0 b1 b2 ts false ((0:Nat):Int):=rfl;have R2:=fun j=>Yp 6 false b0 b1 b2 j d c b0 b1 b2 ts
   have R1:=fun j=>Yo 6 false b0 b1 b2 j d c b0 b1 b2 ts
   rw [e0,DX,nD 6 d c b0 b1 b2 ts 0 b0 (by simp),R2];cases h0:HE c ((0:Nat):Int) b0 with
   | false=>rfl
   | true=>
    rw [DE,DX,nD 6 d c b0 b1 b2 ts 1 b1 (by simp),R2];cases h1:HE c ((1:Nat):Int) b1 with
    | false=>rfl
    | true=>
     rw [DE,DX,nD 6 d c b0 b1 b2 ts 2 b2 (by simp),R2];cases h2:HE c ((2:Nat):Int) b2 with
     | false=>rfl
     | true=>
      rw [DE,DX,Mr,AL (show ¬ ((2+1:Nat):Int) < 3 by omega),DG,R1,Bool.not_not];rfl
  unfold EP;cases decide (d < 1) with
  | true=>rfl
  | false=>
  cases decide (d > 4) with
  | true=>rfl
  | false=>
  cases decide (c < 1) with
  | true=>rfl
  | false=>
  cases decide (c > 3) with
  | true=>rfl
  | false=>
   simp only [DG,A6,BC];by_cases h8:ts.length≤8
   ·rw [AL (show ¬ ic ts.length > 8 by simp only [ic]; omega),DG,CP h8,BC];exact run
   ·have e:B6 ts.length 8=false:=by
     cases hb:B6 ts.length 8 with
     | false=>rfl
     | true=>exact absurd (AM hb) h8
    rw [AE (show ic ts.length > 8 by simp only [ic]; omega),DE,e,BM]
 ·simp [R.get] at h
open Go Go.Proofs
def Qw (N:Nat):Env:=D0 [(43,R4),(187,bV),(100,V2),(82,TR),(55,YE),(102,YG)] [] 76 N
theorem zd3 (N:Nat) (s:BA):DV (Qw N) xK [.tmp 2,.tmp 3] [[.z],[.bool]] [.str s] =
 (cond (decide (AG (F8 s { data:=#[45] }) < 4294967281))
 (cond (decide (ic (AG (FT (F8 s { data:=#[45] }) { data:=#[46] })) > 8))
 (some ((.tup [.i 0,.bool false]),[]))
 (cond (decide (0≤AA AB (8 - ic (AG (FT (F8 s { data:=#[45] }) { data:=#[46] }))))&&decide (AG { data:=#[48] }*AD (AA AB (8 - ic (AG (FT (F8 s { data:=#[45] }) { data:=#[46] }))))≤strMax))
 (cond (decide (AG (FT (F8 s { data:=#[45] }) { data:=#[46] })+AG (HL { data:=#[48] } (AD (AA AB (8 - ic (AG (FT (F8 s { data:=#[45] }) { data:=#[46] }))))))≤strMax))
 (cond (!I4 (cutL (F8 s { data:=#[45] }) { data:=#[46] }))
 (some ((.tup [.i 0,.bool false]),[]))
 (cond (!I4 (FT (F8 s { data:=#[45] }) { data:=#[46] }++HL { data:=#[48] } (AD (AA AB (8 - ic (AG (FT (F8 s { data:=#[45] }) { data:=#[46] })))))))
 (some ((.tup [.i 0,.bool false]),[]))
 (cond (decide (GG (cutL (F8 s { data:=#[45] }) { data:=#[46] }) > 36028797018963968))
 (some ((.tup [.i 0,.bool false]),[]))
 (cond (Int.tmod (GG (FT (F8 s { data:=#[45] }) { data:=#[46] }++HL { data:=#[48] } (AD (AA AB (8 - ic (AG (FT (F8 s { data:=#[45] }) { data:=#[46] }))))))) 390625 != 0)
 (some ((.tup [.i 0,.bool false]),[]))
 (cond (OT s { data:=#[45] })
 (cond (AX (DQ (AA AB (AA AJ (0 - AA AJ (AA AJ (GG (cutL (F8 s { data:=#[45] }) { data:=#[46] })*2 ^ min (AD 8) (AT AJ))+AA AJ (Int.tdiv (GG (FT (F8 s { data:=#[45] }) { data:=#[46] }++HL { data:=#[48] } (AD (AA AB (8 - ic (AG (FT (F8 s { data:=#[45] }) { data:=#[46] }))))))) 390625))))))==AX s)
 (some ((.tup [(.i (AA AB (AA AJ (0 - AA AJ (AA AJ (GG (cutL (F8 s { data:=#[45] }) { data:=#[46] })*2 ^ min (AD 8) (AT AJ))+AA AJ (Int.tdiv (GG (FT (F8 s { data:=#[45] }) { data:=#[46] }++HL { data:=#[48] } (AD (AA AB (8 - ic (AG (FT (F8 s { data:=#[45] }) { data:=#[46] }))))))) 390625)))))),.bool true]),[]))
 (some ((.tup [.i 0,.bool false]),[])))
 (cond (AX (DQ (AA AB (AA AJ (AA AJ (GG (cutL (F8 s { data:=#[45] }) { data:=#[46] })*2 ^ min (AD 8) (AT AJ))+AA AJ (Int.tdiv (GG (FT (F8 s { data:=#[45] }) { data:=#[46] }++HL { data:=#[48] } (AD (AA AB (8 - ic (AG (FT (F8 s { data:=#[45] }) { data:=#[46] }))))))) 390625)))))==AX s)
 (some ((.tup [(.i (AA AB (AA AJ (AA AJ (GG (cutL (F8 s { data:=#[45] }) { data:=#[46] })*2 ^ min (AD 8) (AT AJ))+AA AJ (Int.tdiv (GG (FT (F8 s { data:=#[45] }) { data:=#[46] }++HL { data:=#[48] } (AD (AA AB (8 - ic (AG (FT (F8 s { data:=#[45] }) { data:=#[46] }))))))) 390625))))),.bool true]),[]))
 (some ((.tup [.i 0,.bool false]),[]))))))))
 none)
 none))
 none):=by kernel_rfl
open Go Go.Proofs
theorem Kc:DS PR B0 100 V2:=by
 refine D2 [] [(3,⟨[0,1,2],[],[]⟩)] V2 [[.int .u64]] Tryz.func100 zbc trivial ?_;intro vs r hwf h;unfold V2 at h;split at h
 ·refine ⟨9,?_⟩;rw [← h];show DV (Qz 9) xM [.tmp 0] [[.int .u64]] []=_
  kernel_rfl
 ·simp [R.get] at h
theorem zgn {s:BA} (h:I4 s=true):0 < s.size:=by
 unfold I4 at h;split at h
 ·rename_i v hv
  have:s.data.toList≠[]:=fun e=>by rw [e] at hv; cases hv
  rw [S1];exact List.length_pos_iff.2 this
 ·cases h
theorem zgm {s:BA} (h:I4 s=true):(AH s.data.toList 0 0).toNat≠43:=by
 unfold I4 at h;split at h
 ·rename_i v hv;revert hv;cases s.data.toList with
  | nil=>intro _; decide
  | cons c r=>
   intro hv he;have he:c.toNat=43:=he;unfold Lib.parseMag at hv;rw [A9 (by simp),vbx,A9 (by omega)] at hv;cases hv
 ·cases h
theorem zhU:DS PR B0 187 bV:=by
 refine D2 [(225,iE)] [] bV [[.int .u64],[.bool]] Tryz.func187 zbb ⟨ziA,trivial⟩ ?_;intro vs r hwf h;unfold bV at h;split at h
 ·rename_i s;refine ⟨0,?_⟩;rw [← h];refine (zd4 0 s).trans ?_;simp only [R.get_ok];cases hp:I4 s with
  | false=>simp only [DG]
  | true=>
   have h1:(decide (0≤0)&&decide (0 < ic (AG s)))=true:=by
    have:=zgn hp
    simp [ic]; omega
   have h2:(ic (UInt8.toNat (AH (Array.toList (ByteArray.data s)) (AD 0) 0)) != 43)=true:=by
    have:=zgm hp
    rw [vX];simp only [ic,Int.toNat_zero];simp only [B5,BV];omega
   rw [h1,h2];simp only [DE]
 ·simp [R.get] at h
theorem uP {n:Int} (h0:0≤n) (h1:n < 18446744073709551616):AA .u64 n=n:=by rw [vbg]; omega
theorem zjK {n:Int} (h0:n < 0) (h1 : -9223372036854775808≤n):AA .u64 (0 - AA .u64 n)=(n.natAbs:Int):=by rw [vbg,vbg]; omega
theorem zjL {n:Int} (h0:¬ n < 0) (h1:n≤9223372036854775807):AA .u64 n=(n.natAbs:Int):=by rw [vbg]; omega
theorem u9 (u:Nat) (h:u < 18446744073709551616):AA .u64 (ic (CL (A4 (AT AJ) (u:Int) &&& A4 (AT AJ) 255)))=((u % 256:Nat):Int):=by
 have e:CL (A4 (AT AJ) (u:Int) &&& A4 (AT AJ) 255)=u % 256:=by
  have h1:(A4 (AT AJ) (u:Int)).toNat=u:=by
   show (A4 64 (u:Int)).toNat=u;rw [BitVec.toNat_ofInt];omega
  have h2:(A4 (AT AJ) 255).toNat=2 ^ 8 - 1:=by rfl
  rw [BitVec.toNat_and,h1,h2,Nat.and_two_pow_sub_one_eq_mod]
 rw [e];exact uP (by simp [ic]; omega) (by simp [ic]; omega)
theorem Jq (u:Nat):va0 (u:Int) (2 ^ min (AD 8) (AT AJ))=((u / 256:Nat):Int):=by
 have e:(2:Int) ^ min (AD 8) (AT AJ)=((256:Nat):Int):=rfl;rw [e,Int.fdiv_eq_ediv_of_nonneg _ (by omega)];rfl
theorem Eu {r:Nat} (h:r < 256):AA .u64 ((r:Int)*390625)=((r*390625:Nat):Int):=by
 rw [uP (by omega) (by omega)];omega
theorem qR (u:Nat):E1 (u:Int)=⟨(CI u).toArray⟩:=rfl
theorem Wh:(vaE 256).all (fun r=>B6 (CI (r*390625)).length 8)=true:=by kernel_rfl
theorem Wg {r:Nat} (h:r < 256):(CI (r*390625)).length≤8:=by
 have:=CS.1 Wh r (va6.2 h)
 exact AM this
theorem Ah (l:List UInt8):(⟨l.toArray⟩:BA).data.toList=l:=rfl
theorem dZ (s t:BA):(s++t).data.toList=s.data.toList++t.data.toList:=by simp
theorem zhh (l:List UInt8):(⟨l.toArray⟩:BA).size=l.length:=by rw [S1]
theorem Hk {u:Nat} (hu:u < 18446744073709551616) (sg:BA) (hsg:sg.size≤1) (K:BA) (hK:K=sg++⟨(H8 u).toArray⟩) :
  (cond (decide (AG sg+AG (E1 ((u / 256:Nat):Int))≤strMax))
   (cond (((u % 256:Nat):Int)==0)
    (some ((.str (sg++E1 ((u / 256:Nat):Int))),[]))
    (cond (decide (AG (sg++E1 ((u / 256:Nat):Int))+AG { data:=#[46] }≤strMax))
     (cond (decide (0≤AA AB (8 - ic (AG (E1 ((u % 256*390625:Nat):Int)))))&&decide (AG { data:=#[48] }*AD (AA AB (8 - ic (AG (E1 ((u % 256*390625:Nat):Int)))))≤strMax))
      (cond (decide (AG (HL { data:=#[48] } (AD (AA AB (8 - ic (AG (E1 ((u % 256*390625:Nat):Int)))))))+AG (E1 ((u % 256*390625:Nat):Int))≤strMax))
       (cond (decide (AG (sg++E1 ((u / 256:Nat):Int)++{ data:=#[46] })+AG (PD (HL { data:=#[48] } (AD (AA AB (8 - ic (AG (E1 ((u % 256*390625:Nat):Int))))))++E1 ((u % 256*390625:Nat):Int)) { data:=#[48] })≤strMax))
        (some ((.str (sg++E1 ((u / 256:Nat):Int)++{ data:=#[46] }++PD (HL { data:=#[48] } (AD (AA AB (8 - ic (AG (E1 ((u % 256*390625:Nat):Int))))))++E1 ((u % 256*390625:Nat):Int)) { data:=#[48] })),[]))
        none)
       none)
      none)
     none))
   none)=(some (V.str K,[]):DJ):=by
 have hr:u % 256 < 256:=by omega
 have l1:(E1 ((u / 256:Nat):Int)).size≤20:=qT (by omega) (by omega);have l2:(E1 ((u % 256*390625:Nat):Int)).size=(CI (u % 256*390625)).length:=by rw [qR,zhh]
 have l3:=Wg hr;generalize hD:CI (u % 256*390625)=D at l2 l3;have e8:AA AB (8 - ic (AG (E1 ((u % 256*390625:Nat):Int))))=((8 - D.length:Nat):Int):=by
  rw [l2,EI (by simp [ic]; omega) (by simp [ic]; omega)];simp only [ic];omega
 rw [e8];simp only [BE];have s46:AG { data:=#[46] }=1:=rfl;have s48:AG { data:=#[48] }=1:=rfl;have l4:(HL { data:=#[48] } (8 - D.length)).size=8 - D.length:=by rw [sB,s48]; omega
 have l5:=Ol (HL { data:=#[48] } (8 - D.length)++E1 ((u % 256*390625:Nat):Int)) { data:=#[48] };rw [A3,l4,l2] at l5;rw [AE (show AG sg+AG (E1 ((u / 256:Nat):Int))≤strMax by unfold strMax; omega),
  AE (show AG (sg++E1 ((u / 256:Nat):Int))+AG { data:=#[46] }≤strMax by rw [A3,s46]; unfold strMax; omega),
  AE (show (0:Int)≤((8 - D.length:Nat):Int) by omega),
  AE (show AG { data:=#[48] }*(8 - D.length)≤strMax by rw [s48]; unfold strMax; omega),
  AE (show AG (HL { data:=#[48] } (8 - D.length))+AG (E1 ((u % 256*390625:Nat):Int))≤strMax by rw [l4,l2]; unfold strMax; omega),
  AE (show AG (sg++E1 ((u / 256:Nat):Int)++{ data:=#[46] })+AG (PD (HL { data:=#[48] } (8 - D.length)++E1 ((u % 256*390625:Nat):Int)) { data:=#[48] })≤strMax by rw [A3,A3,s46]; unfold strMax; omega)]
 simp only [DE,CJ];subst hK;by_cases h0:u % 256=0
 ·have e0:(((u % 256:Nat):Int)==0)=true:=by rw [TU]; exact AE (by omega)
  rw [e0,DE]
  have:sg++E1 ((u / 256:Nat):Int)=sg++⟨(H8 u).toArray⟩:=by
   apply TW;rw [dZ,dZ,qR,Ah,Ah,H8,BR h0,DB]
  rw [this]
 ·have e0:(((u % 256:Nat):Int)==0)=false:=by rw [TU]; exact AL (by omega)
  rw [e0,DG]
  have:sg++E1 ((u / 256:Nat):Int)++{ data:=#[46] }++PD (HL { data:=#[48] } (8 - D.length)++E1 ((u % 256*390625:Nat):Int)) { data:=#[48] }=sg++⟨(H8 u).toArray⟩:=by
   apply TW;simp only [dZ,qR,H8,A9 h0,PD,HL,JZ,hD,var];rfl
  rw [this]
theorem s6:DS PR B0 43 R4:=by
 refine D2 [(100,V2),(99,iD),(102,YG),(101,iG)] [] R4 [[.str]] Tryz.func43 za9 ⟨Kc,ziz,Kt,ziC,trivial⟩ ?_;intro vs r hwf h;unfold R4 at h;split at h
 ·rename_i n;refine ⟨0,?_⟩;rw [← h];refine (zd2 0 n).trans ?_;simp only [R.get_ok];have hb:=(hwf (by simp [K2])).1;simp only [QE,wfL] at hb;obtain ⟨h0,h1⟩:=hb;have e0:AB.min = -9223372036854775808:=rfl;have e1:AB.max=9223372036854775807:=rfl;rw [e0] at h0;rw [e1] at h1;have hu:n.natAbs < 18446744073709551616:=by omega
  by_cases hn:n < 0
  ·rw [AE hn,DE,zjK hn h0,Jq,u9 _ hu,Eu (by omega)];exact Hk hu ⟨#[45]⟩ (by decide) _ (by apply TW; rw [dZ]; unfold DQ KJ; rw [BR hn]; rfl)
  ·rw [AL hn,DG,zjL hn h1,Jq,u9 _ hu,Eu (by omega)];exact Hk hu ⟨#[]⟩ (by decide) _ (by apply TW; rw [dZ]; unfold DQ KJ; rw [A9 hn]; rfl)
 ·simp [R.get] at h
open Go Go.Proofs
theorem Kb:DS PR B0 131 V1:=by
 refine D2 [(43,R4),(187,bV),(100,V2),(82,TR),(55,YE),(102,YG)] [] V1 [[.z],[.bool]] Tryz.func131 zba
  ⟨s6,zhU,Kc,tB,Kr,Kt,trivial⟩ ?_
 intro vs r hwf h;unfold V1 at h;split at h
 ·rename_i s;refine ⟨0,?_⟩;cases hs:decide (s.size < 4294967281) with
  | false=>rw [hs] at h; simp [R.get] at h
  | true=>
   rw [hs,R.get_br,DE,R.get_ok] at h;have hs:=A0 hs;rw [← h];refine (zd3 0 s).trans ?_;have hz:=Ok s { data:=#[45] };rw [AE (show AG (F8 s { data:=#[45] }) < 4294967281 by omega),DE];have eW:cutL (F8 s { data:=#[45] }) { data:=#[46] }=PQ s:=rfl;have eP:FT (F8 s { data:=#[45] }) { data:=#[46] }=JE s:=rfl;have eM:OT s { data:=#[45] }=OT s X2:=rfl;rw [eW,eP,eM];unfold F1;by_cases h8:(JE s).size≤8
   ·have c1:decide (ic (AG (JE s)) > 8)=false:=AL (by simp only [ic]; omega);have e8:AA AB (8 - ic (AG (JE s)))=((8 - (JE s).size:Nat):Int):=by
     rw [EI (by simp only [ic]; omega) (by simp only [ic]; omega)];simp only [ic];omega
    rw [c1,DG,e8];simp only [BE];have s48:AG { data:=#[48] }=1:=rfl;have eF:JE s++HL { data:=#[48] } (8 - (JE s).size)=M3 s:=rfl;have l4:(HL { data:=#[48] } (8 - (JE s).size)).size=8 - (JE s).size:=by rw [sB,s48]; omega
    rw [AE (show (0:Int)≤((8 - (JE s).size:Nat):Int) by omega),AE (show AG { data:=#[48] }*(8 - (JE s).size)≤strMax by rw [s48]; unfold strMax; omega),CJ,DE,
     AE (show AG (JE s)+AG (HL { data:=#[48] } (8 - (JE s).size))≤strMax by rw [l4]; unfold strMax; omega),DE,eF]
    have hw:=rW (PQ s);have hf:=rW (M3 s);have b0:AJ.min=0:=rfl;have b1:AJ.max=18446744073709551615:=rfl;rw [b0,b1] at hw hf;have em:Int.tmod (GG (M3 s)) 390625=GG (M3 s) % 390625:=Int.tmod_eq_emod_of_nonneg hf.1;have ed:AA AJ (Int.tdiv (GG (M3 s)) 390625)=GG (M3 s) / 390625:=by
     rw [Int.tdiv_eq_ediv_of_nonneg hf.1,uP (by omega) (by omega)]
    have e2:(2:Int) ^ min (AD 8) (AT AJ)=256:=rfl;rw [em,ed,e2];have eS:AA AJ (AA AJ (GG (PQ s)*256)+GG (M3 s) / 390625)=PP s:=rfl;rw [eS];unfold WT;rw [AE h8,oB,oC,vX];cases hp1:I4 (PQ s) with
    | false=>simp only [A6,DE,DG,BM,vaq]
    | true=>
     cases hp2:I4 (M3 s) with
     | false=>simp only [A6,A1,DE,DG,BM,vaq]
     | true=>
      simp only [A1,DG,BC];cases hc:decide (36028797018963968 < GG (PQ s)) with
      | true=>simp only [A1,DE,DG,BM]
      | false=>
       cases hd:decide (GG (M3 s) % 390625=0) with
       | false=>simp only [A6,DE,DG,BM,BC]
       | true=>
        simp only [A6,A1,DG,BC];unfold d6;cases hm:OT s X2 with
        | false=>
         simp only [DG];rw [show AA AB (PP s)=FD (PP s) from rfl,iR];cases decide (DQ (FD (PP s))=s) <;> simp only [DE,DG]
        | true=>
         simp only [DE];rw [show AA AB (AA AJ (0 - PP s))=FD (JJ (0 - PP s)) from rfl,iR];cases decide (DQ (FD (JJ (0 - PP s)))=s) <;> simp only [DE,DG]
   ·have c1:decide (ic (AG (JE s)) > 8)=true:=AE (by simp only [ic]; omega);rw [c1,DE];unfold WT;rw [AL h8,BM,DG]
 ·simp [R.get] at h
open Go Go.Proofs
def H4 (N:Nat):Env:=D0 [(43,R4),(49,L6),(51,L7),(42,OM),(47,TP),(50,dD)] [(7,⟨[1,2,3,4,28,29,30],[1,3,500],[⟨.tmp 4,500,9,false,[.str]⟩]⟩),(13,⟨[2,3,43,44,45],[3],[]⟩),(17,⟨[2,3,43,44,45,59,60,61],[3],[]⟩)] 94 N
abbrev VQ (s2:BA) (n4 n28:Nat) (x29 x30 u02 u03 u04 u05 u06:Int) (u00:LI) (so3:BA) (u01:LI):St:=⟨[(1,(.ptr 1 0 0)),(2,(.str s2)),(3,(.ptr 3 0 0)),(4,(.row 500 0 n4)),(28,(.bview 1 2 3 1 n28)),(29,(.i x29)),(30,(.i x30))],[(1,(some (.box [.i u02,.i u03,.i u04,.i u05,.i u06,.list true [.z,.list false [.int .u64]] u00]))),(3,(some (.bld so3))),(500,(some (.row true 9 false [.str] u01)))]⟩
abbrev aL (s2:BA) (l43:LI) (x44 x45:Int) (so3:BA):St:=⟨[(2,(.str s2)),(3,(.ptr 3 0 0)),(43,(.list true [.z,.list false [.int .u64]] l43)),(44,(.i x44)),(45,(.i x45))],[(3,(some (.bld so3)))]⟩
abbrev X9 (s2:BA) (l43:LI) (x44 x45:Int) (l59:LI) (x60 x61:Int) (so3:BA):St:=⟨[(2,(.str s2)),(3,(.ptr 3 0 0)),(43,(.list true [.z,.list false [.int .u64]] l43)),(44,(.i x44)),(45,(.i x45)),(59,(.list false [.int .u64] l59)),(60,(.i x60)),(61,(.i x61))],[(3,(some (.bld so3)))]⟩
theorem zeZ (N:Nat) (u04 u03 u00 u01 u02:Int) (u05:LI):DV (H4 N) KE [.tmp 2] [[.str]] [.agg [.i u04,.i u03,.i u00,.i u01,.i u02,.list true [.z,.list false [.int .u64]] u05]]=(cond (!EP {d:=u04,c:=u03,b0:=u00,b1:=u01,b2:=u02,ts:=u05}) (some ((.str ({data:=#[]})),[])) (cond (B6 (AF (AO 0 (AK 3 [IV.str {data:=#[102,111,114,101,115,116]},IV.str (DL u04),IV.str (DL u03)]))) 1000&&decide (AG CG+AG (FG (A2 IV.toStr (AO 0 (AK 3 [IV.str {data:=#[102,111,114,101,115,116]},IV.str (DL u04),IV.str (DL u03)]))))≤1000000000)) (cond (decide (0≤u03)&&decide (u03≤ic 3)) (DT (H4 N) (DF KE [1,1,1,1,1,0,1,0,0]) ⟨[1,2,3,4,28,29,30],[1,3,500],[⟨(.tmp 4),500,9,false,[.str]⟩]⟩ N (VQ ({data:=#[]}) 1 (AD u03) (ic (AD u03)) 0 u04 u03 u00 u01 u02 u05 (CG++FG (A2 IV.toStr (AO 0 (AK 3 [IV.str {data:=#[102,111,114,101,115,116]},IV.str (DL u04),IV.str (DL u03)])))) [(IV.str {data:=#[98,105,97,115]})]) (DM 0 (DN (H4 N) (DF KE [1,1,1,1,1,1]) (DP (H4 N) none [.tmp 2] [[.str]])))) none) none)):=by kernel_rfl
theorem lX (N:Nat) (s2:BA) (n4 n28:Nat) (x29 x30 u02 u03 u04 u05 u06:Int) (u00:LI) (so3:BA) (u01:LI) (again:St→DJ) (k:Out→St→DJ):EX (H4 N) (DF KE [1,1,1,1,1,0,1,0,0]) (VQ s2 n4 n28 x29 x30 u02 u03 u04 u05 u06 u00 so3 u01) (ED again ⟨[1,2,3,4,28,29,30],[1,3,500],[⟨(.tmp 4),500,9,false,[.str]⟩]⟩ k)=(cond (decide (x30 < x29)) (cond (decide (x30 < ic n28)) (cond (decide (x30=ic 0)) (cond (decide ((n4+AF (AO 0 (AK 1 [IV.str (DQ u04)])))*TI.bytes (Env.tyd (H4 N) 9)≤D6)) (again (VQ s2 (n4+AF (AO 0 (AK 1 [IV.str (DQ u04)]))) n28 x29 (AA AB (x30+1)) u02 u03 u04 u05 u06 u00 so3 (AK n4 u01++AO 0 (AK 1 [IV.str (DQ u04)])))) none) (cond (decide (x30=ic 1)) (cond (decide ((n4+AF (AO 0 (AK 1 [IV.str (DQ u05)])))*TI.bytes (Env.tyd (H4 N) 9)≤D6)) (again (VQ s2 (n4+AF (AO 0 (AK 1 [IV.str (DQ u05)]))) n28 x29 (AA AB (x30+1)) u02 u03 u04 u05 u06 u00 so3 (AK n4 u01++AO 0 (AK 1 [IV.str (DQ u05)])))) none) (cond (decide (x30=ic 2)) (cond (decide ((n4+AF (AO 0 (AK 1 [IV.str (DQ u06)])))*TI.bytes (Env.tyd (H4 N) 9)≤D6)) (again (VQ s2 (n4+AF (AO 0 (AK 1 [IV.str (DQ u06)]))) n28 x29 (AA AB (x30+1)) u02 u03 u04 u05 u06 u00 so3 (AK n4 u01++AO 0 (AK 1 [IV.str (DQ u06)])))) none) none))) none) (k (.exit 0) (VQ s2 n4 n28 x29 x30 u02 u03 u04 u05 u06 u00 so3 u01))):=by kernel_rfl
theorem Zi (N:Nat) (s2:BA) (n4 n28:Nat) (x29 x30 u02 u03 u04 u05 u06:Int) (u00:LI) (so3:BA) (u01:LI):(DM 0 (DN (H4 N) (DF KE [1,1,1,1,1,1]) (DP (H4 N) none [.tmp 2] [[.str]]))) (.exit 0) (VQ s2 n4 n28 x29 x30 u02 u03 u04 u05 u06 u00 so3 u01)=(cond (B6 (AF (AO 0 (AK n4 u01))) 1000&&decide (AG so3+AG (FG (A2 IV.toStr (AO 0 (AK n4 u01))))≤1000000000)) (DT (H4 N) (DF KE [1,1,1,1,1,1,1,0,1,0,0]) ⟨[2,3,43,44,45],[3],[]⟩ N (aL s2 u00 (ic (AF u00)) 0 (so3++FG (A2 IV.toStr (AO 0 (AK n4 u01))))) (DM 2 (DN (H4 N) (DF KE [1,1,1,1,1,1,1,1]) (DP (H4 N) none [.tmp 2] [[.str]])))) none):=by kernel_rfl
theorem Nc (N:Nat) (s2:BA) (l43:LI) (x44 x45:Int) (so3:BA) (again:St→DJ) (k:Out→St→DJ):EX (H4 N) (DF KE [1,1,1,1,1,1,1,0,1,0,0]) (aL s2 l43 x44 x45 so3) (ED again ⟨[2,3,43,44,45],[3],[]⟩ k)=(cond (decide (x45 < x44)) (cond (decide (0≤x45)&&decide (x45 < ic (AF l43))) (cond (B6 (AF (AO 0 (AK 3 [IV.str {data:=#[116,114,101,101]},IV.str (DL (IV.toInt (IV.cell (AH l43 (AD x45) default) 0))),IV.str (DL (ic (AF (IV.toList (IV.cell (AH l43 (AD x45) default) 1)))))]))) 1000&&decide (AG so3+AG (FG (A2 IV.toStr (AO 0 (AK 3 [IV.str {data:=#[116,114,101,101]},IV.str (DL (IV.toInt (IV.cell (AH l43 (AD x45) default) 0))),IV.str (DL (ic (AF (IV.toList (IV.cell (AH l43 (AD x45) default) 1)))))]))))≤1000000000)) (DT (H4 N) (DF KE [1,1,1,1,1,1,1,0,1,0,0,1,1,0,0,1,1,1,0,0]) ⟨[2,3,43,44,45,59,60,61],[3],[]⟩ N (X9 s2 l43 x44 x45 (IV.toList (IV.cell (AH l43 (AD x45) default) 1)) (ic (AF (IV.toList (IV.cell (AH l43 (AD x45) default) 1)))) 0 (so3++FG (A2 IV.toStr (AO 0 (AK 3 [IV.str {data:=#[116,114,101,101]},IV.str (DL (IV.toInt (IV.cell (AH l43 (AD x45) default) 0))),IV.str (DL (ic (AF (IV.toList (IV.cell (AH l43 (AD x45) default) 1)))))]))))) (DM 4 (DM 3 (DN (H4 N) (DF KE [1,1,1,1,1,1,1,0,1,0,0,1,1,1]) (ED again ⟨[2,3,43,44,45],[3],[]⟩ k))))) none) none) (k (.exit 2) (aL s2 l43 x44 x45 so3))):=by kernel_rfl
theorem Nf (N:Nat) (s2:BA) (l43:LI) (x44 x45:Int) (l59:LI) (x60 x61:Int) (so3:BA) (again:St→DJ) (k:Out→St→DJ):EX (H4 N) (DF KE [1,1,1,1,1,1,1,0,1,0,0,1,1,0,0,1,1,1,0,0]) (X9 s2 l43 x44 x45 l59 x60 x61 so3) (ED again ⟨[2,3,43,44,45,59,60,61],[3],[]⟩ k)=(cond (decide (x61 < x60)) (cond (decide (0≤x61)&&decide (x61 < ic (AF l59))) (cond (Nd.lf (DH (IV.toInt (AH l59 (AD x61) default)))) (cond (B6 (AF (AO 0 (AK 2 [IV.str {data:=#[108,101,97,102]},IV.str (DQ (Nd.v (DH (IV.toInt (AH l59 (AD x61) default)))))]))) 1000&&decide (AG so3+AG (FG (A2 IV.toStr (AO 0 (AK 2 [IV.str {data:=#[108,101,97,102]},IV.str (DQ (Nd.v (DH (IV.toInt (AH l59 (AD x61) default)))))]))))≤1000000000)) (again (X9 s2 l43 x44 x45 l59 x60 (AA AB (x61+1)) (so3++FG (A2 IV.toStr (AO 0 (AK 2 [IV.str {data:=#[108,101,97,102]},IV.str (DQ (Nd.v (DH (IV.toInt (AH l59 (AD x61) default)))))])))))) none) (cond (B6 (AF (AO 0 (AK 8 [IV.str {data:=#[105,102]},IV.str (DL (Nd.f (DH (IV.toInt (AH l59 (AD x61) default))))),IV.str {data:=#[60,61]},IV.str (DQ (Nd.a (DH (IV.toInt (AH l59 (AD x61) default))))),IV.str {data:=#[116,104,101,110]},IV.str (DL (Nd.l (DH (IV.toInt (AH l59 (AD x61) default))))),IV.str {data:=#[101,108,115,101]},IV.str (DL (Nd.r (DH (IV.toInt (AH l59 (AD x61) default)))))]))) 1000&&decide (AG so3+AG (FG (A2 IV.toStr (AO 0 (AK 8 [IV.str {data:=#[105,102]},IV.str (DL (Nd.f (DH (IV.toInt (AH l59 (AD x61) default))))),IV.str {data:=#[60,61]},IV.str (DQ (Nd.a (DH (IV.toInt (AH l59 (AD x61) default))))),IV.str {data:=#[116,104,101,110]},IV.str (DL (Nd.l (DH (IV.toInt (AH l59 (AD x61) default))))),IV.str {data:=#[101,108,115,101]},IV.str (DL (Nd.r (DH (IV.toInt (AH l59 (AD x61) default)))))]))))≤1000000000)) (again (X9 s2 l43 x44 x45 l59 x60 (AA AB (x61+1)) (so3++FG (A2 IV.toStr (AO 0 (AK 8 [IV.str {data:=#[105,102]},IV.str (DL (Nd.f (DH (IV.toInt (AH l59 (AD x61) default))))),IV.str {data:=#[60,61]},IV.str (DQ (Nd.a (DH (IV.toInt (AH l59 (AD x61) default))))),IV.str {data:=#[116,104,101,110]},IV.str (DL (Nd.l (DH (IV.toInt (AH l59 (AD x61) default))))),IV.str {data:=#[101,108,115,101]},IV.str (DL (Nd.r (DH (IV.toInt (AH l59 (AD x61) default)))))])))))) none)) none) (k (.exit 4) (X9 s2 l43 x44 x45 l59 x60 x61 so3))):=by kernel_rfl
theorem Zj (N:Nat) (s2:BA) (l43:LI) (x44 x45:Int) (so3:BA):(DM 2 (DN (H4 N) (DF KE [1,1,1,1,1,1,1,1]) (DP (H4 N) none [.tmp 2] [[.str]]))) (.exit 2) (aL s2 l43 x44 x45 so3)=(some ((.str so3),[])):=by kernel_rfl
theorem Zk (N:Nat) (again:St→DJ) (k:Out→St→DJ) (s2:BA) (l43:LI) (x44 x45:Int) (l59:LI) (x60 x61:Int) (so3:BA):(DM 4 (DM 3 (DN (H4 N) (DF KE [1,1,1,1,1,1,1,0,1,0,0,1,1,1]) (ED again ⟨[2,3,43,44,45],[3],[]⟩ k)))) (.exit 4) (X9 s2 l43 x44 x45 l59 x60 x61 so3)=(again (aL s2 l43 x44 (AA AB (x45+1)) so3)):=by kernel_rfl
def Si (N:Nat):Env:=D0 [(105,YD),(94,TQ),(44,YF)] [] 10 N
theorem ze1 (N:Nat) (b:BA) (u00:LI):DV (Si N) yV [] [] [.bor [.bld b],.list false [.str] u00]=(cond (decide (AF u00≤strMax)&&decide (AG (F9 (A2 IV.toStr u00) {data:=#[32]})≤strMax)) (cond (decide (AG b+AG (F9 (A2 IV.toStr u00) {data:=#[32]})≤strMax)) (cond (decide (AG (b++F9 (A2 IV.toStr u00) {data:=#[32]})+1≤strMax)) (some ((.tup []),[[(.bld (ByteArray.push (b++F9 (A2 IV.toStr u00) {data:=#[32]}) (MZ 10)))]])) none) none) none):=by kernel_rfl
def Sj (N:Nat):Env:=D0 [(64,MX)] [] 26 N
theorem ze2 (N:Nat) (u00:LI):DV (Sj N) yW [.tmp 2] [[.list false [.str]]] [.bor [.list false [.str] u00]]=(cond (ic (AF u00)==0) (some ((.list false [.str] []),[[.list false [.str] u00]])) (cond (decide (0≤0)&&decide (0 < ic (AF u00))) (cond (decide (0≤1)&&decide (1≤ic (AF u00))) (cond (decide (AG (IV.toStr (AH u00 (AD 0) default)) < 4294967281)&&decide (1≤AG {data:=#[32]})) (some ((.list false [.str] (A2 IV.str (D1 (IV.toStr (AH u00 (AD 0) default)) {data:=#[32]}))),[[.list false [.str] (AO (AD 1) (AK (AF u00) u00))]])) none) none) none)):=by kernel_rfl
def Sm (N:Nat):Env:=D0 [] [] 13 N
theorem ze5 (N:Nat) (l:LI) (i:Int):DV (Sm N) yZ [.tmp 4] [[.str]] [.list false [.str] l,.i i]=(cond (decide (i≥ic (AF l))) (some ((.str ({data:=#[]})),[])) (cond (decide (0≤i)&&decide (i < ic (AF l))) (some ((.str (IV.toStr (AH l (AD i) default))),[])) none)):=by kernel_rfl
def Sh (N:Nat):Env:=D0 [(122,QS)] [] 24 N
theorem ze0 (N:Nat) (s:BA) (most:Int):DV (Sh N) yU [.tmp 4] [[.z]] [.str s,.i most]=(cond (!LC s) (some ((.i 0),[])) (cond (decide (FA s < 0)) (some ((.i 0),[])) (cond (decide (FA s > most)) (some ((.i 0),[])) (some ((.i (FA s)),[]))))):=by kernel_rfl
def Sl (N:Nat):Env:=D0 [(131,V1)] [] 11 N
theorem ze4 (N:Nat) (s:BA):DV (Sl N) yY [.tmp 2] [[.z]] [.str s]=(cond (decide (AG s < 4294967281)) (some ((.i (F1 s)),[])) none):=by kernel_rfl
def Sk (N:Nat):Env:=D0 [(113,V6),(67,WD),(66,WE),(69,WF),(68,WG)] [] 28 N
theorem ze3 (N:Nat) (u00:LI):DV (Sk N) yX [.tmp 2] [[.int .u64]] [.bor [.list false [.str] u00]]=(cond (J5 u00) (cond (AX (DU (EW u00) (AD 0))==AX {data:=#[108,101,97,102]}) (cond (decide (AG (DU (EW u00) (AD 1)) < 4294967281)) (some ((.int .u64 (IM {lf:=true,v:=F1 (DU (EW u00) (AD 1)),f:=0,a:=0,l:=0,r:=0})),[[.list false [.str] (AO 1 u00)]])) none) (cond (decide (AG (DU (EW u00) (AD 3)) < 4294967281)) (some ((.int .u64 (IM {lf:=false,v:=0,f:=FB (DU (EW u00) (AD 1)) 4,a:=F1 (DU (EW u00) (AD 3)),l:=FB (DU (EW u00) (AD 5)) 31,r:=FB (DU (EW u00) (AD 7)) 31})),[[.list false [.str] (AO 1 u00)]])) none)) none):=by kernel_rfl
def Rh (N:Nat):Env:=D0 [] [] 21 N
theorem zei (N:Nat) (s u00:BA):DV (Rh N) xU [.tmp 4] [[.bool]] [.str s,.str u00]=(cond (decide (ic (AG s)≥ic (AG u00))) (cond (decide (0≤AA AB (ic (AG s) - ic (AG u00)))&&decide (AA AB (ic (AG s) - ic (AG u00))≤ic (AG s))) (some ((.bool (AX (vaP s (AD (AA AB (ic (AG s) - ic (AG u00)))) (AG s))==AX u00)),[])) none) (some ((.bool false),[]))):=by kernel_rfl
def Ri (N:Nat):Env:=D0 [(186,cF)] [] 16 N
theorem zej (N:Nat) (s u00:BA):DV (Ri N) xV [.tmp 4] [[.str]] [.str s,.str u00]=(cond (SO s u00) (cond (decide (0≤AA AB (ic (AG s) - ic (AG u00)))&&decide (AA AB (ic (AG s) - ic (AG u00))≤ic (AG s))) (some ((.str (vaP s 0 (AD (AA AB (ic (AG s) - ic (AG u00)))))),[])) none) (some ((.str s),[]))):=by kernel_rfl
def Sg (N:Nat):Env:=D0 [(130,cG)] [] 8 N
theorem zeX (N:Nat) (s u00:BA):DV (Sg N) yT [.tmp 4] [[.str]] [.str s,.str u00]=(some ((.str (F3 s u00)),[])):=by kernel_rfl
open Go Go.Proofs
theorem zcu (l:List BA) (h:∀ w∈l,w.size≤100):(F9 l GR).size≤101*l.length:=by
 have hs:(F9 l GR).size=(Lib.join (l.map (·.data.toList)) [32]).length:=by
  show (Array.size (List.toArray _))=_;rw [C9]
 rw [hs];cases l with
 | nil=>simp [Lib.join_nil]
 | cons x r=>
  rw [AZ,Lib.join_length]
  have:∀ (r:List BA),(∀ w∈r,w.size≤100)→Lib.lens (r.map (·.data.toList))≤100*r.length:=fun r=>by
   induction r with
   | nil=>intro _; simp [Lib.lens]
   | cons y r ih=>
    intro h;have h1:=h y (AR ..);rw [S1] at h1;have h2:=ih (fun w hw=>h w (AY _ hw));rw [AZ,AN];simp only [Lib.lens,AZ,vbb] at h2 ⊢;omega
  have:=this (x :: r) h
  rw [AZ] at this;simp only [AN,BQ,BB] at this ⊢;omega
theorem e9 (ws:List BA) (hl:ws.length≤8) (h:∀ w∈ws,w.size≤100):(FG ws).size≤809:=by
 unfold FG
 have:=zcu ws h
 rw [A3];have e:AG PG=1:=rfl;rw [e];omega
theorem tU:∀ (a b:List (List BA)),FY (a++b)=FY a++FY b
 | [],b=>by
  show FY b=CG++FY b;rw [ByteArray.empty_append]
 | l :: a,b=>by
  rw [C3,FY,FY,tU a b,vah]
theorem tW:∀ (L:List (List BA)),(∀ l∈L,l.length≤8∧∀ w∈l,w.size≤100)→(FY L).size≤809*L.length
 | [],_=>by
  have:AG (FY [])=0:=rfl
  omega
 | l :: L,h=>by
  have h1:=e9 l (h l (AR ..)).1 (h l (AR ..)).2;have h2:=tW L fun x hx=>h x (AY _ hx)
  rw [FY,A3,AN];omega
theorem W3 {n:Int} (h:D7 n):(DL n).size≤100:=by
 have:=Y6 h.1 h.2
 omega
theorem fQ {n:Int} (h:D7 n):(DQ n).size≤100:=by
 have:=(XL n h).2
 omega
theorem oV {n:Int} (h:EZ n=true) : -2147483648≤n∧n≤2147483647:=by
 unfold EZ at h
 rwa [AI,AP,AP] at h
structure Nd.In (x:Nd):Prop where
 v : -2147483648≤x.v∧x.v≤2147483647
 f:0≤x.f∧x.f < 4
 a : -2147483648≤x.a∧x.a≤2147483647
 l:0≤x.l∧x.l < 31
 r:0≤x.r∧x.r < 31
 lf:x.lf=true→x.f=0∧x.a=0∧x.l=0∧x.r=0
 fk:x.lf=false→x.v=0
theorem zgR {x:Nd} (h:MN x=true):x.In:=by
 obtain ⟨lf,v,f,a,l,r⟩:=x;unfold MN at h;cases lf with
 | true=>
  simp only [B1,AI,Nd.eq,B8] at h;obtain ⟨⟨_,_,h1,h2,h3,h4,_⟩,hv⟩:=h;subst h1 h2 h3 h4;have z4:(0:Int)≤0∧(0:Int) < 4:=by decide
  have z31:(0:Int)≤0∧(0:Int) < 31:=by decide
  have zf:(-2147483648:Int)≤0∧(0:Int)≤2147483647:=by decide
  exact ⟨oV hv,z4,zf,z31,z31,fun _=>⟨rfl,rfl,rfl,rfl⟩,fun h=>Bool.noConfusion h⟩
 | false=>
  simp only [BG,AI,B8,AP,QV] at h;obtain ⟨hv,hf0,hf1,ha,⟨hl0,hl1⟩,hr0,hr1⟩:=h;subst hv;have zf:(-2147483648:Int)≤0∧(0:Int)≤2147483647:=by decide
  have l0:(0:Int)≤l:=by omega
  have r0:(0:Int)≤r:=by omega
  exact ⟨zf,⟨hf0,hf1⟩,oV ha,⟨l0,hl1⟩,⟨r0,hr1⟩,fun h=>Bool.noConfusion h,fun _=>rfl⟩
theorem Ff {x:Nd} (h:x.In):(LU x).length≤8∧∀ w∈LU x,w.size≤100:=by
 have hv:D7 x.v:=by have:=h.v; unfold D7; omega
 have hf:D7 x.f:=by have:=h.f; unfold D7; omega
 have ha:D7 x.a:=by have:=h.a; unfold D7; omega
 have hl:D7 x.l:=by have:=h.l; unfold D7; omega
 have hr:D7 x.r:=by have:=h.r; unfold D7; omega
 unfold LU;cases x.lf with
 | true=>
  refine ⟨by simp,fun w hw=>?_⟩;simp only [B1,AS,BW,CU] at hw;rcases hw with rfl | rfl
  ·decide
  ·exact fQ hv
 | false=>
  refine ⟨by simp,fun w hw=>?_⟩;simp only [BG,AS,BW,CU] at hw;rcases hw with rfl | rfl | rfl | rfl | rfl | rfl | rfl | rfl
  ·decide
  ·exact W3 hf
  ·decide
  ·exact fQ ha
  ·decide
  ·exact W3 hl
  ·decide
  ·exact W3 hr
theorem Fj {dim n:Int}:∀ {l:LI} {i:Nat},J3 dim n i l=true→∀ w∈l,F6 w.toInt=true
 | [],_,_,w,hw=>by cases hw
 | x :: l,i,h,w,hw=>by
  unfold J3 at h;rw [AI,AI] at h;rcases AS.1 hw with rfl | hw
  ·exact h.1.1
  ·exact Fj h.2 w hw
theorem Fe {w:Int} (h:F6 w=true):(DH w).In:=by
 have hn:DH w=XM w:=by unfold DH; rw [h]; rfl
 unfold F6 at h;simp only [AI,B5,B8,A8] at h;rw [hn];apply zgR;cases hr:MN (XM w) with
 | true=>rfl
 | false=>
  have:=h.2
  unfold IM at this;rw [hr] at this;exact absurd this.symm h.1
theorem ziD:DS PR B0 50 dD:=by
 refine D2 [(105,YD),(94,TQ),(44,YF)] [] dD [] Tryz.func50 zb5 ⟨Kq,tA,Ks,trivial⟩ ?_;intro vs r hwf h;unfold dD at h;split at h
 ·rename_i s ws;cases hc:(B6 ws.length 1000&&decide (s.size+(FG (ws.map IV.toStr)).size≤1000000000)) with
  | false=>rw [hc] at h; simp [R.get] at h
  | true=>
   rw [hc,R.get_br,DE,R.get_ok] at h;rw [AI,AP] at hc;have h1:=AM hc.1;have h2:=hc.2;have m:strMax=140737488355327:=rfl;refine ⟨0,?_⟩;rw [← h];refine (ze1 0 s ws).trans ?_;have e:ByteArray.push (s++F9 (ws.map IV.toStr) GR) (MZ 10)=s++FG (ws.map IV.toStr):=by
    apply TW;unfold FG;simp;rfl
   have e2:(FG (ws.map IV.toStr)).size=(F9 (ws.map IV.toStr) GR).size+1:=by
    unfold FG;rw [A3];rfl
   rw [e2] at h2;rw [AE (show ws.length≤strMax by omega),AE (show (F9 (ws.map IV.toStr) GR).size≤strMax by omega),AE (show s.size+(F9 (ws.map IV.toStr) GR).size≤strMax by omega),
    AE (show AG (s++F9 (ws.map IV.toStr) GR)+1≤strMax by rw [A3]; omega),BY,DE,DE,DE,e]
 ·simp [R.get] at h
theorem zcT (s:BA) (hs:s.size < 4294967281):∀ i,(DU (G4 s) i).size < 4294967281:=by
 intro i;unfold DU;rw [BS];cases h:(G4 s)[i]? with
 | none=>decide
 | some x=>
  have hx:x∈G4 s:=vab h;unfold G4 at hx;obtain ⟨w,hw,rfl⟩:=CN.1 hx
  have:=(XS GR _ s).2 w hw
  exact Nat.lt_of_le_of_lt this hs
theorem qL {ls:LI} (h:J5 ls=true) (i:Nat):(DU (EW ls) i).size < 4294967281:=by
 unfold J5 at h;cases ls with
 | nil=>
  show AG (IV.toStr (AH [] i default)) < _;rw [List.getD_nil];decide
 | cons l r=>
  rw [vaM,AI,AP] at h;exact zcT _ h.1 i
theorem XH {ls:LI} (h:J5 ls=true) (k:Nat):J5 (ls.drop k)=true:=by
 unfold J5 at h ⊢;rw [CS] at h ⊢;exact fun x hx=>h x (vay hx)
theorem Kw:DS PR B0 66 WE:=by
 refine D2 [(64,MX)] [] WE [[.list false [.str]]] Tryz.func66 zb6 ⟨ZZ,trivial⟩ ?_;intro vs r hwf h;unfold WE at h;split at h
 ·rename_i ls;cases hc:J5 ls with
  | false=>rw [hc] at h; simp [R.get] at h
  | true=>
   rw [hc,R.get_br,DE,R.get_ok] at h;refine ⟨0,?_⟩;rw [← h];refine (ze2 0 ls).trans ?_;cases ls with
   | nil=>rfl
   | cons l r=>
    unfold J5 at hc;rw [vaM,AI] at hc;have e0:(ic (AF (l :: r))==0)=false:=by
     rw [TU];exact AL (by simp only [ic,AN]; omega)
    have e1:IV.toStr (AH (l :: r) (AD 0) default)=l.toStr:=rfl;have e2:AO (AD 1) (AK (AF (l :: r)) (l :: r))=AO 1 (l :: r):=by rw [BI]; rfl
    have e3:decide (1≤AG GR)=true:=rfl;rw [e0,e1,e2,e3,hc.1,DG];simp only [AE (show (0:Int) < ic (AF (l :: r)) by simp only [ic,AN]; omega),AE (show (1:Int)≤ic (AF (l :: r)) by simp only [ic,AN]; omega)];rfl
 ·simp [R.get] at h
theorem Ky:DS PR B0 68 WG:=by
 refine D2 [] [] WG [[.str]] Tryz.func68 zb9 trivial ?_;intro vs r hwf h;unfold WG at h;split at h
 ·rename_i l i;cases hc:decide (0≤i) with
  | false=>rw [hc] at h; simp [R.get] at h
  | true=>
   rw [hc,R.get_br,DE,R.get_ok] at h;have h0:=A0 hc;refine ⟨0,?_⟩;rw [← h];refine (ze5 0 l i).trans ?_;cases hi:decide (i≥ic l.length) with
   | true=>
    have hi:=A0 hi;simp only [ic] at hi;have e:DU l i.toNat=CG:=by
     unfold DU;rw [BS,BU (by omega)];rfl
    rw [e,DE];rfl
   | false=>
    have hi:=BH hi;rw [DG,AE h0,AE (show i < ic l.length by omega),BY,DE];rfl
 ·simp [R.get] at h
theorem Kv:DS PR B0 67 WD:=by
 refine D2 [(122,QS)] [] WD [[.z]] Tryz.func67 zb4 ⟨lR,trivial⟩ ?_;intro vs r hwf h;unfold WD at h;split at h
 ·rename_i s most;refine ⟨0,?_⟩;rw [R.get_ok] at h;rw [← h];refine (ze0 0 s most).trans ?_;unfold FB;cases LC s <;> cases decide (FA s < 0) <;> cases decide (FA s > most) <;> rfl
 ·simp [R.get] at h
theorem Kx:DS PR B0 69 WF:=by
 refine D2 [(131,V1)] [] WF [[.z]] Tryz.func69 zb8 ⟨Kb,trivial⟩ ?_;intro vs r hwf h;unfold WF at h;split at h
 ·rename_i s;cases hc:decide (s.size < 4294967281) with
  | false=>rw [hc] at h; simp [R.get] at h
  | true=>
   rw [hc,R.get_br,DE,R.get_ok] at h;refine ⟨0,?_⟩;rw [← h];refine (ze4 0 s).trans ?_;rw [hc,DE]
 ·simp [R.get] at h
theorem ziE:DS PR B0 70 dE:=by
 refine D2 [(113,V6),(67,WD),(66,WE),(69,WF),(68,WG)] [] dE [[.int .u64]] Tryz.func70 zb7 ⟨Kk,Kv,Kw,Kx,Ky,trivial⟩ ?_;intro vs r hwf h;unfold dE at h;split at h
 ·rename_i ls;cases hc:J5 ls with
  | false=>rw [hc] at h; simp [R.get] at h
  | true=>
   rw [hc,R.get_br,DE,R.get_ok] at h;refine ⟨0,?_⟩;rw [← h];refine (ze3 0 ls).trans ?_;rw [hc,DE,AE (qL hc (AD 1)),AE (qL hc (AD 3)),DE,DE];unfold ND;have e:(AX (DU (EW ls) (AD 0))==AX { data:=#[108,101,97,102] })=((DU (EW ls) 0).toList==S6.toList):=rfl;rw [e];cases ((DU (EW ls) 0).toList==S6.toList) <;> rfl
 ·simp [R.get] at h
theorem zh4:DS PR B0 186 cF:=by
 refine D2 [] [] cF [[.bool]] Tryz.func186 zbp trivial ?_;intro vs r hwf h;unfold cF at h;split at h
 ·rename_i s t;refine ⟨0,?_⟩;rw [R.get_ok] at h;rw [← h];refine (zei 0 s t).trans ?_;have hb:=hwf (by simp [K2]);have hs:s.size≤strMax:=hb.1;have m:strMax=140737488355327:=rfl;unfold SO;by_cases hl:t.size≤s.size
  ·have e:AA AB (ic s.size - ic t.size)=((s.size - t.size:Nat):Int):=by
    rw [EI (by simp only [ic]; omega) (by simp only [ic]; omega)];simp only [ic];omega
   rw [e,AE (show ic s.size≥ic t.size by simp only [ic]; omega),DE,AE (show (0:Int)≤((s.size - t.size:Nat):Int) by omega),AE (show ((s.size - t.size:Nat):Int)≤ic s.size by simp only [ic]; omega),BY,DE,AE hl,BC,BE]
  ·rw [AL (show ¬ ic s.size≥ic t.size by simp only [ic]; omega),DG,AL hl,BM]
 ·simp [R.get] at h
theorem zh5:DS PR B0 130 cG:=by
 refine D2 [(186,cF)] [] cG [[.str]] Tryz.func130 zbq ⟨zh4,trivial⟩ ?_;intro vs r hwf h;unfold cG at h;split at h
 ·rename_i s t;refine ⟨0,?_⟩;rw [R.get_ok] at h;rw [← h];refine (zej 0 s t).trans ?_;have hb:=hwf (by simp [K2]);have hs:s.size≤strMax:=hb.1;have m:strMax=140737488355327:=rfl;unfold F3;cases hh:SO s t with
  | false=>rfl
  | true=>
   have hl:t.size≤s.size:=by
    unfold SO at hh;rw [AI,AP] at hh;exact hh.1
   have e:AA AB (ic s.size - ic t.size)=((s.size - t.size:Nat):Int):=by
    rw [EI (by simp only [ic]; omega) (by simp only [ic]; omega)];simp only [ic];omega
   rw [e,DE,DE,AE (show (0:Int)≤((s.size - t.size:Nat):Int) by omega),AE (show ((s.size - t.size:Nat):Int)≤ic s.size by simp only [ic]; omega),BY,DE,BE]
 ·simp [R.get] at h
theorem tC:DS PR B0 65 R7:=by
 refine D2 [(130,cG)] [] R7 [[.str]] Tryz.func65 zb1 ⟨zh5,trivial⟩ ?_;intro vs r hwf h;unfold R7 at h;split at h
 ·rename_i s t;refine ⟨0,?_⟩;rw [R.get_ok] at h;rw [← h];exact zeX 0 s t
 ·simp [R.get] at h
abbrev Pj (ts:LI) (i:Int) (l:LI) (j:Int) (so:BA):St:=
 ⟨[(2,(.str { data:=#[] })),(3,(.ptr 3 0 0)),(43,(.list true [.z,(.list false [(.int .u64)])] ts)),(44,(.int .i64 (ic ts.length))),(45,(.int .i64 i)),(59,(.list false [(.int .u64)] l)),(60,(.int .i64 (ic l.length))),(61,(.int .i64 j))],[(3,(some (.bld so)))]⟩
theorem Fp (N:Nat) (ts:LI) (i:Int) (l:LI) (hl:l.length≤31) (hn:∀ w∈l,F6 w.toInt=true) (K:Out→St→DJ):∀ (d j n:Nat) (so:BA),j+d=l.length→d < n→so.size+809*d≤1000000000 →
  DT (H4 N) (DF KE [1,1,1,1,1,1,1,0,1,0,0,1,1,0,0,1,1,1,0,0]) ⟨[2,3,43,44,45,59,60,61],[3],[]⟩ n (Pj ts i l (j:Int) so) K =
   K (.exit 4) (Pj ts i l (ic l.length) (so++FY (HI (l.drop j))))
 | d,j,0,_,_,h,_=>absurd h (by omega)
 | 0,j,n+1,so,hd,_,_=>by
  have hj:j=l.length:=by omega
  subst hj;rw [DX,Nf,AL (show ¬ ((l.length:Nat):Int) < ic l.length by simp only [ic]; omega),DG,vad];have e:so++FY (HI [])=so:=by
   show so++CG=so;rw [ByteArray.append_empty]
  rw [e]
 | d+1,j,n+1,so,hd,hn',hz=>by
  have hjl:j < l.length:=by omega
  have ej:AA AB ((j:Int)+1)=((j+1:Nat):Int):=by
   rw [EI (by omega) (by omega)];omega
  have hg:l.getD (AD (j:Int)) default=l[j]:=by
   rw [BE,BS,A5 hjl];rfl
  have hin:=Fe (hn l[j] (C4 hjl));have hw:=Ff hin;have hls:=e9 _ hw.1 hw.2;rw [DX,Nf,ej,hg,AE (show (j:Int) < ic l.length by simp only [ic]; omega),DE,AE (show (0:Int)≤(j:Int) by omega),BY,DE,BF hjl];have hr:FY (HI (l[j] :: l.drop (j+1)))=FG (LU (DH l[j].toInt))++FY (HI (l.drop (j+1))):=rfl;rw [hr,← vah];have ih:=Fp N ts i l hl hn K d (j+1) n (so++FG (LU (DH l[j].toInt))) (by omega) (by omega) (by rw [A3]; omega);rw [← ih];have hsz:decide (so.size+(FG (LU (DH l[j].toInt))).size≤1000000000)=true:=AE (by omega);revert hsz;unfold LU;cases (DH l[j].toInt).lf with
  | true=>
   intro hsz;have hsz:decide (AG so+AG (FG [S6,DQ (DH l[j].toInt).v])≤1000000000)=true:=hsz;have e:A2 IV.toStr (AO 0 (AK 2 [IV.str { data:=#[108,101,97,102] },IV.str (DQ (Nd.v (DH (IV.toInt l[j]))))]))=[S6,DQ (DH l[j].toInt).v]:=rfl;rw [DE,e,hsz];rfl
  | false=>
   intro hsz;have hsz:decide (AG so+AG (FG [mI,DL (DH l[j].toInt).f,uJ,DQ (DH l[j].toInt).a,uK,DL (DH l[j].toInt).l,uI,DL (DH l[j].toInt).r])≤1000000000)=true:=hsz;have e:A2 IV.toStr (AO 0 (AK 8 [IV.str { data:=#[105,102] },IV.str (DL (Nd.f (DH (IV.toInt l[j])))),IV.str { data:=#[60,61] },IV.str (DQ (Nd.a (DH (IV.toInt l[j])))),IV.str { data:=#[116,104,101,110] },IV.str (DL (Nd.l (DH (IV.toInt l[j])))),IV.str { data:=#[101,108,115,101] },IV.str (DL (Nd.r (DH (IV.toInt l[j]))))]))=[mI,DL (DH l[j].toInt).f,uJ,DQ (DH l[j].toInt).a,uK,DL (DH l[j].toInt).l,uI,DL (DH l[j].toInt).r]:=rfl;rw [DG,e,hsz];rfl
theorem Ny {d c:Int} {t:IV} (h:G8 d c t=true):0≤(t.cell 0).toInt∧(t.cell 0).toInt < c∧1≤(t.cell 1).toList.length∧(t.cell 1).toList.length≤31∧∀ w∈(t.cell 1).toList,F6 w.toInt=true:=by
 unfold G8 GK at h;simp only [AI,B5,BV] at h;obtain ⟨h1,h2,⟨h3,h4⟩,h5,_⟩:=h;exact ⟨by omega,by omega,AM h3,AM h4,Fj h5⟩
theorem Oa {d c:Int} {t:IV} (hc:c≤3) (h:G8 d c t=true):(∀ l∈S4 t,l.length≤8∧∀ w∈l,w.size≤100)∧(S4 t).length≤32:=by
 obtain ⟨h1,h2,h3,h4,h5⟩:=Ny h;constructor
 ·intro l hl;unfold S4 at hl;rcases AS.1 hl with rfl | hl
  ·refine ⟨by simp,fun w hw=>?_⟩;simp only [AS,BW,CU] at hw;rcases hw with rfl | rfl | rfl
   ·decide
   ·exact W3 (by unfold D7; omega)
   ·exact W3 (by unfold D7; simp only [ic]; omega)
  ·unfold HI at hl;obtain ⟨w,hw,rfl⟩:=CN.1 hl;exact Ff (Fe (h5 w hw))
 ·unfold S4 HI;rw [AN,BQ];omega
abbrev Pk (ts:LI) (i:Int) (so:BA):St:=
 ⟨[(2,(.str { data:=#[] })),(3,(.ptr 3 0 0)),(43,(.list true [.z,(.list false [(.int .u64)])] ts)),(44,(.int .i64 (ic ts.length))),(45,(.int .i64 i))],[(3,(some (.bld so)))]⟩
theorem Og (N:Nat) (hN:40≤N) (d c:Int) (hc:c≤3) (ts:LI) (hl:ts.length≤8) (ht:ts.all (G8 d c)=true) (K:Out→St→DJ):∀ (m i n:Nat) (so:BA),i+m=ts.length→m < n→so.size+30000*m≤1000000000 →
  DT (H4 N) (DF KE [1,1,1,1,1,1,1,0,1,0,0]) ⟨[2,3,43,44,45],[3],[]⟩ n (Pk ts (i:Int) so) K =
   K (.exit 2) (Pk ts (ic ts.length) (so++FY (GH (ts.drop i))))
 | m,i,0,_,_,h,_=>absurd h (by omega)
 | 0,i,n+1,so,hd,_,_=>by
  have hi:i=ts.length:=by omega
  subst hi;rw [DX,Nc,AL (show ¬ ((ts.length:Nat):Int) < ic ts.length by simp only [ic]; omega),DG,vad];have e:so++FY (GH [])=so:=by
   show so++CG=so;rw [ByteArray.append_empty]
  rw [e]
 | m+1,i,n+1,so,hd,hn,hz=>by
  have hil:i < ts.length:=by omega
  have ei:AA AB ((i:Int)+1)=((i+1:Nat):Int):=by
   rw [EI (by omega) (by omega)];omega
  have hg:ts.getD (AD (i:Int)) default=ts[i]:=by
   rw [BE,BS,A5 hil];rfl
  have hok:=CS.1 ht ts[i] (C4 hil);have hw:=Oa hc hok;have hts:=tW _ hw.1;obtain ⟨h1,h2,h3,h4,h5⟩:=Ny hok;have hh:∀ w∈[OF,DL (ts[i].cell 0).toInt,DL (ic (ts[i].cell 1).toList.length)],w.size≤100:=(hw.1 _ (by unfold S4; exact AR ..)).2;have hls:=e9 _ (by simp) hh;have e:A2 IV.toStr (AO 0 (AK 3 [IV.str { data:=#[116,114,101,101] },IV.str (DL (IV.toInt (IV.cell ts[i] 0))),IV.str (DL (ic (AF (IV.toList (IV.cell ts[i] 1)))))]))=[OF,DL (ts[i].cell 0).toInt,DL (ic (ts[i].cell 1).toList.length)]:=rfl;have el:B6 (AF (AO 0 (AK 3 [IV.str { data:=#[116,114,101,101] },IV.str (DL (IV.toInt (IV.cell ts[i] 0))),IV.str (DL (ic (AF (IV.toList (IV.cell ts[i] 1)))))]))) 1000=true:=rfl;rw [DX,Nc,hg,e,el,AE (show (i:Int) < ic ts.length by simp only [ic]; omega),DE,AE (show (0:Int)≤(i:Int) by omega),BY,DE,
   AE (show so.size+(FG [OF,DL (ts[i].cell 0).toInt,DL (ic (ts[i].cell 1).toList.length)]).size≤1000000000 by omega),BY,DE]
  refine (Fp N ts (i:Int) (ts[i].cell 1).toList h4 h5 _ (ts[i].cell 1).toList.length 0 N (so++FG [OF,DL (ts[i].cell 0).toInt,DL (ic (ts[i].cell 1).toList.length)]) (by omega) (by omega) (by rw [A3]; omega)).trans ?_;rw [Zk,ei,BZ,BF hil];have hr:FY (GH (ts[i] :: ts.drop (i+1)))=(FG [OF,DL (ts[i].cell 0).toInt,DL (ic (ts[i].cell 1).toList.length)]++FY (HI (ts[i].cell 1).toList))++FY (GH (ts.drop (i+1))):=by
   rw [GH,tU];rfl
  rw [hr,← vah (a:=so),← vah (a:=so)];have hsz:(FG [OF,DL (ts[i].cell 0).toInt,DL (ic (ts[i].cell 1).toList.length)]++FY (HI (ts[i].cell 1).toList)).size≤26000:=by
   have:FY (S4 ts[i])=FG [OF,DL (ts[i].cell 0).toInt,DL (ic (ts[i].cell 1).toList.length)]++FY (HI (ts[i].cell 1).toList):=rfl
   rw [← this]
   have:=hw.2
   omega
  exact Og N hN d c hc ts hl ht K m (i+1) n _ (by omega) (by omega) (by rw [vah,A3]; omega)
abbrev aE (d c b0 b1 b2:Int) (ts:LI) (C:Nat) (so:BA) (ws:LI) (n:Nat) (i:Int):St:=
 ⟨[(1,(.ptr 1 0 0)),(2,(.str { data:=#[] })),(3,(.ptr 3 0 0)),(4,(.row 500 0 n)),(28,(.bview 1 2 3 1 C)),(29,(.int .i64 (ic C))),(30,(.int .i64 i))],[(1,(some (.box [(.int .i64 d),(.int .i64 c),(.int .i64 b0),(.int .i64 b1),(.int .i64 b2),(.list true [.z,(.list false [(.int .u64)])] ts)]))),(3,(some (.bld so))),(500,(some (.row true 9 false [.str] ws)))]⟩
theorem mL (N:Nat) (d c b0 b1 b2:Int) (ts:LI) (C:Nat) (so:BA) (ws:LI) (n i:Nat) (b:Int) (hi:i < C) (hn:n≤10) (h:(i=0∧b=b0)∨(i=1∧b=b1)∨(i=2∧b=b2)) (again:St→DJ) (k:Out→St→DJ) :
  EX (H4 N) (DF KE [1,1,1,1,1,0,1,0,0]) (aE d c b0 b1 b2 ts C so ws n (i:Int)) (ED again ⟨[1,2,3,4,28,29,30],[1,3,500],[⟨.tmp 4,500,9,false,[.str]⟩]⟩ k) =
   again (aE d c b0 b1 b2 ts C so (ws.take n++[.str (DQ b)]) (n+1) ((i+1:Nat):Int)):=by
 rw [lX];have ei:AA AB ((i:Int)+1)=((i+1:Nat):Int):=by
  rw [EI (by omega) (by omega)];omega
 have eb:TI.bytes (Env.tyd (H4 N) 9)=16:=rfl;have e1:∀ x:IV,AF (AO 0 (AK 1 [x]))=1:=fun x=>rfl
 rw [ei,eb,e1,e1,e1,AE (show (i:Int) < ic C by simp only [ic]; omega),DE,DE,AE (show (n+1)*16≤D6 by unfold D6; omega)];rcases h with ⟨rfl,rfl⟩ | ⟨rfl,rfl⟩ | ⟨rfl,rfl⟩ <;> rfl
theorem zjH (N:Nat) (hN:10≤N) (d b0 b1 b2:Int) (ts:LI) (C:Nat) (h1:1≤C) (h3:C≤3) (so:BA) (K:Out→St→DJ) :
  DT (H4 N) (DF KE [1,1,1,1,1,0,1,0,0]) ⟨[1,2,3,4,28,29,30],[1,3,500],[⟨.tmp 4,500,9,false,[.str]⟩]⟩ N (aE d (C:Int) b0 b1 b2 ts C so [.str IZ] 1 0) K =
   K (.exit 0) (aE d (C:Int) b0 b1 b2 ts C so ((IZ :: (([b0,b1,b2].take C).map DQ)).map IV.str) (1+C) (C:Int)):=by
 obtain ⟨M,rfl⟩:∃ M,N=M+4:=⟨N - 4,by omega⟩;have e0:aE d (C:Int) b0 b1 b2 ts C so [.str IZ] 1 0=aE d (C:Int) b0 b1 b2 ts C so [.str IZ] 1 ((0:Nat):Int):=rfl;rw [e0,DX,mL (M+4) d (C:Int) b0 b1 b2 ts C so _ 1 0 b0 (by omega) (by omega) (by simp)]
 match C,h1,h3 with
 | 1,_,_=>
  rw [DX,lX,AL (show ¬ ((0+1:Nat):Int) < ic 1 by decide),DG];rfl
 | 2,_,_=>
  rw [DX,mL (M+4) d _ b0 b1 b2 ts 2 so _ _ 1 b1 (by omega) (by omega) (by simp),DX,lX,AL (show ¬ ((1+1:Nat):Int) < ic 2 by decide),DG];rfl
 | 3,_,_=>
  rw [DX,mL (M+4) d _ b0 b1 b2 ts 3 so _ _ 1 b1 (by omega) (by omega) (by simp),DX,mL (M+4) d _ b0 b1 b2 ts 3 so _ _ 2 b2 (by omega) (by omega) (by simp),DX,lX,AL (show ¬ ((2+1:Nat):Int) < ic 3 by decide),DG];rfl
theorem qJ {m:Md} (h:EP m=true):(1≤m.d∧m.d≤4)∧(1≤m.c∧m.c≤3)∧m.ts.length≤8∧(HE m.c 0 m.b0=true∧HE m.c 1 m.b1=true∧HE m.c 2 m.b2=true)∧m.ts.all (G8 m.d m.c)=true:=by
 unfold EP at h;simp only [AI,B5,BV] at h;obtain ⟨⟨h1,h2,h3,h4,h5⟩,⟨h6,h7,h8⟩,h9⟩:=h;exact ⟨⟨by omega,by omega⟩,⟨by omega,by omega⟩,AM h5,⟨h6,h7,h8⟩,h9⟩
theorem nA {c j b:Int} (h:HE c j b=true):(-2147483648≤b∧b≤2147483647)∧(c≤j→b=0):=by
 unfold HE at h;rw [AI] at h;refine ⟨oV h.1,fun hj=>?_⟩
 have:=h.2
 rw [AE (show j≥c from hj)] at this;simpa using this
theorem Ch {m:Md} (h:EP m=true):∀ l∈SP m,l.length≤8∧∀ w∈l,w.size≤100:=by
 obtain ⟨hd,hc,_,⟨g0,g1,g2⟩,_⟩:=qJ h;have i0:=(nA g0).1;have i1:=(nA g1).1;have i2:=(nA g2).1;intro l hl;unfold SP at hl;simp only [AS,BW,CU] at hl;rcases hl with rfl | rfl
 ·refine ⟨by simp,fun w hw=>?_⟩;simp only [AS,BW,CU] at hw;rcases hw with rfl | rfl | rfl
  ·decide
  ·exact W3 (by unfold D7; omega)
  ·exact W3 (by unfold D7; omega)
 ·refine ⟨by simp only [AN,BQ,A7,BB]; omega,fun w hw=>?_⟩;rcases AS.1 hw with rfl | hw
  ·decide
  ·obtain ⟨b,hb,rfl⟩:=CN.1 hw;have hb:=vag hb;simp only [AS,BW,CU] at hb;rcases hb with rfl | rfl | rfl
   ·exact fQ (by unfold D7; omega)
   ·exact fQ (by unfold D7; omega)
   ·exact fQ (by unfold D7; omega)
set_option maxHeartbeats 1000000 in
theorem tD:DS PR B0 13 R8:=by
 refine D2 [(43,R4),(49,L6),(51,L7),(42,OM),(47,TP),(50,dD)] [(7,⟨[1,2,3,4,28,29,30],[1,3,500],[⟨.tmp 4,500,9,false,[.str]⟩]⟩),(13,⟨[2,3,43,44,45],[3],[]⟩),(17,⟨[2,3,43,44,45,59,60,61],[3],[]⟩)] R8 [[.str]] Tryz.func13 zb3 ⟨s6,ZW,ZX,gH,s9,ziD,trivial⟩ ?_;intro vs r hwf h;unfold R8 at h;split at h
 ·rename_i d c b0 b1 b2 ts;refine ⟨40,?_⟩;rw [R.get_ok] at h;rw [← h];refine (zeZ 40 d c b0 b1 b2 ts).trans ?_;unfold H3;cases hm:EP ⟨d,c,b0,b1,b2,ts⟩ with
  | false=>rfl
  | true=>
   obtain ⟨hd,hc,hl,_,ht⟩:=qJ hm;simp only at hd hc hl ht;have hh:=Ch hm;have hh1:=hh _ (List.mem_cons_self ..);have hh2:=hh _ (List.mem_cons_of_mem _ (List.mem_cons_self ..));have z1:=e9 _ hh1.1 hh1.2;have z2:=e9 _ hh2.1 hh2.2;obtain ⟨C,rfl⟩:∃ C:Nat,c=(C:Int):=⟨c.toNat,by omega⟩;have e1:List.map IV.toStr (List.drop 0 (List.take 3 [IV.str { data:=#[102,111,114,101,115,116] },IV.str (DL d),IV.str (DL (C:Int))]))=[NF,DL d,DL (C:Int)]:=rfl;have e2:Nat.ble (List.length (List.drop 0 (List.take 3 [IV.str { data:=#[102,111,114,101,115,116] },IV.str (DL d),IV.str (DL (C:Int))]))) 1000=true:=rfl;have e3:ByteArray.size ByteArray.empty=0:=rfl;have z1:(FG [NF,DL d,DL (C:Int)]).size≤809:=z1;rw [Bool.not_true,DG,DE,e1,e2,e3,decide_eq_true (show 0+(FG [NF,DL d,DL (C:Int)]).size≤1000000000 by omega),Bool.and_self,DE,decide_eq_true (show (0:Int)≤(C:Int) by omega),decide_eq_true (show (C:Int)≤ic 3 by simp only [ic]; omega),Bool.and_self,DE,Int.toNat_natCast,ByteArray.empty_append];refine (zjH 40 (by omega) d b0 b1 b2 ts C (by omega) (by omega) (FG [NF,DL d,DL (C:Int)]) _).trans ?_;rw [Zi];have e4:List.map IV.toStr (List.drop 0 (List.take (1+C) ((IZ :: (([b0,b1,b2].take C).map DQ)).map IV.str)))=IZ :: (([b0,b1,b2].take C).map DQ):=by
    match C,hc with
    | 0,hc=>exact absurd hc.1 (by decide)
    | 1,_=>rfl
    | 2,_=>rfl
    | 3,_=>rfl
    | C+4,hc=>exact absurd hc.2 (by omega)
   have e5:Nat.ble (List.length (List.drop 0 (List.take (1+C) ((IZ :: (([b0,b1,b2].take C).map DQ)).map IV.str)))) 1000=true:=by
    apply Nat.ble_eq_true_of_le;rw [List.length_drop,List.length_take];omega
   have z2:(FG (IZ :: (([b0,b1,b2].take C).map DQ))).size≤809:=by
    have:(([b0,b1,b2].take (C:Int).toNat).map DQ)=(([b0,b1,b2].take C).map DQ):=by rw [Int.toNat_natCast]
    rw [← this];exact z2
   rw [e4,e5,decide_eq_true (show (FG [NF,DL d,DL (C:Int)]).size+(FG (IZ :: (([b0,b1,b2].take C).map DQ))).size≤1000000000 by omega),Bool.and_self,DE];refine (Og 40 (by omega) d (C:Int) (by omega) ts hl ht _ ts.length 0 40 _ (by omega) (by omega) (by rw [ByteArray.size_append]; omega)).trans ?_;rw [Zj,List.drop_zero];have e6:FY (LQ ⟨d,(C:Int),b0,b1,b2,ts⟩)=FG [NF,DL d,DL (C:Int)]++FG (IZ :: (([b0,b1,b2].take C).map DQ))++FY (GH ts):=by
    show FY (SP ⟨d,(C:Int),b0,b1,b2,ts⟩++GH ts)=_;rw [tU];show FG [NF,DL d,DL (C:Int)]++(FG (IZ :: (([b0,b1,b2].take (C:Int).toNat).map DQ))++ByteArray.empty)++FY (GH ts)=_;rw [ByteArray.append_empty,Int.toNat_natCast]
   rw [e6]
 ·simp [R.get] at h
open Go Go.Proofs
def G9 (N:Nat):Env:=D0 [(64,MX),(65,R7),(13,R8),(67,WD),(66,WE),(70,dE),(69,WF),(68,WG)] [(6,⟨[0,2,3,4,6,7,28,29],[2,6,15],[]⟩),(10,⟨[0,2,3,4,6],[2,6,15,500],[⟨.cell 6 5,500,85,true,[.z,.list false [.int .u64]]⟩]⟩),(14,⟨[0,2,3,4,6,10,61,62],[2,6,10,15,500,501],[⟨.cell 6 5,500,85,true,[.z,.list false [.int .u64]]⟩,⟨.cell 10 1,501,106,false,[.int .u64]⟩]⟩)] 88 N
abbrev VP (s0:BA) (b3:Bool) (l7:LI) (x28 x29 u01 u02 u03 u04 u05 u06 u07 u08 u09 u0a:Int) (u00:LI):St:=⟨[(0,(.str s0)),(2,(.ptr 2 0 0)),(3,(.bool b3)),(4,(.ptr 15 0 0)),(6,(.ptr 6 0 0)),(7,(.list false [.str] l7)),(28,(.i x28)),(29,(.i x29))],[(2,(some (.box [.i u01,.i u02,.i u03,.i u04,.i u05,.zs]))),(6,(some (.box [.i u06,.i u07,.i u08,.i u09,.i u0a,.zs]))),(15,(some (.box [.list false [.str] u00])))]⟩
abbrev X8 (s0:BA) (b3:Bool) (u03 u04 u05 u06 u07 u08 u09 u0a u0b u0c:Int) (u02:Nat) (u00 u01:LI):St:=⟨[(0,(.str s0)),(2,(.ptr 2 0 0)),(3,(.bool b3)),(4,(.ptr 15 0 0)),(6,(.ptr 6 0 0))],[(2,(some (.box [.i u03,.i u04,.i u05,.i u06,.i u07,.zs]))),(6,(some (.box [.i u08,.i u09,.i u0a,.i u0b,.i u0c,.row 500 0 u02]))),(15,(some (.box [.list false [.str] u00]))),(500,(some (.row true 85 true [.z,.list false [.int .u64]] u01)))]⟩
abbrev aK (s0:BA) (b3:Bool) (x61 x62 u06 u07 u08 u09 u0a u0b u0c u0d u0e u0f:Int) (u04:Nat) (u05:Int) (u03:Nat) (u00 u01 u02:LI):St:=⟨[(0,(.str s0)),(2,(.ptr 2 0 0)),(3,(.bool b3)),(4,(.ptr 15 0 0)),(6,(.ptr 6 0 0)),(10,(.ptr 10 0 0)),(61,(.i x61)),(62,(.i x62))],[(2,(some (.box [.i u06,.i u07,.i u08,.i u09,.i u0a,.zs]))),(6,(some (.box [.i u0b,.i u0c,.i u0d,.i u0e,.i u0f,.row 500 0 u04]))),(10,(some (.box [.i u05,.row 501 0 u03]))),(15,(some (.box [.list false [.str] u00]))),(500,(some (.row true 85 true [.z,.list false [.int .u64]] u01))),(501,(some (.row true 106 false [.int .u64] u02)))]⟩
theorem zeY (N:Nat) (s:BA):DV (G9 N) JD [.cell 2 31,.tmp 3] [[.z,.z,.z,.z,.z,.list true [.z,.list false [.int .u64]]],[.bool]] [.str s]=(cond (decide (AG (F3 s {data:=#[10]}) < 4294967281)&&decide (1≤AG {data:=#[10]})) (cond (J5 (A2 IV.str (D1 (F3 s {data:=#[10]}) {data:=#[10]}))) (cond (J5 (AO 1 (A2 IV.str (D1 (F3 s {data:=#[10]}) {data:=#[10]})))) (DT (G9 N) (DF JD [1,1,1,1,1,0,1,0,0]) ⟨[0,2,3,4,6,7,28,29],[2,6,15],[]⟩ N (VP s false (EW (AO 1 (A2 IV.str (D1 (F3 s {data:=#[10]}) {data:=#[10]})))) (FB (DU (EW (A2 IV.str (D1 (F3 s {data:=#[10]}) {data:=#[10]}))) (AD 2)) 3) 0 0 0 0 0 0 (FB (DU (EW (A2 IV.str (D1 (F3 s {data:=#[10]}) {data:=#[10]}))) (AD 1)) 4) (FB (DU (EW (A2 IV.str (D1 (F3 s {data:=#[10]}) {data:=#[10]}))) (AD 2)) 3) 0 0 0 (AO 1 (AO 1 (A2 IV.str (D1 (F3 s {data:=#[10]}) {data:=#[10]}))))) (DM 0 (DN (G9 N) (DF JD [1,1,1,1,1,1]) (DP (G9 N) none [.cell 2 31,.tmp 3] [[.z,.z,.z,.z,.z,.list true [.z,.list false [.int .u64]]],[.bool]])))) none) none) none):=by kernel_rfl
theorem gM (N:Nat) (s0:BA) (b3:Bool) (l7:LI) (x28 x29 u01 u02 u03 u04 u05 u06 u07 u08 u09 u0a:Int) (u00:LI) (again:St→DJ) (k:Out→St→DJ):EX (G9 N) (DF JD [1,1,1,1,1,0,1,0,0]) (VP s0 b3 l7 x28 x29 u01 u02 u03 u04 u05 u06 u07 u08 u09 u0a u00) (ED again ⟨[0,2,3,4,6,7,28,29],[2,6,15],[]⟩ k)=(cond (decide (x29 < x28)) (cond (decide (0≤AA AB (1+x29))) (cond (decide (AG (DU l7 (AD (AA AB (1+x29)))) < 4294967281)) (cond (decide (x29=ic 0)) (again (VP s0 b3 l7 x28 (AA AB (x29+1)) u01 u02 u03 u04 u05 u06 u07 (F1 (DU l7 (AD (AA AB (1+x29))))) u09 u0a u00)) (cond (decide (x29=ic 1)) (again (VP s0 b3 l7 x28 (AA AB (x29+1)) u01 u02 u03 u04 u05 u06 u07 u08 (F1 (DU l7 (AD (AA AB (1+x29))))) u0a u00)) (cond (decide (x29=ic 2)) (again (VP s0 b3 l7 x28 (AA AB (x29+1)) u01 u02 u03 u04 u05 u06 u07 u08 u09 (F1 (DU l7 (AD (AA AB (1+x29))))) u00)) none))) none) none) (k (.exit 0) (VP s0 b3 l7 x28 x29 u01 u02 u03 u04 u05 u06 u07 u08 u09 u0a u00))):=by kernel_rfl
theorem Zf (N:Nat) (s0:BA) (b3:Bool) (l7:LI) (x28 x29 u01 u02 u03 u04 u05 u06 u07 u08 u09 u0a:Int) (u00:LI):(DM 0 (DN (G9 N) (DF JD [1,1,1,1,1,1]) (DP (G9 N) none [.cell 2 31,.tmp 3] [[.z,.z,.z,.z,.z,.list true [.z,.list false [.int .u64]]],[.bool]]))) (.exit 0) (VP s0 b3 l7 x28 x29 u01 u02 u03 u04 u05 u06 u07 u08 u09 u0a u00)=(DT (G9 N) (DF JD [1,1,1,1,1,1,0,0,0]) ⟨[0,2,3,4,6],[2,6,15,500],[⟨(.cell 6 5),500,85,true,[.z,.list false [.int .u64]]⟩]⟩ N (X8 s0 b3 u01 u02 u03 u04 u05 u06 u07 u08 u09 u0a 0 u00 []) (DM 2 (DN (G9 N) (DF JD [1,1,1,1,1,1,1]) (DP (G9 N) none [.cell 2 31,.tmp 3] [[.z,.z,.z,.z,.z,.list true [.z,.list false [.int .u64]]],[.bool]])))):=by kernel_rfl
theorem tN (N:Nat) (s0:BA) (b3:Bool) (u03 u04 u05 u06 u07 u08 u09 u0a u0b u0c:Int) (u02:Nat) (u00 u01:LI) (again:St→DJ) (k:Out→St→DJ):EX (G9 N) (DF JD [1,1,1,1,1,1,0,0,0]) (X8 s0 b3 u03 u04 u05 u06 u07 u08 u09 u0a u0b u0c u02 u00 u01) (ED again ⟨[0,2,3,4,6],[2,6,15,500],[⟨(.cell 6 5),500,85,true,[.z,.list false [.int .u64]]⟩]⟩ k)=(cond (decide (ic (AF u00) > 0)) (cond (decide (ic (u02 - 0)≤8)) (cond (J5 u00) (DT (G9 N) (DF JD [1,1,1,1,1,1,0,0,0,1,0,1,1,0,1,0,0]) ⟨[0,2,3,4,6,10,61,62],[2,6,10,15,500,501],[⟨(.cell 6 5),500,85,true,[.z,.list false [.int .u64]]⟩,⟨(.cell 10 1),501,106,false,[.int .u64]⟩]⟩ N (aK s0 b3 (FB (DU (EW u00) (AD 2)) 31) 0 u03 u04 u05 u06 u07 u08 u09 u0a u0b u0c u02 (FB (DU (EW u00) (AD 1)) 3) 0 (AO 1 u00) u01 []) (DM 4 (DN (G9 N) (DF JD [1,1,1,1,1,1,0,0,0,1,0,1,1,1]) (DM 3 (ED again ⟨[0,2,3,4,6],[2,6,15,500],[⟨(.cell 6 5),500,85,true,[.z,.list false [.int .u64]]⟩]⟩ k))))) none) (k (.exit 2) (X8 s0 b3 u03 u04 u05 u06 u07 u08 u09 u0a u0b u0c u02 u00 u01))) (k (.exit 2) (X8 s0 b3 u03 u04 u05 u06 u07 u08 u09 u0a u0b u0c u02 u00 u01))):=by kernel_rfl
theorem Nb (N:Nat) (s0:BA) (b3:Bool) (x61 x62 u06 u07 u08 u09 u0a u0b u0c u0d u0e u0f:Int) (u04:Nat) (u05:Int) (u03:Nat) (u00 u01 u02:LI) (again:St→DJ) (k:Out→St→DJ):EX (G9 N) (DF JD [1,1,1,1,1,1,0,0,0,1,0,1,1,0,1,0,0]) (aK s0 b3 x61 x62 u06 u07 u08 u09 u0a u0b u0c u0d u0e u0f u04 u05 u03 u00 u01 u02) (ED again ⟨[0,2,3,4,6,10,61,62],[2,6,10,15,500,501],[⟨(.cell 6 5),500,85,true,[.z,.list false [.int .u64]]⟩,⟨(.cell 10 1),501,106,false,[.int .u64]⟩]⟩ k)=(cond (decide (x62 < x61)) (cond (J5 u00) (cond (decide ((u03+AF (AO 0 (AK 1 [IV.int (IM (ND (EW u00)))])))*TI.bytes (Env.tyd (G9 N) 106)≤D6)) (again (aK s0 b3 x61 (AA AB (x62+1)) u06 u07 u08 u09 u0a u0b u0c u0d u0e u0f u04 u05 (u03+AF (AO 0 (AK 1 [IV.int (IM (ND (EW u00)))]))) (AO 1 u00) u01 (AK u03 u02++AO 0 (AK 1 [IV.int (IM (ND (EW u00)))])))) none) none) (k (.exit 4) (aK s0 b3 x61 x62 u06 u07 u08 u09 u0a u0b u0c u0d u0e u0f u04 u05 u03 u00 u01 u02))):=by kernel_rfl
theorem Zg (N:Nat) (s0:BA) (b3:Bool) (u03 u04 u05 u06 u07 u08 u09 u0a u0b u0c:Int) (u02:Nat) (u00 u01:LI):(DM 2 (DN (G9 N) (DF JD [1,1,1,1,1,1,1]) (DP (G9 N) none [.cell 2 31,.tmp 3] [[.z,.z,.z,.z,.z,.list true [.z,.list false [.int .u64]]],[.bool]]))) (.exit 2) (X8 s0 b3 u03 u04 u05 u06 u07 u08 u09 u0a u0b u0c u02 u00 u01)=(cond (AX s0==AX {data:=#[]}) (some ((.tup [.agg [.i 0,.i 0,.i 0,.i 0,.i 0,.list true [.z,.list false [.int .u64]] []],.bool false]),[])) (cond (!AX (H3 {d:=u08,c:=u09,b0:=u0a,b1:=u0b,b2:=u0c,ts:=AO 0 (AK u02 u01)})==AX s0) (some ((.tup [.agg [.i 0,.i 0,.i 0,.i 0,.i 0,.list true [.z,.list false [.int .u64]] []],.bool false]),[])) (some ((.tup [.agg [.i u08,.i u09,.i u0a,.i u0b,.i u0c,.list true [.z,.list false [.int .u64]] (AO 0 (AK u02 u01))],.bool true]),[])))):=by kernel_rfl
theorem Zh (N:Nat) (again:St→DJ) (k:Out→St→DJ) (s0:BA) (b3:Bool) (x61 x62 u06 u07 u08 u09 u0a u0b u0c u0d u0e u0f:Int) (u04:Nat) (u05:Int) (u03:Nat) (u00 u01 u02:LI):(DM 4 (DN (G9 N) (DF JD [1,1,1,1,1,1,0,0,0,1,0,1,1,1]) (DM 3 (ED again ⟨[0,2,3,4,6],[2,6,15,500],[⟨(.cell 6 5),500,85,true,[.z,.list false [.int .u64]]⟩]⟩ k)))) (.exit 4) (aK s0 b3 x61 x62 u06 u07 u08 u09 u0a u0b u0c u0d u0e u0f u04 u05 u03 u00 u01 u02)=(cond (decide ((u04+AF (AO 0 (AK 1 [IV.agg [IV.int u05,IV.list (AO 0 (AK u03 u02))]])))*TI.bytes (Env.tyd (G9 N) 85)≤D6)) (again (X8 s0 b3 u06 u07 u08 u09 u0a u0b u0c u0d u0e u0f (u04+AF (AO 0 (AK 1 [IV.agg [IV.int u05,IV.list (AO 0 (AK u03 u02))]]))) u00 (AK u04 u01++AO 0 (AK 1 [IV.agg [IV.int u05,IV.list (AO 0 (AK u03 u02))]])))) none):=by kernel_rfl
open Go Go.Proofs
theorem zQ (s:BA) {most:Int} (h:0≤most):0≤FB s most∧FB s most≤most:=by
 unfold FB;cases ha:LC s <;> cases h1:decide (FA s < 0) <;> cases h2:decide (FA s > most)
 all_goals simp only [A1,A6,BY,CJ,vaq,B1,BG]
 all_goals first
  | exact ⟨by omega,by omega⟩
  | (have h1:=BH h1; have h2:=BH h2; omega)
theorem Z5 (s t:BA):(F3 s t).size≤s.size:=by
 unfold F3;cases SO s t with
 | true=>
  rw [DE,vbd];omega
 | false=>exact AW _
theorem zc0 {s:BA} (h:s.size < 4294967281):J5 (UH s)=true:=by
 unfold J5 UH;rw [CS];intro x hx;obtain ⟨w,hw,rfl⟩:=CN.1 hx
 have:=(XS PG _ (Z4 s)).2 w hw
 have h2:(Z4 s).size≤s.size:=Z5 s PG;refine AE ?_;show w.size < 4294967281;omega
abbrev pM:KP:=⟨[0,2,3,4,6,7,28,29],[2,6,15],[]⟩
abbrev kA:KP:=⟨[0,2,3,4,6],[2,6,15,500],[⟨.cell 6 5,500,85,true,[.z,.list false [.int .u64]]⟩]⟩
abbrev Dd:KP:=⟨[0,2,3,4,6,10,61,62],[2,6,10,15,500,501],[⟨.cell 6 5,500,85,true,[.z,.list false [.int .u64]]⟩,⟨.cell 10 1,501,106,false,[.int .u64]⟩]⟩
abbrev aC (s:BA) (W:LI) (C i d c b0 b1 b2:Int) (L:LI):St:=
 ⟨[(0,(.str s)),(2,(.ptr 2 0 0)),(3,(.bool false)),(4,(.ptr 15 0 0)),(6,(.ptr 6 0 0)),(7,(.list false [.str] W)),(28,(.int .i64 C)),(29,(.int .i64 i))],[(2,(some (.box [(.int .i64 0),(.int .i64 0),(.int .i64 0),(.int .i64 0),(.int .i64 0),.zs]))),(6,(some (.box [(.int .i64 d),(.int .i64 c),(.int .i64 b0),(.int .i64 b1),(.int .i64 b2),.zs]))),(15,(some (.box [(.list false [.str] L)])))]⟩
theorem YL (N:Nat) (s:BA) (W:LI) (hW:∀ i,(DU W i).size < 4294967281) (C:Int) (i:Nat) (hi:(i:Int) < C) (h3:i < 3) (d c b0 b1 b2:Int) (L:LI) (again:St→DJ) (k:Out→St→DJ) :
  EX (G9 N) (DF JD [1,1,1,1,1,0,1,0,0]) (aC s W C (i:Int) d c b0 b1 b2 L) (ED again pM k) =
   again (aC s W C ((i+1:Nat):Int) d c (cond (BO i 0) (F1 (DU W (1+i))) b0) (cond (BO i 1) (F1 (DU W (1+i))) b1) (cond (BO i 2) (F1 (DU W (1+i))) b2) L):=by
 rw [gM];have ei:AA AB ((i:Int)+1)=((i+1:Nat):Int):=by
  rw [EI (by omega) (by omega)];omega
 have ei':AA AB (1+(i:Int))=((1+i:Nat):Int):=by
  rw [EI (by omega) (by omega)];omega
 rw [ei,ei',BE,AE hi,DE,AE (show (0:Int)≤((1+i:Nat):Int) by omega),DE,AE (hW (1+i)),DE]
 match i,h3 with
 | 0,_=>rfl
 | 1,_=>rfl
 | 2,_=>rfl
theorem Tw (N:Nat) (s:BA) (LS W:LI) (hWe:W=EW (LS.drop 1)) (hW:∀ i,(DU W i).size < 4294967281) (C:Int) (h0:0≤C) (h3:C≤3) (hN:10≤N) (d c:Int) (L:LI) (K:Out→St→DJ) :
  DT (G9 N) (DF JD [1,1,1,1,1,0,1,0,0]) pM N (aC s W C 0 d c 0 0 0 L) K=K (.exit 0) (aC s W C C d c (K5 LS C 0) (K5 LS C 1) (K5 LS C 2) L):=by
 obtain ⟨M,rfl⟩:∃ M,N=M+4:=⟨N - 4,by omega⟩;obtain ⟨n,rfl⟩:∃ n:Nat,C=(n:Int):=⟨C.toNat,by omega⟩;subst hWe;have e0:aC s (EW (LS.drop 1)) (n:Int) 0 d c 0 0 0 L=aC s (EW (LS.drop 1)) (n:Int) ((0:Nat):Int) d c 0 0 0 L:=rfl;rw [e0]
 match n,h3 with
 | 0,_=>
  rw [DX,gM,AL (show ¬ ((0:Nat):Int) < ((0:Nat):Int) by omega),DG];rfl
 | 1,_=>
  rw [DX,YL (M+4) s _ hW _ 0 (by omega) (by omega),DX,gM,AL (show ¬ ((0+1:Nat):Int) < ((1:Nat):Int) by omega),DG];rfl
 | 2,_=>
  rw [DX,YL (M+4) s _ hW _ 0 (by omega) (by omega),DX,YL (M+4) s _ hW _ 1 (by omega) (by omega),DX,gM,AL (show ¬ ((1+1:Nat):Int) < ((2:Nat):Int) by omega),DG];rfl
 | 3,_=>
  rw [DX,YL (M+4) s _ hW _ 0 (by omega) (by omega),DX,YL (M+4) s _ hW _ 1 (by omega) (by omega),DX,YL (M+4) s _ hW _ 2 (by omega) (by omega),DX,gM,AL (show ¬ ((2+1:Nat):Int) < ((3:Nat):Int) by omega),DG];rfl
 | n+4,h3=>exact absurd h3 (by omega)
abbrev uQ (s:BA) (d c b0 b1 b2:Int) (L T:LI) (cl k j:Int) (NL:LI):St:=
 ⟨[(0,(.str s)),(2,(.ptr 2 0 0)),(3,(.bool false)),(4,(.ptr 15 0 0)),(6,(.ptr 6 0 0)),(10,(.ptr 10 0 0)),(61,(.int .i64 k)),(62,(.int .i64 j))],[(2,(some (.box [(.int .i64 0),(.int .i64 0),(.int .i64 0),(.int .i64 0),(.int .i64 0),.zs]))),(6,(some (.box [(.int .i64 d),(.int .i64 c),(.int .i64 b0),(.int .i64 b1),(.int .i64 b2),(.row 500 0 T.length)]))),(10,(some (.box [(.int .i64 cl),(.row 501 0 NL.length)]))),(15,(some (.box [(.list false [.str] L)]))),(500,(some (.row true 85 true [.z,(.list false [(.int .u64)])] T))),(501,(some (.row true 106 false [(.int .u64)] NL)))]⟩
theorem zgz (L:LI) (j:Nat):ML L (j+1)=ML L j++[.int (IM (ND (EW (L.drop j))))]:=by
 unfold ML;rw [List.range_succ,List.map_append];rfl
theorem fV (L:LI) (j:Nat):(ML L j).length=j:=by
 unfold ML;rw [BQ,List.length_range]
theorem Fq (N:Nat) (s:BA) (d c b0 b1 b2:Int) (T L:LI) (hL:J5 L=true) (cl:Int) (k:Nat) (hk:k≤31) (K:Out→St→DJ):∀ (m j n:Nat),j+m=k→m < n →
  DT (G9 N) (DF JD [1,1,1,1,1,1,0,0,0,1,0,1,1,0,1,0,0]) Dd n (uQ s d c b0 b1 b2 (L.drop j) T cl (k:Int) (j:Int) (ML L j)) K =
   K (.exit 4) (uQ s d c b0 b1 b2 (L.drop k) T cl (k:Int) (k:Int) (ML L k))
 | m,j,0,_,h=>absurd h (by omega)
 | 0,j,n+1,hd,_=>by
  have hj:j=k:=by omega
  subst hj;rw [DX,Nb,AL (show ¬ (j:Int) < (j:Int) by omega),DG]
 | m+1,j,n+1,hd,hn=>by
  have ej:AA AB ((j:Int)+1)=((j+1:Nat):Int):=by
   rw [EI (by omega) (by omega)];omega
  have eb:TI.bytes (Env.tyd (G9 N) 106)=8:=rfl;have e1:∀ x:IV,AF (AO 0 (AK 1 [x]))=1:=fun x=>rfl
  have e2:∀ x:IV,AO 0 (AK 1 [x])=[x]:=fun x=>rfl
  rw [DX,Nb,ej,eb,e1,e2,AE (show (j:Int) < (k:Int) by omega),DE,XH hL j,DE,fV,AE (show (j+1)*8≤D6 by unfold D6; omega),DE];have e3:AK j (ML L j)=ML L j:=CX (by rw [fV]; omega);rw [e3,← zgz,List.drop_drop];have ih:=Fq N s d c b0 b1 b2 T L hL cl k hk K m (j+1) n (by omega) (by omega);unfold uQ at ih ⊢;rw [fV] at ih;exact ih
abbrev mN (s:BA) (d c b0 b1 b2:Int) (L T:LI):St:=
 ⟨[(0,(.str s)),(2,(.ptr 2 0 0)),(3,(.bool false)),(4,(.ptr 15 0 0)),(6,(.ptr 6 0 0))],[(2,(some (.box [(.int .i64 0),(.int .i64 0),(.int .i64 0),(.int .i64 0),(.int .i64 0),.zs]))),(6,(some (.box [(.int .i64 d),(.int .i64 c),(.int .i64 b0),(.int .i64 b1),(.int .i64 b2),(.row 500 0 T.length)]))),(15,(some (.box [(.list false [.str] L)]))),(500,(some (.row true 85 true [.z,(.list false [(.int .u64)])] T)))]⟩
theorem Oh (N:Nat) (hN:40≤N) (s:BA) (d c b0 b1 b2:Int) (K:Out→St→DJ):∀ (m n:Nat) (L T:LI),J5 L=true→T.length+m=9→m < n →
  ∃ L',DT (G9 N) (DF JD [1,1,1,1,1,1,0,0,0]) kA n (mN s d c b0 b1 b2 L T) K=K (.exit 2) (mN s d c b0 b1 b2 L' (T++K6 m L))
 | m,0,L,T,_,_,h=>absurd h (by omega)
 | m,n+1,[],T,hL,hT,hn=>by
  refine ⟨[],?_⟩;have e:K6 m []=[]:=by cases m <;> rfl
  rw [DX,tN,AL (show ¬ ic (AF ([]:LI)) > 0 by decide),DG,e,DB]
 | 0,n+1,l :: L,T,hL,hT,hn=>by
  refine ⟨l :: L,?_⟩;rw [DX,tN,AE (show ic (AF (l :: L)) > 0 by simp only [ic,AN]; omega),DE,AL (show ¬ ic (T.length - 0)≤8 by simp only [ic]; omega),DG];show K (.exit 2) _=K (.exit 2) (mN s d c b0 b1 b2 (l :: L) (T++[]));rw [DB]
 | m+1,n+1,l :: L,T,hL,hT,hn=>by
  obtain ⟨k0,k1⟩:=zQ (DU (EW (l :: L)) 2) (most:=31) (by omega);have hk:FB (DU (EW (l :: L)) 2) 31=((MK (l :: L):Nat):Int):=by unfold MK; omega
  have hLd:=XH hL 1;have hk31:MK (l :: L)≤31:=by unfold MK; omega
  have e2:AD 2=2:=rfl;have e1:AD 1=1:=rfl;rw [DX,tN,AE (show ic (AF (l :: L)) > 0 by simp only [ic,AN]; omega),DE,AE (show ic (T.length - 0)≤8 by simp only [ic]; omega),DE,hL,DE,e2,e1,hk];have run:=Fq N s d c b0 b1 b2 T (AO 1 (l :: L)) hLd (FB (DU (EW (l :: L)) 1) 3) (MK (l :: L)) hk31
   (DM 4 (DN (G9 N) (DF JD [1,1,1,1,1,1,0,0,0,1,0,1,1,1]) (DM 3 (ED (fun s'=>DT (G9 N) (DF JD [1,1,1,1,1,1,0,0,0]) kA n s' K) kA K)))) (MK (l :: L)) 0 N (by omega) (by omega)
  have eb:TI.bytes (Env.tyd (G9 N) 85)=32:=rfl;have e3:∀ x:IV,AF (AO 0 (AK 1 [x]))=1:=fun x=>rfl
  have e4:∀ x:IV,AO 0 (AK 1 [x])=[x]:=fun x=>rfl
  rw [Zh,eb,e3,e4,AE (show (T.length+1)*32≤D6 by unfold D6; omega),DE,fV] at run;have e5:AK T.length T=T:=CX (AW _);have e6:AO 0 (AK (MK (l :: L)) (ML (AO 1 (l :: L)) (MK (l :: L))))=ML (AO 1 (l :: L)) (MK (l :: L)):=by
   rw [BZ,CX (by rw [fV]; omega)]
  rw [e5,e6] at run;obtain ⟨L',hL'⟩:=Oh N hN s d c b0 b1 b2 K m n (AO (MK (l :: L)) (AO 1 (l :: L))) (T++[ZL (l :: L)]) (XH hLd _) (by rw [AU,AN,BB]; omega) (by omega);refine ⟨L',?_⟩;have e7:T++K6 (m+1) (l :: L)=T++[ZL (l :: L)]++K6 m (AO (MK (l :: L)) (AO 1 (l :: L))):=by
   rw [var];rfl
  rw [e7,← hL'];refine Eq.trans ?_ (run.trans ?_)
  ·rfl
  ·have e8:(T++[ZL (l :: L)]).length=T.length+1:=by rw [AU]; rfl
   unfold mN;rw [e8];rfl
set_option maxHeartbeats 1000000 in
theorem Ku:DS PR B0 17 WC:=by
 refine D2 [(64,MX),(65,R7),(13,R8),(67,WD),(66,WE),(70,dE),(69,WF),(68,WG)] [(6,pM),(10,kA),(14,Dd)] WC [[.z,.z,.z,.z,.z,.list true [.z,.list false [.int .u64]]],[.bool]] Tryz.func17 zb2 ⟨ZZ,tC,tD,Kv,Kw,ziE,Kx,Ky,trivial⟩ ?_;intro vs r hwf h;unfold WC at h;split at h
 ·rename_i s;cases hc:decide (s.size < 4294967281) with
  | false=>rw [hc] at h; simp [R.get] at h
  | true=>
   rw [hc,R.get_br,DE,R.get_ok] at h;have hs:=of_decide_eq_true hc;refine ⟨40,?_⟩;rw [← h];refine (zeY 40 s).trans ?_;have hok:=zc0 hs;have e0:List.map IV.str (D1 (F3 s { data:=#[10] }) { data:=#[10] })=UH s:=rfl;have e1:decide (1≤ByteArray.size { data:=#[10] })=true:=rfl;have ts:=Z5 s PG;have e2:Int.toNat 2=2:=rfl;have e3:Int.toNat 1=1:=rfl;rw [e0,e1,e2,e3,decide_eq_true (show ByteArray.size (F3 s { data:=#[10] }) < 4294967281 from Nat.lt_of_le_of_lt ts hs),Bool.and_self,DE,hok,DE,XH hok 1,DE];generalize hLS:UH s=LS at hok ⊢;obtain ⟨c0,c3⟩:=zQ (DU (EW LS) 2) (most:=3) (by omega);refine (Tw 40 s LS (EW (LS.drop 1)) rfl (qL (XH hok 1)) (FB (DU (EW LS) 2) 3) c0 c3 (by omega) (FB (DU (EW LS) 1) 4) (FB (DU (EW LS) 2) 3) (List.drop 1 (List.drop 1 LS)) _).trans ?_;rw [Zf];obtain ⟨L',hL'⟩:=Oh 40 (by omega) s (FB (DU (EW LS) 1) 4) (FB (DU (EW LS) 2) 3) (K5 LS (FB (DU (EW LS) 2) 3) 0) (K5 LS (FB (DU (EW LS) 2) 3) 1) (K5 LS (FB (DU (EW LS) 2) 3) 2)
    (DM 2 (DN (G9 40) (DF JD [1,1,1,1,1,1,1]) (DP (G9 40) none [(ResultVar.cell 2 31),(ResultVar.tmp 3)] [[.z,.z,.z,.z,.z,(.list true [.z,(.list false [(.int .u64)])])],[.bool]])))
    9 40 (List.drop 1 (List.drop 1 LS)) [] (XH (XH hok 1) 1) rfl (by omega)
   refine hL'.trans ?_;rw [Zg];have e4:([]:LI)++K6 9 (List.drop 1 (List.drop 1 LS))=K6 9 (LS.drop 2):=by
    rw [List.nil_append,List.drop_drop]
   have e5:List.drop 0 (List.take (([]:LI)++K6 9 (List.drop 1 (List.drop 1 LS))).length (([]:LI)++K6 9 (List.drop 1 (List.drop 1 LS))))=K6 9 (LS.drop 2):=by
    rw [List.drop_zero,List.take_of_length_le (Nat.le_refl _),e4]
   rw [e5];have e6:(⟨FB (DU (EW LS) 1) 4,FB (DU (EW LS) 2) 3,K5 LS (FB (DU (EW LS) 2) 3) 0,K5 LS (FB (DU (EW LS) 2) 3) 1,K5 LS (FB (DU (EW LS) 2) 3) 2,K6 9 (LS.drop 2)⟩:Md)=YR s:=by
    unfold YR;rw [hLS];rfl
   unfold G5 PC;rw [← e6];cases (ByteArray.toList s==ByteArray.toList X3) with
   | true=>rfl
   | false=>
    rw [DG,Bool.not_false,Bool.true_and];cases (ByteArray.toList (H3 ⟨FB (DU (EW LS) 1) 4,FB (DU (EW LS) 2) 3,K5 LS (FB (DU (EW LS) 2) 3) 0,K5 LS (FB (DU (EW LS) 2) 3) 1,K5 LS (FB (DU (EW LS) 2) 3) 2,K6 9 (LS.drop 2)⟩)==ByteArray.toList s) <;> rfl
 ·simp [R.get] at h
open Go Go.Proofs
def Pq (N:Nat):Env:=D0 [] [] 39 N
theorem zdk (N:Nat) (u04 u01 u06 u05 u08 u07 u0a u09 u0c u0b u0e u0d q_Lo q_Hi u03:Int) (u02:Bool) (u00 dim:Int):DV (Pq N) wH [.cell 4 39] [[.z,.z,.z,.z,.z,.z,.z,.z,.z,.z,.z,.z,.z,.z,.z,.bool,.z]] [.agg [.i u04,.i u01,.i u06,.i u05,.i u08,.i u07,.i u0a,.i u09,.i u0c,.i u0b,.i u0e,.i u0d,.i q_Lo,.i q_Hi,.i u03,.bool u02,.i u00],.i dim]=(cond (decide (0≤dim)&&decide (dim≤ic 5)) (cond (decide (0≤dim)&&decide (dim≤ic 5)) (cond (decide (ic (min (AD dim) (AD dim))=ic 0)) (cond (u04==1) (some ((.agg [.i u04,.i u01,.i 0,.i 0,.i 0,.i 0,.i 0,.i 0,.i 0,.i 0,.i 0,.i 0,.i q_Lo,.i q_Hi,.i 0,.bool false,.i u00]),[])) (cond (u04==3) (some ((.agg [.i u04,.i u01,.i 0,.i 0,.i 0,.i 0,.i 0,.i 0,.i 0,.i 0,.i 0,.i 0,.i 0,.i 0,.i u03,.bool u02,.i u00]),[])) (some ((.agg [.i u04,.i u01,.i 0,.i 0,.i 0,.i 0,.i 0,.i 0,.i 0,.i 0,.i 0,.i 0,.i 0,.i 0,.i 0,.bool false,.i u00]),[])))) (cond (decide (ic (min (AD dim) (AD dim))=ic 1)) (cond (u04==1) (some ((.agg [.i u04,.i u01,.i u06,.i u05,.i 0,.i 0,.i 0,.i 0,.i 0,.i 0,.i 0,.i 0,.i q_Lo,.i q_Hi,.i 0,.bool false,.i u00]),[])) (cond (u04==3) (some ((.agg [.i u04,.i u01,.i u06,.i u05,.i 0,.i 0,.i 0,.i 0,.i 0,.i 0,.i 0,.i 0,.i 0,.i 0,.i u03,.bool u02,.i u00]),[])) (some ((.agg [.i u04,.i u01,.i u06,.i u05,.i 0,.i 0,.i 0,.i 0,.i 0,.i 0,.i 0,.i 0,.i 0,.i 0,.i 0,.bool false,.i u00]),[])))) (cond (decide (ic (min (AD dim) (AD dim))=ic 2)) (cond (u04==1) (some ((.agg [.i u04,.i u01,.i u06,.i u05,.i u08,.i u07,.i 0,.i 0,.i 0,.i 0,.i 0,.i 0,.i q_Lo,.i q_Hi,.i 0,.bool false,.i u00]),[])) (cond (u04==3) (some ((.agg [.i u04,.i u01,.i u06,.i u05,.i u08,.i u07,.i 0,.i 0,.i 0,.i 0,.i 0,.i 0,.i 0,.i 0,.i u03,.bool u02,.i u00]),[])) (some ((.agg [.i u04,.i u01,.i u06,.i u05,.i u08,.i u07,.i 0,.i 0,.i 0,.i 0,.i 0,.i 0,.i 0,.i 0,.i 0,.bool false,.i u00]),[])))) (cond (decide (ic (min (AD dim) (AD dim))=ic 3)) (cond (u04==1) (some ((.agg [.i u04,.i u01,.i u06,.i u05,.i u08,.i u07,.i u0a,.i u09,.i 0,.i 0,.i 0,.i 0,.i q_Lo,.i q_Hi,.i 0,.bool false,.i u00]),[])) (cond (u04==3) (some ((.agg [.i u04,.i u01,.i u06,.i u05,.i u08,.i u07,.i u0a,.i u09,.i 0,.i 0,.i 0,.i 0,.i 0,.i 0,.i u03,.bool u02,.i u00]),[])) (some ((.agg [.i u04,.i u01,.i u06,.i u05,.i u08,.i u07,.i u0a,.i u09,.i 0,.i 0,.i 0,.i 0,.i 0,.i 0,.i 0,.bool false,.i u00]),[])))) (cond (decide (ic (min (AD dim) (AD dim))=ic 4)) (cond (u04==1) (some ((.agg [.i u04,.i u01,.i u06,.i u05,.i u08,.i u07,.i u0a,.i u09,.i u0c,.i u0b,.i 0,.i 0,.i q_Lo,.i q_Hi,.i 0,.bool false,.i u00]),[])) (cond (u04==3) (some ((.agg [.i u04,.i u01,.i u06,.i u05,.i u08,.i u07,.i u0a,.i u09,.i u0c,.i u0b,.i 0,.i 0,.i 0,.i 0,.i u03,.bool u02,.i u00]),[])) (some ((.agg [.i u04,.i u01,.i u06,.i u05,.i u08,.i u07,.i u0a,.i u09,.i u0c,.i u0b,.i 0,.i 0,.i 0,.i 0,.i 0,.bool false,.i u00]),[])))) (cond (decide (ic (min (AD dim) (AD dim))=ic 5)) (cond (u04==1) (some ((.agg [.i u04,.i u01,.i u06,.i u05,.i u08,.i u07,.i u0a,.i u09,.i u0c,.i u0b,.i u0e,.i u0d,.i q_Lo,.i q_Hi,.i 0,.bool false,.i u00]),[])) (cond (u04==3) (some ((.agg [.i u04,.i u01,.i u06,.i u05,.i u08,.i u07,.i u0a,.i u09,.i u0c,.i u0b,.i u0e,.i u0d,.i 0,.i 0,.i u03,.bool u02,.i u00]),[])) (some ((.agg [.i u04,.i u01,.i u06,.i u05,.i u08,.i u07,.i u0a,.i u09,.i u0c,.i u0b,.i u0e,.i u0d,.i 0,.i 0,.i 0,.bool false,.i u00]),[])))) none)))))) none) none):=by kernel_rfl
def Pp (N:Nat):Env:=D0 [] [] 9 N
theorem zdj (N:Nat) (n:Int):DV (Pp N) wG [.tmp 2] [[.bool]] [.i n]=(cond (decide (n≥0)) (some ((.bool (decide (n≤1073741824))),[])) (some ((.bool false),[]))):=by kernel_rfl
def Pn (N:Nat):Env:=D0 [(122,QS)] [] 11 N
theorem zdg (N:Nat) (s:BA):DV (Pn N) wD [.tmp 2] [[.z]] [.str s]=(some ((.i (FA s)),[])):=by kernel_rfl
def Po (N:Nat):Env:=D0 [(131,V1)] [] 11 N
theorem zdi (N:Nat) (s:BA):DV (Po N) wF [.tmp 2] [[.z]] [.str s]=(cond (decide (AG s < 4294967281)) (some ((.i (F1 s)),[])) none):=by kernel_rfl
def QR (N:Nat):Env:=D0 [] [(2,⟨[0,1,4,7,8],[],[]⟩)] 19 N
abbrev VO (l0:LI) (s1:BA) (x4 x7 x8:Int):St:=⟨[(0,(.list false [.str] l0)),(1,(.str s1)),(4,(.i x4)),(7,(.i x7)),(8,(.i x8))],[]⟩
theorem zeR (N:Nat) (s:LI) (v:BA):DV (QR N) T9 [.tmp 4] [[.z]] [.list false [.str] s,.str v]=(DT (QR N) (DF T9 [1,0,1,0,0]) ⟨[0,1,4,7,8],[],[]⟩ N (VO s v 0 (ic (AF s)) 0) (DM 0 (DN (QR N) (DF T9 [1,1]) (DP (QR N) none [.tmp 4] [[.z]])))):=by kernel_rfl
theorem Na (N:Nat) (l0:LI) (s1:BA) (x4 x7 x8:Int) (again:St→DJ) (k:Out→St→DJ):EX (QR N) (DF T9 [1,0,1,0,0]) (VO l0 s1 x4 x7 x8) (ED again ⟨[0,1,4,7,8],[],[]⟩ k)=(cond (decide (x8 < x7)) (cond (decide (0≤x8)&&decide (x8 < ic (AF l0))) (cond (AX s1==AX (IV.toStr (AH l0 (AD x8) default))) (k .ret (VO l0 s1 x8 x7 x8)) (again (VO l0 s1 x4 x7 (AA AB (x8+1))))) none) (k (.exit 0) (VO l0 s1 x4 x7 x8))):=by kernel_rfl
theorem Zd (N:Nat) (l0:LI) (s1:BA) (x4 x7 x8:Int):(DM 0 (DN (QR N) (DF T9 [1,1]) (DP (QR N) none [.tmp 4] [[.z]]))) (.exit 0) (VO l0 s1 x4 x7 x8)=(some ((.i (-1)),[])):=by kernel_rfl
theorem Ze (N:Nat) (l0:LI) (s1:BA) (x4 x7 x8:Int):(DM 0 (DN (QR N) (DF T9 [1,1]) (DP (QR N) none [.tmp 4] [[.z]]))) .ret (VO l0 s1 x4 x7 x8)=(some ((.i x4),[])):=by kernel_rfl
def mR (N:Nat):Env:=D0 [(84,VU),(83,VV),(138,iB)] [] 46 N
theorem zdh (N:Nat) (l:LI):DV (mR N) wE [.cell 2 39] [[.z,.z,.z,.z,.z,.z,.z,.z,.z,.z,.z,.z,.z,.z,.z,.bool,.z]] [.list false [.str] l]=(cond (decide (AF l≤4294967296)) (cond (decide ((AF l+AF (BN (AD 6) (IV.str {data:=#[]})))*TI.bytes (Env.tyd (mR N) 9)≤D6)) (cond (decide (0≤1)&&decide (1 < ic (AF l+AF (BN (AD 6) (IV.str {data:=#[]})) - 0))) (cond (decide (0≤0)&&decide (0 < ic (AF l+AF (BN (AD 6) (IV.str {data:=#[]})) - 0))) (cond (AX (IV.toStr (AH (AK (AF l) l++BN (AD 6) (IV.str {data:=#[]})) 0 default))==AX {data:=#[114,97,110,103,101]}) (cond (decide (0≤3)&&decide (3 < ic (AF l+AF (BN (AD 6) (IV.str {data:=#[]})) - 0))) (cond (decide (AG (IV.toStr (AH (AK (AF l) l++BN (AD 6) (IV.str {data:=#[]})) 3 default)) < 4294967281)) (cond (decide (0≤5)&&decide (5 < ic (AF l+AF (BN (AD 6) (IV.str {data:=#[]})) - 0))) (cond (decide (AG (IV.toStr (AH (AK (AF l) l++BN (AD 6) (IV.str {data:=#[]})) 5 default)) < 4294967281)) (some ((.agg [.i 1,(.i (FA (IV.toStr (AH (AK (AF l) l++BN (AD 6) (IV.str {data:=#[]})) 1 default)))),.i 0,.i 0,.i 0,.i 0,.i 0,.i 0,.i 0,.i 0,.i 0,.i 0,(.i (F1 (IV.toStr (AH (AK (AF l) l++BN (AD 6) (IV.str {data:=#[]})) 3 default)))),(.i (F1 (IV.toStr (AH (AK (AF l) l++BN (AD 6) (IV.str {data:=#[]})) 5 default)))),.i 0,.bool false,.i 0]),[])) none) none) none) none) (cond (AX (IV.toStr (AH (AK (AF l) l++BN (AD 6) (IV.str {data:=#[]})) 0 default))==AX {data:=#[98,101,115,116]}) (some ((.agg [.i 2,(.i (FA (IV.toStr (AH (AK (AF l) l++BN (AD 6) (IV.str {data:=#[]})) 1 default)))),.i 0,.i 0,.i 0,.i 0,.i 0,.i 0,.i 0,.i 0,.i 0,.i 0,.i 0,.i 0,.i 0,.bool false,.i 0]),[])) (cond (AX (IV.toStr (AH (AK (AF l) l++BN (AD 6) (IV.str {data:=#[]})) 0 default))==AX {data:=#[114,105,115,101,115]}) (cond (decide (0≤3)&&decide (3 < ic (AF l+AF (BN (AD 6) (IV.str {data:=#[]})) - 0))) (cond (decide (0≤0)&&decide (0 < ic (AF l+AF (BN (AD 6) (IV.str {data:=#[]})) - 0))) (some ((.agg [.i 3,(.i (FA (IV.toStr (AH (AK (AF l) l++BN (AD 6) (IV.str {data:=#[]})) 1 default)))),.i 0,.i 0,.i 0,.i 0,.i 0,.i 0,.i 0,.i 0,.i 0,.i 0,.i 0,.i 0,(.i (FA (IV.toStr (AH (AK (AF l) l++BN (AD 6) (IV.str {data:=#[]})) 3 default)))),(.bool (AX (IV.toStr (AH (AK (AF l) l++BN (AD 6) (IV.str {data:=#[]})) 0 default))==AX {data:=#[102,97,108,108,115]})),.i 0]),[])) none) none) (cond (AX (IV.toStr (AH (AK (AF l) l++BN (AD 6) (IV.str {data:=#[]})) 0 default))==AX {data:=#[102,97,108,108,115]}) (cond (decide (0≤3)&&decide (3 < ic (AF l+AF (BN (AD 6) (IV.str {data:=#[]})) - 0))) (cond (decide (0≤0)&&decide (0 < ic (AF l+AF (BN (AD 6) (IV.str {data:=#[]})) - 0))) (some ((.agg [.i 3,(.i (FA (IV.toStr (AH (AK (AF l) l++BN (AD 6) (IV.str {data:=#[]})) 1 default)))),.i 0,.i 0,.i 0,.i 0,.i 0,.i 0,.i 0,.i 0,.i 0,.i 0,.i 0,.i 0,(.i (FA (IV.toStr (AH (AK (AF l) l++BN (AD 6) (IV.str {data:=#[]})) 3 default)))),(.bool (AX (IV.toStr (AH (AK (AF l) l++BN (AD 6) (IV.str {data:=#[]})) 0 default))==AX {data:=#[102,97,108,108,115]})),.i 0]),[])) none) none) (some ((.agg [.i 0,(.i (FA (IV.toStr (AH (AK (AF l) l++BN (AD 6) (IV.str {data:=#[]})) 1 default)))),.i 0,.i 0,.i 0,.i 0,.i 0,.i 0,.i 0,.i 0,.i 0,.i 0,.i 0,.i 0,.i 0,.bool false,.i 0]),[])))))) none) none) none) none):=by kernel_rfl
open Go Go.Proofs
theorem zhl:DS PR B0 41 aP:=by
 refine D2 [] [] aP [[.bool]] Tryz.func41 zal trivial ?_;intro vs r hwf h;unfold aP at h;split at h
 ·rename_i n;refine ⟨0,?_⟩;rw [← h];refine (zdj 0 n).trans ?_;simp only [R.get_ok];unfold JS
  have:decide (n≥0)=decide (0≤n):=rfl
  rw [this];cases decide (0≤n) <;> rfl
 ·simp [R.get] at h
theorem Ju:DS PR B0 84 VU:=by
 refine D2 [(122,QS)] [] VU [[.z]] Tryz.func84 zai ⟨lR,trivial⟩ ?_;intro vs r hwf h;unfold VU at h;split at h
 ·rename_i s;refine ⟨0,?_⟩;rw [← h];exact zdg 0 s
 ·simp [R.get] at h
theorem Jv:DS PR B0 83 VV:=by
 refine D2 [(131,V1)] [] VV [[.z]] Tryz.func83 zak ⟨Kb,trivial⟩ ?_;intro vs r hwf h;unfold VV at h;split at h
 ·rename_i s;refine ⟨0,?_⟩;rw [← h];refine (zdi 0 s).trans ?_;simp only [R.get_br,R.get_ok,R.get_no]
 ·simp [R.get] at h
theorem zhm:DS PR B0 40 aQ:=by
 refine D2 [] [] aQ [[.z,.z,.z,.z,.z,.z,.z,.z,.z,.z,.z,.z,.z,.z,.z,.bool,.z]] Tryz.func40 zam trivial ?_;intro vs r hwf h;unfold aQ at h;split at h
 ·rename_i k c a0 b0 a1 b1 a2 b2 a3 b3 a4 b4 lo hi ft fl bu d;refine ⟨0,?_⟩;cases hc:(decide (0≤d)&&decide (d≤5)) with
  | false=>rw [hc] at h; simp [R.get] at h
  | true=>
   rw [hc,R.get_br,DE,R.get_ok] at h;rw [← h];refine (zdk 0 k c a0 b0 a1 b1 a2 b2 a3 b3 a4 b4 lo hi ft fl bu d).trans ?_;have e5:(decide (0≤d)&&decide (d≤ic 5))=true:=hc;rw [e5,DE,DE];simp only [AI,AP] at hc;obtain ⟨n,rfl⟩:∃ n:Nat,d=n:=⟨d.toNat,by omega⟩;simp only [BE,Nat.min_self];unfold FO;have hn:n=0∨n=1∨n=2∨n=3∨n=4∨n=5:=by omega
   have h13:(k==1)=true→(k==3)=false:=fun h1=>by
    rw [TU] at h1 ⊢
    have:=A0 h1
    exact AL (by omega)
   generalize (k==1)=e1 at h13 ⊢;generalize (k==3)=e3 at h13 ⊢;rcases hn with rfl | rfl | rfl | rfl | rfl | rfl <;> cases e1 <;> cases e3 <;> first | rfl | exact absurd (h13 rfl) (by decide)
 ·simp [R.get] at h
theorem Cr (N:Nat) (l:LI) (s:BA) (hl:l.length≤strMax) (K:Out→St→DJ)
  (hx:∀ l0 s1 x4 x7 x8,K (.exit 0) ⟨[(0,(.list false [.str] l0)),(1,(.str s1)),(4,(.int .i64 x4)),(7,(.int .i64 x7)),(8,(.int .i64 x8))],[]⟩=some (.int .i64 (-1),[]))
  (hr:∀ l0 s1 x4 x7 x8,K .ret ⟨[(0,(.list false [.str] l0)),(1,(.str s1)),(4,(.int .i64 x4)),(7,(.int .i64 x7)),(8,(.int .i64 x8))],[]⟩=some (.int .i64 x4,[])) :
  ∀ (d i n:Nat) (x4:Int),i+d=l.length→d < n →
   DT (QR N) (DF T9 [1,0,1,0,0]) ⟨[0,1,4,7,8],[],[]⟩ n ⟨[(0,(.list false [.str] l)),(1,(.str s)),(4,(.int .i64 x4)),(7,(.int .i64 (ic l.length))),(8,(.int .i64 (i:Int)))],[]⟩ K=some (.int .i64 (FU (l.drop i) s (i:Int)),[])
 | 0,i,n+1,x4,hd,hn=>by
  rw [DX,Na,IT (by omega),DG,hx,C2 (by omega)];rfl
 | d+1,i,n+1,x4,hd,hn=>by
  have hi:i < l.length:=by omega
  unfold strMax at hl;have ih:=Cr N l s (by unfold strMax; omega) K hx hr d (i+1) n x4 (by omega) (by omega);rw [DX,Na,H0 hi,IH,CJ,DE,DE,IS hi,GQ (by omega),BF hi];unfold FU;cases (AX s==AX (IV.toStr l[i])) with
  | true=>rw [DE,DE,hr]
  | false=>
   rw [DG,DG,ih];rfl
 | _,_,0,_,_,h=>by omega
theorem ziw:DS PR B0 80 dA:=by
 refine D2 [] [(2,⟨[0,1,4,7,8],[],[]⟩)] dA [[.z]] Tryz.func80 zbV trivial ?_;intro vs r hwf h;unfold dA at h;split at h
 ·rename_i l s;refine ⟨l.length+1,?_⟩;rw [← h];refine (zeR (l.length+1) l s).trans ?_;simp only [R.get_ok];have hl:=(hwf (by simp [K2])).1;simp only [QE,wfL] at hl
  have:=Cr (l.length+1) l s hl.1 _ (fun l0 s1 x4 x7 x8=>Zd (l.length+1) l0 s1 x4 x7 x8) (fun l0 s1 x4 x7 x8=>Ze (l.length+1) l0 s1 x4 x7 x8) l.length 0 (l.length+1) 0 (by omega) (by omega)
  rw [BZ] at this;exact this
 ·simp [R.get] at h
theorem zfY (l:LI) (i m:Nat) (x:IV) (hx:x.toStr=CG):IV.toStr (AH (l++BN m x) i default)=DU l i:=by
 unfold DU;by_cases h:i < l.length
 ·simp [AH,vax,h]
 ·have e0:(AH l i default).toStr=CG:=by simp [AH,h]; rfl
  rw [e0];by_cases h6:i - l.length < m
  ·have e:AH (l++BN m x) i default=x:=by simp [AH,vax,h,h6]
   rw [e,hx]
  ·have e:AH (l++BN m x) i default=default:=by simp [AH,vax,h,h6]
   rw [e];rfl
theorem zfZ (l:LI) (i:Nat):IV.toStr (AH (AK (AF l) l++BN (AD 6) (IV.str { data:=#[] })) i default)=DU l i:=by
 rw [BI];exact zfY l i _ _ rfl
theorem zhk:DS PR B0 81 aO:=by
 refine D2 [(84,VU),(83,VV),(138,iB)] [] aO [[.z,.z,.z,.z,.z,.z,.z,.z,.z,.z,.z,.z,.z,.z,.z,.bool,.z]] Tryz.func81 zaj
  ⟨Ju,Jv,zir,trivial⟩ ?_
 intro vs r hwf h;unfold aO at h;split at h
 ·rename_i l;refine ⟨0,?_⟩;cases hc:(decide (l.length≤4294967290)&&l.all (fun x=>decide (x.toStr.size < 4294967281))) with
  | false=>rw [hc] at h; simp [R.get] at h
  | true=>
   rw [hc,R.get_br,DE,R.get_ok] at h;rw [← h];refine (zdh 0 l).trans ?_;simp only [AI,AP,CS] at hc;obtain ⟨hl,hz⟩:=hc;have hw:∀ i,(DU l i).size < 4294967281:=fun i=>by
    unfold DU;by_cases hi:i < l.length
    ·have:AH l i default=l[i]:=by simp [hi]
     rw [this];exact hz _ (C4 hi)
    ·have:AH l i default=default:=by simp [AH,hi]
     rw [this];decide
   have hb:TI.bytes (Env.tyd (mR 0) 9)=16:=by rfl
   have hr6:(BN (AD 6) (IV.str { data:=#[] })).length=6:=rfl;simp only [zfZ];rw [hb,hr6];have ge:∀ k:Nat,k < 6→decide ((k:Int) < ic (AF l+6 - 0))=true:=fun k hk=>AE (by simp only [ic]; omega)
   have g0:=ge 0 (by omega);have g1:=ge 1 (by omega);have g3:=ge 3 (by omega);have g5:=ge 5 (by omega);rw [AE (show AF l≤4294967296 by omega),DE,AE (show (AF l+6)*16≤D6 by unfold D6; omega),DE];have n0:decide ((0:Nat)≤0)=true:=rfl;have d1:(decide (0≤1)&&decide (1 < ic (AF l+6 - 0)))=true:=by simpa using g1
   have d0:(decide (0≤0)&&decide (0 < ic (AF l+6 - 0)))=true:=by simpa using g0
   have d3:(decide (0≤3)&&decide (3 < ic (AF l+6 - 0)))=true:=by simpa using g3
   have d5:(decide (0≤5)&&decide (5 < ic (AF l+6 - 0)))=true:=by simpa using g5
   rw [d1,d0,d3,d5,AE (hw 3),AE (hw 5)];simp only [DE];unfold EK;cases ((DU l 0).toList==MS.toList) with
   | true=>rfl
   | false=>
    cases ((DU l 0).toList==OD.toList) with
    | true=>rfl
    | false=>
     cases ((DU l 0).toList==MT.toList) <;> cases ((DU l 0).toList==L3.toList) <;> rfl
 ·simp [R.get] at h
end Go.FM
