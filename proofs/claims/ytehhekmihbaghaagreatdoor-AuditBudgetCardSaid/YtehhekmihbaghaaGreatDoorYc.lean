/-
  A small machine that reckons what a call comes to; the functions of the program, one by one. (THE LIBRARY's strconv.FormatUint AT BASE 10: the number's de, WHAT THE LIBRARY's FUNCTIONS OVER SLICES OF STRINGS COME TO,, THE LIBRARY's FUNCTIONS AS THE SMALL MACHINE SEES THEM: stri, and so on.)
-/
import Derived.Test.YtehhekmihbaghaaGreatDoorYb
import Derived.Lib.AppendIntMem
set_option linter.all false
set_option maxRecDepth 100000
open Array renaming length_toList→CL,toList_append→vah
open BitVec renaming ofInt→A5,toNat→CH
open Bool renaming and_eq_true→AH,not_true→A2,not_false→A6,true_and→A8,false_and→BM,not_eq_true'→B1,and_self→B3,and_true→B9,and_false→vad,or_eq_true→vao,false_or→vax,eq_iff_iff→vaZ
open ByteArray renaming size→AD,size_append→AY,toList→AZ,extract→B2,empty→CJ,append_assoc→vag,size_push→va0,size_extract→vbd
open Go.Addr.mk renaming injEq→DH
open Go.IntKind renaming wrap→AA,i64→AB,u64→AJ,bits→AR,signed→vai,wrap_u64→vbg
open Go.Lib renaming decDigits→BV,itoa→C5,strCells→DB,indexByte→DF,split→vaq,strCells_length→vat,bytesWorld→vaM,cut→vaN,parseUint10→vaO,join→va4,atoiAll→vbh,count_one→vbu,parseUintB_64→vbK
open Go.ResultVar renaming tmp→CF,cell→va5
open Go.World renaming cell?→vaL
open Int renaming toNat→AF,toNat_natCast→BD,le_refl→vab,fdiv→vaX
open List renaming length→AG,getD→AI,take→AK,length_cons→AM,mem_cons_self→AN,mem_cons→AP,length_append→AS,drop→AT,mem_append→AV,mem_cons_of_mem→AW,map_cons→A0,map→A4,length_nil→A7,length_take→BC,getElem?_eq_getElem→BE,drop_eq_getElem_cons→BF,mem_singleton→BJ,length_map→BK,replicate→BN,take_length→BR,getElem?_eq_some_iff→BS,getD_eq_getElem?_getD→BW,not_mem_nil→BX,getElem?_cons_zero→BY,getElem?_eq_none→BZ,drop_zero→B5,getElem?_map→CA,map_nil→CB,mem_map→CK,getElem?_take→CM,drop_of_length_le→CR,cons_append→CS,all_eq_true→CU,take_of_length_le→CV,length_drop→CY,getElem_mem→C1,length_singleton→C3,size_toArray→C7,append_nil→C9,getElem?_append→vae,mem_of_getElem?→vaf,count_eq_zero_of_not_mem→van,getElem?_drop→var,all_cons→vay,drop_length→vaB,length_set→vaF,mem_of_mem_take→vaH,range→vaI,append_assoc→va1,mem_of_mem_drop→va6,getElem?_set_ne→va8,sum_cons→vba,mem_range→vbn,getElem?_append_right→vbt,getElem?_append_left→vbw,count_append→vbx,isPrefixOf→vbA,eraseIdx_eq_take_drop_succ→vbM
open Nat renaming le_of_ble_eq_true→AO,le_refl→AX,zero_add→BL,beq→BQ,blt→BU,ble→B6,le_trans→C2,ble_eq_true_of_le→C6,add_zero→C8,eq_of_beq_eq_true→vam,add_assoc→vaS,strongRecOn→vbq
open Option renaming map_eq_some_iff→DD
open Option.some renaming injEq→AC,inj→CX
open Prod.mk renaming injEq→AU
open UInt8 renaming toNat_ofNat_of_lt'→vaa,size→vbm
namespace Go.FM
open Go Go.Proofs Go.RowKit Go.Sort Go.Lib
set_option maxHeartbeats 12800000 in
theorem Zi (u:Nat) (hu64:u < 18446744073709551616) (w:World) (htab:Lib.TabIs Tryz.prog w "internal/strconv.uint64pow10" .u64 Lib.pow10Tab) :
  Calls Tryz.prog 129 #[.int .u64 u,.int .i64 10] w fun e w'=>e = .returned (.string ⟨(Lib.decDigits u).toArray⟩)∧∃ k os,w'=grow (w.drewN k) os:=by
 by_cases hs:u < 100
 ·have hwr:IntKind.i64.wrap (u:Int)=(u:Int):=by rw [IntKind.wrap_i64]; omega
  have iu:(u:Int) < 100:=by omega
  go_enter Tryz.func129,Tryz.ntmps129
  go_wp2_with (go_at_call 170; refine (Tryz.internal_strconv_small u hs _).mono ?_; rintro e w' ⟨rfl,rfl⟩)
  go_ret
  exact ⟨rfl,0,#[],by simp [World.drewN_zero]⟩
 ·have hu1:1≤u:=by omega
  have hnd20:Lib.nDigits u≤20:=by have:=Lib.numDigits_eq u hu1 hu64; split at this <;> omega
  have hal:Tryz.prog.arrayLen 225=24:=by simp [Program.arrayLen,Tryz.underlying225]
  have hsl:∀ W,(Instr.sliceAt 225 (.pointer (some ⟨w.heap.size,0,none⟩)) none (some (.int .i64 (Lib.nDigits u:Int))) none).run Tryz.prog W = .ok (.slice (some ⟨w.heap.size,0,none⟩) (Lib.nDigits u) 24) W:=fun W=>by
   rw [run_sliceAt_array_h W 225 ⟨w.heap.size,0,none⟩ (by simp [Program.arrayLen,Program.elem,Tryz.underlying225]) .i64 (Lib.nDigits u:Int) (by omega) (by rw [hal]; omega)]
   go_simp
  have hH0:=Lib.holds_zero0 w 225 (Lib.nDigits u) (by omega);have hfmt:=Tryz.internal_strconv_formatBase10 w.heap.size 0 24 u (Array.replicate (Lib.nDigits u) 0) (w.alloc (.cells Lib.zeros24 225)) hH0 (by rw [Array.size_replicate]; exact Lib.lt_pow_nDigits u) hu64 (by rw [Array.size_replicate]; omega);rw [Array.size_replicate] at hfmt;have HH0:=Lib.hid hH0;have iu:¬ (u:Int) < 100:=by omega
  clear hH0 hal hs
  go_enter Tryz.func129,Tryz.ntmps129
  go_wp2_with (first
   | (go_at_call 171; refine (Tryz.internal_strconv_numDigits u hu1 hu64 _ (Lib.tabIs_alloc htab _)).mono ?_; rintro e w' ⟨rfl,rfl⟩))
  go_at_call 172
  refine hfmt.mono ?_;rintro e w' ⟨rfl,k,v',dk,rfl,hF⟩;have hcv:(convert 69 9 (.slice (some ⟨w.heap.size,0,none⟩) (Lib.nDigits u) 24)).run Tryz.prog ((putRow (fun (b:UInt8)=>Value.int .u8 (b.toNat:Int)) (w.alloc (.cells Lib.zeros24 225)) w.heap.size 0 dk).drewN k) = .ok (.string ⟨(Lib.decDigits u).toArray⟩) ((putRow (fun (b:UInt8)=>Value.int .u8 (b.toNat:Int)) (w.alloc (.cells Lib.zeros24 225)) w.heap.size 0 dk).drewN k):=by
   have h:=run_convert_bytes_back (P:=Tryz.prog) ((putRow (fun (b:UInt8)=>Value.int .u8 (b.toNat:Int)) (w.alloc (.cells Lib.zeros24 225)) w.heap.size 0 dk).drewN k) 69 9 5 ⟨w.heap.size,0,none⟩ 24 (Lib.decDigits u) Tryz.underlying69 Tryz.underlying5 Tryz.underlying9 (fun j hj=>by
    rw [Lib.row_is_numeral hF j hj,Lib.add_plain,World.cell?_drewN];exact cell?_putRow (fun (b:UInt8)=>Value.int .u8 (b.toNat:Int)) _ w.heap.size 0 _ dk HH0.out (by rw [hF.size,Array.size_replicate]) j (by rw [hF.size]; rw [Lib.decDigits_length] at hj; exact hj))
   rw [Lib.decDigits_length] at h;exact h
  go_wp2
  go_ret
  obtain ⟨os,eo⟩:=Lib.fin_at w (.cells Lib.zeros24 225) dk k 0;exact ⟨rfl,k,os,eo⟩
set_option maxHeartbeats 1600000 in
theorem Zh (u:Nat) (hu64:u < 18446744073709551616) (w:World) (htab:Lib.TabIs Tryz.prog w "internal/strconv.uint64pow10" .u64 Lib.pow10Tab) :
  Calls Tryz.prog 83 #[.int .u64 u,.int .i64 10] w fun e w'=>e = .returned (.string ⟨(Lib.decDigits u).toArray⟩)∧∃ k os,w'=grow (w.drewN k) os:=by
 go_enter Tryz.func83,Tryz.ntmps83
 go_wp2_with (go_at_call 129; refine (Zi u hu64 _ htab).mono ?_; rintro e w' ⟨rfl,hw⟩)
 go_ret
 exact ⟨rfl,hw⟩
theorem ziu:(PR.info? 9).map (fun i=>(i.zero,i.size,i.bytes))=some (some (.string .empty),1,16):=by kernel_rfl
set_option maxHeartbeats 4000000 in
theorem Vc (b:Addr) (n c:Nat) (news:List Value) (w:World) (hl:news.length=n) (hn:n≤maxLen) (hbig:n*16≤140737488355328)
  (hc:∀ j u,news[j]?=some u→w.cell? (b.add j)=some u) (h1:∀ u∈news,u.oneCell'=true) :
  Calls Tryz.prog 161 #[.slice (some b) n c] w fun e w'=>∃ v',e = .returned v'∧w'.ownsRow w.heap.size 9 1 v' n news∧Below w.heap.size w w':=by
 obtain ⟨i0,hi,hz0,hz1,hz2⟩:=info_parts ziu;have qS:∀ (w:World) (a:Option Addr) (n c n' c':Nat),(binOp .eql 66 (.slice a n c) (.slice none n' c')).run Tryz.prog w = .ok (.bool a.isNone) w:=fun w a n c n' c'=>Lib.run_eql_slice_nil w _ _ a n c n' c' Tryz.underlying66
 have A:Aside (∀ j u,news[j]?=some u→w.cell? (b.add j)=some u):=hc;clear hc
 go_enter Tryz.func161,Tryz.ntmps161
 go_wp2_with (at_builtin; refine wpList_append_own _ rfl _ _ 66 rfl w.heap.size 9 i0 (.string .empty) 1 16 Tryz.underlying66 hi hz0 hz1 hz2 rfl (by decide) _ _ _ rfl (World.ownsRow_made w #[] 0 (Nat.le_refl _) (Nat.zero_le _) (by simp)) b n c news rfl ?qc1 ?qc2 ?qc3 ?qc4 ?qc5 ?qc6 ?_)
 case qc1=>rw [Nat.mul_one]; exact hl
 case qc2=>
  intro j u hj;exact Lib.cell?_alloc_some _ (A.out j u hj)
 case qc3=>exact h1
 case qc4=>rw [Nat.zero_add]; exact hn
 case qc5=>rw [Nat.zero_add]; exact hbig
 case qc6=>simp
 intro v' w1 hown hgrow hnil
 go_wp2
 go_ret
 refine ⟨v',rfl,by simpa using hown,?_⟩;exact ((Below.refl _ w).alloc (Nat.le_refl _) _).grown hgrow (by simp) (by intro k hk; simp [Value.ownBlock] at hk; omega)
set_option maxHeartbeats 1000000 in
theorem Uz (n c:Nat) (w:World):Calls Tryz.prog 161 #[.slice none n c] w fun e w'=>e = .returned (.slice none 0 0)∧w'=w:=by
 have qS:∀ (w:World) (a:Option Addr) (n c n' c':Nat),(binOp .eql 66 (.slice a n c) (.slice none n' c')).run Tryz.prog w = .ok (.bool a.isNone) w:=fun w a n c n' c'=>Lib.run_eql_slice_nil w _ _ a n c n' c' Tryz.underlying66
 go_enter Tryz.func161,Tryz.ntmps161
 go_wp2
 go_ret
 exact ⟨rfl,rfl⟩
open Go Go.RowKit
def g8:DW
 | [.list false [.str] l]=>.br (decide (l.length≤4294967296)) (.ok (.vec 9 false [.str] l) []) .no
 | _=>.no
def dH:DW
 | [.list false [.str] l,.str s]=>.ok (.int .i64 (F7 l s 0)) []
 | _=>.no
open Go Go.Proofs Go.RowKit
structure GF (h:Nat→Option Obj):Prop where
 unit:True
 gm:∃ c T fr m,h 1=some (.cells c T fr)∧c[0]?=some (.int .i64 m)
 gp:∃ T fr,h 0=some (.cells (Lib.pow10Tab.map fun z=>Value.int .u64 z).toArray T fr)
 gs:∃ c T fr te pe,h 2=some (.cells c T fr)∧c[0]?=some (.iface te pe)
 gr:∃ c T fr te pe,h 3=some (.cells c T fr)∧c[0]?=some (.iface te pe)
def B0:BT:={ T:=108,e:=5,ng:=4,F:=GF }
theorem jJ {w:World} {h:Nat→Option Obj} (hh:h=fun b=>if b < B0.ng then w.heap[b]? else none) {g:Nat} (hg:g < 4) {o:Obj} (ho:h g=some o):w.heap[g]?=some o:=by
 rw [hh] at ho;simp only at ho;rw [BP (show g < B0.ng from hg)] at ho;exact ho
theorem Aw {w:World} (h:Glob B0 w):∃ m,w.cell? ⟨1,0,none⟩=some (.int .i64 m):=by
 obtain ⟨c,T,fr,m,h1,h2⟩:=h.2.gm;exact ⟨m,by simp only [vaL,jJ rfl (by decide) h1]; exact h2⟩
theorem Ax {w:World} (h:Glob B0 w):Lib.TabIs Tryz.prog w "internal/strconv.uint64pow10" .u64 Lib.pow10Tab:=by
 obtain ⟨T,fr,h1⟩:=h.2.gp;have hn:Tryz.prog.globalNamed "internal/strconv.uint64pow10" = some 0:=by kernel_rfl
 unfold Lib.TabIs World.var?;rw [hn];simp only [Option.bind_some,jJ rfl (by decide) h1]
theorem Az {w:World} (h:Glob B0 w):∃ ev,w.cell? ⟨2,0,none⟩=some ev∧(ev = .nilIface∨∃ te pe,ev = .iface te pe):=by
 obtain ⟨c,T,fr,te,pe,h1,h2⟩:=h.2.gs;exact ⟨_,by simp only [vaL,jJ rfl (by decide) h1]; exact h2,.inr ⟨te,pe,rfl⟩⟩
theorem Ay {w:World} (h:Glob B0 w):∃ ev,w.cell? ⟨3,0,none⟩=some ev∧(ev = .nilIface∨∃ te pe,ev = .iface te pe):=by
 obtain ⟨c,T,fr,te,pe,h1,h2⟩:=h.2.gr;exact ⟨_,by simp only [vaL,jJ rfl (by decide) h1]; exact h2,.inr ⟨te,pe,rfl⟩⟩
theorem Keep.below {w w':World} (h:Below w.heap.size w w'):Keep (fun _=>False) w w':=⟨h.os,h.tape,h.output,h.size,fun b hb _=>h.block b hb⟩
theorem Keep.drewN {O:Nat→Prop} (w:World):∀ n,Keep O w (w.drewN n):=fun _=>⟨rfl,rfl,rfl,AX _,fun _ _ _=>rfl⟩
theorem Keep.grow (w:World) (os:Array Obj):Keep (fun _=>False) w (Go.Sort.grow w os):=⟨rfl,rfl,rfl,by simp [Go.Sort.grow],fun b hb _=>by simp [Go.Sort.grow,Array.getElem?_append_left hb]⟩
theorem sU:DY PR B0 60 T3:=by
 intro w X γ vs xs r out hsp hg hx hR hV;unfold T3 at hsp;simp only at hsp;split at hsp
 ·rename_i s t;cases hc:decide (s.size+t.size≤strMax) with
  | false=>rw [hc] at hsp; simp [R.get] at hsp
  | true=>
   rw [hc] at hsp;simp only [R.get,AC,AU] at hsp;obtain ⟨rfl,rfl⟩:=hsp;have hle:s.size+t.size≤strMax:=A1 hc;refine sN hR rfl rfl (fun γ' o w' O x h=>by
    simp only [VRel] at h ⊢;obtain ⟨cs,rfl,h⟩:=h;refine ⟨cs,rfl,?_⟩
    match cs,h with
    | ⟨[a,b]⟩,h=>simp only [VRels,VRel] at h ⊢; exact h) (fun b v p hgm hB=>?_)
   obtain ⟨x0,x1,rfl⟩:∃ x0 x1,xs=[x0,x1]:=by
    have:=hV.length
    simp at this
    match xs,this with
    | [a,b],_=>exact ⟨a,b,rfl⟩
   simp only [A0,CB,ER,VRels] at hV;have h0:=mX hgm hV.1;have h1:=hV.2.1;simp only [VRel] at h1;obtain ⟨rfl,ht⟩:=h1;subst h0;refine Does.of_calls Tryz.func60 (by kernel_rfl) (by kernel_rfl) ((Ug b p v (DB s) t w hB.self hB.heap (by rw [vat]; exact hB.own) hB.ne (by rw [vat]; unfold strMax at hle; omega)).mono ?_);rintro e w' ⟨rfl,v',q1,q2,q3,q4,q5⟩;refine ⟨_,rfl,⟨_,v',⟨.inr rfl,q1,?_,q3,?_⟩,q4,q5⟩,fun O=>?_⟩
   ·have e1:DB (s++t)=DB s++DB t:=by simp [DB]
    have e2:(s++t).size=(DB s++DB t).length:=by simp [vat]
    rw [e1,e2];exact q2
   ·simp only [AY]; exact hle
   ·simp only [VRel];refine ⟨_,rfl,?_⟩;simp only [VRels,VRel,ic,B7];refine ⟨trivial,?_,?_⟩
    ·have:AB.min = -9223372036854775808:=rfl
     omega
    ·have:AB.max=9223372036854775807:=rfl
     unfold strMax at hle;omega
 ·simp [R.get] at hsp
theorem Uj {c:Int} (h0:IntKind.u8.min≤c) (h1:c≤IntKind.u8.max):(Value.int .u8 ((NE c).toNat:Int)) = .int .u8 c:=by
 have e1:IntKind.u8.min=0:=rfl;have e2:IntKind.u8.max=255:=rfl
 have:((NE c).toNat:Int)=c:=by
  unfold NE;rw [vaa (by simp [vbm]; omega)];omega
 rw [this]
theorem Kf:DY PR B0 97 YR:=by
 intro w X γ vs xs r out hsp hg hx hR hV;unfold YR at hsp;simp only at hsp;split at hsp
 ·rename_i s c;cases hc:decide (s.size+1≤strMax) with
  | false=>rw [hc] at hsp; simp [R.get] at hsp
  | true=>
   rw [hc] at hsp;simp only [R.get,AC,AU] at hsp;obtain ⟨rfl,rfl⟩:=hsp;have hle:s.size+1≤strMax:=A1 hc;refine sN hR rfl rfl (fun γ' o w' O x h=>by simp only [VRel] at h ⊢; exact h) (fun b v p hgm hB=>?_);obtain ⟨x0,x1,rfl⟩:∃ x0 x1,xs=[x0,x1]:=by
    have:=hV.length
    simp at this
    match xs,this with
    | [a,b],_=>exact ⟨a,b,rfl⟩
   simp only [A0,CB,ER,VRels] at hV;have h0:=mX hgm hV.1;have h1:=hV.2.1;simp only [VRel] at h1;obtain ⟨rfl,hc0,hc1⟩:=h1;subst h0;refine Does.of_calls Tryz.func97 (by kernel_rfl) (by kernel_rfl) ((Uf b p v (DB s) c w hB.self hB.heap (by rw [vat]; exact hB.own) hB.ne (by rw [vat]; unfold strMax at hle; omega)).mono ?_);rintro e w' ⟨rfl,v',q1,q2,q3,q4,q5⟩;refine ⟨_,rfl,⟨_,v',⟨.inr rfl,q1,?_,q3,?_⟩,q4,q5⟩,fun O=>by simp only [VRel]⟩
   ·have e1:DB (s.push (NE c))=DB s++[.int .u8 c]:=by
     rw [← Uj hc0 hc1];simp [DB]
    have e2:(s.push (NE c)).size=(DB s++[Value.int .u8 c]).length:=by simp [vat]
    rw [e1,e2];exact q2
   ·simp only [va0]; exact hle
 ·simp [R.get] at hsp
theorem sT:DY PR B0 56 T2:=by
 intro w X γ vs xs r out hsp hg hx hR hV;unfold T2 at hsp;simp only at hsp;split at hsp
 ·rename_i s;simp only [R.get,AC,AU] at hsp;obtain ⟨rfl,rfl⟩:=hsp;refine sN hR rfl rfl (fun γ' o w' O x h=>by simp only [VRel] at h ⊢; exact h) (fun b v p hgm hB=>?_);obtain ⟨x0,rfl⟩:∃ x0,xs=[x0]:=by
   have:=hV.length
   simp at this
   match xs,this with
   | [a],_=>exact ⟨a,rfl⟩
  simp only [A0,CB,ER,VRels] at hV;have h0:=mX hgm hV.1;subst h0;refine Does.of_calls Tryz.func56 (by kernel_rfl) (by kernel_rfl) ((Ua b p v s w hB.heap hB.own hB.ne).mono ?_);rintro e w' ⟨rfl,q1,q2,q3⟩;exact ⟨_,rfl,⟨p,v,⟨hB.self,q1,q2,hB.ne,hB.size⟩,q3,fun k hk=>.inl hk⟩,fun O=>by simp only [VRel]; exact ⟨trivial,hB.size⟩⟩
 ·simp [R.get] at hsp
theorem gH:DY PR B0 43 OT:=by
 intro w X γ vs xs r out hsp hg hx hR hV;unfold OT at hsp;simp only at hsp;split at hsp
 ·rename_i n;simp only [R.get,AC,AU] at hsp;obtain ⟨rfl,rfl⟩:=hsp;obtain ⟨x0,rfl⟩:∃ x0,xs=[x0]:=by
   have:=hV.length
   simp at this
   match xs,this with
   | [a],_=>exact ⟨a,rfl⟩
  simp only [A0,CB,ER,VRels,VRel,B7] at hV;obtain ⟨rfl,h0,h1⟩:=hV;refine QF hR rfl rfl (Does.of_calls Tryz.func43 (by kernel_rfl) (by kernel_rfl) ((Tryz.strconv_Itoa n h0 h1 w (Ax hg)).mono ?_));rintro e w' ⟨rfl,k,os,rfl⟩;exact ⟨_,rfl,((Keep.drewN w k).trans (Keep.grow _ os) (fun _ _ h=>h)),fun O _=>by
   simp only [VRel];exact ⟨rfl,by have:=ZL h0 h1; unfold strMax; omega⟩⟩
 ·simp [R.get] at hsp
theorem lB:DY PR B0 90 Q1:=by
 intro w X γ vs xs r out hsp hg hx hR hV;unfold Q1 at hsp;simp only at hsp;split at hsp
 ·rename_i s;simp only [R.get,AC,AU] at hsp;obtain ⟨rfl,rfl⟩:=hsp;obtain ⟨x0,rfl⟩:∃ x0,xs=[x0]:=by
   have:=hV.length
   simp at this
   match xs,this with
   | [a],_=>exact ⟨a,rfl⟩
  simp only [A0,CB,ER,VRels,VRel,B7] at hV;obtain ⟨rfl,hs⟩:=hV;unfold strMax at hs;have hb:=vF s;refine QF hR rfl rfl (Does.of_calls Tryz.func90 (by kernel_rfl) (by kernel_rfl) ?_);cases ha:vbh s.data.toList
  ·rename_i v;refine (Tryz.strconv_Atoi_ok s (by omega) v ha w).mono ?_;rintro e w' ⟨rfl,hw⟩;have e1:FK s=v:=by unfold FK; rw [ha]
   have e2:KX s=true:=by unfold KX; rw [ha]
   rw [e1] at hb ⊢;rw [e2];refine ⟨_,rfl,?_,fun O _=>?_⟩
   ·rcases hw with rfl | ⟨t,rfl⟩
    ·exact Keep.refl _ _
    ·unfold vaM;have h1:=Keep.alloc (fun _=>False) w.drew (.cells (Lib.bytesCells w 5 t) 5);refine ((Keep.drew (fun _=>False) w).trans h1 (fun _ _ h=>h)).trans (Keep.freeze (O:=fun k=>k=w.heap.size) _ ⟨w.heap.size,_,none⟩ 1 rfl) (fun b hb h=>?_);subst h;exact absurd hb (Nat.lt_irrefl _)
   ·simp only [VRel];exact ⟨_,rfl,by simp only [VRels,VRel,B7,vaA]; exact hb⟩
  ·skip
   obtain ⟨ev,h1,h2⟩:=Az hg;refine (Tryz.strconv_Atoi_syntax s (by omega) ha ev w h1 h2).mono ?_;rintro e w' ⟨N,rfl,_,_,hw⟩;have e1:FK s=0:=by unfold FK; rw [ha]
   have e2:KX s=false:=by unfold KX; rw [ha]
   rw [e1] at hb ⊢;rw [e2];refine ⟨_,rfl,Keep.below hw,fun O _=>?_⟩;simp only [VRel];exact ⟨_,rfl,by simp only [VRels,VRel,B7]; exact ⟨⟨trivial,hb⟩,_,_,rfl⟩⟩
  ·skip
   obtain ⟨ev,h1,h2⟩:=Ay hg;refine (Tryz.strconv_Atoi_range s (by omega) ha ev w h1 h2).mono ?_;rintro e w' ⟨N,rfl,_,_,hw⟩;have e1:FK s=Lib.atoiSat s.data.toList:=by unfold FK; rw [ha]
   have e2:KX s=false:=by unfold KX; rw [ha]
   rw [e1] at hb ⊢;rw [e2];refine ⟨_,rfl,Keep.below hw,fun O _=>?_⟩;simp only [VRel];exact ⟨_,rfl,by simp only [VRels,VRel,B7]; exact ⟨⟨trivial,hb⟩,_,_,rfl⟩⟩
 ·simp [R.get] at hsp
theorem zh3:DY PR B0 83 hU:=by
 intro w X γ vs xs r out hsp hg hx hR hV;unfold hU at hsp;simp only at hsp;split at hsp
 ·rename_i n b;cases hc:decide (b=10) with
  | false=>rw [hc] at hsp; simp [R.get] at hsp
  | true=>
   rw [hc] at hsp;have hb:=A1 hc;subst hb;simp only [R.get,AC,AU] at hsp;obtain ⟨rfl,rfl⟩:=hsp;obtain ⟨x0,x1,rfl⟩:∃ x0 x1,xs=[x0,x1]:=by
    have:=hV.length
    simp at this
    match xs,this with
    | [a,b],_=>exact ⟨a,b,rfl⟩
   simp only [A0,CB,ER,VRels,VRel,B7] at hV;obtain ⟨⟨rfl,h0,h1⟩,rfl,_⟩:=hV;have e0:AJ.min=0:=rfl;have e1:AJ.max=18446744073709551615:=rfl;rw [e0] at h0;rw [e1] at h1;obtain ⟨u,rfl⟩:∃ u:Nat,n=u:=⟨n.toNat,by omega⟩;refine QF hR rfl rfl (Does.of_calls Tryz.func83 (by kernel_rfl) (by kernel_rfl) ((Zh u (by omega) w (Ax hg)).mono ?_));rintro e w' ⟨rfl,k,os,rfl⟩;refine ⟨_,rfl,((Keep.drewN w k).trans (Keep.grow _ os) (fun _ _ h=>h)),fun O _=>?_⟩;simp only [VRel];have hz:=qB h0 h1;exact ⟨by simp [E8],by unfold strMax; omega⟩
 ·simp [R.get] at hsp
theorem zh4:DY PR B0 189 hZ:=by
 intro w X γ vs xs r out hsp hg hx hR hV;unfold hZ at hsp;simp only at hsp;split at hsp
 ·rename_i s b c;cases hc:(decide (b=10)&&decide (c=64)) with
  | false=>rw [hc] at hsp; simp [R.get] at hsp
  | true=>
   rw [hc] at hsp;simp only [AH,AQ] at hc;obtain ⟨rfl,rfl⟩:=hc;simp only [R.get,AC,AU] at hsp;obtain ⟨rfl,rfl⟩:=hsp;obtain ⟨x0,x1,x2,rfl⟩:∃ x0 x1 x2,xs=[x0,x1,x2]:=by
    have:=hV.length
    simp at this
    match xs,this with
    | [a,b,c],_=>exact ⟨a,b,c,rfl⟩
   simp only [A0,CB,ER,VRels,VRel,B7] at hV;obtain ⟨⟨rfl,hs⟩,⟨rfl,_⟩,rfl,_⟩:=hV;unfold strMax at hs;have hb:=rH s;refine QF hR rfl rfl (Does.of_calls Tryz.func189 (by kernel_rfl) (by kernel_rfl) ?_);cases ha:Lib.parseMag s.data.toList
   ·rename_i v;refine (Tryz.strconv_ParseUint_10_at64_ok s (by omega) v (by rw [vbK]; exact ha) w).mono ?_;rintro e w' ⟨rfl,hw⟩;have e1:GY s=v:=by unfold GY; rw [ha]
    have e2:JD s=true:=by unfold JD; rw [ha]
    rw [e1] at hb ⊢;rw [e2];refine ⟨_,rfl,?_,fun O _=>?_⟩
    ·rcases hw with rfl | rfl
     ·exact Keep.refl _ _
     ·unfold vaM;have h1:=Keep.alloc (fun _=>False) w.drew (.cells (Lib.bytesCells w 5 s) 5);refine ((Keep.drew (fun _=>False) w).trans h1 (fun _ _ h=>h)).trans (Keep.freeze (O:=fun k=>k=w.heap.size) _ ⟨w.heap.size,_,none⟩ 1 rfl) (fun b hb h=>?_);subst h;exact absurd hb (Nat.lt_irrefl _)
    ·simp only [VRel];exact ⟨_,rfl,by simp only [VRels,VRel,B7,vaA]; exact hb⟩
   ·skip
    obtain ⟨ev,h1,h2⟩:=Az hg;refine (Tryz.strconv_ParseUint_10_at64_syntax s (by omega) (by rw [vbK]; exact ha) ev w h1 h2).mono ?_;rintro e w' ⟨N,rfl,_,_,hw⟩;have e1:GY s=0:=by unfold GY; rw [ha]
    have e2:JD s=false:=by unfold JD; rw [ha]
    rw [e1] at hb ⊢;rw [e2];refine ⟨_,rfl,Keep.below hw,fun O _=>?_⟩;simp only [VRel];exact ⟨_,rfl,by simp only [VRels,VRel,B7]; exact ⟨⟨trivial,hb⟩,_,_,rfl⟩⟩
   ·skip
    obtain ⟨ev,h1,h2⟩:=Ay hg;refine (Tryz.strconv_ParseUint_10_at64_range s (by omega) (by rw [vbK]; exact ha) ev w h1 h2).mono ?_;rintro e w' ⟨N,rfl,_,_,hw⟩;have e1:GY s=18446744073709551615:=by unfold GY; rw [ha]
    have e2:JD s=false:=by unfold JD; rw [ha]
    rw [e1] at hb ⊢;rw [e2];refine ⟨_,rfl,Keep.below hw,fun O _=>?_⟩;simp only [VRel];exact ⟨_,rfl,by simp only [VRels,VRel,B7]; exact ⟨⟨trivial,hb⟩,_,_,rfl⟩⟩
 ·simp [R.get] at hsp
theorem zh6:DY PR B0 85 iB:=by
 intro w X γ vs xs r out hsp hg hx hR hV;unfold iB at hsp;simp only at hsp;split at hsp
 ·rename_i s cs;cases hc:(decide (cs.size=1)&&decide ((cs.data.toList.headD 0).toNat < 128)) with
  | false=>rw [hc] at hsp; simp [R.get] at hsp
  | true=>
   rw [hc] at hsp;simp only [AH,AQ] at hc;simp only [R.get,AC,AU] at hsp;obtain ⟨rfl,rfl⟩:=hsp;obtain ⟨c,rfl⟩:∃ c,cs=⟨#[c]⟩:=by
    obtain ⟨⟨l⟩⟩:=cs;have h1:l.length=1:=hc.1
    match l,h1 with
    | [c],_=>exact ⟨c,rfl⟩
   obtain ⟨x0,x1,rfl⟩:∃ x0 x1,xs=[x0,x1]:=by
    have:=hV.length
    simp at this
    match xs,this with
    | [a,b],_=>exact ⟨a,b,rfl⟩
   simp only [A0,CB,ER,VRels,VRel,B7] at hV;obtain ⟨⟨rfl,hs⟩,rfl,_⟩:=hV;have hz:=Oi s ⟨#[c]⟩;unfold strMax at hs;refine QF hR rfl rfl (Does.of_calls Tryz.func85 (by kernel_rfl) (by kernel_rfl) ((Tryz.strings_TrimRight_one s c hc.2 w (by omega)).mono ?_));rintro e w' ⟨rfl,rfl⟩;refine ⟨_,rfl,Keep.refl _ _,fun O _=>?_⟩;simp only [VRel];exact ⟨rfl,by unfold strMax; omega⟩
 ·simp [R.get] at hsp
theorem Ki:DY PR B0 86 YU:=by
 intro w X γ vs xs r out hsp hg hx hR hV;unfold YU at hsp;simp only at hsp;split at hsp
 ·rename_i s n;cases hc:(decide (0≤n)&&decide (s.size*n.toNat≤strMax)) with
  | false=>rw [hc] at hsp; simp [R.get] at hsp
  | true=>
   rw [hc] at hsp;simp only [AH,AQ] at hc;simp only [R.get,AC,AU] at hsp;obtain ⟨rfl,rfl⟩:=hsp;obtain ⟨x0,x1,rfl⟩:∃ x0 x1,xs=[x0,x1]:=by
    have:=hV.length
    simp at this
    match xs,this with
    | [a,b],_=>exact ⟨a,b,rfl⟩
   simp only [A0,CB,ER,VRels,VRel,B7] at hV;obtain ⟨⟨rfl,hs⟩,rfl,_,hn1⟩:=hV;have e1:AB.max=9223372036854775807:=rfl;rw [e1] at hn1;obtain ⟨c,rfl⟩:∃ c:Nat,n=c:=⟨n.toNat,by omega⟩;have hz:=rM s c;have hle:=hc.2;simp only [BD] at hle ⊢;unfold strMax at hle;refine QF hR rfl rfl (Does.of_calls Tryz.func86 (by kernel_rfl) (by kernel_rfl) ((Tryz.strings_Repeat s c w (by omega) (by omega)).mono ?_));rintro e w' ⟨rfl,hw⟩;refine ⟨_,rfl,Keep.below hw,fun O _=>?_⟩;simp only [VRel];exact ⟨rfl,by rw [hz]; unfold strMax; omega⟩
 ·simp [R.get] at hsp
theorem Kg:DY PR B0 57 YS:=by
 intro w X γ vs xs r out hsp hg hx hR hV;unfold YS at hsp;simp only at hsp;split at hsp
 ·rename_i s p;simp only [R.get,AC,AU] at hsp;obtain ⟨rfl,rfl⟩:=hsp;obtain ⟨x0,x1,rfl⟩:∃ x0 x1,xs=[x0,x1]:=by
   have:=hV.length
   simp at this
   match xs,this with
   | [a,b],_=>exact ⟨a,b,rfl⟩
  simp only [A0,CB,ER,VRels,VRel,B7] at hV;obtain ⟨⟨rfl,hs⟩,rfl,_⟩:=hV;have hz:=Oh s p;refine QF hR rfl rfl (Does.of_calls Tryz.func57 (by kernel_rfl) (by kernel_rfl) ((Tryz.strings_CutPrefix s p w).mono ?_));rintro e w' ⟨rfl,rfl⟩;refine ⟨_,rfl,Keep.refl _ _,fun O _=>?_⟩;simp only [VRel];exact ⟨_,rfl,by simp only [VRels,VRel,B7]; exact ⟨⟨rfl,by omega⟩,rfl⟩⟩
 ·simp [R.get] at hsp
theorem sV:DY PR B0 104 T4:=by
 intro w X γ vs xs r out hsp hg hx hR hV;unfold T4 at hsp;simp only at hsp;split at hsp
 ·rename_i s sep;cases hc:decide (s.size < 4294967281) with
  | false=>rw [hc] at hsp; simp [R.get] at hsp
  | true=>
   rw [hc] at hsp;simp only [R.get,AC,AU] at hsp;obtain ⟨rfl,rfl⟩:=hsp;obtain ⟨x0,x1,rfl⟩:∃ x0 x1,xs=[x0,x1]:=by
    have:=hV.length
    simp at this
    match xs,this with
    | [a,b],_=>exact ⟨a,b,rfl⟩
   simp only [A0,CB,ER,VRels,VRel,B7] at hV;obtain ⟨⟨rfl,hs⟩,rfl,hsep⟩:=hV;obtain ⟨m,hm⟩:=Aw hg;refine QF hR rfl rfl (Does.of_calls Tryz.func104 (by kernel_rfl) (by kernel_rfl) ((Tryz.strings_Cut s sep m w (A1 hc) hm).mono ?_));rintro e w' ⟨rfl,n,rfl⟩;have hsz:=iW s sep;refine ⟨_,rfl,Keep.drewN w n,fun O _=>?_⟩;simp only [VRel];exact ⟨_,rfl,by simp only [VRels,VRel,B7]; exact ⟨⟨rfl,by omega⟩,⟨rfl,by omega⟩,rfl⟩⟩
 ·simp [R.get] at hsp
theorem aC:DY PR B0 46 ND:=by
 intro w X γ vs xs r out hsp hg hx hR hV;unfold ND at hsp;simp only at hsp;split at hsp
 ·rename_i s sep;cases hc:(decide (s.size < 4294967281)&&decide (1≤sep.size)) with
  | false=>rw [hc] at hsp; simp [R.get] at hsp
  | true=>
   rw [hc] at hsp;simp only [AH,AQ] at hc;simp only [R.get,AC,AU] at hsp;obtain ⟨rfl,rfl⟩:=hsp;obtain ⟨x0,x1,rfl⟩:∃ x0 x1,xs=[x0,x1]:=by
    have:=hV.length
    simp at this
    match xs,this with
    | [a,b],_=>exact ⟨a,b,rfl⟩
   simp only [A0,CB,ER,VRels,VRel,B7] at hV;obtain ⟨⟨rfl,hs⟩,rfl,hsep⟩:=hV;obtain ⟨m,hm⟩:=Aw hg;have hlen:=Lib.splitB_all sep hc.2 0 _ s rfl;have hcnt:=Lib.countB_le sep hc.2 s.size s (AX _);refine QF hR rfl rfl (Does.of_calls Tryz.func46 (by kernel_rfl) (by kernel_rfl) ((Tryz.strings_Split s sep m w hc.1 hm hc.2).mono ?_));rintro e w' ⟨rfl,rfl⟩;refine ⟨_,rfl,Keep.alloc _ w _,fun O hO=>?_⟩;simp only [VRel]
   have:=ziv (w:=w) (w':=w.alloc (.cells ((D3 s sep).map Value.string).toArray 9)) hO (g:=w.heap.size) (AX _) (vaD w _) (l:=D3 s sep) (c:=Lib.countB s sep+1) (by unfold D3; omega) (by unfold maxLen; omega) (by unfold D3 strMax; omega) (fun p hp=>C2 ((X1 sep _ s).2 p hp) hs)
   unfold D3 at this ⊢;rw [hlen] at this;exact this
 ·simp [R.get] at hsp
theorem Ng {w:World} {O:Nat→Prop} {l:LI} {x:Value} (h:Kd.Rel w O (.list false [.str]) (.list l) x):∃ p c,x = .slice p l.length c∧l.length≤c∧c≤maxLen∧l.length≤strMax∧∀ j y,l[j]?=some y→∃ b o,p=some ⟨b,o,none⟩∧b < w.heap.size∧w.cell? ⟨b,o+j,none⟩=some (.string y.toStr)∧y.toStr.size≤strMax:=by
 simp only [Kd.Rel,IV.toList] at h;obtain ⟨p,c,rfl,hc,hm,hl,hi⟩:=h;refine ⟨p,c,rfl,hc,hm,hl,fun j y hy=>?_⟩;obtain ⟨b,o,rfl,_,hb,hr⟩:=hi j y hy;simp only [Kd.RelAll,AM,A7,BL,Nat.mul_one,C8,B7] at hr;obtain ⟨u,hu,hs⟩:=hr;simp only [Kd.Rel,GD] at hs;obtain ⟨rfl,hs⟩:=hs;exact ⟨b,o,rfl,hb,hu,hs⟩
theorem Kh:DY PR B0 45 YT:=by
 intro w X γ vs xs r out hsp hg hx hR hV;unfold YT at hsp;simp only at hsp;split at hsp
 ·rename_i l sep;cases hc:(decide (l.length≤strMax)&&decide ((GO (l.map IV.toStr) sep).size≤strMax)) with
  | false=>rw [hc] at hsp; simp [R.get] at hsp
  | true=>
   rw [hc] at hsp;simp only [AH,AQ] at hc;simp only [R.get,AC,AU] at hsp;obtain ⟨rfl,rfl⟩:=hsp;obtain ⟨x0,x1,rfl⟩:∃ x0 x1,xs=[x0,x1]:=by
    have:=hV.length
    simp at this
    match xs,this with
    | [a,b],_=>exact ⟨a,b,rfl⟩
   simp only [A0,CB,ER,VRels,VRel,B7] at hV;obtain ⟨h0,rfl,_⟩:=hV;obtain ⟨p,c,rfl,hc1,hc2,hc3,hcell⟩:=Ng h0;have hz:(GO (l.map IV.toStr) sep).size=(va4 ((l.map IV.toStr).map (·.data.toList)) sep.data.toList).length:=by
    show (Array.size (List.toArray _))=_;rw [C7]
   have hle:=hc.2;rw [hz] at hle;unfold strMax at hle hc3;refine QF hR rfl rfl (Does.of_calls Tryz.func45 (by kernel_rfl) (by kernel_rfl) (Calls.mono (R:=fun e w'=>e = .returned (.string (GO (l.map IV.toStr) sep))∧Below w.heap.size w w') ?_ ?_))
   ·cases l with
    | nil=>
     refine (Tryz.strings_Join_none p c sep w).mono ?_;rintro e w' ⟨rfl,rfl⟩;exact ⟨rfl,Below.refl _ _⟩
    | cons y r=>
     obtain ⟨b,o,rfl,hb,_⟩:=hcell 0 y rfl
     have:=Tryz.strings_Join b o c ((y :: r).map IV.toStr) sep w (fun j x hj=>by
      rw [CA,DD] at hj;obtain ⟨y',hj,rfl⟩:=hj;obtain ⟨b',o',hp,_,hu,_⟩:=hcell j y' hj;simp only [AC,DH,B7] at hp;obtain ⟨rfl,rfl⟩:=hp;exact hu) hb (by rw [BK]; omega) (by rw [BK]; omega) (by omega)
     rw [BK] at this;exact this
   ·rintro e w' ⟨rfl,hw⟩;refine ⟨_,rfl,Keep.below hw,fun O _=>?_⟩;simp only [VRel];exact ⟨trivial,by rw [hz]; unfold strMax; omega⟩
 ·simp [R.get] at hsp
theorem zhX:DY PR B0 161 g8:=by
 intro w X γ vs xs r out hsp hg hx hR hV;unfold g8 at hsp;simp only at hsp;split at hsp
 ·rename_i l;cases hc:decide (l.length≤4294967296) with
  | false=>rw [hc] at hsp; simp [R.get] at hsp
  | true=>
   rw [hc] at hsp;have hc:=A1 hc;simp only [R.get,AC,AU] at hsp;obtain ⟨rfl,rfl⟩:=hsp;obtain ⟨x0,rfl⟩:∃ x0,xs=[x0]:=by
    have:=hV.length
    simp at this
    match xs,this with
    | [a],_=>exact ⟨a,rfl⟩
   simp only [A0,CB,ER,VRels,VRel,B7] at hV;obtain ⟨p,c,rfl,hc1,hc2,hc3,hcell⟩:=Ng hV;have hel:∀ (w':World) (O:Nat→Prop) i y,l[i]?=some y→Kd.RelAll w' O [.str] (GD false y) 0 (fun j u=>(l.map fun y=>Value.string y.toStr)[i*[Kd.str].length+j]?=some u):=fun w' O i y hy=>by
    obtain ⟨b,o,_,_,_,hs⟩:=hcell i y hy;simp only [Kd.RelAll,AM,A7,BL,Nat.mul_one,C8,B7];refine ⟨.string y.toStr,by rw [CA,hy]; rfl,?_⟩;simp only [Kd.Rel,GD];exact ⟨trivial,hs⟩
   refine Jt hR rfl (by decide) (by decide) hc3 (Does.of_calls Tryz.func161 (by kernel_rfl) (by kernel_rfl) ?_);cases p with
   | none=>
    have h0:l=[]:=by
     cases l with
     | nil=>rfl
     | cons y r=>
      obtain ⟨b,o,hp,_⟩:=hcell 0 y rfl;cases hp
    subst h0;refine (Uz _ c w).mono ?_;rintro e w' ⟨rfl,rfl⟩;exact ⟨_,[],rfl,Keep.refl _ _,⟨rfl,.inl ⟨rfl,rfl⟩⟩,hel _⟩
   | some a=>
    refine (Vc a l.length c (l.map fun y=>Value.string y.toStr) w (by rw [BK]) (by unfold maxLen; omega) (by omega) (fun j u hj=>?_) (fun u hu=>?_)).mono ?_
    ·rw [CA,DD] at hj;obtain ⟨y,hj,rfl⟩:=hj;obtain ⟨b,o,hp,_,hu,_⟩:=hcell j y hj;simp only [AC] at hp;subst hp;rw [Addr.add_lit];exact hu
    ·rw [CK] at hu;obtain ⟨y,_,rfl⟩:=hu;rfl
    ·rintro e w' ⟨v',rfl,hown,hw⟩;exact ⟨v',_,rfl,Keep.below hw,hown,hel _⟩
 ·simp [R.get] at hsp
def SpsOK:List (Nat × DW)→Prop
 | []=>True
 | (f,sp) :: r=>DY PR B0 f sp∧SpsOK r
theorem SpsOK.get:∀ {l:List (Nat × DW)},SpsOK l→∀ f sp,lk l f=some sp→DY PR B0 f sp
 | [],_,f,sp,h=>by simp [lk] at h
 | (g,sg) :: r,hs,f,sp,h=>by
  simp only [lk] at h;split at h
  ·rename_i hb;simp only [AC] at h;subst h;rw [← F9.1 hb];exact hs.1
  ·exact SpsOK.get hs.2 f sp h
theorem D7 {f:Nat} {fn:Func} {code:Code} {rs:List ResultVar} {nt:Nat} (sps:List (Nat × DW)) (lp:List (Nat × KP)) (sp:DW) (rks:List (List Kd)) (hf:PR.funcs[f]?=some fn)
  (hc:(fn.name == "runtime.NumGoroutine")=false∧fn.body=some code∧fn.ntmps=nt∧B6 nt 900000=true∧fn.results.toList=rs) (hs:SpsOK sps)
  (h:∀ vs r,(MG vs (GN vs)→TK vs)→(sp vs).get=some r→∃ N,D1 (D6 sps lp nt N) code rs rks vs=some r):DY PR B0 f sp:=
 Ju (D6 sps lp nt) sp rks hf hc (fun _=>rfl) Dq (fun _=>No rfl Nn) (fun _=>Aa rfl z8) (fun _=>hs.get) (fun _ f p hp=>by cases hp) (fun _ h=>vR h) h
def IpsOK:List (Nat × Ip)→Prop
 | []=>True
 | (f,p) :: r=>R5 PR f p∧IpsOK r
theorem IpsOK.get:∀ {l:List (Nat × Ip)},IpsOK l→∀ f p,lk l f=some p→R5 PR f p
 | [],_,f,p,h=>by simp [lk] at h
 | (g,pg) :: r,hs,f,p,h=>by
  simp only [lk] at h;split at h
  ·rename_i hb;simp only [AC] at h;subst h;rw [← F9.1 hb];exact hs.1
  ·exact IpsOK.get hs.2 f p h
theorem Jv {f:Nat} {fn:Func} {code:Code} {rs:List ResultVar} {nt:Nat} (sps:List (Nat × DW)) (ips:List (Nat × Ip)) (lp:List (Nat × KP)) (sp:DW) (rks:List (List Kd)) (hf:PR.funcs[f]?=some fn)
  (hc:(fn.name == "runtime.NumGoroutine")=false∧fn.body=some code∧fn.ntmps=nt∧B6 nt 900000=true∧fn.results.toList=rs) (hs:SpsOK sps) (hi:IpsOK ips)
  (h:∀ vs r,(MG vs (GN vs)→TK vs)→(sp vs).get=some r→∃ N,D1 (kB sps ips lp nt N) code rs rks vs=some r):DY PR B0 f sp:=
 Ju (kB sps ips lp nt) sp rks hf hc (fun _=>rfl) Dq (fun _=>No rfl Nn) (fun _=>Aa rfl z8) (fun _=>hs.get) (fun _=>hi.get) (fun _ h=>vR h) h
open Go Go.RowKit
theorem EO {n:Int} (h0 : -9223372036854775808≤n) (h1:n≤9223372036854775807):AA .i64 n=n:=by
 have e:AA .i64 n=(n+9223372036854775808) % 18446744073709551616 - 9223372036854775808:=by
  simp [AA,AR,vai];omega
 rw [e];omega
theorem IK {α:Type} {l:List α} {i:Nat} (h:i < l.length):decide ((i:Int) < ic l.length)=true:=by simp [ic]; omega
theorem J5 {α:Type} {l:List α} {i:Nat} (h:l.length≤i):decide ((i:Int) < ic l.length)=false:=by simp [ic]; omega
theorem JP {i:Nat}:decide (0≤(i:Int))=true:=by simp
theorem HR {i:Nat} (h:i < 9223372036854775807):AA .i64 ((i:Int)+1)=((i+1:Nat):Int):=by rw [EO (by omega) (by omega)]; rfl
theorem JB {α:Type} [Inhabited α] {l:List α} {i:Nat} (h:i < l.length):l.getD (i:Int).toNat default=l[i]:=by simp [h]
theorem nS (a b:Int):decide (a≤b)=!decide (b < a):=by rw [vaZ]; simp
theorem nR (a b:Int):decide (a > b)=decide (b < a):=rfl
theorem T9 (a b:Int):(a==b)=decide (a=b):=rfl
theorem vV (a b:Int):(a != b)=!decide (a=b):=rfl
theorem DJ {α:Type _} (a b:α):cond true a b=a:=Eq.trans (Eq.refl a) (Eq.refl a)
theorem DK {α:Type _} (a b:α):cond false a b=b:=Eq.trans (Eq.refl b) (Eq.refl b)
open Go
def FR (n:Int):Int:=AA .i64 n
def JU (n:Int):Int:=AA .u64 n
def N0 (lo hi:Int):Int:=FR (FR (hi - lo)+1)
def DN (n lo hi:Int):Int:=cond (decide (n.tmod (N0 lo hi) < 0)) (FR (lo+FR (FR (FR (n.tmod (N0 lo hi)+hi) - lo)+1))) (FR (lo+n.tmod (N0 lo hi)))
def MO:DW
 | [.int .i64 n,.int .i64 lo,.int .i64 hi]=>.br (decide (N0 lo hi=0)) .no (.ok (.int .i64 (DN n lo hi)) [])
 | _=>.no
abbrev YC:BA:=⟨#[45]⟩
abbrev Ox:BA:=⟨#[46]⟩
abbrev zje:BA:=⟨#[48]⟩
abbrev VK:BA:=⟨#[]⟩
def WB:DW
 | []=>.ok (.int .u64 390625) []
 | _=>.no
def KJ (r:Nat):List UInt8:=Lib.trimRightB (Lib.repeatL [48] (8 - (BV (r*390625)).length)++BV (r*390625)) 48
def IL (u:Nat):List UInt8:=BV (u / 256)++(if u % 256=0 then [] else 46 :: KJ (u % 256))
def K3 (n:Int):List UInt8:=if n < 0 then 45 :: IL n.natAbs else IL n.natAbs
def DU (n:Int):BA:=⟨(K3 n).toArray⟩
def SE:DW
 | [.int .i64 n]=>.ok (.str (DU n)) []
 | _=>.no
def cD:DW
 | [.str s]=>.ok (.tup [.int .u64 (GY s),.bool (JD s)]) []
 | _=>.no
def PW (s:BA):BA:=cutL (GI s YC) Ox
def JM (s:BA):BA:=FW (GI s YC) Ox
def NJ (s:BA):BA:=JM s++H1 zje (8 - (JM s).size)
def PV (s:BA):Int:=JU (JU (GY (PW s)*256)+GY (NJ s) / 390625)
def eB (s:BA):Int:=FR (cond (OB s YC) (JU (0 - PV s)) (PV s))
def W4 (s:BA):Bool:=
 decide ((JM s).size≤8)&&(JD (PW s)&&(JD (NJ s)&&(decide (GY (PW s)≤36028797018963968)&&(decide (GY (NJ s) % 390625=0)&&decide (DU (eB s)=s)))))
def GE (s:BA):Int:=cond (W4 s) (eB s) 0
def WA:DW
 | [.str s]=>.br (decide (s.size < 4294967281)) (.ok (.tup [.int .i64 (GE s),.bool (W4 s)]) []) .no
 | _=>.no
open Go Go.Proofs
def Qd (N:Nat):Env:=D6 [] [] 24 N
theorem zdk (N:Nat) (n lo hi:Int):D1 (Qd N) wR [.tmp 6] [[.z]] [.i n,.i lo,.i hi] =
 (cond (decide (AA AB (AA AB (hi - lo)+1)=0))
 none
 (cond (decide (Int.tmod n (AA AB (AA AB (hi - lo)+1)) < 0))
 (some ((.i (AA AB (lo+AA AB (AA AB (AA AB (Int.tmod n (AA AB (AA AB (hi - lo)+1))+hi) - lo)+1)))),[]))
 (some ((.i (AA AB (lo+Int.tmod n (AA AB (AA AB (hi - lo)+1))))),[])))):=by kernel_rfl
def Qv (N:Nat):Env:=D6 [] [(3,⟨[0,1,2],[],[]⟩)] 8 N
def Qu (N:Nat):Env:=D6 [(189,hZ)] [] 19 N
theorem zdG (N:Nat) (s:BA):D1 (Qu N) xG [.tmp 2,.tmp 3] [[.int .u64],[.bool]] [.str s] =
 (cond (JD s)
 (cond (decide (0≤0)&&decide (0 < ic (AD s)))
 (some ((.tup [.int .u64 (GY s),.bool (ic (UInt8.toNat (AI (Array.toList (ByteArray.data s)) (AF 0) 0)) != 43)]),[]))
 none)
 (some ((.tup [.int .u64 (GY s),.bool false]),[]))):=by kernel_rfl
def Qs (N:Nat):Env:=D6 [(84,WB),(83,hU),(86,YU),(85,iB)] [] 38 N
theorem zdE (N:Nat) (n:Int):D1 (Qs N) xE [.tmp 2] [[.str]] [.i n] =
 (cond (decide (n < 0))
 (cond (decide (AD { data:=#[45] }+AD (E8 (vaX (AA AJ (0 - AA AJ n)) (2 ^ min (AF 8) (AR AJ))))≤strMax))
 (cond (AA AJ (ic (CH (A5 (AR AJ) (AA AJ (0 - AA AJ n)) &&& A5 (AR AJ) 255)))==0)
 (some ((.str ({ data:=#[45] }++E8 (vaX (AA AJ (0 - AA AJ n)) (2 ^ min (AF 8) (AR AJ))))),[]))
 (cond (decide (AD ({ data:=#[45] }++E8 (vaX (AA AJ (0 - AA AJ n)) (2 ^ min (AF 8) (AR AJ))))+AD { data:=#[46] }≤strMax))
 (cond (decide (0≤AA AB (8 - ic (AD (E8 (AA AJ (AA AJ (ic (CH (A5 (AR AJ) (AA AJ (0 - AA AJ n)) &&& A5 (AR AJ) 255)))*390625))))))&&decide (AD { data:=#[48] }*AF (AA AB (8 - ic (AD (E8 (AA AJ (AA AJ (ic (CH (A5 (AR AJ) (AA AJ (0 - AA AJ n)) &&& A5 (AR AJ) 255)))*390625))))))≤strMax))
 (cond (decide (AD (H1 { data:=#[48] } (AF (AA AB (8 - ic (AD (E8 (AA AJ (AA AJ (ic (CH (A5 (AR AJ) (AA AJ (0 - AA AJ n)) &&& A5 (AR AJ) 255)))*390625))))))))+AD (E8 (AA AJ (AA AJ (ic (CH (A5 (AR AJ) (AA AJ (0 - AA AJ n)) &&& A5 (AR AJ) 255)))*390625)))≤strMax))
 (cond (decide (AD ({ data:=#[45] }++E8 (vaX (AA AJ (0 - AA AJ n)) (2 ^ min (AF 8) (AR AJ)))++{ data:=#[46] })+AD (PL (H1 { data:=#[48] } (AF (AA AB (8 - ic (AD (E8 (AA AJ (AA AJ (ic (CH (A5 (AR AJ) (AA AJ (0 - AA AJ n)) &&& A5 (AR AJ) 255)))*390625)))))))++E8 (AA AJ (AA AJ (ic (CH (A5 (AR AJ) (AA AJ (0 - AA AJ n)) &&& A5 (AR AJ) 255)))*390625))) { data:=#[48] })≤strMax))
 (some ((.str ({ data:=#[45] }++E8 (vaX (AA AJ (0 - AA AJ n)) (2 ^ min (AF 8) (AR AJ)))++{ data:=#[46] }++PL (H1 { data:=#[48] } (AF (AA AB (8 - ic (AD (E8 (AA AJ (AA AJ (ic (CH (A5 (AR AJ) (AA AJ (0 - AA AJ n)) &&& A5 (AR AJ) 255)))*390625)))))))++E8 (AA AJ (AA AJ (ic (CH (A5 (AR AJ) (AA AJ (0 - AA AJ n)) &&& A5 (AR AJ) 255)))*390625))) { data:=#[48] })),[]))
 none)
 none)
 none)
 none))
 none)
 (cond (decide (AD { data:=#[] }+AD (E8 (vaX (AA AJ n) (2 ^ min (AF 8) (AR AJ))))≤strMax))
 (cond (AA AJ (ic (CH (A5 (AR AJ) (AA AJ n) &&& A5 (AR AJ) 255)))==0)
 (some ((.str ({ data:=#[] }++E8 (vaX (AA AJ n) (2 ^ min (AF 8) (AR AJ))))),[]))
 (cond (decide (AD ({ data:=#[] }++E8 (vaX (AA AJ n) (2 ^ min (AF 8) (AR AJ))))+AD { data:=#[46] }≤strMax))
 (cond (decide (0≤AA AB (8 - ic (AD (E8 (AA AJ (AA AJ (ic (CH (A5 (AR AJ) (AA AJ n) &&& A5 (AR AJ) 255)))*390625))))))&&decide (AD { data:=#[48] }*AF (AA AB (8 - ic (AD (E8 (AA AJ (AA AJ (ic (CH (A5 (AR AJ) (AA AJ n) &&& A5 (AR AJ) 255)))*390625))))))≤strMax))
 (cond (decide (AD (H1 { data:=#[48] } (AF (AA AB (8 - ic (AD (E8 (AA AJ (AA AJ (ic (CH (A5 (AR AJ) (AA AJ n) &&& A5 (AR AJ) 255)))*390625))))))))+AD (E8 (AA AJ (AA AJ (ic (CH (A5 (AR AJ) (AA AJ n) &&& A5 (AR AJ) 255)))*390625)))≤strMax))
 (cond (decide (AD ({ data:=#[] }++E8 (vaX (AA AJ n) (2 ^ min (AF 8) (AR AJ)))++{ data:=#[46] })+AD (PL (H1 { data:=#[48] } (AF (AA AB (8 - ic (AD (E8 (AA AJ (AA AJ (ic (CH (A5 (AR AJ) (AA AJ n) &&& A5 (AR AJ) 255)))*390625)))))))++E8 (AA AJ (AA AJ (ic (CH (A5 (AR AJ) (AA AJ n) &&& A5 (AR AJ) 255)))*390625))) { data:=#[48] })≤strMax))
 (some ((.str ({ data:=#[] }++E8 (vaX (AA AJ n) (2 ^ min (AF 8) (AR AJ)))++{ data:=#[46] }++PL (H1 { data:=#[48] } (AF (AA AB (8 - ic (AD (E8 (AA AJ (AA AJ (ic (CH (A5 (AR AJ) (AA AJ n) &&& A5 (AR AJ) 255)))*390625)))))))++E8 (AA AJ (AA AJ (ic (CH (A5 (AR AJ) (AA AJ n) &&& A5 (AR AJ) 255)))*390625))) { data:=#[48] })),[]))
 none)
 none)
 none)
 none))
 none)):=by kernel_rfl
open Go Go.Proofs
theorem Z8:DY PR B0 17 MO:=by
 refine D7 [] [] MO [[.z]] Tryz.func17 zaA trivial ?_;intro vs r hwf h;unfold MO at h;split at h
 ·rename_i n lo hi;refine ⟨0,?_⟩;rw [← h];refine (zdk 0 n lo hi).trans ?_;simp only [R.get_br,R.get_ok,R.get_no];unfold DN N0 FR;cases decide (AA AB (AA AB (hi - lo)+1)=0) <;> cases decide (Int.tmod n (AA AB (AA AB (hi - lo)+1)) < 0) <;> rfl
 ·simp [R.get] at h
open Go
theorem UB {s t:BA} (h:s.data.toList=t.data.toList):s=t:=ByteArray.ext (Array.ext' h)
theorem dV (s t:BA):(s.toList==t.toList)=decide (s=t):=by
 rw [Lib.toList_data,Lib.toList_data];by_cases h:s=t
 ·subst h; simp
 ·rw [AL h,A3];exact fun e=>h (UB e)
theorem S9 (s:BA):s.size=s.data.toList.length:=by rw [CL]; rfl
theorem W3 (u:Nat):∀ c∈BV u,48≤c.toNat∧c.toNat≤57:=by
 induction u using vbq with
 | _ u ih=>
  intro c hc;rw [BV] at hc;split at hc
  ·rename_i h;simp only [BJ] at hc;subst hc;rw [vaa (by simp [vbm]; omega)];omega
  ·rename_i h;rw [AV,BJ] at hc;rcases hc with hc | hc
   ·exact ih (u / 10) (by omega) c hc
   ·subst hc;rw [vaa (by simp [vbm]; omega)];omega
theorem iX (u:Nat):BV u≠[]:=by
 rw [BV];split <;> simp
theorem zb6 (n:Int):∀ c∈C5 n,c.toNat=45∨(48≤c.toNat∧c.toNat≤57):=by
 intro c hc;unfold C5 at hc;split at hc
 ·rcases AP.1 hc with h | h
  ·subst h; exact .inl rfl
  ·exact .inr (W3 _ c h)
 ·exact .inr (W3 _ c hc)
theorem zfp (u:Nat):∀ (acc:Nat) (r:List UInt8),acc*10 ^ (BV u).length+u < 18446744073709551616 →
  vaO acc (BV u++r)=vaO (acc*10 ^ (BV u).length+u) r:=by
 induction u using vbq with
 | _ u ih=>
  intro acc r hlt;rw [BV] at hlt ⊢;split at hlt
  ·rename_i h;rw [dif_pos h];simp only [C3,Nat.pow_one,List.singleton_append] at hlt ⊢;have hc:(UInt8.ofNat (48+u)).toNat=48+u:=vaa (by simp [vbm]; omega);rw [vaO,hc,BP (by omega),BB (by omega),BB (by omega)];congr 1;omega
  ·rename_i h;rw [dif_neg h];simp only [AS,C3,Nat.pow_succ,va1,List.singleton_append] at hlt ⊢;have ea:acc*(10 ^ (BV (u / 10)).length*10)=acc*10 ^ (BV (u / 10)).length*10:=by rw [Nat.mul_assoc]
   rw [ea] at hlt ⊢;rw [ih (u / 10) (by omega) acc _ (by omega)];have hc:(UInt8.ofNat (48+u % 10)).toNat=48+u % 10:=vaa (by simp [vbm]; omega);rw [vaO,hc,BP (by omega),BB (by omega),BB (by omega)];congr 1;omega
theorem qT (u:Nat) (h:u < 18446744073709551616):Lib.parseMag (BV u) = .ok u:=by
 unfold Lib.parseMag;rw [BB (iX u)]
 have:=zfp u 0 [] (by omega)
 rw [C9] at this;rw [this,Nat.zero_mul,BL];rfl
theorem vI (n:Int) (h0 : -9223372036854775808≤n) (h1:n≤9223372036854775807):vbh (C5 n) = .ok n:=by
 unfold C5;split
 ·rename_i hn;unfold vbh;have e:(45:UInt8).toNat=45:=rfl;simp only [e,or_true,CQ,qT n.natAbs (by omega),va9,false_and,if_false,vaA];rw [BB (by omega)];congr 1;omega
 ·rename_i hn;obtain ⟨c,r,hl⟩:∃ c r,BV n.toNat=c :: r:=by
   cases h:BV n.toNat with
   | nil=>exact absurd h (iX _)
   | cons c r=>exact ⟨c,r,rfl⟩
  have hc:=W3 n.toNat c (by rw [hl]; exact AN ..);have hm:=qT n.toNat (by omega);rw [hl] at hm ⊢;unfold vbh;have e1:¬ c.toNat=43:=by omega
  have e2:¬ c.toNat=45:=by omega
  simp only [e1,e2,or_self,if_false,hm,false_and,not_false_eq_true,vaA];rw [BB (by omega)];congr 1;omega
theorem vG {s:BA} {n:Int} (h:s.data.toList=C5 n) (h0 : -9223372036854775808≤n) (h1:n≤9223372036854775807):FK s=n:=by
 unfold FK;rw [h,vI n h0 h1]
theorem oU:∀ (w r:List UInt8) (c:UInt8),c ∉ w→DF (w++c :: r) c=w.length
 | [],r,c,_=>by simp [DF]
 | b :: w,r,c,h=>by
  simp only [AP,not_or] at h;have e:(b==c)=false:=A3.2 (fun e=>h.1 e.symm);have e2:((w.length:Int) == -1)=false:=by rw [A3]; omega
  simp only [CS,DF,e,oU w r c h.2,e2,AM];simp
theorem Bk:∀ (w:List UInt8) (c:UInt8),c ∉ w→DF w c = -1
 | [],c,_=>rfl
 | b :: w,c,h=>by
  simp only [AP,not_or] at h;have e:(b==c)=false:=A3.2 (fun e=>h.1 e.symm);simp [DF,e,Bk w c h.2]
theorem Vp (w r:List UInt8) (c:UInt8) (h:c ∉ w):vaN (w++c :: r) [c]=(w,r,true):=by
 unfold vaN;rw [Lib.index_one,oU w r c h,BP (by omega)];simp
theorem Lb (w r:List UInt8) (c:UInt8) (h:c ∉ w):vaq (w++c :: r) [c]=w :: vaq r [c]:=by
 unfold vaq;have ec:Lib.count (w++c :: r) [c]=Lib.count r [c]+1:=by
  rw [vbu,vbu,vbx,van h,List.count_cons_self,BL]
 rw [ec,Lib.splitK,Lib.index_one,oU w r c h];have e2:((w.length:Int) == -1)=false:=by rw [A3]; omega
 rw [e2];simp
theorem Lg (w:List UInt8) (c:UInt8) (h:c ∉ w):vaq w [c]=[w]:=by
 unfold vaq;rw [vbu,van h];rfl
theorem La (s sep:BA):(D3 s sep).map (·.data.toList)=vaq s.data.toList sep.data.toList:=by
 unfold D3 vaq;rw [Lib.splitB_data]
open Go
theorem ziO {n m:Int} (h:0 < m) : -m < n.tmod m∧n.tmod m < m:=by
 constructor
 ·rcases Int.lt_or_le n 0 with hn | hn
  ·have e:n.tmod m = -((-n).tmod m):=by rw [Int.neg_tmod,Int.neg_neg]
   have:=Int.tmod_lt_of_pos (-n) h
   omega
  ·have:=Int.tmod_nonneg m hn
   omega
 ·exact Int.tmod_lt_of_pos n h
theorem HG {n lo hi:Int} (h:lo≤hi) (h0 : -2000000000000000000≤lo) (h1:hi≤2000000000000000000):N0 lo hi=hi - lo+1∧lo≤DN n lo hi∧DN n lo hi≤hi:=by
 have e1:FR (hi - lo)=hi - lo:=EO (by omega) (by omega);have e2:N0 lo hi=hi - lo+1:=by
  unfold N0;rw [e1];exact EO (by omega) (by omega)
 refine ⟨e2,?_⟩;unfold DN;rw [e2];obtain ⟨t0,t1⟩:=ziO (n:=n) (m:=hi - lo+1) (by omega);generalize n.tmod (hi - lo+1)=q at t0 t1 ⊢;cases hq:decide (q < 0) with
 | true=>
  have hq:=A1 hq;simp only [BH];have a1:FR (q+hi)=q+hi:=EO (by omega) (by omega);have a2:FR (q+hi - lo)=q+hi - lo:=EO (by omega) (by omega);have a3:FR (q+hi - lo+1)=q+hi - lo+1:=EO (by omega) (by omega);have a4:FR (lo+(q+hi - lo+1))=lo+(q+hi - lo+1):=EO (by omega) (by omega);rw [a1,a2,a3,a4];omega
 | false=>
  have hq:=BG hq;simp only [A9];have a1:FR (lo+q)=lo+q:=EO (by omega) (by omega);rw [a1];omega
theorem lT (n:Int):AA .u64 n=n % 18446744073709551616:=by simp [AA,AR,vai]
abbrev EF (n:Int):Prop := -9223372036854775808≤n∧n≤9223372036854775807
theorem uW {f:Nat→Bool} (h:(vaI 256).all f=true) {r:Nat} (hr:r < 256):f r=true:=CU.1 h r (vbn.2 hr)
def Ez (r:Nat):Bool:=match Lib.parseMag ((if r=0 then [] else KJ r)++Lib.repeatL [48] (8 - (if r=0 then [] else KJ r).length)) with | .ok v=>BQ v (r*390625) | _=>false
theorem zft:(vaI 256).all Ez=true:=by kernel_rfl
theorem zfs {r:Nat} (h:r < 256):Lib.parseMag ((if r=0 then [] else KJ r)++Lib.repeatL [48] (8 - (if r=0 then [] else KJ r).length)) = .ok (r*390625):=by
 have:=uW zft h
 unfold Ez at this;split at this
 ·rename_i v hv;rw [hv,vam this]
 ·cases this
def Ew (r:Nat):Bool:=BQ r 0||(B6 (KJ r).length 8&&((KJ r).all (fun c=>B6 48 c.toNat&&B6 c.toNat 57)&&(match (KJ r).reverse with | []=>false | c :: _=>!(BQ c.toNat 48))))
theorem Wa:(vaI 256).all Ew=true:=by kernel_rfl
theorem iY {r:Nat} (h0:r≠0) (h:r < 256):(KJ r).length≤8∧(∀ c∈KJ r,48≤c.toNat∧c.toNat≤57)∧∃ l c,KJ r=l++[c]∧c.toNat≠48:=by
 have:=uW Wa h
 unfold Ew at this;simp only [vao,AH,CU] at this;rcases this with h1 | ⟨h1,h2,h3⟩
 ·exact absurd (vam h1) h0
 ·refine ⟨AO h1,fun c hc=>⟨AO (h2 c hc).1,AO (h2 c hc).2⟩,?_⟩;cases hr:(KJ r).reverse with
  | nil=>rw [hr] at h3; cases h3
  | cons c l=>
   rw [hr] at h3;refine ⟨l.reverse,c,?_,?_⟩
   ·have:=congrArg List.reverse hr
    simpa using this
   ·intro e;have h3:(!c.toNat.beq 48)=true:=h3;rw [e] at h3;cases h3
theorem gG (u:Nat):IL u=BV (u / 256)++(if u % 256=0 then [] else 46 :: KJ (u % 256)):=rfl
theorem Vw (v:Nat):∃ c r,BV v=c :: r∧48≤c.toNat∧c.toNat≤57:=by
 cases h:BV v with
 | nil=>exact absurd h (iX v)
 | cons c r=>exact ⟨c,r,rfl,W3 v c (by rw [h]; exact AN ..)⟩
theorem sE (u:Nat):∃ c r,IL u=c :: r∧48≤c.toNat∧c.toNat≤57:=by
 obtain ⟨c,r,h,h1⟩:=Vw (u / 256);exact ⟨c,r++_,by rw [gG,h]; rfl,h1⟩
theorem Vx (v:Nat) {c:UInt8} (h:c.toNat < 48):c ∉ BV v:=fun hc=>by
 have:=W3 v c hc
 omega
theorem Vs (w:List UInt8) (c:UInt8) (h:c ∉ w):vaN w [c]=(w,[],false):=by
 unfold vaN;rw [Lib.index_one,Bk w c h,BB (by omega)]
theorem zgP (u:Nat):(vaN (IL u) [46]).1=BV (u / 256)∧(vaN (IL u) [46]).2.1=(if u % 256=0 then [] else KJ (u % 256)):=by
 have hno:(46:UInt8) ∉ BV (u / 256):=Vx _ (by decide);rw [gG];by_cases h:u % 256=0
 ·rw [BP h,BP h,C9,Vs _ _ hno];exact ⟨rfl,rfl⟩
 ·rw [BB h,BB h,Vp _ _ _ hno];exact ⟨rfl,rfl⟩
theorem zfF (n:Int):OB (DU n) YC=decide (n < 0)∧GI (DU n) YC=⟨(IL n.natAbs).toArray⟩:=by
 unfold OB GI Lib.trimPrefix Lib.hasPrefix DU K3;show [(45:UInt8)].isPrefixOf (if n < 0 then 45 :: IL n.natAbs else IL n.natAbs)=_∧(⟨(if [(45:UInt8)].isPrefixOf (if n < 0 then 45 :: IL n.natAbs else IL n.natAbs)=true then _ else (if n < 0 then 45 :: IL n.natAbs else IL n.natAbs)).toArray⟩:BA)=_;by_cases h:n < 0
 ·rw [BP h,AE h];have e:[(45:UInt8)].isPrefixOf (45 :: IL n.natAbs)=true:=by simp [vbA]
  rw [e,BP rfl];exact ⟨rfl,rfl⟩
 ·rw [BB h,AL h];obtain ⟨c,r,hc,hc1,_⟩:=sE n.natAbs;have e:[(45:UInt8)].isPrefixOf (IL n.natAbs)=false:=by
   rw [hc];simp only [vbA,B9,A3];intro e;rw [← e] at hc1;revert hc1;decide
  rw [e];simp
theorem Gw {s:BA} {v:Nat} (h:Lib.parseMag s.data.toList = .ok v):GY s=v∧JD s=true:=by
 unfold GY JD;rw [h];exact ⟨rfl,rfl⟩
theorem zfI {n:Int} (hn:EF n):W4 (DU n)=true∧GE (DU n)=n:=by
 obtain ⟨hn0,hn1⟩:=hn;obtain ⟨hm,hb⟩:=zfF n;have hu:n.natAbs≤9223372036854775808:=by omega
 obtain ⟨c1,c2⟩:=zgP n.natAbs;have hW:PW (DU n)=⟨(BV (n.natAbs / 256)).toArray⟩:=by
  unfold PW cutL;rw [hb];show (⟨(vaN (IL n.natAbs) [46]).1.toArray⟩:BA)=_;rw [c1]
 have hP:JM (DU n)=⟨(if n.natAbs % 256=0 then [] else KJ (n.natAbs % 256)).toArray⟩:=by
  unfold JM FW;rw [hb];show (⟨(vaN (IL n.natAbs) [46]).2.1.toArray⟩:BA)=_;rw [c2]
 have hr:n.natAbs % 256 < 256:=by omega
 obtain ⟨v1,n1⟩:=Gw (s:=PW (DU n)) (v:=n.natAbs / 256) (by rw [hW]; exact qT _ (by omega));have hz:(JM (DU n)).size=(if n.natAbs % 256=0 then ([]:List UInt8) else KJ (n.natAbs % 256)).length:=by rw [hP,S9]
 have h8:(JM (DU n)).size≤8:=by
  rw [hz];split
  ·simp
  ·rename_i h0;exact (iY h0 hr).1
 obtain ⟨v2,n2⟩:=Gw (s:=NJ (DU n)) (v:=n.natAbs % 256*390625) (by
  have:=zfs hr
  unfold NJ;rw [hz,hP];simp only [ByteArray.data_append,vah];exact this)
 have hS:PV (DU n)=(n.natAbs:Int):=by
  unfold PV JU;rw [v1,v2];rw [lT,lT];omega
 have hN:eB (DU n)=n:=by
  unfold eB;rw [hm,hS];unfold FR JU;cases hd:decide (n < 0) with
  | true=>
   have:=A1 hd
   simp only [BH];rw [IntKind.wrap_i64,lT];omega
  | false=>
   have:=BG hd
   simp only [A9];rw [EO (by omega) (by omega)];omega
 have hI:W4 (DU n)=true:=by
  unfold W4;rw [AE h8,n1,n2,v1,v2,hN,AE (show ((n.natAbs / 256:Nat):Int)≤36028797018963968 by omega),AE (show ((n.natAbs % 256*390625:Nat):Int) % 390625=0 by omega),AE rfl];rfl
 refine ⟨hI,?_⟩;unfold GE;rw [hI,hN];rfl
theorem Gk (n:Int):∃ c r,(DU n).data.toList=c :: r∧c.toNat≠43:=by
 show ∃ c r,K3 n=c :: r∧c.toNat≠43;unfold K3;split
 ·exact ⟨45,_,rfl,by decide⟩
 ·obtain ⟨c,r,h,h1,_⟩:=sE n.natAbs;exact ⟨c,r,h,by omega⟩
theorem XQ (n:Int) (hn:EF n):1≤(DU n).size∧(DU n).size≤40:=by
 obtain ⟨c,r,h,_⟩:=Gk n;refine ⟨by rw [S9,h]; simp,?_⟩;rw [S9];show (K3 n).length≤40;have hs:(IL n.natAbs).length≤30:=by
  rw [gG,AS];have h1:(BV (n.natAbs / 256)).length≤20:=by
   have:=qB (n:=((n.natAbs / 256:Nat):Int)) (by omega) (by obtain ⟨_,_⟩:=hn; omega)
   rw [S9] at this;exact this
  split
  ·simp; omega
  ·rename_i h0
   have:=(iY h0 (by omega:n.natAbs % 256 < 256)).1
   simp only [AM];omega
 unfold K3;split
 ·simp only [AM]; omega
 ·omega
open Go
structure Qy where
 k:Int
 c:Int
 a0:Int
 b0:Int
 a1:Int
 b1:Int
 a2:Int
 b2:Int
 a3:Int
 b3:Int
 a4:Int
 b4:Int
 lo:Int
 hi:Int
 ft:Int
 fl:Bool
 bu:Int
def Qy.V (q:Qy):V:=.agg [.int .i64 q.k,.int .i64 q.c,.int .i64 q.a0,.int .i64 q.b0,.int .i64 q.a1,.int .i64 q.b1,.int .i64 q.a2,.int .i64 q.b2,.int .i64 q.a3,.int .i64 q.b3,.int .i64 q.a4,.int .i64 q.b4,.int .i64 q.lo,.int .i64 q.hi,.int .i64 q.ft,.bool q.fl,.int .i64 q.bu]
def Qy.none:Qy:=⟨0,0,0,0,0,0,0,0,0,0,0,0,0,0,0,false,0⟩
def Qy.eq (p q:Qy):Bool:=
 (p.k==q.k)&&((p.c==q.c)&&((p.a0==q.a0)&&((p.b0==q.b0)&&((p.a1==q.a1)&&((p.b1==q.b1)&&((p.a2==q.a2)&&((p.b2==q.b2)&&((p.a3==q.a3)&&((p.b3==q.b3)&&((p.a4==q.a4)&&((p.b4==q.b4)&&((p.lo==q.lo)&&((p.hi==q.hi)&&((p.ft==q.ft)&&((p.fl==q.fl)&&((p.bu==q.bu)&&true))))))))))))))))
def FZ (q:Qy) (d:Int):Qy:=
 ⟨q.k,q.c,cond (decide (0 < d)) q.a0 0,cond (decide (0 < d)) q.b0 0,cond (decide (1 < d)) q.a1 0,cond (decide (1 < d)) q.b1 0,cond (decide (2 < d)) q.a2 0,cond (decide (2 < d)) q.b2 0,cond (decide (3 < d)) q.a3 0,cond (decide (3 < d)) q.b3 0,cond (decide (4 < d)) q.a4 0,cond (decide (4 < d)) q.b4 0,
  cond (q.k==1) q.lo 0,cond (q.k==1) q.hi 0,cond (q.k==3) q.ft 0,cond (q.k==3) q.fl false,q.bu⟩
def aX:DW
 | [.agg [.int .i64 k,.int .i64 c,.int .i64 a0,.int .i64 b0,.int .i64 a1,.int .i64 b1,.int .i64 a2,.int .i64 b2,.int .i64 a3,.int .i64 b3,.int .i64 a4,.int .i64 b4,.int .i64 lo,.int .i64 hi,.int .i64 ft,.bool fl,.int .i64 bu],.int .i64 d]=>
  .br (decide (0≤d)&&decide (d≤5)) (.ok (.agg [.int .i64 (FZ ⟨k,c,a0,b0,a1,b1,a2,b2,a3,b3,a4,b4,lo,hi,ft,fl,bu⟩ d).k,.int .i64 (FZ ⟨k,c,a0,b0,a1,b1,a2,b2,a3,b3,a4,b4,lo,hi,ft,fl,bu⟩ d).c,
   .int .i64 (FZ ⟨k,c,a0,b0,a1,b1,a2,b2,a3,b3,a4,b4,lo,hi,ft,fl,bu⟩ d).a0,.int .i64 (FZ ⟨k,c,a0,b0,a1,b1,a2,b2,a3,b3,a4,b4,lo,hi,ft,fl,bu⟩ d).b0,
   .int .i64 (FZ ⟨k,c,a0,b0,a1,b1,a2,b2,a3,b3,a4,b4,lo,hi,ft,fl,bu⟩ d).a1,.int .i64 (FZ ⟨k,c,a0,b0,a1,b1,a2,b2,a3,b3,a4,b4,lo,hi,ft,fl,bu⟩ d).b1,
   .int .i64 (FZ ⟨k,c,a0,b0,a1,b1,a2,b2,a3,b3,a4,b4,lo,hi,ft,fl,bu⟩ d).a2,.int .i64 (FZ ⟨k,c,a0,b0,a1,b1,a2,b2,a3,b3,a4,b4,lo,hi,ft,fl,bu⟩ d).b2,
   .int .i64 (FZ ⟨k,c,a0,b0,a1,b1,a2,b2,a3,b3,a4,b4,lo,hi,ft,fl,bu⟩ d).a3,.int .i64 (FZ ⟨k,c,a0,b0,a1,b1,a2,b2,a3,b3,a4,b4,lo,hi,ft,fl,bu⟩ d).b3,
   .int .i64 (FZ ⟨k,c,a0,b0,a1,b1,a2,b2,a3,b3,a4,b4,lo,hi,ft,fl,bu⟩ d).a4,.int .i64 (FZ ⟨k,c,a0,b0,a1,b1,a2,b2,a3,b3,a4,b4,lo,hi,ft,fl,bu⟩ d).b4,
   .int .i64 (FZ ⟨k,c,a0,b0,a1,b1,a2,b2,a3,b3,a4,b4,lo,hi,ft,fl,bu⟩ d).lo,.int .i64 (FZ ⟨k,c,a0,b0,a1,b1,a2,b2,a3,b3,a4,b4,lo,hi,ft,fl,bu⟩ d).hi,
   .int .i64 (FZ ⟨k,c,a0,b0,a1,b1,a2,b2,a3,b3,a4,b4,lo,hi,ft,fl,bu⟩ d).ft,.bool (FZ ⟨k,c,a0,b0,a1,b1,a2,b2,a3,b3,a4,b4,lo,hi,ft,fl,bu⟩ d).fl,
   .int .i64 (FZ ⟨k,c,a0,b0,a1,b1,a2,b2,a3,b3,a4,b4,lo,hi,ft,fl,bu⟩ d).bu]) []) .no
 | _=>.no
def KC (n:Int):Bool:=decide (0≤n)&&decide (n≤1073741824)
def aW:DW
 | [.int .i64 n]=>.ok (.bool (KC n)) []
 | _=>.no
def V3:DW
 | [.str s]=>.ok (.int .i64 (FK s)) []
 | _=>.no
def V4:DW
 | [.str s]=>.br (decide (s.size < 4294967281)) (.ok (.int .i64 (GE s)) []) .no
 | _=>.no
abbrev M9:BA:=⟨#[114,97,110,103,101]⟩
abbrev OK:BA:=⟨#[98,101,115,116]⟩
abbrev NA:BA:=⟨#[114,105,115,101,115]⟩
abbrev ML:BA:=⟨#[102,97,108,108,115]⟩
abbrev VI:BA:=⟨#[102,114,111,109]⟩
abbrev VM:BA:=⟨#[116,111]⟩
abbrev OL:BA:=⟨#[98,121]⟩
abbrev NZ:BA:=⟨#[105,110]⟩
abbrev VH:BA:=⟨#[98,117,100,103,101,116]⟩
abbrev aI:BA:=⟨#[46,46]⟩
abbrev FI:BA:=⟨#[32]⟩
def M8 (a b:Int):BA:=DU a++aI++DU b
def HV (q:Qy):List BA:=
 cond (q.k==1) [M9,DQ q.c,VI,DU q.lo,VM,DU q.hi]
 (cond (q.k==2) [OK,DQ q.c] [cond q.fl ML NA,DQ q.c,OL,DQ q.ft])
def Qy.spans (q:Qy):List (Int × Int):=[(q.a0,q.b0),(q.a1,q.b1),(q.a2,q.b2),(q.a3,q.b3),(q.a4,q.b4)]
def IA (q:Qy) (d:Nat):List BA:=HV q++NZ :: ((q.spans.take d).map fun s=>M8 s.1 s.2)++[VH,DQ q.bu]
def MF (q:Qy) (d:Int):Bool:=
 (!(decide (d < 1))&&!(decide (d > 4)))&&(q.eq (FZ q d)&&(KC q.c&&(KC q.ft&&(KC q.bu&&((q.k==1)||((q.k==2)||(q.k==3)))))))
def DZ (q:Qy) (d:Int):BA:=cond (MF q d) (GO (IA q d.toNat) FI) VK
def R6:DW
 | [.agg [.int .i64 k,.int .i64 c,.int .i64 a0,.int .i64 b0,.int .i64 a1,.int .i64 b1,.int .i64 a2,.int .i64 b2,.int .i64 a3,.int .i64 b3,.int .i64 a4,.int .i64 b4,.int .i64 lo,.int .i64 hi,.int .i64 ft,.bool fl,.int .i64 bu],.int .i64 d]=>
  .ok (.str (DZ ⟨k,c,a0,b0,a1,b1,a2,b2,a3,b3,a4,b4,lo,hi,ft,fl,bu⟩ d)) []
 | _=>.no
def DX (l:LI) (i:Nat):BA:=(l.getD i default).toStr
def EN (l:LI):Qy:=
 cond ((DX l 0).toList==M9.toList) ⟨1,FK (DX l 1),0,0,0,0,0,0,0,0,0,0,GE (DX l 3),GE (DX l 5),0,false,0⟩
 (cond ((DX l 0).toList==OK.toList) ⟨2,FK (DX l 1),0,0,0,0,0,0,0,0,0,0,0,0,0,false,0⟩
 (cond ((DX l 0).toList==NA.toList||(DX l 0).toList==ML.toList) ⟨3,FK (DX l 1),0,0,0,0,0,0,0,0,0,0,0,0,FK (DX l 3),(DX l 0).toList==ML.toList,0⟩
 ⟨0,FK (DX l 1),0,0,0,0,0,0,0,0,0,0,0,0,0,false,0⟩))
def aV:DW
 | [.list false [.str] l]=>.br (decide (l.length≤4294967290)&&l.all (fun x=>decide (x.toStr.size < 4294967281)))
  (.ok (.agg [.int .i64 (EN l).k,.int .i64 (EN l).c,.int .i64 (EN l).a0,.int .i64 (EN l).b0,.int .i64 (EN l).a1,.int .i64 (EN l).b1,.int .i64 (EN l).a2,.int .i64 (EN l).b2,.int .i64 (EN l).a3,.int .i64 (EN l).b3,.int .i64 (EN l).a4,.int .i64 (EN l).b4,
   .int .i64 (EN l).lo,.int .i64 (EN l).hi,.int .i64 (EN l).ft,.bool (EN l).fl,.int .i64 (EN l).bu]) []) .no
 | _=>.no
def RR (l:LI) (i:Nat):Int:=GE (cutL (DX l i) aI)
def RS (l:LI) (i:Nat):Int:=GE (FW (DX l i) aI)
def fZ (l:LI) (i d:Nat):Qy:=
 ⟨(
  EN (l.take i)).k,(EN (l.take i)).c,
  cond (BU 0 d) (RR l (i+1)) 0,cond (BU 0 d) (RS l (i+1)) 0,cond (BU 1 d) (RR l (i+2)) 0,cond (BU 1 d) (RS l (i+2)) 0,cond (BU 2 d) (RR l (i+3)) 0,cond (BU 2 d) (RS l (i+3)) 0,cond (BU 3 d) (RR l (i+4)) 0,cond (BU 3 d) (RS l (i+4)) 0,0,0,
  (EN (l.take i)).lo,(EN (l.take i)).hi,(EN (l.take i)).ft,(EN (l.take i)).fl,FK (DX l (l.length - 1))⟩
def HH (s:BA):LI:=(D3 s FI).map IV.str
def NO (s:BA):Int:=F7 (HH s) NZ 0
def OD (s:BA):Int:=ic (HH s).length - 2 - NO s - 1
def fC (s:BA):Qy:=fZ (HH s) (NO s).toNat (OD s).toNat
def KW (s:BA):Bool:=(!(decide (NO s < 0))&&(!(decide (OD s < 1))&&!(decide (OD s > 4))))&&(DZ (fC s) (OD s)).toList==s.toList
def ET (s:BA):Qy:=cond (KW s) (fC s) Qy.none
def JK (s:BA):Int:=cond (KW s) (OD s) 0
def V2:DW
 | [.str s]=>.br (decide (s.size < 4294967281))
  (.ok (.tup [.agg [.int .i64 (ET s).k,.int .i64 (ET s).c,.int .i64 (ET s).a0,.int .i64 (ET s).b0,.int .i64 (ET s).a1,.int .i64 (ET s).b1,.int .i64 (ET s).a2,.int .i64 (ET s).b2,.int .i64 (ET s).a3,.int .i64 (ET s).b3,.int .i64 (ET s).a4,.int .i64 (ET s).b4,
   .int .i64 (ET s).lo,.int .i64 (ET s).hi,.int .i64 (ET s).ft,.bool (ET s).fl,.int .i64 (ET s).bu],.int .i64 (JK s),.bool (KW s)]) []) .no
 | _=>.no
open Go
def EL (l:LI) (i:Int):Int:=cond (ic l.length==0) 0 (l.getD (i.tmod (ic l.length)).toNat default).toInt
def SD:DW
 | [.list false [.z] l,.int .i64 i]=>.br (decide (0≤i)) (.ok (.int .i64 (EL l i)) []) .no
 | _=>.no
def E5 (n:Int):Bool:=decide (-2147483648≤n)&&decide (n≤2147483647)
def bX:DW
 | [.int .i64 n,.int .i64 w]=>.br (decide (w=32)) (.ok (.bool (E5 n)) []) .no
 | _=>.no
def gA (lf:Bool) (v f a l r:Int):Bool:=
 cond lf (E5 v&&((f==0)&&((a==0)&&((l==0)&&(r==0)))))
  ((v==0)&&(decide (0≤f)&&(decide (f < 4)&&(E5 a&&(decide (1≤l)&&(decide (l < 31)&&(decide (1≤r)&&decide (r < 31))))))))
def bY:DW
 | [.agg [.bool lf,.int .i64 v,.int .i64 f,.int .i64 a,.int .i64 l,.int .i64 r]]=>.ok (.bool (gA lf v f a l r)) []
 | _=>.no
def iE (a b:Int):Int:=JU (ic (CH (A5 (AR AJ) a &&& A5 (AR AJ) b)))
def fO (a b:Int):Int:=JU (ic (CH (A5 (AR AJ) a ||| A5 (AR AJ) b)))
def Z6 (a:Int) (k:Nat):Int:=JU (a*2 ^ k)
def IG (lf:Bool) (v f a l r:Int):Int:=
 cond (gA lf v f a l r)
  (cond lf (fO 9223372036854775808 (iE (JU v) 4294967295))
   (fO (fO (fO (iE (JU a) 4294967295) (Z6 (JU f) 32)) (Z6 (JU l) 40)) (Z6 (JU r) 48)))
  0
def V9:DW
 | [.agg [.bool lf,.int .i64 v,.int .i64 f,.int .i64 a,.int .i64 l,.int .i64 r]]=>.ok (.int .u64 (IG lf v f a l r)) []
 | _=>.no
def S1 (lf:Bool) (v f a l r:Int):IV:=.agg [.bool lf,.int v,.int f,.int a,.int l,.int r]
def MA (v:Int):IV:=S1 true v 0 0 0 0
def S5 (x:IV):IV:=.int (IG (x.cell 0).toBool (x.cell 1).toInt (x.cell 2).toInt (x.cell 3).toInt (x.cell 4).toInt (x.cell 5).toInt)
structure Ns where
 nodes:LI
 leaves:LI
def H7 (part:LI) (i:Nat) (s:Ns):Int:=DN (part.getD i default).toInt 0 (ic s.leaves.length - 1)
def RI (part:LI) (i:Nat) (s:Ns):Int:=(s.leaves.getD (H7 part i s).toNat default).toInt
def KQ (part byl atl val:LI) (dim:Int) (i:Nat) (s:Ns):Ns:=
 ⟨s.nodes.set (RI part i s).toNat (S1 false 0 (DN (EL byl (i:Int)) 0 (dim - 1)) (DN (EL atl (i:Int)) 0 9) (ic s.nodes.length) (ic s.nodes.length+1)) ++
   [MA (DN (EL val (2*(i:Int)+1)) (-3000) 3000),MA (DN (EL val (2*(i:Int)+2)) (-3000) 3000)],
  s.leaves.take (H7 part i s).toNat++s.leaves.drop ((H7 part i s).toNat+1)++[.int (ic s.nodes.length),.int (ic s.nodes.length+1)]⟩
def ZR (part byl atl val:LI) (dim:Int):Nat→Nat→Ns→Ns
 | 0,_,s=>s
 | d+1,i,s=>ZR part byl atl val dim d (i+1) (KQ part byl atl val dim i s)
def PB (part byl atl val:LI) (dim:Int):Ns:=ZR part byl atl val dim (min part.length 7) 0 ⟨[MA (DN (EL val 0) (-3000) 3000)],[.int 0]⟩
def MY (part byl atl val:LI) (dim:Int):LI:=(PB part byl atl val dim).nodes.map S5
def bU:DW
 | [.agg [.int .i64 _,.list false [.z] part,.list false [.z] byl,.list false [.z] atl,.list false [.z] val],.int .i64 dim]=>
  .br (decide (1≤dim)&&decide (dim≤4)) (.ok (.list false [.int .u64] (MY part byl atl val dim)) []) .no
 | _=>.no
def N9 (d:Int):Int:=DN d 1 3
def K0 (c:Int):Int:=DN c 1 3
def SK (c:Int) (bias:LI) (j:Int):Int:=cond (decide (j < K0 c)) (DN (EL bias j) (-500) 500) 0
def aD (d c:Int) (t:IV):IV:=.agg [.int (DN (t.cell 0).toInt 0 (K0 c - 1)),.list (MY (t.cell 1).toList (t.cell 2).toList (t.cell 3).toList (t.cell 4).toList (N9 d))]
def RU (d c:Int) (ts:LI):LI:=(ts.take 4).map (aD d c)
def g6:DW
 | [.agg [.int .i64 d,.int .i64 c,.list false [.z] bias,.list true [.z,.list false [.z],.list false [.z],.list false [.z],.list false [.z]] ts]]=>
  .ok (.agg [.int .i64 (N9 d),.int .i64 (K0 c),.int .i64 (SK c bias 0),.int .i64 (SK c bias 1),.int .i64 (SK c bias 2),.list true [.z,.list false [.int .u64]] (RU d c ts)]) []
 | _=>.no
def F3 (d:Int) (l:LI) (i:Int):Int:=cond (decide (i < d)) (DN (EL l (2*i)) (-2) 9) 0
def F5 (d:Int) (l:LI) (i:Int):Int:=cond (decide (i < d)) (DN (EL l (2*i)) (-2) 9+DN (EL l (2*i+1)) 0 11) 0
def bS:DW
 | [.agg [.int .i64 d,.int .i64 _,.int .i64 _,.int .i64 _,.int .i64 _,.list true [.z,.list false [.int .u64]] _],.list false [.z] l]=>
  .br (decide (0≤d)&&decide (d≤4)) (.ok (.agg [.int .i64 (F3 d l 0),.int .i64 (F5 d l 0),.int .i64 (F3 d l 1),.int .i64 (F5 d l 1),.int .i64 (F3 d l 2),.int .i64 (F5 d l 2),.int .i64 (F3 d l 3),.int .i64 (F5 d l 3),.int .i64 0,.int .i64 0]) []) .no
 | _=>.no
structure Ak where
 k:Int
 c:Int
 lo:Int
 size:Int
 ft:Int
 bu:Int
 fl:Bool
 sp:LI
def FS (a:Ak) (cls:Int):Int:=cond (DN a.k 1 3==2&&decide (cls < 2)) 1 (DN a.k 1 3)
def KM (a:Ak):Int:=DN a.lo (-9000) 9000
def JE (a:Ak) (dim cls:Int):Qy:=
 ⟨FS a cls,DN a.c 0 (cls - 1),F3 dim a.sp 0,F5 dim a.sp 0,F3 dim a.sp 1,F5 dim a.sp 1,F3 dim a.sp 2,F5 dim a.sp 2,F3 dim a.sp 3,F5 dim a.sp 3,0,0,
  cond (FS a cls==1) (KM a) 0,cond (FS a cls==1) (KM a+DN a.size 0 18000) 0,cond (FS a cls==3) (DN a.ft 0 (dim - 1)) 0,cond (FS a cls==3) a.fl false,DN a.bu 0 65536⟩
def gZ:DW
 | [.agg [.int .i64 k,.int .i64 c,.int .i64 lo,.int .i64 size,.int .i64 ft,.int .i64 bu,.bool fl,.list false [.z] sp],.agg [.int .i64 dim,.int .i64 cls,.int .i64 _,.int .i64 _,.int .i64 _,.list true [.z,.list false [.int .u64]] _]]=>
  .br ((decide (1≤dim)&&decide (dim≤4))&&(decide (1≤cls)&&decide (cls≤3)))
   (.ok (.agg [.int .i64 (JE ⟨k,c,lo,size,ft,bu,fl,sp⟩ dim cls).k,.int .i64 (JE ⟨k,c,lo,size,ft,bu,fl,sp⟩ dim cls).c,
    .int .i64 (JE ⟨k,c,lo,size,ft,bu,fl,sp⟩ dim cls).a0,.int .i64 (JE ⟨k,c,lo,size,ft,bu,fl,sp⟩ dim cls).b0,.int .i64 (JE ⟨k,c,lo,size,ft,bu,fl,sp⟩ dim cls).a1,.int .i64 (JE ⟨k,c,lo,size,ft,bu,fl,sp⟩ dim cls).b1,
    .int .i64 (JE ⟨k,c,lo,size,ft,bu,fl,sp⟩ dim cls).a2,.int .i64 (JE ⟨k,c,lo,size,ft,bu,fl,sp⟩ dim cls).b2,.int .i64 (JE ⟨k,c,lo,size,ft,bu,fl,sp⟩ dim cls).a3,.int .i64 (JE ⟨k,c,lo,size,ft,bu,fl,sp⟩ dim cls).b3,
    .int .i64 (JE ⟨k,c,lo,size,ft,bu,fl,sp⟩ dim cls).a4,.int .i64 (JE ⟨k,c,lo,size,ft,bu,fl,sp⟩ dim cls).b4,.int .i64 (JE ⟨k,c,lo,size,ft,bu,fl,sp⟩ dim cls).lo,.int .i64 (JE ⟨k,c,lo,size,ft,bu,fl,sp⟩ dim cls).hi,
    .int .i64 (JE ⟨k,c,lo,size,ft,bu,fl,sp⟩ dim cls).ft,.bool (JE ⟨k,c,lo,size,ft,bu,fl,sp⟩ dim cls).fl,.int .i64 (JE ⟨k,c,lo,size,ft,bu,fl,sp⟩ dim cls).bu]) []) .no
 | _=>.no
open Go Go.Proofs
def Qh (N:Nat):Env:=D6 [] [] 15 N
theorem zdr (N:Nat) (l:LI) (i:Int):D1 (Qh N) wV [.tmp 4] [[.z]] [.list false [.z] l,.i i]=(cond (ic (AG l)==0) (some ((.i 0),[])) (cond (decide (ic (AG l)=0)) none (cond (decide (0≤Int.tmod i (ic (AG l)))&&decide (Int.tmod i (ic (AG l)) < ic (AG l))) (some ((.i (IV.toInt (AI l (AF (Int.tmod i (ic (AG l)))) default))),[])) none))):=by kernel_rfl
def Qk (N:Nat):Env:=D6 [] [] 27 N
theorem zdw (N:Nat) (n w:Int):D1 (Qk N) wY [.tmp 4] [[.bool]] [.i n,.i w]=(cond (decide (w < 1)) (some ((.bool false),[])) (cond (decide (w > 64)) (some ((.bool false),[])) (cond (w==64) (some ((.bool true),[])) (cond (decide (AA AB (w - 1) < 0)) none (cond (decide (n≥AA AB (0 - AA AB (1*2 ^ min (AF (AA AB (w - 1))) (AR AB))))) (some ((.bool (decide (n≤AA AB (AA AB (1*2 ^ min (AF (AA AB (w - 1))) (AR AB)) - 1)))),[])) (some ((.bool false),[]))))))):=by kernel_rfl
def Qm (N:Nat):Env:=D6 [(160,bX)] [] 66 N
theorem zdy (N:Nat) (u01:Bool) (u04 u00 n_At u02 u03:Int):D1 (Qm N) w8 [.tmp 2] [[.bool]] [.agg [.bool u01,.i u04,.i u00,.i n_At,.i u02,.i u03]]=(cond u01 (cond (E5 u04) (cond (u00==0) (cond (n_At==0) (cond (u02==0) (some ((.bool (u03==0)),[])) (some ((.bool false),[]))) (some ((.bool false),[]))) (some ((.bool false),[]))) (some ((.bool false),[]))) (cond (u04==0) (cond (decide (u00≥0)) (cond (decide (u00 < 4)) (cond (E5 n_At) (cond (decide (u02≥1)) (cond (decide (u02 < 31)) (cond (decide (u03≥1)) (some ((.bool (decide (u03 < 31))),[])) (some ((.bool false),[]))) (some ((.bool false),[]))) (some ((.bool false),[]))) (some ((.bool false),[]))) (some ((.bool false),[]))) (some ((.bool false),[]))) (some ((.bool false),[])))):=by kernel_rfl
def Ql (N:Nat):Env:=D6 [(117,bY)] [] 32 N
theorem zdx (N:Nat) (u01:Bool) (u04 u00 n_At u02 u03:Int):D1 (Ql N) wZ [.tmp 2] [[.int .u64]] [.agg [.bool u01,.i u04,.i u00,.i n_At,.i u02,.i u03]]=(cond (!gA u01 u04 u00 n_At u02 u03) (some ((.int .u64 0),[])) (cond u01 (some ((.int .u64 (AA AJ (ic (CH (A5 (AR AJ) 9223372036854775808 ||| A5 (AR AJ) (AA AJ (ic (CH (A5 (AR AJ) (AA AJ u04) &&& A5 (AR AJ) 4294967295))))))))),[])) (some ((.int .u64 (AA AJ (ic (CH (A5 (AR AJ) (AA AJ (ic (CH (A5 (AR AJ) (AA AJ (ic (CH (A5 (AR AJ) (AA AJ (ic (CH (A5 (AR AJ) (AA AJ n_At) &&& A5 (AR AJ) 4294967295)))) ||| A5 (AR AJ) (AA AJ (AA AJ u00*2 ^ min (AF 32) (AR AJ))))))) ||| A5 (AR AJ) (AA AJ (AA AJ u02*2 ^ min (AF 40) (AR AJ))))))) ||| A5 (AR AJ) (AA AJ (AA AJ u03*2 ^ min (AF 48) (AR AJ)))))))),[])))):=by kernel_rfl
def R4 (N:Nat):Env:=D6 [(17,MO),(38,SD)] [(3,⟨[1,4,5,9,10],[4,5],[]⟩)] 32 N
abbrev R0 (l1:LI) (x9 x10 u00 u01 u02 u03 u04 u05 u06 u07 u08 u09 u0a u0b u0c u0d u0e u0f u0g u0h u0i u0j:Int):St:=⟨[(1,(.list false [.z] l1)),(4,(.ptr 4 0 0)),(5,(.ptr 5 0 0)),(9,(.i x9)),(10,(.i x10))],[(4,(some (.box [.i u00,.i u01,.i u02,.i u03,.i u04,.i u05,.i u06,.i u07,.i u08,.i u09]))),(5,(some (.box [.i u0a,.i u0b,.i u0c,.i u0d,.i u0e,.i u0f,.i u0g,.i u0h,.i u0i,.i u0j])))]⟩
theorem zdn (N:Nat) (u04 u03 u00 u01 u02:Int) (u05 l:LI):D1 (R4 N) UJ [.cell 4 36] [[.z,.z,.z,.z,.z,.z,.z,.z,.z,.z]] [.agg [.i u04,.i u03,.i u00,.i u01,.i u02,.list true [.z,.list false [.int .u64]] u05],.list false [.z] l]=(D0 (R4 N) (DL UJ [1,1,0,1,0,0]) ⟨[1,4,5,9,10],[4,5],[]⟩ N (R0 l u04 0 0 0 0 0 0 0 0 0 0 0 0 0 0 0 0 0 0 0 0 0) (DS 0 (DT (R4 N) (DL UJ [1,1,1]) (DV (R4 N) none [.cell 4 36] [[.z,.z,.z,.z,.z,.z,.z,.z,.z,.z]])))):=by kernel_rfl
theorem Lz (N:Nat) (l1:LI) (x9 x10 u00 u01 u02 u03 u04 u05 u06 u07 u08 u09 u0a u0b u0c u0d u0e u0f u0g u0h u0i u0j:Int) (again:St→DP) (k:Out→St→DP):FG (R4 N) (DL UJ [1,1,0,1,0,0]) (R0 l1 x9 x10 u00 u01 u02 u03 u04 u05 u06 u07 u08 u09 u0a u0b u0c u0d u0e u0f u0g u0h u0i u0j) (EW again ⟨[1,4,5,9,10],[4,5],[]⟩ k)=(cond (decide (x10 < x9)) (cond (decide (0≤AA AB (2*x10))) (cond (decide (0≤AA AB (AA AB (2*x10)+1))) (cond (decide (x10=ic 0)) (again (R0 l1 x9 (AA AB (x10+1)) u00 u01 u02 u03 u04 u05 u06 u07 u08 u09 (DN (EL l1 (AA AB (2*x10))) (-2) 9) (AA AB (DN (EL l1 (AA AB (2*x10))) (-2) 9+DN (EL l1 (AA AB (AA AB (2*x10)+1))) 0 11)) u0c u0d u0e u0f u0g u0h u0i u0j)) (cond (decide (x10=ic 1)) (again (R0 l1 x9 (AA AB (x10+1)) u00 u01 u02 u03 u04 u05 u06 u07 u08 u09 u0a u0b (DN (EL l1 (AA AB (2*x10))) (-2) 9) (AA AB (DN (EL l1 (AA AB (2*x10))) (-2) 9+DN (EL l1 (AA AB (AA AB (2*x10)+1))) 0 11)) u0e u0f u0g u0h u0i u0j)) (cond (decide (x10=ic 2)) (again (R0 l1 x9 (AA AB (x10+1)) u00 u01 u02 u03 u04 u05 u06 u07 u08 u09 u0a u0b u0c u0d (DN (EL l1 (AA AB (2*x10))) (-2) 9) (AA AB (DN (EL l1 (AA AB (2*x10))) (-2) 9+DN (EL l1 (AA AB (AA AB (2*x10)+1))) 0 11)) u0g u0h u0i u0j)) (cond (decide (x10=ic 3)) (again (R0 l1 x9 (AA AB (x10+1)) u00 u01 u02 u03 u04 u05 u06 u07 u08 u09 u0a u0b u0c u0d u0e u0f (DN (EL l1 (AA AB (2*x10))) (-2) 9) (AA AB (DN (EL l1 (AA AB (2*x10))) (-2) 9+DN (EL l1 (AA AB (AA AB (2*x10)+1))) 0 11)) u0i u0j)) (cond (decide (x10=ic 4)) (again (R0 l1 x9 (AA AB (x10+1)) u00 u01 u02 u03 u04 u05 u06 u07 u08 u09 u0a u0b u0c u0d u0e u0f u0g u0h (DN (EL l1 (AA AB (2*x10))) (-2) 9) (AA AB (DN (EL l1 (AA AB (2*x10))) (-2) 9+DN (EL l1 (AA AB (AA AB (2*x10)+1))) 0 11)))) none))))) none) none) (k (.exit 0) (R0 l1 x9 x10 u00 u01 u02 u03 u04 u05 u06 u07 u08 u09 u0a u0b u0c u0d u0e u0f u0g u0h u0i u0j))):=by kernel_rfl
theorem Xo (N:Nat) (l1:LI) (x9 x10 u00 u01 u02 u03 u04 u05 u06 u07 u08 u09 u0a u0b u0c u0d u0e u0f u0g u0h u0i u0j:Int):(DS 0 (DT (R4 N) (DL UJ [1,1,1]) (DV (R4 N) none [.cell 4 36] [[.z,.z,.z,.z,.z,.z,.z,.z,.z,.z]]))) (.exit 0) (R0 l1 x9 x10 u00 u01 u02 u03 u04 u05 u06 u07 u08 u09 u0a u0b u0c u0d u0e u0f u0g u0h u0i u0j)=(some ((.agg [.i u0a,.i u0b,.i u0c,.i u0d,.i u0e,.i u0f,.i u0g,.i u0h,.i u0i,.i u0j]),[])):=by kernel_rfl
open Go Go.Proofs
def Qe (N:Nat):Env:=D6 [(17,MO),(40,bS)] [] 58 N
theorem zdl (N:Nat) (u04 u01 a_Lo u05 u03 u00:Int) (u02:Bool) (u06:LI) (u0b u0a u07 u08 u09:Int) (u0c:LI):D1 (Qe N) wS [.cell 4 38] [[.z,.z,.z,.z,.z,.z,.z,.z,.z,.z,.z,.z,.z,.z,.z,.bool,.z]] [.agg [.i u04,.i u01,.i a_Lo,.i u05,.i u03,.i u00,.bool u02,.list false [.z] u06],.agg [.i u0b,.i u0a,.i u07,.i u08,.i u09,.list true [.z,.list false [.int .u64]] u0c]]=(cond (decide (N0 0 (AA AB (u0a - 1))=0)) none (cond (decide (0≤u0b)&&decide (u0b≤4)) (cond (DN u04 1 3==2) (cond (decide (u0a < 2)) (some ((.agg [.i 1,.i (DN u01 0 (AA AB (u0a - 1))),.i (F3 u0b u06 0),.i (F5 u0b u06 0),.i (F3 u0b u06 1),.i (F5 u0b u06 1),.i (F3 u0b u06 2),.i (F5 u0b u06 2),.i (F3 u0b u06 3),.i (F5 u0b u06 3),.i 0,.i 0,.i (DN a_Lo (-9000) 9000),.i (AA AB (DN a_Lo (-9000) 9000+DN u05 0 18000)),.i 0,.bool false,.i (DN u00 0 65536)]),[])) (cond (DN u04 1 3==1) (some ((.agg [.i (DN u04 1 3),.i (DN u01 0 (AA AB (u0a - 1))),.i (F3 u0b u06 0),.i (F5 u0b u06 0),.i (F3 u0b u06 1),.i (F5 u0b u06 1),.i (F3 u0b u06 2),.i (F5 u0b u06 2),.i (F3 u0b u06 3),.i (F5 u0b u06 3),.i 0,.i 0,.i (DN a_Lo (-9000) 9000),.i (AA AB (DN a_Lo (-9000) 9000+DN u05 0 18000)),.i 0,.bool false,.i (DN u00 0 65536)]),[])) (some ((.agg [.i (DN u04 1 3),.i (DN u01 0 (AA AB (u0a - 1))),.i (F3 u0b u06 0),.i (F5 u0b u06 0),.i (F3 u0b u06 1),.i (F5 u0b u06 1),.i (F3 u0b u06 2),.i (F5 u0b u06 2),.i (F3 u0b u06 3),.i (F5 u0b u06 3),.i 0,.i 0,.i 0,.i 0,.i 0,.bool false,.i (DN u00 0 65536)]),[])))) (cond (DN u04 1 3==3) (cond (decide (N0 0 (AA AB (u0b - 1))=0)) none (cond (DN u04 1 3==1) (some ((.agg [.i (DN u04 1 3),.i (DN u01 0 (AA AB (u0a - 1))),.i (F3 u0b u06 0),.i (F5 u0b u06 0),.i (F3 u0b u06 1),.i (F5 u0b u06 1),.i (F3 u0b u06 2),.i (F5 u0b u06 2),.i (F3 u0b u06 3),.i (F5 u0b u06 3),.i 0,.i 0,.i (DN a_Lo (-9000) 9000),.i (AA AB (DN a_Lo (-9000) 9000+DN u05 0 18000)),.i (DN u03 0 (AA AB (u0b - 1))),.bool u02,.i (DN u00 0 65536)]),[])) (some ((.agg [.i (DN u04 1 3),.i (DN u01 0 (AA AB (u0a - 1))),.i (F3 u0b u06 0),.i (F5 u0b u06 0),.i (F3 u0b u06 1),.i (F5 u0b u06 1),.i (F3 u0b u06 2),.i (F5 u0b u06 2),.i (F3 u0b u06 3),.i (F5 u0b u06 3),.i 0,.i 0,.i 0,.i 0,.i (DN u03 0 (AA AB (u0b - 1))),.bool u02,.i (DN u00 0 65536)]),[])))) (cond (DN u04 1 3==1) (some ((.agg [.i (DN u04 1 3),.i (DN u01 0 (AA AB (u0a - 1))),.i (F3 u0b u06 0),.i (F5 u0b u06 0),.i (F3 u0b u06 1),.i (F5 u0b u06 1),.i (F3 u0b u06 2),.i (F5 u0b u06 2),.i (F3 u0b u06 3),.i (F5 u0b u06 3),.i 0,.i 0,.i (DN a_Lo (-9000) 9000),.i (AA AB (DN a_Lo (-9000) 9000+DN u05 0 18000)),.i 0,.bool false,.i (DN u00 0 65536)]),[])) (some ((.agg [.i (DN u04 1 3),.i (DN u01 0 (AA AB (u0a - 1))),.i (F3 u0b u06 0),.i (F5 u0b u06 0),.i (F3 u0b u06 1),.i (F5 u0b u06 1),.i (F3 u0b u06 2),.i (F5 u0b u06 2),.i (F3 u0b u06 3),.i (F5 u0b u06 3),.i 0,.i 0,.i 0,.i 0,.i 0,.bool false,.i (DN u00 0 65536)]),[]))))) none)):=by kernel_rfl
open Go Go.Proofs
theorem sQ:DY PR B0 38 SD:=by
 refine D7 [] [] SD [[.z]] Tryz.func38 zaH trivial ?_;intro vs r hwf h;unfold SD at h;split at h
 ·rename_i l i;cases hc:decide (0≤i) with
  | false=>rw [hc] at h; simp [R.get] at h
  | true=>
   rw [hc,R.get_br,DJ,R.get_ok] at h;have hc:=A1 hc;refine ⟨0,?_⟩;rw [← h];refine (zdr 0 l i).trans ?_;unfold EL;cases h0:(ic (AG l)==0) with
   | true=>rfl
   | false=>
    rw [T9] at h0;have h0':=BG h0;have hl:0 < (l.length:Int):=by simp only [ic] at h0'; omega
    have t0:=Int.tmod_nonneg (l.length:Int) hc;have t1:=Int.tmod_lt_of_pos i hl;rw [DK,h0,DK,AE (show 0≤Int.tmod i (ic (AG l)) from t0),AE (show Int.tmod i (ic (AG l)) < ic (AG l) from t1),B9,DJ,DK]
 ·simp [R.get] at h
theorem zhn:DY PR B0 160 bX:=by
 refine D7 [] [] bX [[.bool]] Tryz.func160 zaM trivial ?_;intro vs r hwf h;unfold bX at h;split at h
 ·rename_i n w;cases hc:decide (w=32) with
  | false=>rw [hc] at h; simp [R.get] at h
  | true=>
   rw [hc,R.get_br,DJ,R.get_ok] at h;have hc:=A1 hc;subst hc;refine ⟨0,?_⟩;rw [← h];refine (zdw 0 n 32).trans ?_;have e1:AA AB (0 - AA AB (1*2 ^ min (AF (AA AB ((32:Int) - 1))) (AR AB))) = -2147483648:=by kernel_rfl
   have e2:AA AB (AA AB (1*2 ^ min (AF (AA AB ((32:Int) - 1))) (AR AB)) - 1)=2147483647:=by kernel_rfl
   have e3:decide (AA AB ((32:Int) - 1) < 0)=false:=by kernel_rfl
   rw [e1,e2,e3];unfold E5;have e4:decide (n ≥ -2147483648)=decide (-2147483648≤n):=rfl;rw [e4];cases decide (-2147483648≤n) <;> rfl
 ·simp [R.get] at h
theorem zD (a b:Bool):cond a (some (V.bool b,[])) (some (V.bool false,[]))=(some (V.bool (a&&b),[]):DP):=by cases a <;> rfl
theorem zho:DY PR B0 117 bY:=by
 refine D7 [(160,bX)] [] bY [[.bool]] Tryz.func117 zaO ⟨zhn,trivial⟩ ?_;intro vs r hwf h;unfold bY at h;split at h
 ·rename_i lf v f a l r';refine ⟨0,?_⟩;rw [← h];refine (zdy 0 lf v f a l r').trans ?_;simp only [R.get_ok,zD];unfold gA;cases lf with
  | true=>rfl
  | false=>rfl
 ·simp [R.get] at h
theorem Jo:DY PR B0 71 V9:=by
 refine D7 [(117,bY)] [] V9 [[.int .u64]] Tryz.func71 zaN ⟨zho,trivial⟩ ?_;intro vs r hwf h;unfold V9 at h;split at h
 ·rename_i lf v f a l r';refine ⟨0,?_⟩;rw [← h];refine (zdx 0 lf v f a l r').trans ?_;unfold IG;cases gA lf v f a l r' with
  | false=>rfl
  | true=>cases lf <;> rfl
 ·simp [R.get] at h
def MH (l:LI) (j:Int):Int:=DN (EL l (2*j)) (-2) 9
def LQ (l:LI) (j:Int):Int:=DN (EL l (2*j)) (-2) 9+DN (EL l (2*j+1)) 0 11
def rgC (l:LI) (i:Nat):List V:=[.int .i64 (cond (BU 0 i) (MH l 0) 0),.int .i64 (cond (BU 0 i) (LQ l 0) 0),.int .i64 (cond (BU 1 i) (MH l 1) 0),.int .i64 (cond (BU 1 i) (LQ l 1) 0),.int .i64 (cond (BU 2 i) (MH l 2) 0),.int .i64 (cond (BU 2 i) (LQ l 2) 0),.int .i64 (cond (BU 3 i) (MH l 3) 0),.int .i64 (cond (BU 3 i) (LQ l 3) 0),.int .i64 0,.int .i64 0]
abbrev lG (l:LI) (D:Int) (i:Nat) (x:Int):St:=⟨[(1,(.list false [.z] l)),(4,(.ptr 4 0 0)),(5,(.ptr 5 0 0)),(9,(.int .i64 D)),(10,(.int .i64 x))],[(4,(some (.box [(.int .i64 0),(.int .i64 0),(.int .i64 0),(.int .i64 0),(.int .i64 0),(.int .i64 0),(.int .i64 0),(.int .i64 0),(.int .i64 0),(.int .i64 0)]))),(5,(some (.box (rgC l i))))]⟩
theorem ziy (l:LI) (j:Int):AA AB (DN (EL l (2*j)) (-2) 9+DN (EL l (2*j+1)) 0 11)=LQ l j:=by
 obtain ⟨_,a1,a2⟩:=HG (n:=EL l (2*j)) (lo := -2) (hi:=9) (by omega) (by omega) (by omega);obtain ⟨_,b1,b2⟩:=HG (n:=EL l (2*j+1)) (lo:=0) (hi:=11) (by omega) (by omega) (by omega);exact EO (by omega) (by omega)
theorem zge (N:Nat) (l:LI) (D:Int) (i:Nat) (hi:(i:Int) < D) (h4:i < 4) (again:St→DP) (k:Out→St→DP) :
  FG (R4 N) (DL UJ [1,1,0,1,0,0]) (lG l D i (i:Int)) (EW again ⟨[1,4,5,9,10],[4,5],[]⟩ k)=again (lG l D (i+1) ((i+1:Nat):Int)):=by
 refine (Lz N l D i 0 0 0 0 0 0 0 0 0 0 (cond (BU 0 i) (MH l 0) 0) (cond (BU 0 i) (LQ l 0) 0) (cond (BU 1 i) (MH l 1) 0) (cond (BU 1 i) (LQ l 1) 0) (cond (BU 2 i) (MH l 2) 0) (cond (BU 2 i) (LQ l 2) 0) (cond (BU 3 i) (MH l 3) 0) (cond (BU 3 i) (LQ l 3) 0) 0 0 again k).trans ?_;have w2:AA AB (2*(i:Int))=2*(i:Int):=EO (by omega) (by omega);have w3:AA AB (2*(i:Int)+1)=2*(i:Int)+1:=EO (by omega) (by omega);rw [AE hi,DJ,w2,w3,AE (show 0≤2*(i:Int) by omega),DJ,AE (show 0≤2*(i:Int)+1 by omega),DJ,ziy];have hi4:i=0∨i=1∨i=2∨i=3:=by omega
 rcases hi4 with rfl | rfl | rfl | rfl
 ·rw [show decide (((0:Nat):Int)=ic 0)=true from rfl,DJ];rfl
 ·rw [show decide (((1:Nat):Int)=ic 0)=false from rfl,show decide (((1:Nat):Int)=ic 1)=true from rfl,DK,DJ];rfl
 ·rw [show decide (((2:Nat):Int)=ic 0)=false from rfl,show decide (((2:Nat):Int)=ic 1)=false from rfl,show decide (((2:Nat):Int)=ic 2)=true from rfl,DK,DK,DJ];rfl
 ·rw [show decide (((3:Nat):Int)=ic 0)=false from rfl,show decide (((3:Nat):Int)=ic 1)=false from rfl,show decide (((3:Nat):Int)=ic 2)=false from rfl,show decide (((3:Nat):Int)=ic 3)=true from rfl,DK,DK,DK,DJ];rfl
theorem Hl (N:Nat) (l:LI) (D:Nat) (hD:D≤4) (K:Out→St→DP):∀ (d i n:Nat),i+d=D→d < n →
  D0 (R4 N) (DL UJ [1,1,0,1,0,0]) ⟨[1,4,5,9,10],[4,5],[]⟩ n (lG l D i (i:Int)) K=K (.exit 0) (lG l D D (D:Int))
 | 0,i,n+1,hd,hn=>by
  have hi:i=D:=by omega
  subst hi;rw [EA];refine (Lz N l _ _ 0 0 0 0 0 0 0 0 0 0 (cond (BU 0 i) (MH l 0) 0) (cond (BU 0 i) (LQ l 0) 0) (cond (BU 1 i) (MH l 1) 0) (cond (BU 1 i) (LQ l 1) 0) (cond (BU 2 i) (MH l 2) 0) (cond (BU 2 i) (LQ l 2) 0) (cond (BU 3 i) (MH l 3) 0) (cond (BU 3 i) (LQ l 3) 0) 0 0 _ _).trans ?_;rw [AL (show ¬ (i:Int) < (i:Int) by omega),DK];rfl
 | d+1,i,n+1,hd,hn=>by
  rw [EA,zge N l D i (by omega) (by omega)];exact Hl N l D hD K d (i+1) n (by omega) (by omega)
 | _,_,0,_,h=>by omega
theorem zhg:DY PR B0 40 bS:=by
 refine D7 [(17,MO),(38,SD)] [(3,⟨[1,4,5,9,10],[4,5],[]⟩)] bS [[.z,.z,.z,.z,.z,.z,.z,.z,.z,.z]] Tryz.func40 zaD
  ⟨Z8,sQ,trivial⟩ ?_
 intro vs r hwf h;unfold bS at h;split at h
 ·rename_i d c b0 b1 b2 ts l;cases hc:(decide (0≤d)&&decide (d≤4)) with
  | false=>rw [hc] at h; simp [R.get] at h
  | true=>
   rw [hc,R.get_br,DJ,R.get_ok] at h;simp only [AH,AQ] at hc;refine ⟨10,?_⟩;rw [← h];refine (zdn 10 d c b0 b1 b2 ts l).trans ?_;obtain ⟨D,rfl⟩:∃ D:Nat,d=D:=⟨d.toNat,by omega⟩;refine (Hl 10 l D (by omega) _ D 0 10 (by omega) (by omega)).trans ?_;refine (Xo 10 l D D 0 0 0 0 0 0 0 0 0 0 (cond (BU 0 D) (MH l 0) 0) (cond (BU 0 D) (LQ l 0) 0) (cond (BU 1 D) (MH l 1) 0) (cond (BU 1 D) (LQ l 1) 0) (cond (BU 2 D) (MH l 2) 0) (cond (BU 2 D) (LQ l 2) 0) (cond (BU 3 D) (MH l 3) 0) (cond (BU 3 D) (LQ l 3) 0) 0 0).trans ?_;have hD:D=0∨D=1∨D=2∨D=3∨D=4:=by omega
   rcases hD with rfl | rfl | rfl | rfl | rfl <;> rfl
 ·simp [R.get] at h
theorem zhe:DY PR B0 16 gZ:=by
 refine D7 [(17,MO),(40,bS)] [] gZ [[.z,.z,.z,.z,.z,.z,.z,.z,.z,.z,.z,.z,.z,.z,.z,.bool,.z]] Tryz.func16 zaB
  ⟨Z8,zhg,trivial⟩ ?_
 intro vs r hwf h;unfold gZ at h;split at h
 ·rename_i k c lo size ft bu fl sp dim cls b0 b1 b2 ts;cases hc:((decide (1≤dim)&&decide (dim≤4))&&(decide (1≤cls)&&decide (cls≤3))) with
  | false=>rw [hc] at h; simp [R.get] at h
  | true=>
   rw [hc,R.get_br,DJ,R.get_ok] at h;simp only [AH,AQ] at hc;obtain ⟨⟨d1,d4⟩,c1,c3⟩:=hc;refine ⟨0,?_⟩;rw [← h];refine (zdl 0 k c lo size ft bu fl sp dim cls b0 b1 b2 ts).trans ?_;have w1:AA AB (cls - 1)=cls - 1:=EO (by omega) (by omega);have w2:AA AB (dim - 1)=dim - 1:=EO (by omega) (by omega);obtain ⟨m1,_,_⟩:=HG (n:=c) (lo:=0) (hi:=cls - 1) (by omega) (by omega) (by omega);obtain ⟨m2,_,_⟩:=HG (n:=ft) (lo:=0) (hi:=dim - 1) (by omega) (by omega) (by omega);obtain ⟨_,l1,l2⟩:=HG (n:=lo) (lo := -9000) (hi:=9000) (by omega) (by omega) (by omega);obtain ⟨_,s1,s2⟩:=HG (n:=size) (lo:=0) (hi:=18000) (by omega) (by omega) (by omega);have w3:AA AB (DN lo (-9000) 9000+DN size 0 18000)=DN lo (-9000) 9000+DN size 0 18000:=EO (by omega) (by omega);rw [w1,w2,w3,m1,m2,AL (show ¬ (cls - 1 - 0+1=0) by omega),AL (show ¬ (dim - 1 - 0+1=0) by omega),AE (show 0≤dim by omega),AE (show dim≤4 by omega)];unfold JE FS KM;obtain ⟨_,k1,k2⟩:=HG (n:=k) (lo:=1) (hi:=3) (by omega) (by omega) (by omega);generalize DN k 1 3=K at k1 k2;have hK:K=1∨K=2∨K=3:=by omega
   simp only;generalize decide (cls < 2)=cl;rcases hK with rfl | rfl | rfl <;> cases cl <;> rfl
 ·simp [R.get] at h
open Go
def R9:DW
 | [.int .i64 n,.int .i64 w]=>.br (decide (w=32)) (.ok (.bool (E5 n)) []) .no
 | _=>.no
def V5:DW
 | [.int .i64 a,.int .i64 w]=>.br (decide (0≤a)&&decide (a < 64)) (.ok (.bool (decide (1≤w)&&decide (w≤64 - a))) []) .no
 | _=>.no
def XH (w:Int):Int:=(18446744073709551615:Int).fdiv (2 ^ (64 - w).toNat)
def V6:DW
 | [.int .i64 w]=>.br (decide (1≤w)&&decide (w≤64)) (.ok (.int .u64 (XH w)) []) .no
 | _=>.no
def Ss (a b:Int):Int:=JU (ic (CH (A5 (AR AJ) a &&& ~~~ (A5 (AR AJ) b))))
def P8 (x a w y:Int):Int:=fO (Ss x (Z6 (XH w) a.toNat)) (iE (Z6 y a.toNat) (Z6 (XH w) a.toNat))
def IE (x a w:Int):Int:=iE (x.fdiv (2 ^ a.toNat)) (XH w)
def bA:DW
 | [.int .u64 x,.int .i64 a,.int .i64 w,.int .u64 y]=>.br (decide (0≤a)&&(decide (a < 64)&&(decide (1≤w)&&decide (w≤64 - a)))) (.ok (.int .u64 (P8 x a w y)) []) .no
 | _=>.no
def SA:DW
 | [.int .u64 x,.int .i64 a,.int .i64 w]=>.br (decide (0≤a)&&(decide (a < 64)&&(decide (1≤w)&&decide (w≤64 - a)))) (.ok (.int .u64 (IE x a w)) []) .no
 | _=>.no
def uM (n:Int):Int:=(FR (n*2 ^ 32)).fdiv (2 ^ 32)
def bC:DW
 | [.int .i64 n,.int .i64 w]=>.br (decide (w=32)) (.ok (.int .i64 (uM n)) []) .no
 | _=>.no
def OH (x:Int):Int:=uM (FR (IE x 0 32))
def bB:DW
 | [.int .u64 x,.int .i64 a,.int .i64 w]=>.br (decide (a=0)&&decide (w=32)) (.ok (.int .i64 (OH x)) []) .no
 | _=>.no
structure Nd where
 lf:Bool
 v:Int
 f:Int
 a:Int
 l:Int
 r:Int
def Nd.eq (x y:Nd):Bool:=(x.lf==y.lf)&&((x.v==y.v)&&((x.f==y.f)&&((x.a==y.a)&&((x.l==y.l)&&((x.r==y.r)&&true)))))
def Nd.zero:Nd:=⟨false,0,0,0,0,0⟩
def Q4 (n:Int):Bool:=decide (1≤n)&&decide (n < 31)
def cS:DW
 | [.int .i64 n]=>.ok (.bool (Q4 n)) []
 | _=>.no
def M5 (x:Nd):Bool:=
 cond x.lf (x.eq ⟨true,x.v,0,0,0,0⟩&&E5 x.v)
  ((x.v==0)&&(decide (0≤x.f)&&(decide (x.f < 4)&&(E5 x.a&&(Q4 x.l&&Q4 x.r)))))
def cQ:DW
 | [.agg [.bool lf,.int .i64 v,.int .i64 f,.int .i64 a,.int .i64 l,.int .i64 r]]=>.ok (.bool (M5 ⟨lf,v,f,a,l,r⟩)) []
 | _=>.no
def IY (x:Nd):Int:=
 cond (M5 x)
  (cond x.lf (P8 9223372036854775808 0 32 (JU x.v))
   (P8 (P8 (P8 (P8 0 0 32 (JU x.a)) 32 4 (JU x.f)) 40 8 (JU x.l)) 48 8 (JU x.r)))
  0
def WF:DW
 | [.agg [.bool lf,.int .i64 v,.int .i64 f,.int .i64 a,.int .i64 l,.int .i64 r]]=>.ok (.int .u64 (IY ⟨lf,v,f,a,l,r⟩)) []
 | _=>.no
def XR (w:Int):Nd:=
 cond (IE w 63 1==0) ⟨false,0,FR (IE w 32 4),OH w,FR (IE w 40 8),FR (IE w 48 8)⟩ ⟨true,OH w,0,0,0,0⟩
def GK (w:Int):Bool:=!(w==0)&&(IY (XR w)==w)
def DM (w:Int):Nd:=cond (GK w) (XR w) Nd.zero
def MQ:DW
 | [.int .u64 w]=>.ok (.tup [.agg [.bool (DM w).lf,.int .i64 (DM w).v,.int .i64 (DM w).f,.int .i64 (DM w).a,.int .i64 (DM w).l,.int .i64 (DM w).r],.bool (GK w)]) []
 | _=>.no
def cR:DW
 | [.int .i64 a,.int .i64 w,.bor [.int .u64 x]]=>.br (decide (0≤a)&&(decide (a < 64)&&(decide (1≤w)&&decide (w≤64 - a)))) (.ok (.int .i64 (FR (IE x a w))) [[.int .u64 x]]) .no
 | _=>.no
def LH (x:Nd) (j:Nat):Nat:=cond x.lf 0 ((if x.l=(j:Int) then 1 else 0)+(if x.r=(j:Int) then 1 else 0))
def IW (l:LI) (j:Nat):Nat:=(l.map fun w=>LH (DM w.toInt) j).sum
def OA (dim n:Int) (i:Nat) (x:Nd):Bool:=
 cond x.lf true (!(decide (x.f≥dim))&&(!(x.l==x.r)&&(!(decide (min x.l x.r≤(i:Int)))&&!(decide (max x.l x.r≥n)))))
def KO (dim n:Int):Nat→LI→Bool
 | _,[]=>true
 | i,w :: r=>(GK w.toInt&&OA dim n i (DM w.toInt))&&KO dim n (i+1) r
def ZU (l:LI):Bool:=(vaI (l.length - 1)).all fun j=>IW l (j+1)==1
def G4 (l:LI) (dim:Int):Bool:=(B6 1 l.length&&B6 l.length 31)&&(KO dim (ic l.length) 0 l&&ZU l)
def WR:DW
 | [.list false [.int .u64] l,.int .i64 dim]=>.ok (.bool (G4 l dim)) []
 | _=>.no
structure Md where
 d:Int
 c:Int
 b0:Int
 b1:Int
 b2:Int
 ts:LI
def HM (d c:Int) (t:IV):Bool:=!(decide ((t.cell 0).toInt < 0))&&(!(decide ((t.cell 0).toInt≥c))&&G4 (t.cell 1).toList d)
def HU (c j b:Int):Bool:=E5 b&&!(decide (j≥c)&&!(b==0))
def E0 (m:Md):Bool:=
 (!(decide (m.d < 1))&&(!(decide (m.d > 4))&&(!(decide (m.c < 1))&&(!(decide (m.c > 3))&&B6 m.ts.length 8)))) &&
  ((HU m.c 0 m.b0&&(HU m.c 1 m.b1&&HU m.c 2 m.b2))&&m.ts.all (HM m.d m.c))
abbrev MX:List Kd:=[.z,.list false [.int .u64]]
def WE:DW
 | [.agg [.int .i64 k,.list false [.int .u64] l],.bor [.int .i64 d,.int .i64 c,.int .i64 b0,.int .i64 b1,.int .i64 b2,.list true [.z,.list false [.int .u64]] ts]]=>
  .ok (.bool (!(HM d c (.agg [.int k,.list l])))) [[.int .i64 d,.int .i64 c,.int .i64 b0,.int .i64 b1,.int .i64 b2,.list true MX ts]]
 | _=>.no
def W9 (d c:Int):LI→Int→Int
 | [],_ => -1
 | t :: r,i=>cond (HM d c t) (W9 d c r (i+1)) i
def dG:DW
 | [.list true [.z,.list false [.int .u64]] l,.clo 95 [.bor [.int .i64 d,.int .i64 c,.int .i64 b0,.int .i64 b1,.int .i64 b2,.list true [.z,.list false [.int .u64]] ts]]]=>
  .ok (.int .i64 (W9 d c l 0)) [[.int .i64 d,.int .i64 c,.int .i64 b0,.int .i64 b1,.int .i64 b2,.list true MX ts]]
 | _=>.no
def dF:DW
 | [.list true [.z,.list false [.int .u64]] l,.clo 95 [.bor [.int .i64 d,.int .i64 c,.int .i64 b0,.int .i64 b1,.int .i64 b2,.list true [.z,.list false [.int .u64]] ts]]]=>
  .ok (.bool (!(l.all (HM d c)))) [[.int .i64 d,.int .i64 c,.int .i64 b0,.int .i64 b1,.int .i64 b2,.list true MX ts]]
 | _=>.no
def MP:DW
 | [.agg [.int .i64 d,.int .i64 c,.int .i64 b0,.int .i64 b1,.int .i64 b2,.list true [.z,.list false [.int .u64]] ts]]=>.ok (.bool (E0 ⟨d,c,b0,b1,b2,ts⟩)) []
 | _=>.no
abbrev NY:BA:=⟨#[102,111,114,101,115,116]⟩
abbrev I5:BA:=⟨#[98,105,97,115]⟩
abbrev OM:BA:=⟨#[116,114,101,101]⟩
abbrev TJ:BA:=⟨#[108,101,97,102]⟩
abbrev lW:BA:=⟨#[105,102]⟩
abbrev uE:BA:=⟨#[60,61]⟩
abbrev uG:BA:=⟨#[116,104,101,110]⟩
abbrev uD:BA:=⟨#[101,108,115,101]⟩
abbrev PN:BA:=⟨#[10]⟩
def FU (ws:List BA):BA:=GO ws FI++PN
def GC:List (List BA)→BA
 | []=>CJ
 | l :: r=>FU l++GC r
def ME (x:Nd):List BA:=
 cond x.lf [TJ,DU x.v] [lW,DQ x.f,uE,DU x.a,uG,DQ x.l,uD,DQ x.r]
def HY (l:LI):List (List BA):=l.map fun w=>ME (DM w.toInt)
def TE (t:IV):List (List BA):=[OM,DQ (t.cell 0).toInt,DQ (ic (t.cell 1).toList.length)] :: HY (t.cell 1).toList
def GZ:LI→List (List BA)
 | []=>[]
 | t :: r=>TE t++GZ r
def SY (m:Md):List (List BA):=[[NY,DQ m.d,DQ m.c],I5 :: ([m.b0,m.b1,m.b2].take m.c.toNat).map DU]
def MB (m:Md):List (List BA):=SY m++GZ m.ts
def EC (m:Md):BA:=cond (E0 m) (GC (MB m)) VK
def FQ (s:BA) (most:Int):Int:=cond (KX s&&(!(decide (FK s < 0))&&!(decide (FK s > most)))) (FK s) 0
def E1 (ls:LI):LI:=match ls with | []=>[] | l :: _=>HH l.toStr
def NT (l:LI):Nd:=
 cond ((DX l 0).toList==TJ.toList) ⟨true,GE (DX l 1),0,0,0,0⟩ ⟨false,0,FQ (DX l 1) 4,GE (DX l 3),FQ (DX l 5) 31,FQ (DX l 7) 31⟩
def M2 (ls:LI) (k:Nat):LI:=(vaI k).map fun i=>.int (IY (NT (E1 (ls.drop i))))
def M1 (ls:LI):Nat:=(FQ (DX (E1 ls) 2) 31).toNat
def Z0 (ls:LI):IV:=.agg [.int (FQ (DX (E1 ls) 1) 3),.list (M2 (ls.drop 1) (M1 ls))]
def LP:Nat→LI→LI
 | 0,_=>[]
 | n+1,ls=>match ls with
  | []=>[]
  | l :: r=>Z0 (l :: r) :: LP n (r.drop (M1 (l :: r)))
def LO (ls:LI) (c:Int) (j:Nat):Int:=cond (decide ((j:Int) < c)) (GE (DX (E1 (ls.drop 1)) (1+j))) 0
def ZZ (ls:LI):Int:=FQ (DX (E1 ls) 2) 3
def rJ (ls:LI):Md:=⟨FQ (DX (E1 ls) 1) 4,ZZ ls,LO ls (ZZ ls) 0,LO ls (ZZ ls) 1,LO ls (ZZ ls) 2,LP 9 (ls.drop 2)⟩
def O2 (s t:BA):Bool:=decide (t.size≤s.size)&&(s.extract (s.size - t.size) s.size).toList==t.toList
def F1 (s t:BA):BA:=cond (O2 s t) (s.extract 0 (s.size - t.size)) s
def aF (s:BA):BA:=F1 s PN
def UV (s:BA):LI:=(D3 (aF s) PN).map IV.str
def Y5 (s:BA):Md:=rJ (UV s)
def Md.zero:Md:=⟨0,0,0,0,0,[]⟩
def KE (s:BA):Bool:=!(s.toList==VK.toList)&&(EC (Y5 s)).toList==s.toList
def GH (s:BA):Md:=cond (KE s) (Y5 s) Md.zero
def KR (l:LI):Bool:=l.all fun x=>decide (x.toStr.size < 4294967281)
def dJ:DW
 | [.bor [.bld s],.list false [.str] ws]=>.br (B6 ws.length 1000&&decide (s.size+(FU (ws.map IV.toStr)).size≤1000000000)) (.ok (.tup []) [[.bld (s++FU (ws.map IV.toStr))]]) .no
 | _=>.no
def PS:DW
 | [.agg [.int .i64 d,.int .i64 c,.int .i64 b0,.int .i64 b1,.int .i64 b2,.list true [.z,.list false [.int .u64]] ts]]=>.ok (.str (EC ⟨d,c,b0,b1,b2,ts⟩)) []
 | _=>.no
def WO:DW
 | [.bor [.list false [.str] ls]]=>.br (KR ls) (.ok (.list false [.str] (E1 ls)) [[.list false [.str] (ls.drop 1)]]) .no
 | _=>.no
def WQ:DW
 | [.list false [.str] l,.int .i64 i]=>.br (decide (0≤i)) (.ok (.str (DX l i.toNat)) []) .no
 | _=>.no
def WN:DW
 | [.str s,.int .i64 most]=>.ok (.int .i64 (FQ s most)) []
 | _=>.no
def WP:DW
 | [.str s]=>.br (decide (s.size < 4294967281)) (.ok (.int .i64 (GE s)) []) .no
 | _=>.no
def dK:DW
 | [.bor [.list false [.str] ls]]=>.br (KR ls) (.ok (.int .u64 (IY (NT (E1 ls)))) [[.list false [.str] (ls.drop 1)]]) .no
 | _=>.no
def cK:DW
 | [.str s,.str t]=>.ok (.bool (O2 s t)) []
 | _=>.no
def cL:DW
 | [.str s,.str t]=>.ok (.str (F1 s t)) []
 | _=>.no
def SG:DW
 | [.str s,.str t]=>.ok (.str (F1 s t)) []
 | _=>.no
def WM:DW
 | [.str s]=>.br (decide (s.size < 4294967281)) (.ok (.tup [.agg [.int .i64 (GH s).d,.int .i64 (GH s).c,.int .i64 (GH s).b0,.int .i64 (GH s).b1,.int .i64 (GH s).b2,.list true MX (GH s).ts],.bool (KE s)]) []) .no
 | _=>.no
open Go Go.Proofs
def Pp (N:Nat):Env:=D6 [] [] 25 N
theorem zcZ (N:Nat) (n w:Int):D1 (Pp N) wE [.tmp 4] [[.bool]] [.i n,.i w]=(cond (decide (w < 1)) (some ((.bool false),[])) (cond (decide (w > 64)) (some ((.bool false),[])) (cond (decide (AA AJ (AA AB (w - 1)) < 0)) none (cond (vaX n (2 ^ min (AF (AA AJ (AA AB (w - 1)))) (AR AB))==0) (some ((.bool true),[])) (cond (decide (AA AJ (AA AB (w - 1)) < 0)) none (some ((.bool (vaX n (2 ^ min (AF (AA AJ (AA AB (w - 1)))) (AR AB)) == -1)),[]))))))):=by kernel_rfl
def Pu (N:Nat):Env:=D6 [] [] 21 N
theorem zc3 (N:Nat) (n w:Int):D1 (Pu N) wI [.tmp 4] [[.z]] [.i n,.i w]=(cond (decide (w < 1)) (some ((.i n),[])) (cond (decide (w≥64)) (some ((.i n),[])) (cond (decide (AA AJ (AA AB (64 - w)) < 0)) none (cond (decide (AA AJ (AA AB (64 - w)) < 0)) none (some ((.i (vaX (AA AB (n*2 ^ min (AF (AA AJ (AA AB (64 - w)))) (AR AB))) (2 ^ min (AF (AA AJ (AA AB (64 - w)))) (AR AB)))),[])))))):=by kernel_rfl
def Pv (N:Nat):Env:=D6 [] [] 21 N
theorem zc4 (N:Nat) (atv w:Int):D1 (Pv N) wJ [.tmp 4] [[.bool]] [.i atv,.i w]=(cond (decide (atv≥0)) (cond (decide (atv < 64)) (cond (decide (w≥1)) (some ((.bool (decide (w≤AA AB (64 - atv)))),[])) (some ((.bool false),[]))) (some ((.bool false),[]))) (some ((.bool false),[]))):=by kernel_rfl
def Pw (N:Nat):Env:=D6 [] [] 7 N
theorem zc5 (N:Nat) (w:Int):D1 (Pw N) wK [.tmp 2] [[.int .u64]] [.i w]=(cond (decide (AA AJ (AA AB (64 - w)) < 0)) none (some ((.int .u64 (vaX 18446744073709551615 (2 ^ min (AF (AA AJ (AA AB (64 - w)))) (AR AJ)))),[]))):=by kernel_rfl
def Pr (N:Nat):Env:=D6 [(149,V5),(150,V6)] [] 30 N
theorem zc1 (N:Nat) (x atv w y:Int):D1 (Pr N) wG [.tmp 8] [[.int .u64]] [.int .u64 x,.i atv,.i w,.int .u64 y]=(cond (decide (0≤atv)&&decide (atv < 64)) (cond (! (decide (1≤w)&&decide (w≤64 - atv))) (some ((.int .u64 x),[])) (cond (decide (1≤w)&&decide (w≤64)) (cond (decide (AA AJ atv < 0)) none (cond (decide (AA AJ atv < 0)) none (some ((.int .u64 (AA AJ (ic (CH (A5 (AR AJ) (AA AJ (ic (CH (A5 (AR AJ) x &&& ~~~A5 (AR AJ) (AA AJ (XH w*2 ^ min (AF (AA AJ atv)) (AR AJ))))))) ||| A5 (AR AJ) (AA AJ (ic (CH (A5 (AR AJ) (AA AJ (y*2 ^ min (AF (AA AJ atv)) (AR AJ))) &&& A5 (AR AJ) (AA AJ (XH w*2 ^ min (AF (AA AJ atv)) (AR AJ)))))))))))),[])))) none)) none):=by kernel_rfl
def Pq (N:Nat):Env:=D6 [(149,V5),(150,V6)] [] 18 N
theorem zc0 (N:Nat) (x atv w:Int):D1 (Pq N) wF [.tmp 6] [[.int .u64]] [.int .u64 x,.i atv,.i w]=(cond (decide (0≤atv)&&decide (atv < 64)) (cond (! (decide (1≤w)&&decide (w≤64 - atv))) (some ((.int .u64 0),[])) (cond (decide (AA AJ atv < 0)) none (cond (decide (1≤w)&&decide (w≤64)) (some ((.int .u64 (AA AJ (ic (CH (A5 (AR AJ) (vaX x (2 ^ min (AF (AA AJ atv)) (AR AJ))) &&& A5 (AR AJ) (XH w)))))),[])) none))) none):=by kernel_rfl
def Ps (N:Nat):Env:=D6 [(99,SA),(148,bC)] [] 14 N
theorem zc2 (N:Nat) (x atv w:Int):D1 (Ps N) wH [.tmp 6] [[.z]] [.int .u64 x,.i atv,.i w]=(cond (decide (0≤atv)&&(decide (atv < 64)&&(decide (1≤w)&&decide (w≤64 - atv)))) (cond (decide (w=32)) (some ((.i (uM (AA AB (IE x atv w)))),[])) none) none):=by kernel_rfl
def Rl (N:Nat):Env:=D6 [] [] 9 N
theorem zd2 (N:Nat) (n:Int):D1 (Rl N) xV [.tmp 2] [[.bool]] [.i n]=(cond (decide (n≥1)) (some ((.bool (decide (n < 31))),[])) (some ((.bool false),[]))):=by kernel_rfl
def Rh (N:Nat):Env:=D6 [(93,R9),(190,cS)] [] 43 N
theorem zdZ (N:Nat) (u01:Bool) (u04 u00 n_At u02 u03:Int):D1 (Rh N) xS [.tmp 2] [[.bool]] [.agg [.bool u01,.i u04,.i u00,.i n_At,.i u02,.i u03]]=(cond u01 (cond (u01==true&&(u04==u04&&(u00==0&&(n_At==0&&(u02==0&&(u03==0&&true)))))) (some ((.bool (E5 u04)),[])) (some ((.bool false),[]))) (cond (u04==0) (cond (decide (u00≥0)) (cond (decide (u00 < 4)) (cond (E5 n_At) (cond (Q4 u02) (some ((.bool (Q4 u03)),[])) (some ((.bool false),[]))) (some ((.bool false),[]))) (some ((.bool false),[]))) (some ((.bool false),[]))) (some ((.bool false),[])))):=by kernel_rfl
def Rg (N:Nat):Env:=D6 [(146,bA),(145,cQ)] [] 32 N
theorem zdY (N:Nat) (u01:Bool) (u04 u00 n_At u02 u03:Int):D1 (Rg N) xR [.tmp 2] [[.int .u64]] [.agg [.bool u01,.i u04,.i u00,.i n_At,.i u02,.i u03]]=(cond (!M5 {lf:=u01,v:=u04,f:=u00,a:=n_At,l:=u02,r:=u03}) (some ((.int .u64 0),[])) (cond u01 (some ((.int .u64 (P8 9223372036854775808 0 32 (AA AJ u04))),[])) (some ((.int .u64 (P8 (P8 (P8 (P8 0 0 32 (AA AJ n_At)) 32 4 (AA AJ u00)) 40 8 (AA AJ u02)) 48 8 (AA AJ u03))),[])))):=by kernel_rfl
def Rk (N:Nat):Env:=D6 [(99,SA)] [] 11 N
theorem zd1 (N:Nat) (a w x:Int):D1 (Rk N) xU [.tmp 5] [[.z]] [.i a,.i w,.bor [.int .u64 x]]=(cond (decide (0≤a)&&(decide (a < 64)&&(decide (1≤w)&&decide (w≤64 - a)))) (some ((.i (AA AB (IE x a w))),[[.int .u64 x]])) none):=by kernel_rfl
def Rj (N:Nat):Env:=D6 [(99,SA),(98,bB),(92,WF),(100,cR)] [] 33 N
theorem zd0 (N:Nat) (w:Int):D1 (Rj N) xT [.cell 2 111,.tmp 3] [[.bool,.z,.z,.z,.z,.z],[.bool]] [.int .u64 w]=(cond (IE w 63 1==0) (cond (w==0) (some ((.tup [.agg [.bool false,.i 0,.i 0,.i 0,.i 0,.i 0],.bool false]),[])) (cond (IY {lf:=false,v:=0,f:=FR (IE w 32 4),a:=OH w,l:=FR (IE w 40 8),r:=FR (IE w 48 8)} != w) (some ((.tup [.agg [.bool false,.i 0,.i 0,.i 0,.i 0,.i 0],.bool false]),[])) (some ((.tup [.agg [.bool false,.i 0,.i (FR (IE w 32 4)),.i (OH w),.i (FR (IE w 40 8)),.i (FR (IE w 48 8))],.bool true]),[])))) (cond (w==0) (some ((.tup [.agg [.bool false,.i 0,.i 0,.i 0,.i 0,.i 0],.bool false]),[])) (cond (IY {lf:=true,v:=OH w,f:=0,a:=0,l:=0,r:=0} != w) (some ((.tup [.agg [.bool false,.i 0,.i 0,.i 0,.i 0,.i 0],.bool false]),[])) (some ((.tup [.agg [.bool true,.i (OH w),.i 0,.i 0,.i 0,.i 0],.bool true]),[]))))):=by kernel_rfl
open Go Go.Proofs
theorem tW {n:Int} (h0:0≤n) (h1:n < 18446744073709551616):AA AJ n=n:=by
 rw [lT];omega
theorem sL:DY PR B0 93 R9:=by
 refine D7 [] [] R9 [[.bool]] Tryz.func93 zaa trivial ?_;intro vs r hwf h;unfold R9 at h;split at h
 ·rename_i n w;cases hc:decide (w=32) with
  | false=>rw [hc] at h; simp [R.get] at h
  | true=>
   rw [hc,R.get_br,DJ,R.get_ok] at h;have hc:=A1 hc;subst hc;refine ⟨0,?_⟩;rw [← h];refine (zcZ 0 n 32).trans ?_;have e3:decide (AA AJ (AA AB ((32:Int) - 1)) < 0)=false:=by kernel_rfl
   have e4:(2:Int) ^ min (AF (AA AJ (AA AB ((32:Int) - 1)))) (AR AB)=2147483648:=by kernel_rfl
   rw [e3,e4,AL (show ¬ (32:Int) < 1 by omega),AL (show ¬ (32:Int) > 64 by omega),DK,DK,DK,DK];have h0:=Int.fdiv_mul_add_fmod n 2147483648;have h1:=Int.fmod_nonneg_of_pos n (show (0:Int) < 2147483648 by omega);have h2:=Int.fmod_lt_of_pos n (show (0:Int) < 2147483648 by omega);generalize vaX n 2147483648=q at h0 ⊢;generalize Int.fmod n 2147483648=m at h0 h1 h2;unfold E5;rw [T9,T9];cases hq:decide (q=0) with
   | true=>
    have hq:=A1 hq;rw [AE (show -2147483648≤n by omega),AE (show n≤2147483647 by omega)];rfl
   | false=>
    have hq:=BG hq;cases hp:decide (q = -1) with
    | true=>
     have hp:=A1 hp;rw [AE (show -2147483648≤n by omega),AE (show n≤2147483647 by omega)];rfl
    | false=>
     have hp:=BG hp;rw [DK];congr 3
     symm
     rw [Bool.and_eq_false_iff,BO,BO];omega
 ·simp [R.get] at h
theorem zgZ:DY PR B0 148 bC:=by
 refine D7 [] [] bC [[.z]] Tryz.func148 zae trivial ?_;intro vs r hwf h;unfold bC at h;split at h
 ·rename_i n w;cases hc:decide (w=32) with
  | false=>rw [hc] at h; simp [R.get] at h
  | true=>
   rw [hc,R.get_br,DJ,R.get_ok] at h;have hc:=A1 hc;subst hc;refine ⟨0,?_⟩;rw [← h];refine (zc3 0 n 32).trans ?_;have e3:decide (AA AJ (AA AB ((64:Int) - 32)) < 0)=false:=by kernel_rfl
   have e4:min (AF (AA AJ (AA AB ((64:Int) - 32)))) (AR AB)=32:=by kernel_rfl
   rw [e3,e4,AL (show ¬ (32:Int) < 1 by omega),AL (show ¬ (32:Int)≥64 by omega),DK,DK,DK,DK];rfl
 ·simp [R.get] at h
theorem Jk:DY PR B0 149 V5:=by
 refine D7 [] [] V5 [[.bool]] Tryz.func149 zaf trivial ?_;intro vs r hwf h;unfold V5 at h;split at h
 ·rename_i a w;cases hc:(decide (0≤a)&&decide (a < 64)) with
  | false=>rw [hc] at h; simp [R.get] at h
  | true=>
   rw [hc,R.get_br,DJ,R.get_ok] at h;rw [AH,AQ,AQ] at hc;refine ⟨0,?_⟩;rw [← h];refine (zc4 0 a w).trans ?_;have e:AA AB (64 - a)=64 - a:=EO (by omega) (by omega);have e1:decide (w≥1)=decide (1≤w):=rfl;rw [AE (show a≥0 by omega),AE hc.2,DJ,DJ,e,e1];cases decide (1≤w) <;> rfl
 ·simp [R.get] at h
theorem Jl:DY PR B0 150 V6:=by
 refine D7 [] [] V6 [[.int .u64]] Tryz.func150 zag trivial ?_;intro vs r hwf h;unfold V6 at h;split at h
 ·rename_i w;cases hc:(decide (1≤w)&&decide (w≤64)) with
  | false=>rw [hc] at h; simp [R.get] at h
  | true=>
   rw [hc,R.get_br,DJ,R.get_ok] at h;rw [AH,AQ,AQ] at hc;refine ⟨0,?_⟩;rw [← h];refine (zc5 0 w).trans ?_;have e:AA AB (64 - w)=64 - w:=EO (by omega) (by omega);have e2:AA AJ (64 - w)=64 - w:=tW (by omega) (by omega);have e3:min (64 - w).toNat (AR AJ)=(64 - w).toNat:=by
    have:AR AJ=64:=rfl
    omega
   rw [e,e2,e3,AL (show ¬ (64 - w < 0) by omega),DK];rfl
 ·simp [R.get] at h
theorem Al {a w:Int} (hc:(decide (0≤a)&&(decide (a < 64)&&(decide (1≤w)&&decide (w≤64 - a))))=true):0≤a∧a < 64∧1≤w∧w≤64 - a:=by
 simpa only [AH,AQ] using hc
theorem zgX:DY PR B0 146 bA:=by
 refine D7 [(149,V5),(150,V6)] [] bA [[.int .u64]] Tryz.func146 zac ⟨Jk,Jl,trivial⟩ ?_;intro vs r hwf h;unfold bA at h;split at h
 ·rename_i x a w y;cases hc:(decide (0≤a)&&(decide (a < 64)&&(decide (1≤w)&&decide (w≤64 - a)))) with
  | false=>rw [hc] at h; simp [R.get] at h
  | true=>
   rw [hc,R.get_br,DJ,R.get_ok] at h;obtain ⟨h1,h2,h3,h4⟩:=Al hc;refine ⟨0,?_⟩;rw [← h];refine (zc1 0 x a w y).trans ?_;have e2:AA AJ a=a:=tW (by omega) (by omega);have e3:min a.toNat (AR AJ)=a.toNat:=by
    have:AR AJ=64:=rfl
    omega
   rw [e2,e3,AE h1,AE h2,AE h3,AE h4,AE (show w≤64 by omega),AL (show ¬ a < 0 by omega)];simp only [B3,A2,DJ,DK];rfl
 ·simp [R.get] at h
theorem sM:DY PR B0 99 SA:=by
 refine D7 [(149,V5),(150,V6)] [] SA [[.int .u64]] Tryz.func99 zab ⟨Jk,Jl,trivial⟩ ?_;intro vs r hwf h;unfold SA at h;split at h
 ·rename_i x a w;cases hc:(decide (0≤a)&&(decide (a < 64)&&(decide (1≤w)&&decide (w≤64 - a)))) with
  | false=>rw [hc] at h; simp [R.get] at h
  | true=>
   rw [hc,R.get_br,DJ,R.get_ok] at h;obtain ⟨h1,h2,h3,h4⟩:=Al hc;refine ⟨0,?_⟩;rw [← h];refine (zc0 0 x a w).trans ?_;have e2:AA AJ a=a:=tW (by omega) (by omega);have e3:min a.toNat (AR AJ)=a.toNat:=by
    have:AR AJ=64:=rfl
    omega
   rw [e2,e3,AE h1,AE h2,AE h3,AE h4,AE (show w≤64 by omega),AL (show ¬ a < 0 by omega)];simp only [B3,A2,DJ,DK];rfl
 ·simp [R.get] at h
theorem zgY:DY PR B0 98 bB:=by
 refine D7 [(99,SA),(148,bC)] [] bB [[.z]] Tryz.func98 zad ⟨sM,zgZ,trivial⟩ ?_;intro vs r hwf h;unfold bB at h;split at h
 ·rename_i x a w;cases hc:(decide (a=0)&&decide (w=32)) with
  | false=>rw [hc] at h; simp [R.get] at h
  | true=>
   rw [hc,R.get_br,DJ,R.get_ok] at h;rw [AH,AQ,AQ] at hc;obtain ⟨rfl,rfl⟩:=hc;refine ⟨0,?_⟩;rw [← h];refine (zc2 0 x 0 32).trans ?_;rfl
 ·simp [R.get] at h
theorem zhK:DY PR B0 190 cS:=by
 refine D7 [] [] cS [[.bool]] Tryz.func190 zbi trivial ?_;intro vs r hwf h;unfold cS at h;split at h
 ·rename_i n;refine ⟨0,?_⟩;rw [R.get_ok] at h;rw [← h];refine (zd2 0 n).trans ?_;unfold Q4;have e1:decide (n≥1)=decide (1≤n):=rfl;rw [e1];cases decide (1≤n) <;> rfl
 ·simp [R.get] at h
theorem zhI:DY PR B0 145 cQ:=by
 refine D7 [(93,R9),(190,cS)] [] cQ [[.bool]] Tryz.func145 zbf ⟨sL,zhK,trivial⟩ ?_;intro vs r hwf h;unfold cQ at h;split at h
 ·rename_i lf v f a l r';refine ⟨0,?_⟩;rw [← h];refine (zdZ 0 lf v f a l r').trans ?_;simp only [R.get_ok,zD];unfold M5;cases lf with
  | true=>rfl
  | false=>rfl
 ·simp [R.get] at h
theorem Jx:DY PR B0 92 WF:=by
 refine D7 [(146,bA),(145,cQ)] [] WF [[.int .u64]] Tryz.func92 zbe ⟨zgX,zhI,trivial⟩ ?_;intro vs r hwf h;unfold WF at h;split at h
 ·rename_i lf v f a l r';refine ⟨0,?_⟩;rw [← h];refine (zdY 0 lf v f a l r').trans ?_;unfold IY;cases M5 ⟨lf,v,f,a,l,r'⟩ with
  | false=>rfl
  | true=>cases lf <;> rfl
 ·simp [R.get] at h
theorem zhJ:DY PR B0 100 cR:=by
 refine D7 [(99,SA)] [] cR [[.z]] Tryz.func100 zbh ⟨sM,trivial⟩ ?_;intro vs r hwf h;unfold cR at h;split at h
 ·rename_i a w x;cases hc:(decide (0≤a)&&(decide (a < 64)&&(decide (1≤w)&&decide (w≤64 - a)))) with
  | false=>rw [hc] at h; simp [R.get] at h
  | true=>
   rw [hc,R.get_br,DJ,R.get_ok] at h;refine ⟨0,?_⟩;rw [← h];refine (zd1 0 a w x).trans ?_;rw [hc];rfl
 ·simp [R.get] at h
theorem aA:DY PR B0 55 MQ:=by
 refine D7 [(99,SA),(98,bB),(92,WF),(100,cR)] [] MQ [[.bool,.z,.z,.z,.z,.z],[.bool]] Tryz.func55 zbg ⟨sM,zgY,Jx,zhJ,trivial⟩ ?_;intro vs r hwf h;unfold MQ at h;split at h
 ·rename_i w;refine ⟨0,?_⟩;rw [← h];refine (zd0 0 w).trans ?_;rw [R.get_ok];unfold DM GK XR;cases (IE w 63 1==0) with
  | true=>
   simp only [BH];cases hw:(w==0) with
   | true=>rfl
   | false=>
    simp only [A9,A6,A8];have e:(IY ⟨false,0,FR (IE w 32 4),OH w,FR (IE w 40 8),FR (IE w 48 8)⟩ != w)=!(IY ⟨false,0,FR (IE w 32 4),OH w,FR (IE w 40 8),FR (IE w 48 8)⟩==w):=rfl;rw [e];cases (IY ⟨false,0,FR (IE w 32 4),OH w,FR (IE w 40 8),FR (IE w 48 8)⟩==w) <;> rfl
  | false=>
   simp only [A9];cases hw:(w==0) with
   | true=>rfl
   | false=>
    simp only [A9,A6,A8];have e:(IY ⟨true,OH w,0,0,0,0⟩ != w)=!(IY ⟨true,OH w,0,0,0,0⟩==w):=rfl;rw [e];cases (IY ⟨true,OH w,0,0,0,0⟩==w) <;> rfl
 ·simp [R.get] at h
open Go Go.Proofs
def H4 (N:Nat):Env:=D6 [(55,MQ)] [(5,⟨[0,1,4,5,23,24,25],[22],[]⟩),(17,⟨[4,85,86,87],[22],[]⟩)] 94 N
abbrev OP (l0:LI) (x1:Int) (b4:Bool) (n5:Nat) (l23:LI) (x24 x25:Int) (lo22:LI):St:=⟨[(0,(.list false [.int .u64] l0)),(1,(.i x1)),(4,(.bool b4)),(5,(.row 22 0 n5)),(23,(.list false [.int .u64] l23)),(24,(.i x24)),(25,(.i x25))],[(22,(some (.row true 3 false [.z] lo22)))]⟩
abbrev V1 (b4:Bool) (n85:Nat) (x86 x87:Int) (lo22:LI):St:=⟨[(4,(.bool b4)),(85,(.row 22 1 n85)),(86,(.i x86)),(87,(.i x87))],[(22,(some (.row true 3 false [.z] lo22)))]⟩
theorem zeC (N:Nat) (l:LI) (a1:Int):D1 (H4 N) L6 [.tmp 4] [[.bool]] [.list false [.int .u64] l,.i a1]=(cond (decide (ic (AG l) < 1)) (some ((.bool false),[])) (cond (decide (ic (AG l) > 31)) (some ((.bool false),[])) (cond (BU 0 (TI.size (Env.tyd (H4 N) 3))&&(BU 3 1000000&&decide (0≤ic (AG l)))&&(decide (ic (AG l)=ic (AG l))&&decide (ic (AG l)*ic (TI.bytes (Env.tyd (H4 N) 3))≤ic EG))) (D0 (H4 N) (DL L6 [1,1,1,0,1,0,0]) ⟨[0,1,4,5,23,24,25],[22],[]⟩ N (OP l a1 false (AF (ic (AG l))) l (ic (AG l)) 0 (BN (AF (ic (AG l))) (IV.int 0))) (DS 0 (DT (H4 N) (DL L6 [1,1,1,1]) (DV (H4 N) none [.tmp 4] [[.bool]])))) none))):=by kernel_rfl
theorem Mu (N:Nat) (l0:LI) (x1:Int) (b4:Bool) (n5:Nat) (l23:LI) (x24 x25:Int) (lo22:LI) (again:St→DP) (k:Out→St→DP):FG (H4 N) (DL L6 [1,1,1,0,1,0,0]) (OP l0 x1 b4 n5 l23 x24 x25 lo22) (EW again ⟨[0,1,4,5,23,24,25],[22],[]⟩ k)=(cond (decide (x25 < x24)) (cond (decide (0≤x25)&&decide (x25 < ic (AG l23))) (cond (!GK (IV.toInt (AI l23 (AF x25) default))) (k .ret (OP l0 x1 false n5 l23 x24 x25 lo22)) (cond (Nd.lf (DM (IV.toInt (AI l23 (AF x25) default)))) (again (OP l0 x1 b4 n5 l23 x24 (AA AB (x25+1)) lo22)) (cond (decide (Nd.f (DM (IV.toInt (AI l23 (AF x25) default)))≥x1)) (k .ret (OP l0 x1 false n5 l23 x24 x25 lo22)) (cond (Nd.l (DM (IV.toInt (AI l23 (AF x25) default)))==Nd.r (DM (IV.toInt (AI l23 (AF x25) default)))) (k .ret (OP l0 x1 false n5 l23 x24 x25 lo22)) (cond (decide (min (Nd.l (DM (IV.toInt (AI l23 (AF x25) default)))) (Nd.r (DM (IV.toInt (AI l23 (AF x25) default))))≤x25)) (k .ret (OP l0 x1 false n5 l23 x24 x25 lo22)) (cond (decide (max (Nd.l (DM (IV.toInt (AI l23 (AF x25) default)))) (Nd.r (DM (IV.toInt (AI l23 (AF x25) default))))≥ic (AG l0))) (k .ret (OP l0 x1 false n5 l23 x24 x25 lo22)) (cond (decide (0≤Nd.l (DM (IV.toInt (AI l23 (AF x25) default))))&&decide (Nd.l (DM (IV.toInt (AI l23 (AF x25) default))) < ic (n5 - 0))) (cond (decide (0≤Nd.l (DM (IV.toInt (AI l23 (AF x25) default))))&&decide (Nd.l (DM (IV.toInt (AI l23 (AF x25) default))) < ic (n5 - 0))) (cond (decide (0≤Nd.r (DM (IV.toInt (AI l23 (AF x25) default))))&&decide (Nd.r (DM (IV.toInt (AI l23 (AF x25) default))) < ic (n5 - 0))) (cond (decide (0≤Nd.r (DM (IV.toInt (AI l23 (AF x25) default))))&&decide (Nd.r (DM (IV.toInt (AI l23 (AF x25) default))) < ic (n5 - 0))) (again (OP l0 x1 b4 n5 l23 x24 (AA AB (x25+1)) (List.set (List.set lo22 (0+AF (Nd.l (DM (IV.toInt (AI l23 (AF x25) default))))) (OG false [Kd.int AB] (AI lo22 (0+AF (Nd.l (DM (IV.toInt (AI l23 (AF x25) default))))) default) 0 [IV.int (AA AB (IV.toInt (AI lo22 (0+AF (Nd.l (DM (IV.toInt (AI l23 (AF x25) default))))) default)+1))])) (0+AF (Nd.r (DM (IV.toInt (AI l23 (AF x25) default))))) (OG false [Kd.int AB] (AI (List.set lo22 (0+AF (Nd.l (DM (IV.toInt (AI l23 (AF x25) default))))) (OG false [Kd.int AB] (AI lo22 (0+AF (Nd.l (DM (IV.toInt (AI l23 (AF x25) default))))) default) 0 [IV.int (AA AB (IV.toInt (AI lo22 (0+AF (Nd.l (DM (IV.toInt (AI l23 (AF x25) default))))) default)+1))])) (0+AF (Nd.r (DM (IV.toInt (AI l23 (AF x25) default))))) default) 0 [IV.int (AA AB (IV.toInt (AI (List.set lo22 (0+AF (Nd.l (DM (IV.toInt (AI l23 (AF x25) default))))) (OG false [Kd.int AB] (AI lo22 (0+AF (Nd.l (DM (IV.toInt (AI l23 (AF x25) default))))) default) 0 [IV.int (AA AB (IV.toInt (AI lo22 (0+AF (Nd.l (DM (IV.toInt (AI l23 (AF x25) default))))) default)+1))])) (0+AF (Nd.r (DM (IV.toInt (AI l23 (AF x25) default))))) default)+1))])))) none) none) none) none))))))) none) (k (.exit 0) (OP l0 x1 b4 n5 l23 x24 x25 lo22))):=by kernel_rfl
theorem Yt (N:Nat) (l0:LI) (x1:Int) (b4:Bool) (n5:Nat) (l23:LI) (x24 x25:Int) (lo22:LI):(DS 0 (DT (H4 N) (DL L6 [1,1,1,1]) (DV (H4 N) none [.tmp 4] [[.bool]]))) (.exit 0) (OP l0 x1 b4 n5 l23 x24 x25 lo22)=(cond (decide (0≤1)&&decide (1≤ic (n5 - 0))) (D0 (H4 N) (DL L6 [1,1,1,1,0,1,0,0]) ⟨[4,85,86,87],[22],[]⟩ N (V1 b4 (0+(n5 - 0)) (ic (0+(n5 - 0) - 1)) 0 lo22) (DS 2 (DT (H4 N) (DL L6 [1,1,1,1,1]) (DV (H4 N) none [.tmp 4] [[.bool]])))) none):=by kernel_rfl
theorem Yu (N:Nat) (l0:LI) (x1:Int) (b4:Bool) (n5:Nat) (l23:LI) (x24 x25:Int) (lo22:LI):(DS 0 (DT (H4 N) (DL L6 [1,1,1,1]) (DV (H4 N) none [.tmp 4] [[.bool]]))) .ret (OP l0 x1 b4 n5 l23 x24 x25 lo22)=(some ((.bool b4),[])):=by kernel_rfl
theorem Mv (N:Nat) (b4:Bool) (n85:Nat) (x86 x87:Int) (lo22:LI) (again:St→DP) (k:Out→St→DP):FG (H4 N) (DL L6 [1,1,1,1,0,1,0,0]) (V1 b4 n85 x86 x87 lo22) (EW again ⟨[4,85,86,87],[22],[]⟩ k)=(cond (decide (x87 < x86)) (cond (decide (0≤x87)&&decide (x87 < ic (n85 - 1))) (cond (IV.toInt (AI lo22 (1+AF x87) default) != 1) (k .ret (V1 false n85 x86 x87 lo22)) (again (V1 b4 n85 x86 (AA AB (x87+1)) lo22))) none) (k (.exit 2) (V1 b4 n85 x86 x87 lo22))):=by kernel_rfl
theorem Yv (N:Nat) (b4:Bool) (n85:Nat) (x86 x87:Int) (lo22:LI):(DS 2 (DT (H4 N) (DL L6 [1,1,1,1,1]) (DV (H4 N) none [.tmp 4] [[.bool]]))) (.exit 2) (V1 b4 n85 x86 x87 lo22)=(some ((.bool true),[])):=by kernel_rfl
theorem Yw (N:Nat) (b4:Bool) (n85:Nat) (x86 x87:Int) (lo22:LI):(DS 2 (DT (H4 N) (DL L6 [1,1,1,1,1]) (DV (H4 N) none [.tmp 4] [[.bool]]))) .ret (V1 b4 n85 x86 x87 lo22)=(some ((.bool b4),[])):=by kernel_rfl
def Rf (N:Nat):Env:=D6 [(96,WR)] [] 22 N
theorem zdV (N:Nat) (k:Int) (l:LI) (d c b0 b1 b2:Int) (ts:LI):D1 (Rf N) xQ [.tmp 3] [[.bool]] [.agg [.i k,.list false [.int .u64] l],.bor [.i d,.i c,.i b0,.i b1,.i b2,.list true [.z,.list false [.int .u64]] ts]]=(cond (decide (k < 0)) (some ((.bool true),[[.i d,.i c,.i b0,.i b1,.i b2,.list true [.z,.list false [.int .u64]] ts]])) (cond (decide (k≥c)) (some ((.bool true),[[.i d,.i c,.i b0,.i b1,.i b2,.list true [.z,.list false [.int .u64]] ts]])) (some ((.bool (!G4 l d)),[[.i d,.i c,.i b0,.i b1,.i b2,.list true [.z,.list false [.int .u64]] ts]])))):=by kernel_rfl
def OS (N:Nat):Env:=D6 [(95,WE)] [(2,⟨[0,1,4,7,8],[900000],[]⟩)] 19 N
abbrev VX (l0:LI) (x4 x7 x8 u01 u02 u03 u04 u05:Int) (u00:LI):St:=⟨[(0,(.list true [.z,.list false [.int .u64]] l0)),(1,(.clo 95 [.ptr 900000 0 0])),(4,(.i x4)),(7,(.i x7)),(8,(.i x8))],[(900000,(some (.box [.i u01,.i u02,.i u03,.i u04,.i u05,.list true [.z,.list false [.int .u64]] u00])))]⟩
theorem zem (N:Nat) (l:LI) (d c b0 b1 b2:Int) (ts:LI):D1 (OS N) SO [.tmp 4] [[.z]] [.list true [.z,.list false [.int .u64]] l,.clo 95 [.bor [.i d,.i c,.i b0,.i b1,.i b2,.list true [.z,.list false [.int .u64]] ts]]]=(D0 (OS N) (DL SO [1,0,1,0,0]) ⟨[0,1,4,7,8],[900000],[]⟩ N (VX l 0 (ic (AG l)) 0 d c b0 b1 b2 ts) (DS 0 (DT (OS N) (DL SO [1,1]) (DV (OS N) (some [.i d,.i c,.i b0,.i b1,.i b2,.list true [.z,.list false [.int .u64]] ts]) [.tmp 4] [[.z]])))):=by kernel_rfl
theorem Mp (N:Nat) (l0:LI) (x4 x7 x8 u01 u02 u03 u04 u05:Int) (u00:LI) (again:St→DP) (k:Out→St→DP):FG (OS N) (DL SO [1,0,1,0,0]) (VX l0 x4 x7 x8 u01 u02 u03 u04 u05 u00) (EW again ⟨[0,1,4,7,8],[900000],[]⟩ k)=(cond (decide (x8 < x7)) (cond (decide (0≤x8)&&decide (x8 < ic (AG l0))) (cond (!HM u01 u02 (IV.agg [IV.int (IV.toInt (IV.cell (AI l0 (AF x8) default) 0)),IV.list (IV.toList (IV.cell (AI l0 (AF x8) default) 1))])) (k .ret (VX l0 x8 x7 x8 u01 u02 u03 u04 u05 u00)) (again (VX l0 x4 x7 (AA AB (x8+1)) u01 u02 u03 u04 u05 u00))) none) (k (.exit 0) (VX l0 x4 x7 x8 u01 u02 u03 u04 u05 u00))):=by kernel_rfl
theorem Yj (N:Nat) (d c b0 b1 b2:Int) (ts l0:LI) (x4 x7 x8 u01 u02 u03 u04 u05:Int) (u00:LI):(DS 0 (DT (OS N) (DL SO [1,1]) (DV (OS N) (some [.i d,.i c,.i b0,.i b1,.i b2,.list true [.z,.list false [.int .u64]] ts]) [.tmp 4] [[.z]]))) (.exit 0) (VX l0 x4 x7 x8 u01 u02 u03 u04 u05 u00)=(some ((.i (-1)),[[.i u01,.i u02,.i u03,.i u04,.i u05,.list true [.z,.list false [.int .u64]] u00]])):=by kernel_rfl
theorem Yk (N:Nat) (d c b0 b1 b2:Int) (ts l0:LI) (x4 x7 x8 u01 u02 u03 u04 u05:Int) (u00:LI):(DS 0 (DT (OS N) (DL SO [1,1]) (DV (OS N) (some [.i d,.i c,.i b0,.i b1,.i b2,.list true [.z,.list false [.int .u64]] ts]) [.tmp 4] [[.z]]))) .ret (VX l0 x4 x7 x8 u01 u02 u03 u04 u05 u00)=(some ((.i x4),[[.i u01,.i u02,.i u03,.i u04,.i u05,.list true [.z,.list false [.int .u64]] u00]])):=by kernel_rfl
def Rw (N:Nat):Env:=D6 [(147,dG)] [] 9 N
theorem zel (N:Nat) (l:LI) (d c b0 b1 b2:Int) (ts:LI):D1 (Rw N) yF [.tmp 4] [[.bool]] [.list true [.z,.list false [.int .u64]] l,.clo 95 [.bor [.i d,.i c,.i b0,.i b1,.i b2,.list true [.z,.list false [.int .u64]] ts]]]=(some ((.bool (decide (W9 d c l 0≥0))),[[.i d,.i c,.i b0,.i b1,.i b2,.list true [.z,.list false [.int .u64]] ts]])):=by kernel_rfl
def N3 (N:Nat):Env:=D6 [(93,R9),(95,WE),(94,dF)] [(4,⟨[1,2,30,31],[1,53005],[]⟩)] 54 N
abbrev LA (b2:Bool) (u01 u02 u03 x31 u04 u05 u06 u07 u08:Int) (u00:LI):St:=⟨[(1,(.ptr 1 0 0)),(2,(.bool b2)),(30,(.agg [.i u01,.i u02,.i u03])),(31,(.i x31))],[(1,(some (.box [.i u04,.i u05,.i u06,.i u07,.i u08,.list true [.z,.list false [.int .u64]] u00]))),(53005,none)]⟩
theorem zdU (N:Nat) (u04 u03 u00 u01 u02:Int) (u05:LI):D1 (N3 N) Q3 [.tmp 2] [[.bool]] [.agg [.i u04,.i u03,.i u00,.i u01,.i u02,.list true [.z,.list false [.int .u64]] u05]]=(cond (decide (u04 < 1)) (some ((.bool false),[])) (cond (decide (u04 > 4)) (some ((.bool false),[])) (cond (decide (u03 < 1)) (some ((.bool false),[])) (cond (decide (u03 > 3)) (some ((.bool false),[])) (cond (decide (ic (AG u05) > 8)) (some ((.bool false),[])) (D0 (N3 N) (DL Q3 [1,1,0,1,0,0]) ⟨[1,2,30,31],[1,53005],[]⟩ N (LA false u00 u01 u02 0 u04 u03 u00 u01 u02 u05) (DS 0 (DT (N3 N) (DL Q3 [1,1,1]) (DV (N3 N) none [.tmp 2] [[.bool]]))))))))):=by kernel_rfl
theorem Mi (N:Nat) (b2:Bool) (u01 u02 u03 x31 u04 u05 u06 u07 u08:Int) (u00:LI) (again:St→DP) (k:Out→St→DP):FG (N3 N) (DL Q3 [1,1,0,1,0,0]) (LA b2 u01 u02 u03 x31 u04 u05 u06 u07 u08 u00) (EW again ⟨[1,2,30,31],[1,53005],[]⟩ k)=(cond (decide (x31 < 3)) (cond (decide (x31=ic 0)) (cond (!E5 u01) (k .ret (LA false u01 u02 u03 x31 u04 u05 u06 u07 u08 u00)) (cond (decide (x31≥u05)) (cond (u01 != 0) (k .ret (LA false u01 u02 u03 x31 u04 u05 u06 u07 u08 u00)) (again (LA b2 u01 u02 u03 (AA AB (x31+1)) u04 u05 u06 u07 u08 u00))) (again (LA b2 u01 u02 u03 (AA AB (x31+1)) u04 u05 u06 u07 u08 u00)))) (cond (decide (x31=ic 1)) (cond (!E5 u02) (k .ret (LA false u01 u02 u03 x31 u04 u05 u06 u07 u08 u00)) (cond (decide (x31≥u05)) (cond (u02 != 0) (k .ret (LA false u01 u02 u03 x31 u04 u05 u06 u07 u08 u00)) (again (LA b2 u01 u02 u03 (AA AB (x31+1)) u04 u05 u06 u07 u08 u00))) (again (LA b2 u01 u02 u03 (AA AB (x31+1)) u04 u05 u06 u07 u08 u00)))) (cond (decide (x31=ic 2)) (cond (!E5 u03) (k .ret (LA false u01 u02 u03 x31 u04 u05 u06 u07 u08 u00)) (cond (decide (x31≥u05)) (cond (u03 != 0) (k .ret (LA false u01 u02 u03 x31 u04 u05 u06 u07 u08 u00)) (again (LA b2 u01 u02 u03 (AA AB (x31+1)) u04 u05 u06 u07 u08 u00))) (again (LA b2 u01 u02 u03 (AA AB (x31+1)) u04 u05 u06 u07 u08 u00)))) none))) (k (.exit 0) (LA b2 u01 u02 u03 x31 u04 u05 u06 u07 u08 u00))):=by kernel_rfl
theorem Xy (N:Nat) (b2:Bool) (u01 u02 u03 x31 u04 u05 u06 u07 u08:Int) (u00:LI):(DS 0 (DT (N3 N) (DL Q3 [1,1,1]) (DV (N3 N) none [.tmp 2] [[.bool]]))) (.exit 0) (LA b2 u01 u02 u03 x31 u04 u05 u06 u07 u08 u00)=(some ((.bool (!!List.all u00 (HM u04 u05))),[])):=by kernel_rfl
theorem Xz (N:Nat) (b2:Bool) (u01 u02 u03 x31 u04 u05 u06 u07 u08:Int) (u00:LI):(DS 0 (DT (N3 N) (DL Q3 [1,1,1]) (DV (N3 N) none [.tmp 2] [[.bool]]))) .ret (LA b2 u01 u02 u03 x31 u04 u05 u06 u07 u08 u00)=(some ((.bool b2),[])):=by kernel_rfl
open Go Go.Proofs
theorem Dw {l:LI} {i:Nat} {w:IV} (h:l[i]?=some w) (j:Nat):IW (l.take (i+1)) j=IW (l.take i) j+LH (DM w.toInt) j:=by
 unfold IW;rw [List.take_add_one,h];simp
theorem zcK (x:Nd) (j:Nat):LH x j≤2:=by
 unfold LH;cases x.lf
 ·simp only [A9];split <;> split <;> omega
 ·simp only [BH];omega
theorem Du:∀ (l:LI) (j:Nat),IW l j≤2*l.length
 | [],_=>AX _
 | w :: l,j=>by
  have:=Du l j
  have:=zcK (DM w.toInt) j
  unfold IW at *;simp only [A0,vba,AM];omega
def NM (l:LI) (i:Nat):LI:=(vaI l.length).map fun j=>IV.int (IW (l.take i) j:Nat)
theorem aU (l:LI) (i:Nat):(NM l i).length=l.length:=by simp [NM]
theorem YQ (l:LI) (i:Nat) {j:Nat} (h:j < l.length):(NM l i)[j]?=some (IV.int (IW (l.take i) j:Nat)):=by
 unfold NM;rw [CA,List.getElem?_range h];rfl
theorem Sn (l:LI):NM l 0=BN l.length (IV.int 0):=by
 apply List.ext_getElem?;intro j;by_cases h:j < l.length
 ·rw [YQ l 0 h,List.getElem?_replicate,BP h];simp [IW]
 ·rw [BZ (by rw [aU]; omega),BZ (by simp; omega)]
theorem Sm {l:LI} {i:Nat} {w:IV} (h:l[i]?=some w) (hl:(DM w.toInt).lf=true):NM l (i+1)=NM l i:=by
 unfold NM;congr 1
 funext j
 rw [Dw h];unfold LH;rw [hl];rfl
theorem Sl {l:LI} {i:Nat} {w:IV} (h:l[i]?=some w) (hl:(DM w.toInt).lf=false) (hn:l.length≤31) {a b:Nat} (ha:(DM w.toInt).l=(a:Int)) (hb:(DM w.toInt).r=(b:Int)) (hab:a≠b) (al:a < l.length) (bl:b < l.length) :
  ((NM l i).set a (IV.int (AA AB (((NM l i).getD a default).toInt+1)))).set b (IV.int (AA AB ((((NM l i).set a (IV.int (AA AB (((NM l i).getD a default).toInt+1)))).getD b default).toInt+1)))=NM l (i+1):=by
 have hil:i < l.length:=(BS.1 h).1;have hsm:∀ j,IW (l.take i) j≤62:=fun j=>by
  have:=Du (l.take i) j
  rw [BC] at this;omega
 have ga:((NM l i).getD a default).toInt=(IW (l.take i) a:Nat):=by
  rw [BW,YQ l i al];rfl
 have gb:(((NM l i).set a (IV.int (AA AB (((NM l i).getD a default).toInt+1)))).getD b default).toInt=(IW (l.take i) b:Nat):=by
  rw [BW,va8 hab,YQ l i bl];rfl
 rw [gb,ga,EO (by omega) (by have:=hsm a; omega),EO (by omega) (by have:=hsm b; omega)];apply List.ext_getElem?;intro j;by_cases hj:j < l.length
 ·rw [YQ l (i+1) hj,Dw h];have e:LH (DM w.toInt) j=(if a=j then 1 else 0)+(if b=j then 1 else 0):=by
   unfold LH;rw [hl,ha,hb,A9];have e1:((a:Int)=(j:Int))↔a=j:=by omega
   have e2:((b:Int)=(j:Int))↔b=j:=by omega
   simp only [e1,e2]
  rw [e];by_cases h1:b=j
  ·subst h1;rw [List.getElem?_set_self (by rw [vaF,aU]; exact bl),BB hab,BP rfl];congr 2
  ·rw [va8 h1];by_cases h2:a=j
   ·subst h2;rw [List.getElem?_set_self (by rw [aU]; exact al),BP rfl,BB h1];congr 2
   ·rw [va8 h2,YQ l i hj,BB h1,BB h2];congr 2
 ·rw [BZ (by rw [vaF,vaF,aU]; omega),BZ (by rw [aU]; omega)]
abbrev mA (l:LI) (dim:Int) (b:Bool) (i:Int) (nm:LI):St:=
 ⟨[(0,(.list false [(.int .u64)] l)),(1,(.int .i64 dim)),(4,(.bool b)),(5,(.row 22 0 l.length)),(23,(.list false [(.int .u64)] l)),(24,(.int .i64 (ic l.length))),(25,(.int .i64 i))],[(22,(some (.row true 3 false [.z] nm)))]⟩
theorem tU (N:Nat) (l:LI) (dim:Int) (hl:l.length≤31) (K:Out→St→DP) (hK:∀ i nm,K .ret (mA l dim false i nm)=some (.bool false,[])):∀ (d i n:Nat),i+d=l.length→d < n →
  D0 (H4 N) (DL L6 [1,1,1,0,1,0,0]) ⟨[0,1,4,5,23,24,25],[22],[]⟩ n (mA l dim false (i:Int) (NM l i)) K =
   cond (KO dim (ic l.length) i (l.drop i)) (K (.exit 0) (mA l dim false (ic l.length) (NM l l.length))) (some (.bool false,[]))
 | d,i,0,_,h=>absurd h (by omega)
 | 0,i,n+1,hd,_=>by
  have hi:i=l.length:=by omega
  subst hi;rw [EA,Mu];rw [AL (show ¬ ((l.length:Nat):Int) < ic l.length by simp only [ic]; omega),DK,vaB];rfl
 | d+1,i,n+1,hd,hn=>by
  have hil:i < l.length:=by omega
  have hw:l[i]?=some l[i]:=BE hil;rw [EA,Mu,BF hil];have hg:l.getD (AF (i:Int)) default=l[i]:=by
   rw [BD,BW,hw];rfl
  rw [hg];generalize l[i]=w at hw ⊢;have ei:AA AB ((i:Int)+1)=((i+1:Nat):Int):=by
   rw [EO (by omega) (by omega)];omega
  rw [ei,AE (show (i:Int) < ic l.length by simp only [ic]; omega),DJ,AE (show (0:Int)≤(i:Int) by omega),B3,DJ];unfold KO;cases hb:GK w.toInt with
  | false=>
   simp only [A6,DJ,BM,DK];exact hK (i:Int) (NM l i)
  | true=>
   simp only [A2,DK,A8];unfold OA;cases hlf:(DM w.toInt).lf with
   | true=>
    simp only [DJ,A8];rw [← Sm hw hlf];exact tU N l dim hl K hK d (i+1) n (by omega) (by omega)
   | false=>
    simp only [DK];cases h1:decide ((DM w.toInt).f≥dim) with
    | true=>
     simp only [DJ,A2,BM,DK];exact hK (i:Int) (NM l i)
    | false=>
    cases h2:((DM w.toInt).l==(DM w.toInt).r) with
    | true=>
     simp only [DJ,DK,A2,A6,BM,vad];exact hK (i:Int) (NM l i)
    | false=>
    cases h3:decide (min (DM w.toInt).l (DM w.toInt).r≤(i:Int)) with
    | true=>
     simp only [DJ,DK,A2,A6,BM,vad];exact hK (i:Int) (NM l i)
    | false=>
    cases h4:decide (max (DM w.toInt).l (DM w.toInt).r≥ic l.length) with
    | true=>
     simp only [DJ,DK,A2,A6,BM,vad];exact hK (i:Int) (NM l i)
    | false=>
     have g2:(DM w.toInt).l≠(DM w.toInt).r:=A3.1 h2;have g3:=BG h3;have g4:=BG h4;simp only [ic] at g4;obtain ⟨a,ha⟩:∃ a:Nat,(DM w.toInt).l=(a:Int):=⟨(DM w.toInt).l.toNat,by omega⟩;obtain ⟨b,hb'⟩:∃ b:Nat,(DM w.toInt).r=(b:Int):=⟨(DM w.toInt).r.toNat,by omega⟩;have hab:a≠b:=fun e=>g2 (by rw [ha,hb',e])
     have al:a < l.length:=by omega
     have bl:b < l.length:=by omega
     have hN:=Sl hw hlf hl ha hb' hab al bl;rw [ha,hb'];rw [AE (show (0:Int)≤(a:Int) by omega),AE (show (0:Int)≤(b:Int) by omega),AE (show (a:Int) < ic (l.length - 0) by simp only [ic]; omega),AE (show (b:Int) < ic (l.length - 0) by simp only [ic]; omega)];simp only [DJ,DK,A6,B3,A8,BD,BL];refine Eq.trans ?_ (tU N l dim hl K hK d (i+1) n (by omega) (by omega));rw [← hN];rfl
abbrev zjw (l:LI) (b:Bool) (j:Int):St:=
 ⟨[(4,(.bool b)),(85,(.row 22 1 (0+(l.length - 0)))),(86,(.int .i64 (ic (0+(l.length - 0) - 1)))),(87,(.int .i64 j))],[(22,(some (.row true 3 false [.z] (NM l l.length))))]⟩
theorem Fb (N:Nat) (l:LI) (hl:l.length≤31):∀ (d j n:Nat),j+d=l.length - 1→d < n →
  D0 (H4 N) (DL L6 [1,1,1,1,0,1,0,0]) ⟨[4,85,86,87],[22],[]⟩ n (zjw l false (j:Int)) (DS 2 (DT (H4 N) (DL L6 [1,1,1,1,1]) (DV (H4 N) none [(CF 4)] [[.bool]]))) =
   some (.bool ((List.range' j d).all fun j=>IW l (j+1)==1),[])
 | d,j,0,_,h=>absurd h (by omega)
 | 0,j,n+1,hd,_=>by
  rw [EA,Mv,AL (show ¬ (j:Int) < ic (0+(l.length - 0) - 1) by simp only [ic]; omega),DK];exact Yv N false _ _ _ _
 | d+1,j,n+1,hd,hn=>by
  have ej:AA AB ((j:Int)+1)=((j+1:Nat):Int):=by
   rw [EO (by omega) (by omega)];omega
  rw [EA,Mv,ej,AE (show (j:Int) < ic (0+(l.length - 0) - 1) by simp only [ic]; omega),DJ,AE (show (0:Int)≤(j:Int) by omega),B3,DJ];have hg:((NM l l.length).getD (1+AF (j:Int)) default).toInt=(IW l (j+1):Nat):=by
   rw [BD,Nat.add_comm 1 j,BW,YQ l l.length (by omega),BR];rfl
  rw [hg,List.range'_succ,vay];have e:(((IW l (j+1):Nat):Int) != 1)=!(IW l (j+1)==1):=by
   show (!(((IW l (j+1):Nat):Int)==1))=_;congr 1;rw [vaZ,B8,B8];omega
  rw [e];cases (IW l (j+1)==1) with
  | false=>
   rw [A6,DJ];exact Yw N false _ _ _ _
  | true=>
   rw [A2,DK,A8];exact Fb N l hl d (j+1) n (by omega) (by omega)
theorem ziV (N:Nat) (l:LI) (dim:Int) (hl:l.length≤31) (h1:1≤l.length) (hN:40≤N) (i:Int) :
  (DS 0 (DT (H4 N) (DL L6 [1,1,1,1]) (DV (H4 N) none [(CF 4)] [[.bool]]))) (.exit 0) (mA l dim false i (NM l l.length))=some (.bool (ZU l),[]):=by
 refine (Yt N l dim false l.length l (ic l.length) i (NM l l.length)).trans ?_;rw [AE (show (0:Nat)≤1 by omega),AE (show (1:Int)≤ic (l.length - 0) by simp only [ic]; omega),B3,DJ]
 have:=Fb N l hl (l.length - 1) 0 N (by omega) (by omega)
 refine this.trans ?_;unfold ZU;rw [List.range_eq_range']
theorem Ko:DY PR B0 96 WR:=by
 refine D7 [(55,MQ)] [(5,⟨[0,1,4,5,23,24,25],[22],[]⟩),(17,⟨[4,85,86,87],[22],[]⟩)] WR [[.bool]] Tryz.func96 zbP ⟨aA,trivial⟩ ?_;intro vs r hwf h;unfold WR at h;split at h
 ·rename_i l dim;refine ⟨40,?_⟩;rw [R.get_ok] at h;rw [← h];refine (zeC 40 l dim).trans ?_;unfold G4;by_cases h1:1≤l.length
  ·by_cases h2:l.length≤31
   ·have eb:ic (TI.bytes (Env.tyd (H4 40) 3))=8:=rfl;rw [AL (show ¬ ic l.length < 1 by simp only [ic]; omega),AL (show ¬ ic l.length > 31 by simp only [ic]; omega),DK,DK,eb,
     AE (show (0:Int)≤ic l.length by simp only [ic]; omega),AE (show ic l.length=ic l.length from rfl),AE (show ic l.length*8≤ic EG by unfold EG; simp only [ic]; omega)]
    have e0:(BU 0 (TI.size (Env.tyd (H4 40) 3))&&(BU 3 1000000&&true)&&(true&&true))=true:=rfl;have e1:AF (ic l.length)=l.length:=by simp only [ic]; omega
    rw [e0,DJ,e1,← Sn,C6 h1,C6 h2];refine (tU 40 l dim h2 _ (fun i nm=>?_) l.length 0 40 (by omega) (by omega)).trans ?_
    ·exact Yu 40 l dim false l.length l (ic l.length) i nm
    ·rw [B5,ziV 40 l dim h2 h1 (by omega)];cases KO dim (ic l.length) 0 l <;> rfl
   ·have e:B6 l.length 31=false:=by
     cases hb:B6 l.length 31 with
     | false=>rfl
     | true=>exact absurd (AO hb) h2
    rw [AL (show ¬ ic l.length < 1 by simp only [ic]; omega),AE (show ic l.length > 31 by simp only [ic]; omega),DK,DJ,e,vad,BM]
  ·have e:B6 1 l.length=false:=by
    cases hb:B6 1 l.length with
    | false=>rfl
    | true=>exact absurd (AO hb) h1
   rw [AE (show ic l.length < 1 by simp only [ic]; omega),DJ,e,BM,BM]
 ·simp [R.get] at h
theorem Jw:DY PR B0 95 WE:=by
 refine D7 [(96,WR)] [] WE [[.bool]] Tryz.func95 zbb ⟨Ko,trivial⟩ ?_;intro vs r hwf h;unfold WE at h;split at h
 ·rename_i k l d c b0 b1 b2 ts;refine ⟨0,?_⟩;rw [R.get_ok] at h;rw [← h];refine (zdV 0 k l d c b0 b1 b2 ts).trans ?_;have e:HM d c (.agg [.int k,.list l])=(!(decide (k < 0))&&(!(decide (k≥c))&&G4 l d)):=rfl;rw [e];cases decide (k < 0) with
  | true=>rfl
  | false=>
   cases decide (k≥c) with
   | true=>rfl
   | false=>rfl
 ·simp [R.get] at h
abbrev zjr (l:LI) (d c b0 b1 b2:Int) (ts:LI) (r i:Int):St:=
 ⟨[(0,(.list true [.z,(.list false [(.int .u64)])] l)),(1,(.clo 95 [(.ptr 900000 0 0)])),(4,(.int .i64 r)),(7,(.int .i64 (ic l.length))),(8,(.int .i64 i))],[(900000,(some (.box [(.int .i64 d),(.int .i64 c),(.int .i64 b0),(.int .i64 b1),(.int .i64 b2),(.list true [.z,(.list false [(.int .u64)])] ts)])))]⟩
theorem ziS (d c:Int) (t:IV):HM d c (.agg [.int (IV.toInt (IV.cell t 0)),.list (IV.toList (IV.cell t 1))])=HM d c t:=rfl
theorem Bl (N:Nat) (l:LI) (hl:l.length≤strMax) (d c b0 b1 b2:Int) (ts:LI):∀ (m i n:Nat),i+m=l.length→m < n →
  D0 (OS N) (DL SO [1,0,1,0,0]) ⟨[0,1,4,7,8],[900000],[]⟩ n (zjr l d c b0 b1 b2 ts 0 (i:Int)) (DS 0 (DT (OS N) (DL SO [1,1]) (DV (OS N) (some [(.int .i64 d),(.int .i64 c),(.int .i64 b0),(.int .i64 b1),(.int .i64 b2),(.list true [.z,(.list false [(.int .u64)])] ts)]) [(CF 4)] [[.z]]))) =
   some (.int .i64 (W9 d c (l.drop i) (i:Int)),[[(.int .i64 d),(.int .i64 c),(.int .i64 b0),(.int .i64 b1),(.int .i64 b2),(.list true MX ts)]])
 | m,i,0,_,h=>absurd h (by omega)
 | 0,i,n+1,hd,_=>by
  have hi:i=l.length:=by omega
  subst hi;rw [EA,Mp,AL (show ¬ ((l.length:Nat):Int) < ic l.length by simp only [ic]; omega),DK,vaB];exact Yj N d c b0 b1 b2 ts l 0 (ic l.length) (l.length:Int) d c b0 b1 b2 ts
 | m+1,i,n+1,hd,hn=>by
  have hil:i < l.length:=by omega
  have m':strMax=140737488355327:=rfl;have ei:AA AB ((i:Int)+1)=((i+1:Nat):Int):=by
   rw [EO (by omega) (by omega)];omega
  have hg:l.getD (AF (i:Int)) default=l[i]:=by
   rw [BD,BW,BE hil];rfl
  rw [EA,Mp,ei,hg,ziS,AE (show (i:Int) < ic l.length by simp only [ic]; omega),DJ,AE (show (0:Int)≤(i:Int) by omega),B3,DJ,BF hil,W9];cases HM d c l[i] with
  | true=>
   rw [A2,DK,DJ];exact Bl N l hl d c b0 b1 b2 ts m (i+1) n (by omega) (by omega)
  | false=>
   rw [A6,DJ,DK];exact Yk N d c b0 b1 b2 ts l (i:Int) (ic l.length) (i:Int) d c b0 b1 b2 ts
theorem zhZ:DY PR B0 147 dG:=by
 refine D7 [(95,WE)] [(2,⟨[0,1,4,7,8],[900000],[]⟩)] dG [[.z]] Tryz.func147 zbz ⟨Jw,trivial⟩ ?_;intro vs r hwf h;unfold dG at h;split at h
 ·rename_i l d c b0 b1 b2 ts;refine ⟨l.length+1,?_⟩;rw [R.get_ok] at h;rw [← h];refine (zem (l.length+1) l d c b0 b1 b2 ts).trans ?_;have hl:l.length≤strMax:=by
   have hb:=hwf (by simp [MG])
   have:=hb.1
   simp only [RW,wfL] at this;exact this.1
  exact Bl (l.length+1) l hl d c b0 b1 b2 ts l.length 0 (l.length+1) (by omega) (by omega)
 ·simp [R.get] at h
theorem Bi (d c:Int):∀ (l:LI) (i:Nat),decide (W9 d c l (i:Int)≥0)=!(l.all (HM d c))
 | [],i=>rfl
 | t :: l,i=>by
  unfold W9;rw [vay];cases HM d c t with
  | true=>
   rw [DJ,A8];exact Bi d c l (i+1)
  | false=>
   rw [DK,BM,AE (show (i:Int)≥0 by omega)];rfl
theorem zhY:DY PR B0 94 dF:=by
 refine D7 [(147,dG)] [] dF [[.bool]] Tryz.func94 zby ⟨zhZ,trivial⟩ ?_;intro vs r hwf h;unfold dF at h;split at h
 ·rename_i l d c b0 b1 b2 ts;refine ⟨0,?_⟩;rw [R.get_ok] at h;rw [← h];refine (zel 0 l d c b0 b1 b2 ts).trans ?_
  have:=Bi d c l 0
  rw [show ((0:Nat):Int)=0 from rfl] at this;rw [this]
 ·simp [R.get] at h
abbrev aK (d c b0 b1 b2:Int) (ts:LI) (b:Bool) (i:Int):St:=
 ⟨[(1,(.ptr 1 0 0)),(2,(.bool b)),(30,(.agg [(.int .i64 b0),(.int .i64 b1),(.int .i64 b2)])),(31,(.int .i64 i))],[(1,(some (.box [(.int .i64 d),(.int .i64 c),(.int .i64 b0),(.int .i64 b1),(.int .i64 b2),(.list true [.z,(.list false [(.int .u64)])] ts)]))),(53005,none)]⟩
theorem Tp (c j b:Int) {α:Type _} (x y:α):cond (!E5 b) y (cond (decide (j≥c)) (cond (b != 0) y x) x)=cond (HU c j b) x y:=by
 unfold HU;have e:(b != 0)=!(b==0):=rfl;rw [e];cases E5 b <;> cases decide (j≥c) <;> cases (b==0) <;> rfl
theorem mV (N:Nat) (d c b0 b1 b2:Int) (ts:LI) (j:Nat) (b:Int) (h:(j=0∧b=b0)∨(j=1∧b=b1)∨(j=2∧b=b2)) (again:St→DP) (k:Out→St→DP) :
  FG (N3 N) (DL Q3 [1,1,0,1,0,0]) (aK d c b0 b1 b2 ts false (j:Int)) (EW again ⟨[1,2,30,31],[1,53005],[]⟩ k) =
   cond (HU c (j:Int) b) (again (aK d c b0 b1 b2 ts false ((j+1:Nat):Int))) (k .ret (aK d c b0 b1 b2 ts false (j:Int))):=by
 rw [Mi];have ej:AA AB ((j:Int)+1)=((j+1:Nat):Int):=by
  rw [EO (by omega) (by omega)];omega
 rw [ej,← Tp,AE (show (j:Int) < 3 by omega),DJ];rcases h with ⟨rfl,rfl⟩ | ⟨rfl,rfl⟩ | ⟨rfl,rfl⟩ <;> rfl
theorem Z9:DY PR B0 53 MP:=by
 refine D7 [(93,R9),(95,WE),(94,dF)] [(4,⟨[1,2,30,31],[1,53005],[]⟩)] MP [[.bool]] Tryz.func53 zba ⟨sL,Jw,zhY,trivial⟩ ?_;intro vs r hwf h;unfold MP at h;split at h
 ·rename_i d c b0 b1 b2 ts;refine ⟨6,?_⟩;rw [R.get_ok] at h;rw [← h];refine (zdU 6 d c b0 b1 b2 ts).trans ?_;have run:D0 (N3 6) (DL Q3 [1,1,0,1,0,0]) ⟨[1,2,30,31],[1,53005],[]⟩ 6 (aK d c b0 b1 b2 ts false 0) (DS 0 (DT (N3 6) (DL Q3 [1,1,1]) (DV (N3 6) none [(CF 2)] [[.bool]]))) =
    some (.bool ((HU c 0 b0&&(HU c 1 b1&&HU c 2 b2))&&ts.all (HM d c)),[]):=by
   have e0:aK d c b0 b1 b2 ts false 0=aK d c b0 b1 b2 ts false ((0:Nat):Int):=rfl;have R2:=fun j=>Xz 6 false b0 b1 b2 j d c b0 b1 b2 ts
   have R1:=fun j=>Xy 6 false b0 b1 b2 j d c b0 b1 b2 ts
   rw [e0,EA,mV 6 d c b0 b1 b2 ts 0 b0 (by simp),R2];cases h0:HU c ((0:Nat):Int) b0 with
   | false=>rfl
   | true=>
    rw [DJ,EA,mV 6 d c b0 b1 b2 ts 1 b1 (by simp),R2];cases h1:HU c ((1:Nat):Int) b1 with
    | false=>rfl
    | true=>
     rw [DJ,EA,mV 6 d c b0 b1 b2 ts 2 b2 (by simp),R2];cases h2:HU c ((2:Nat):Int) b2 with
     | false=>rfl
     | true=>
      rw [DJ,EA,Mi,AL (show ¬ ((2+1:Nat):Int) < 3 by omega),DK,R1,Bool.not_not];rfl
  unfold E0;cases decide (d < 1) with
  | true=>rfl
  | false=>
  cases decide (d > 4) with
  | true=>rfl
  | false=>
  cases decide (c < 1) with
  | true=>rfl
  | false=>
  cases decide (c > 3) with
  | true=>rfl
  | false=>
   simp only [DK,A6,A8];by_cases h8:ts.length≤8
   ·rw [AL (show ¬ ic ts.length > 8 by simp only [ic]; omega),DK,C6 h8,A8];exact run
   ·have e:B6 ts.length 8=false:=by
     cases hb:B6 ts.length 8 with
     | false=>rfl
     | true=>exact absurd (AO hb) h8
    rw [AE (show ic ts.length > 8 by simp only [ic]; omega),DJ,e,BM]
 ·simp [R.get] at h
open Go Go.Proofs
def Qt (N:Nat):Env:=D6 [(44,SE),(144,cD),(84,WB),(104,T4),(57,YS),(86,YU)] [] 76 N
theorem zdF (N:Nat) (s:BA):D1 (Qt N) xF [.tmp 2,.tmp 3] [[.z],[.bool]] [.str s] =
 (cond (decide (AD (GI s { data:=#[45] }) < 4294967281))
 (cond (decide (ic (AD (FW (GI s { data:=#[45] }) { data:=#[46] })) > 8))
 (some ((.tup [.i 0,.bool false]),[]))
 (cond (decide (0≤AA AB (8 - ic (AD (FW (GI s { data:=#[45] }) { data:=#[46] }))))&&decide (AD { data:=#[48] }*AF (AA AB (8 - ic (AD (FW (GI s { data:=#[45] }) { data:=#[46] }))))≤strMax))
 (cond (decide (AD (FW (GI s { data:=#[45] }) { data:=#[46] })+AD (H1 { data:=#[48] } (AF (AA AB (8 - ic (AD (FW (GI s { data:=#[45] }) { data:=#[46] }))))))≤strMax))
 (cond (!JD (cutL (GI s { data:=#[45] }) { data:=#[46] }))
 (some ((.tup [.i 0,.bool false]),[]))
 (cond (!JD (FW (GI s { data:=#[45] }) { data:=#[46] }++H1 { data:=#[48] } (AF (AA AB (8 - ic (AD (FW (GI s { data:=#[45] }) { data:=#[46] })))))))
 (some ((.tup [.i 0,.bool false]),[]))
 (cond (decide (GY (cutL (GI s { data:=#[45] }) { data:=#[46] }) > 36028797018963968))
 (some ((.tup [.i 0,.bool false]),[]))
 (cond (Int.tmod (GY (FW (GI s { data:=#[45] }) { data:=#[46] }++H1 { data:=#[48] } (AF (AA AB (8 - ic (AD (FW (GI s { data:=#[45] }) { data:=#[46] }))))))) 390625 != 0)
 (some ((.tup [.i 0,.bool false]),[]))
 (cond (OB s { data:=#[45] })
 (cond (AZ (DU (AA AB (AA AJ (0 - AA AJ (AA AJ (GY (cutL (GI s { data:=#[45] }) { data:=#[46] })*2 ^ min (AF 8) (AR AJ))+AA AJ (Int.tdiv (GY (FW (GI s { data:=#[45] }) { data:=#[46] }++H1 { data:=#[48] } (AF (AA AB (8 - ic (AD (FW (GI s { data:=#[45] }) { data:=#[46] }))))))) 390625))))))==AZ s)
 (some ((.tup [(.i (AA AB (AA AJ (0 - AA AJ (AA AJ (GY (cutL (GI s { data:=#[45] }) { data:=#[46] })*2 ^ min (AF 8) (AR AJ))+AA AJ (Int.tdiv (GY (FW (GI s { data:=#[45] }) { data:=#[46] }++H1 { data:=#[48] } (AF (AA AB (8 - ic (AD (FW (GI s { data:=#[45] }) { data:=#[46] }))))))) 390625)))))),.bool true]),[]))
 (some ((.tup [.i 0,.bool false]),[])))
 (cond (AZ (DU (AA AB (AA AJ (AA AJ (GY (cutL (GI s { data:=#[45] }) { data:=#[46] })*2 ^ min (AF 8) (AR AJ))+AA AJ (Int.tdiv (GY (FW (GI s { data:=#[45] }) { data:=#[46] }++H1 { data:=#[48] } (AF (AA AB (8 - ic (AD (FW (GI s { data:=#[45] }) { data:=#[46] }))))))) 390625)))))==AZ s)
 (some ((.tup [(.i (AA AB (AA AJ (AA AJ (GY (cutL (GI s { data:=#[45] }) { data:=#[46] })*2 ^ min (AF 8) (AR AJ))+AA AJ (Int.tdiv (GY (FW (GI s { data:=#[45] }) { data:=#[46] }++H1 { data:=#[48] } (AF (AA AB (8 - ic (AD (FW (GI s { data:=#[45] }) { data:=#[46] }))))))) 390625))))),.bool true]),[]))
 (some ((.tup [.i 0,.bool false]),[]))))))))
 none)
 none))
 none):=by kernel_rfl
open Go Go.Proofs
theorem Jq:DY PR B0 84 WB:=by
 refine D7 [] [(3,⟨[0,1,2],[],[]⟩)] WB [[.int .u64]] Tryz.func84 zaX trivial ?_;intro vs r hwf h;unfold WB at h;split at h
 ·refine ⟨9,?_⟩;rw [← h];show D1 (Qv 9) xH [.tmp 0] [[.int .u64]] []=_
  kernel_rfl
 ·simp [R.get] at h
theorem zfP {s:BA} (h:JD s=true):0 < s.size:=by
 unfold JD at h;split at h
 ·rename_i v hv
  have:s.data.toList≠[]:=fun e=>by rw [e] at hv; cases hv
  rw [S9];exact List.length_pos_iff.2 this
 ·cases h
theorem zfO {s:BA} (h:JD s=true):(AI s.data.toList 0 0).toNat≠43:=by
 unfold JD at h;split at h
 ·rename_i v hv;revert hv;cases s.data.toList with
  | nil=>intro _; decide
  | cons c r=>
   intro hv he;have he:c.toNat=43:=he;unfold Lib.parseMag at hv;rw [BB (by simp),vaO,BB (by omega)] at hv;cases hv
 ·cases h
theorem zht:DY PR B0 144 cD:=by
 refine D7 [(189,hZ)] [] cD [[.int .u64],[.bool]] Tryz.func144 zaW ⟨zh4,trivial⟩ ?_;intro vs r hwf h;unfold cD at h;split at h
 ·rename_i s;refine ⟨0,?_⟩;rw [← h];refine (zdG 0 s).trans ?_;simp only [R.get_ok];cases hp:JD s with
  | false=>simp only [DK]
  | true=>
   have h1:(decide (0≤0)&&decide (0 < ic (AD s)))=true:=by
    have:=zfP hp
    simp [ic]; omega
   have h2:(ic (UInt8.toNat (AI (Array.toList (ByteArray.data s)) (AF 0) 0)) != 43)=true:=by
    have:=zfO hp
    rw [vV];simp only [ic,Int.toNat_zero];simp only [B1,BO];omega
   rw [h1,h2];simp only [DJ]
 ·simp [R.get] at h
theorem uN {n:Int} (h0:0≤n) (h1:n < 18446744073709551616):AA .u64 n=n:=by rw [vbg]; omega
theorem zjo {n:Int} (h0:n < 0) (h1 : -9223372036854775808≤n):AA .u64 (0 - AA .u64 n)=(n.natAbs:Int):=by rw [vbg,vbg]; omega
theorem zjp {n:Int} (h0:¬ n < 0) (h1:n≤9223372036854775807):AA .u64 n=(n.natAbs:Int):=by rw [vbg]; omega
theorem uY (u:Nat) (h:u < 18446744073709551616):AA .u64 (ic (CH (A5 (AR AJ) (u:Int) &&& A5 (AR AJ) 255)))=((u % 256:Nat):Int):=by
 have e:CH (A5 (AR AJ) (u:Int) &&& A5 (AR AJ) 255)=u % 256:=by
  have h1:(A5 (AR AJ) (u:Int)).toNat=u:=by
   show (A5 64 (u:Int)).toNat=u;rw [BitVec.toNat_ofInt];omega
  have h2:(A5 (AR AJ) 255).toNat=2 ^ 8 - 1:=by rfl
  rw [BitVec.toNat_and,h1,h2,Nat.and_two_pow_sub_one_eq_mod]
 rw [e];exact uN (by simp [ic]; omega) (by simp [ic]; omega)
theorem Jf (u:Nat):vaX (u:Int) (2 ^ min (AF 8) (AR AJ))=((u / 256:Nat):Int):=by
 have e:(2:Int) ^ min (AF 8) (AR AJ)=((256:Nat):Int):=rfl;rw [e,Int.fdiv_eq_ediv_of_nonneg _ (by omega)];rfl
theorem Dt {r:Nat} (h:r < 256):AA .u64 ((r:Int)*390625)=((r*390625:Nat):Int):=by
 rw [uN (by omega) (by omega)];omega
theorem qA (u:Nat):E8 (u:Int)=⟨(BV u).toArray⟩:=rfl
theorem Vz:(vaI 256).all (fun r=>B6 (BV (r*390625)).length 8)=true:=by kernel_rfl
theorem Vy {r:Nat} (h:r < 256):(BV (r*390625)).length≤8:=by
 have:=CU.1 Vz r (vbn.2 h)
 exact AO this
theorem zP (l:List UInt8):(⟨l.toArray⟩:BA).data.toList=l:=rfl
theorem d9 (s t:BA):(s++t).data.toList=s.data.toList++t.data.toList:=by simp
theorem zgQ (l:List UInt8):(⟨l.toArray⟩:BA).size=l.length:=by rw [S9]
theorem Gp {u:Nat} (hu:u < 18446744073709551616) (sg:BA) (hsg:sg.size≤1) (K:BA) (hK:K=sg++⟨(IL u).toArray⟩) :
  (cond (decide (AD sg+AD (E8 ((u / 256:Nat):Int))≤strMax))
   (cond (((u % 256:Nat):Int)==0)
    (some ((.str (sg++E8 ((u / 256:Nat):Int))),[]))
    (cond (decide (AD (sg++E8 ((u / 256:Nat):Int))+AD { data:=#[46] }≤strMax))
     (cond (decide (0≤AA AB (8 - ic (AD (E8 ((u % 256*390625:Nat):Int)))))&&decide (AD { data:=#[48] }*AF (AA AB (8 - ic (AD (E8 ((u % 256*390625:Nat):Int)))))≤strMax))
      (cond (decide (AD (H1 { data:=#[48] } (AF (AA AB (8 - ic (AD (E8 ((u % 256*390625:Nat):Int)))))))+AD (E8 ((u % 256*390625:Nat):Int))≤strMax))
       (cond (decide (AD (sg++E8 ((u / 256:Nat):Int)++{ data:=#[46] })+AD (PL (H1 { data:=#[48] } (AF (AA AB (8 - ic (AD (E8 ((u % 256*390625:Nat):Int))))))++E8 ((u % 256*390625:Nat):Int)) { data:=#[48] })≤strMax))
        (some ((.str (sg++E8 ((u / 256:Nat):Int)++{ data:=#[46] }++PL (H1 { data:=#[48] } (AF (AA AB (8 - ic (AD (E8 ((u % 256*390625:Nat):Int))))))++E8 ((u % 256*390625:Nat):Int)) { data:=#[48] })),[]))
        none)
       none)
      none)
     none))
   none)=(some (V.str K,[]):DP):=by
 have hr:u % 256 < 256:=by omega
 have l1:(E8 ((u / 256:Nat):Int)).size≤20:=qB (by omega) (by omega);have l2:(E8 ((u % 256*390625:Nat):Int)).size=(BV (u % 256*390625)).length:=by rw [qA,zgQ]
 have l3:=Vy hr;generalize hD:BV (u % 256*390625)=D at l2 l3;have e8:AA AB (8 - ic (AD (E8 ((u % 256*390625:Nat):Int))))=((8 - D.length:Nat):Int):=by
  rw [l2,EO (by simp [ic]; omega) (by simp [ic]; omega)];simp only [ic];omega
 rw [e8];simp only [BD];have s46:AD { data:=#[46] }=1:=rfl;have s48:AD { data:=#[48] }=1:=rfl;have l4:(H1 { data:=#[48] } (8 - D.length)).size=8 - D.length:=by rw [rM,s48]; omega
 have l5:=Oi (H1 { data:=#[48] } (8 - D.length)++E8 ((u % 256*390625:Nat):Int)) { data:=#[48] };rw [AY,l4,l2] at l5;rw [AE (show AD sg+AD (E8 ((u / 256:Nat):Int))≤strMax by unfold strMax; omega),
  AE (show AD (sg++E8 ((u / 256:Nat):Int))+AD { data:=#[46] }≤strMax by rw [AY,s46]; unfold strMax; omega),
  AE (show (0:Int)≤((8 - D.length:Nat):Int) by omega),
  AE (show AD { data:=#[48] }*(8 - D.length)≤strMax by rw [s48]; unfold strMax; omega),
  AE (show AD (H1 { data:=#[48] } (8 - D.length))+AD (E8 ((u % 256*390625:Nat):Int))≤strMax by rw [l4,l2]; unfold strMax; omega),
  AE (show AD (sg++E8 ((u / 256:Nat):Int)++{ data:=#[46] })+AD (PL (H1 { data:=#[48] } (8 - D.length)++E8 ((u % 256*390625:Nat):Int)) { data:=#[48] })≤strMax by rw [AY,AY,s46]; unfold strMax; omega)]
 simp only [DJ,B9];subst hK;by_cases h0:u % 256=0
 ·have e0:(((u % 256:Nat):Int)==0)=true:=by rw [T9]; exact AE (by omega)
  rw [e0,DJ]
  have:sg++E8 ((u / 256:Nat):Int)=sg++⟨(IL u).toArray⟩:=by
   apply UB;rw [d9,d9,qA,zP,zP,IL,BP h0,C9]
  rw [this]
 ·have e0:(((u % 256:Nat):Int)==0)=false:=by rw [T9]; exact AL (by omega)
  rw [e0,DK]
  have:sg++E8 ((u / 256:Nat):Int)++{ data:=#[46] }++PL (H1 { data:=#[48] } (8 - D.length)++E8 ((u % 256*390625:Nat):Int)) { data:=#[48] }=sg++⟨(IL u).toArray⟩:=by
   apply UB;simp only [d9,qA,IL,BB h0,PL,H1,KJ,hD,va1];rfl
  rw [this]
theorem sR:DY PR B0 44 SE:=by
 refine D7 [(84,WB),(83,hU),(86,YU),(85,iB)] [] SE [[.str]] Tryz.func44 zaU ⟨Jq,zh3,Ki,zh6,trivial⟩ ?_;intro vs r hwf h;unfold SE at h;split at h
 ·rename_i n;refine ⟨0,?_⟩;rw [← h];refine (zdE 0 n).trans ?_;simp only [R.get_ok];have hb:=(hwf (by simp [MG])).1;simp only [RW,wfL] at hb;obtain ⟨h0,h1⟩:=hb;have e0:AB.min = -9223372036854775808:=rfl;have e1:AB.max=9223372036854775807:=rfl;rw [e0] at h0;rw [e1] at h1;have hu:n.natAbs < 18446744073709551616:=by omega
  by_cases hn:n < 0
  ·rw [AE hn,DJ,zjo hn h0,Jf,uY _ hu,Dt (by omega)];exact Gp hu ⟨#[45]⟩ (by decide) _ (by apply UB; rw [d9]; unfold DU K3; rw [BP hn]; rfl)
  ·rw [AL hn,DK,zjp hn h1,Jf,uY _ hu,Dt (by omega)];exact Gp hu ⟨#[]⟩ (by decide) _ (by apply UB; rw [d9]; unfold DU K3; rw [BB hn]; rfl)
 ·simp [R.get] at h
open Go Go.Proofs
theorem Jp:DY PR B0 91 WA:=by
 refine D7 [(44,SE),(144,cD),(84,WB),(104,T4),(57,YS),(86,YU)] [] WA [[.z],[.bool]] Tryz.func91 zaV
  ⟨sR,zht,Jq,sV,Kg,Ki,trivial⟩ ?_
 intro vs r hwf h;unfold WA at h;split at h
 ·rename_i s;refine ⟨0,?_⟩;cases hs:decide (s.size < 4294967281) with
  | false=>rw [hs] at h; simp [R.get] at h
  | true=>
   rw [hs,R.get_br,DJ,R.get_ok] at h;have hs:=A1 hs;rw [← h];refine (zdF 0 s).trans ?_;have hz:=Oh s { data:=#[45] };rw [AE (show AD (GI s { data:=#[45] }) < 4294967281 by omega),DJ];have eW:cutL (GI s { data:=#[45] }) { data:=#[46] }=PW s:=rfl;have eP:FW (GI s { data:=#[45] }) { data:=#[46] }=JM s:=rfl;have eM:OB s { data:=#[45] }=OB s YC:=rfl;rw [eW,eP,eM];unfold GE;by_cases h8:(JM s).size≤8
   ·have c1:decide (ic (AD (JM s)) > 8)=false:=AL (by simp only [ic]; omega);have e8:AA AB (8 - ic (AD (JM s)))=((8 - (JM s).size:Nat):Int):=by
     rw [EO (by simp only [ic]; omega) (by simp only [ic]; omega)];simp only [ic];omega
    rw [c1,DK,e8];simp only [BD];have s48:AD { data:=#[48] }=1:=rfl;have eF:JM s++H1 { data:=#[48] } (8 - (JM s).size)=NJ s:=rfl;have l4:(H1 { data:=#[48] } (8 - (JM s).size)).size=8 - (JM s).size:=by rw [rM,s48]; omega
    rw [AE (show (0:Int)≤((8 - (JM s).size:Nat):Int) by omega),AE (show AD { data:=#[48] }*(8 - (JM s).size)≤strMax by rw [s48]; unfold strMax; omega),B9,DJ,
     AE (show AD (JM s)+AD (H1 { data:=#[48] } (8 - (JM s).size))≤strMax by rw [l4]; unfold strMax; omega),DJ,eF]
    have hw:=rH (PW s);have hf:=rH (NJ s);have b0:AJ.min=0:=rfl;have b1:AJ.max=18446744073709551615:=rfl;rw [b0,b1] at hw hf;have em:Int.tmod (GY (NJ s)) 390625=GY (NJ s) % 390625:=Int.tmod_eq_emod_of_nonneg hf.1;have ed:AA AJ (Int.tdiv (GY (NJ s)) 390625)=GY (NJ s) / 390625:=by
     rw [Int.tdiv_eq_ediv_of_nonneg hf.1,uN (by omega) (by omega)]
    have e2:(2:Int) ^ min (AF 8) (AR AJ)=256:=rfl;rw [em,ed,e2];have eS:AA AJ (AA AJ (GY (PW s)*256)+GY (NJ s) / 390625)=PV s:=rfl;rw [eS];unfold W4;rw [AE h8,nR,nS,vV];cases hp1:JD (PW s) with
    | false=>simp only [A6,DJ,DK,BM,vad]
    | true=>
     cases hp2:JD (NJ s) with
     | false=>simp only [A6,A2,DJ,DK,BM,vad]
     | true=>
      simp only [A2,DK,A8];cases hc:decide (36028797018963968 < GY (PW s)) with
      | true=>simp only [A2,DJ,DK,BM]
      | false=>
       cases hd:decide (GY (NJ s) % 390625=0) with
       | false=>simp only [A6,DJ,DK,BM,A8]
       | true=>
        simp only [A6,A2,DK,A8];unfold eB;cases hm:OB s YC with
        | false=>
         simp only [DK];rw [show AA AB (PV s)=FR (PV s) from rfl,dV];cases decide (DU (FR (PV s))=s) <;> simp only [DJ,DK]
        | true=>
         simp only [DJ];rw [show AA AB (AA AJ (0 - PV s))=FR (JU (0 - PV s)) from rfl,dV];cases decide (DU (FR (JU (0 - PV s)))=s) <;> simp only [DJ,DK]
   ·have c1:decide (ic (AD (JM s)) > 8)=true:=AE (by simp only [ic]; omega);rw [c1,DJ];unfold W4;rw [AL h8,BM,DK]
 ·simp [R.get] at h
open Go Go.Proofs
def IJ (N:Nat):Env:=D6 [(44,SE),(53,MP),(55,MQ),(43,OT),(56,T2),(54,dJ)] [(7,⟨[1,2,3,4,28,29,30],[1,3,500],[⟨.tmp 4,500,9,false,[.str]⟩]⟩),(13,⟨[2,3,43,44,45],[3],[]⟩),(17,⟨[2,3,43,44,45,59,60,61],[3],[]⟩)] 94 N
abbrev V0 (s2:BA) (n4 n28:Nat) (x29 x30 u02 u03 u04 u05 u06:Int) (u00:LI) (so3:BA) (u01:LI):St:=⟨[(1,(.ptr 1 0 0)),(2,(.str s2)),(3,(.ptr 3 0 0)),(4,(.row 500 0 n4)),(28,(.bview 1 2 3 1 n28)),(29,(.i x29)),(30,(.i x30))],[(1,(some (.box [.i u02,.i u03,.i u04,.i u05,.i u06,.list true [.z,.list false [.int .u64]] u00]))),(3,(some (.bld so3))),(500,(some (.row true 9 false [.str] u01)))]⟩
abbrev aS (s2:BA) (l43:LI) (x44 x45:Int) (so3:BA):St:=⟨[(2,(.str s2)),(3,(.ptr 3 0 0)),(43,(.list true [.z,.list false [.int .u64]] l43)),(44,(.i x44)),(45,(.i x45))],[(3,(some (.bld so3)))]⟩
abbrev YN (s2:BA) (l43:LI) (x44 x45:Int) (l59:LI) (x60 x61:Int) (so3:BA):St:=⟨[(2,(.str s2)),(3,(.ptr 3 0 0)),(43,(.list true [.z,.list false [.int .u64]] l43)),(44,(.i x44)),(45,(.i x45)),(59,(.list false [.int .u64] l59)),(60,(.i x60)),(61,(.i x61))],[(3,(some (.bld so3)))]⟩
theorem zev (N:Nat) (u04 u03 u00 u01 u02:Int) (u05:LI):D1 (IJ N) KZ [.tmp 2] [[.str]] [.agg [.i u04,.i u03,.i u00,.i u01,.i u02,.list true [.z,.list false [.int .u64]] u05]]=(cond (!E0 {d:=u04,c:=u03,b0:=u00,b1:=u01,b2:=u02,ts:=u05}) (some ((.str ({data:=#[]})),[])) (cond (B6 (AG (AT 0 (AK 3 [IV.str {data:=#[102,111,114,101,115,116]},IV.str (DQ u04),IV.str (DQ u03)]))) 1000&&decide (AD CJ+AD (FU (A4 IV.toStr (AT 0 (AK 3 [IV.str {data:=#[102,111,114,101,115,116]},IV.str (DQ u04),IV.str (DQ u03)]))))≤1000000000)) (cond (decide (0≤u03)&&decide (u03≤ic 3)) (D0 (IJ N) (DL KZ [1,1,1,1,1,0,1,0,0]) ⟨[1,2,3,4,28,29,30],[1,3,500],[⟨(.tmp 4),500,9,false,[.str]⟩]⟩ N (V0 ({data:=#[]}) 1 (AF u03) (ic (AF u03)) 0 u04 u03 u00 u01 u02 u05 (CJ++FU (A4 IV.toStr (AT 0 (AK 3 [IV.str {data:=#[102,111,114,101,115,116]},IV.str (DQ u04),IV.str (DQ u03)])))) [(IV.str {data:=#[98,105,97,115]})]) (DS 0 (DT (IJ N) (DL KZ [1,1,1,1,1,1]) (DV (IJ N) none [.tmp 2] [[.str]])))) none) none)):=by kernel_rfl
theorem lJ (N:Nat) (s2:BA) (n4 n28:Nat) (x29 x30 u02 u03 u04 u05 u06:Int) (u00:LI) (so3:BA) (u01:LI) (again:St→DP) (k:Out→St→DP):FG (IJ N) (DL KZ [1,1,1,1,1,0,1,0,0]) (V0 s2 n4 n28 x29 x30 u02 u03 u04 u05 u06 u00 so3 u01) (EW again ⟨[1,2,3,4,28,29,30],[1,3,500],[⟨(.tmp 4),500,9,false,[.str]⟩]⟩ k)=(cond (decide (x30 < x29)) (cond (decide (x30 < ic n28)) (cond (decide (x30=ic 0)) (cond (decide ((n4+AG (AT 0 (AK 1 [IV.str (DU u04)])))*TI.bytes (Env.tyd (IJ N) 9)≤EG)) (again (V0 s2 (n4+AG (AT 0 (AK 1 [IV.str (DU u04)]))) n28 x29 (AA AB (x30+1)) u02 u03 u04 u05 u06 u00 so3 (AK n4 u01++AT 0 (AK 1 [IV.str (DU u04)])))) none) (cond (decide (x30=ic 1)) (cond (decide ((n4+AG (AT 0 (AK 1 [IV.str (DU u05)])))*TI.bytes (Env.tyd (IJ N) 9)≤EG)) (again (V0 s2 (n4+AG (AT 0 (AK 1 [IV.str (DU u05)]))) n28 x29 (AA AB (x30+1)) u02 u03 u04 u05 u06 u00 so3 (AK n4 u01++AT 0 (AK 1 [IV.str (DU u05)])))) none) (cond (decide (x30=ic 2)) (cond (decide ((n4+AG (AT 0 (AK 1 [IV.str (DU u06)])))*TI.bytes (Env.tyd (IJ N) 9)≤EG)) (again (V0 s2 (n4+AG (AT 0 (AK 1 [IV.str (DU u06)]))) n28 x29 (AA AB (x30+1)) u02 u03 u04 u05 u06 u00 so3 (AK n4 u01++AT 0 (AK 1 [IV.str (DU u06)])))) none) none))) none) (k (.exit 0) (V0 s2 n4 n28 x29 x30 u02 u03 u04 u05 u06 u00 so3 u01))):=by kernel_rfl
theorem Yq (N:Nat) (s2:BA) (n4 n28:Nat) (x29 x30 u02 u03 u04 u05 u06:Int) (u00:LI) (so3:BA) (u01:LI):(DS 0 (DT (IJ N) (DL KZ [1,1,1,1,1,1]) (DV (IJ N) none [.tmp 2] [[.str]]))) (.exit 0) (V0 s2 n4 n28 x29 x30 u02 u03 u04 u05 u06 u00 so3 u01)=(cond (B6 (AG (AT 0 (AK n4 u01))) 1000&&decide (AD so3+AD (FU (A4 IV.toStr (AT 0 (AK n4 u01))))≤1000000000)) (D0 (IJ N) (DL KZ [1,1,1,1,1,1,1,0,1,0,0]) ⟨[2,3,43,44,45],[3],[]⟩ N (aS s2 u00 (ic (AG u00)) 0 (so3++FU (A4 IV.toStr (AT 0 (AK n4 u01))))) (DS 2 (DT (IJ N) (DL KZ [1,1,1,1,1,1,1,1]) (DV (IJ N) none [.tmp 2] [[.str]])))) none):=by kernel_rfl
theorem Ms (N:Nat) (s2:BA) (l43:LI) (x44 x45:Int) (so3:BA) (again:St→DP) (k:Out→St→DP):FG (IJ N) (DL KZ [1,1,1,1,1,1,1,0,1,0,0]) (aS s2 l43 x44 x45 so3) (EW again ⟨[2,3,43,44,45],[3],[]⟩ k)=(cond (decide (x45 < x44)) (cond (decide (0≤x45)&&decide (x45 < ic (AG l43))) (cond (B6 (AG (AT 0 (AK 3 [IV.str {data:=#[116,114,101,101]},IV.str (DQ (IV.toInt (IV.cell (AI l43 (AF x45) default) 0))),IV.str (DQ (ic (AG (IV.toList (IV.cell (AI l43 (AF x45) default) 1)))))]))) 1000&&decide (AD so3+AD (FU (A4 IV.toStr (AT 0 (AK 3 [IV.str {data:=#[116,114,101,101]},IV.str (DQ (IV.toInt (IV.cell (AI l43 (AF x45) default) 0))),IV.str (DQ (ic (AG (IV.toList (IV.cell (AI l43 (AF x45) default) 1)))))]))))≤1000000000)) (D0 (IJ N) (DL KZ [1,1,1,1,1,1,1,0,1,0,0,1,1,0,0,1,1,1,0,0]) ⟨[2,3,43,44,45,59,60,61],[3],[]⟩ N (YN s2 l43 x44 x45 (IV.toList (IV.cell (AI l43 (AF x45) default) 1)) (ic (AG (IV.toList (IV.cell (AI l43 (AF x45) default) 1)))) 0 (so3++FU (A4 IV.toStr (AT 0 (AK 3 [IV.str {data:=#[116,114,101,101]},IV.str (DQ (IV.toInt (IV.cell (AI l43 (AF x45) default) 0))),IV.str (DQ (ic (AG (IV.toList (IV.cell (AI l43 (AF x45) default) 1)))))]))))) (DS 4 (DS 3 (DT (IJ N) (DL KZ [1,1,1,1,1,1,1,0,1,0,0,1,1,1]) (EW again ⟨[2,3,43,44,45],[3],[]⟩ k))))) none) none) (k (.exit 2) (aS s2 l43 x44 x45 so3))):=by kernel_rfl
theorem Mt (N:Nat) (s2:BA) (l43:LI) (x44 x45:Int) (l59:LI) (x60 x61:Int) (so3:BA) (again:St→DP) (k:Out→St→DP):FG (IJ N) (DL KZ [1,1,1,1,1,1,1,0,1,0,0,1,1,0,0,1,1,1,0,0]) (YN s2 l43 x44 x45 l59 x60 x61 so3) (EW again ⟨[2,3,43,44,45,59,60,61],[3],[]⟩ k)=(cond (decide (x61 < x60)) (cond (decide (0≤x61)&&decide (x61 < ic (AG l59))) (cond (Nd.lf (DM (IV.toInt (AI l59 (AF x61) default)))) (cond (B6 (AG (AT 0 (AK 2 [IV.str {data:=#[108,101,97,102]},IV.str (DU (Nd.v (DM (IV.toInt (AI l59 (AF x61) default)))))]))) 1000&&decide (AD so3+AD (FU (A4 IV.toStr (AT 0 (AK 2 [IV.str {data:=#[108,101,97,102]},IV.str (DU (Nd.v (DM (IV.toInt (AI l59 (AF x61) default)))))]))))≤1000000000)) (again (YN s2 l43 x44 x45 l59 x60 (AA AB (x61+1)) (so3++FU (A4 IV.toStr (AT 0 (AK 2 [IV.str {data:=#[108,101,97,102]},IV.str (DU (Nd.v (DM (IV.toInt (AI l59 (AF x61) default)))))])))))) none) (cond (B6 (AG (AT 0 (AK 8 [IV.str {data:=#[105,102]},IV.str (DQ (Nd.f (DM (IV.toInt (AI l59 (AF x61) default))))),IV.str {data:=#[60,61]},IV.str (DU (Nd.a (DM (IV.toInt (AI l59 (AF x61) default))))),IV.str {data:=#[116,104,101,110]},IV.str (DQ (Nd.l (DM (IV.toInt (AI l59 (AF x61) default))))),IV.str {data:=#[101,108,115,101]},IV.str (DQ (Nd.r (DM (IV.toInt (AI l59 (AF x61) default)))))]))) 1000&&decide (AD so3+AD (FU (A4 IV.toStr (AT 0 (AK 8 [IV.str {data:=#[105,102]},IV.str (DQ (Nd.f (DM (IV.toInt (AI l59 (AF x61) default))))),IV.str {data:=#[60,61]},IV.str (DU (Nd.a (DM (IV.toInt (AI l59 (AF x61) default))))),IV.str {data:=#[116,104,101,110]},IV.str (DQ (Nd.l (DM (IV.toInt (AI l59 (AF x61) default))))),IV.str {data:=#[101,108,115,101]},IV.str (DQ (Nd.r (DM (IV.toInt (AI l59 (AF x61) default)))))]))))≤1000000000)) (again (YN s2 l43 x44 x45 l59 x60 (AA AB (x61+1)) (so3++FU (A4 IV.toStr (AT 0 (AK 8 [IV.str {data:=#[105,102]},IV.str (DQ (Nd.f (DM (IV.toInt (AI l59 (AF x61) default))))),IV.str {data:=#[60,61]},IV.str (DU (Nd.a (DM (IV.toInt (AI l59 (AF x61) default))))),IV.str {data:=#[116,104,101,110]},IV.str (DQ (Nd.l (DM (IV.toInt (AI l59 (AF x61) default))))),IV.str {data:=#[101,108,115,101]},IV.str (DQ (Nd.r (DM (IV.toInt (AI l59 (AF x61) default)))))])))))) none)) none) (k (.exit 4) (YN s2 l43 x44 x45 l59 x60 x61 so3))):=by kernel_rfl
theorem Yr (N:Nat) (s2:BA) (l43:LI) (x44 x45:Int) (so3:BA):(DS 2 (DT (IJ N) (DL KZ [1,1,1,1,1,1,1,1]) (DV (IJ N) none [.tmp 2] [[.str]]))) (.exit 2) (aS s2 l43 x44 x45 so3)=(some ((.str so3),[])):=by kernel_rfl
theorem Ys (N:Nat) (again:St→DP) (k:Out→St→DP) (s2:BA) (l43:LI) (x44 x45:Int) (l59:LI) (x60 x61:Int) (so3:BA):(DS 4 (DS 3 (DT (IJ N) (DL KZ [1,1,1,1,1,1,1,0,1,0,0,1,1,1]) (EW again ⟨[2,3,43,44,45],[3],[]⟩ k)))) (.exit 4) (YN s2 l43 x44 x45 l59 x60 x61 so3)=(again (aS s2 l43 x44 (AA AB (x45+1)) so3)):=by kernel_rfl
def Se (N:Nat):Env:=D6 [(97,YR),(60,T3),(45,YT)] [] 10 N
theorem zex (N:Nat) (b:BA) (u00:LI):D1 (Se N) yN [] [] [.bor [.bld b],.list false [.str] u00]=(cond (decide (AG u00≤strMax)&&decide (AD (GO (A4 IV.toStr u00) {data:=#[32]})≤strMax)) (cond (decide (AD b+AD (GO (A4 IV.toStr u00) {data:=#[32]})≤strMax)) (cond (decide (AD (b++GO (A4 IV.toStr u00) {data:=#[32]})+1≤strMax)) (some ((.tup []),[[(.bld (ByteArray.push (b++GO (A4 IV.toStr u00) {data:=#[32]}) (NE 10)))]])) none) none) none):=by kernel_rfl
def Sf (N:Nat):Env:=D6 [(46,ND)] [] 26 N
theorem zey (N:Nat) (u00:LI):D1 (Sf N) yO [.tmp 2] [[.list false [.str]]] [.bor [.list false [.str] u00]]=(cond (ic (AG u00)==0) (some ((.list false [.str] []),[[.list false [.str] u00]])) (cond (decide (0≤0)&&decide (0 < ic (AG u00))) (cond (decide (0≤1)&&decide (1≤ic (AG u00))) (cond (decide (AD (IV.toStr (AI u00 (AF 0) default)) < 4294967281)&&decide (1≤AD {data:=#[32]})) (some ((.list false [.str] (A4 IV.str (D3 (IV.toStr (AI u00 (AF 0) default)) {data:=#[32]}))),[[.list false [.str] (AT (AF 1) (AK (AG u00) u00))]])) none) none) none)):=by kernel_rfl
def Si (N:Nat):Env:=D6 [] [] 13 N
theorem zeB (N:Nat) (l:LI) (i:Int):D1 (Si N) yR [.tmp 4] [[.str]] [.list false [.str] l,.i i]=(cond (decide (i≥ic (AG l))) (some ((.str ({data:=#[]})),[])) (cond (decide (0≤i)&&decide (i < ic (AG l))) (some ((.str (IV.toStr (AI l (AF i) default))),[])) none)):=by kernel_rfl
def Sd (N:Nat):Env:=D6 [(90,Q1)] [] 24 N
theorem zew (N:Nat) (s:BA) (most:Int):D1 (Sd N) yM [.tmp 4] [[.z]] [.str s,.i most]=(cond (!KX s) (some ((.i 0),[])) (cond (decide (FK s < 0)) (some ((.i 0),[])) (cond (decide (FK s > most)) (some ((.i 0),[])) (some ((.i (FK s)),[]))))):=by kernel_rfl
def Sh (N:Nat):Env:=D6 [(91,WA)] [] 11 N
theorem zeA (N:Nat) (s:BA):D1 (Sh N) yQ [.tmp 2] [[.z]] [.str s]=(cond (decide (AD s < 4294967281)) (some ((.i (GE s)),[])) none):=by kernel_rfl
def Sg (N:Nat):Env:=D6 [(92,WF),(49,WN),(48,WO),(51,WP),(50,WQ)] [] 28 N
theorem zez (N:Nat) (u00:LI):D1 (Sg N) yP [.tmp 2] [[.int .u64]] [.bor [.list false [.str] u00]]=(cond (KR u00) (cond (AZ (DX (E1 u00) (AF 0))==AZ {data:=#[108,101,97,102]}) (cond (decide (AD (DX (E1 u00) (AF 1)) < 4294967281)) (some ((.int .u64 (IY {lf:=true,v:=GE (DX (E1 u00) (AF 1)),f:=0,a:=0,l:=0,r:=0})),[[.list false [.str] (AT 1 u00)]])) none) (cond (decide (AD (DX (E1 u00) (AF 3)) < 4294967281)) (some ((.int .u64 (IY {lf:=false,v:=0,f:=FQ (DX (E1 u00) (AF 1)) 4,a:=GE (DX (E1 u00) (AF 3)),l:=FQ (DX (E1 u00) (AF 5)) 31,r:=FQ (DX (E1 u00) (AF 7)) 31})),[[.list false [.str] (AT 1 u00)]])) none)) none):=by kernel_rfl
def Rc (N:Nat):Env:=D6 [] [] 21 N
theorem zdQ (N:Nat) (s u00:BA):D1 (Rc N) xN [.tmp 4] [[.bool]] [.str s,.str u00]=(cond (decide (ic (AD s)≥ic (AD u00))) (cond (decide (0≤AA AB (ic (AD s) - ic (AD u00)))&&decide (AA AB (ic (AD s) - ic (AD u00))≤ic (AD s))) (some ((.bool (AZ (B2 s (AF (AA AB (ic (AD s) - ic (AD u00)))) (AD s))==AZ u00)),[])) none) (some ((.bool false),[]))):=by kernel_rfl
def Rd (N:Nat):Env:=D6 [(141,cK)] [] 16 N
theorem zdR (N:Nat) (s u00:BA):D1 (Rd N) xO [.tmp 4] [[.str]] [.str s,.str u00]=(cond (O2 s u00) (cond (decide (0≤AA AB (ic (AD s) - ic (AD u00)))&&decide (AA AB (ic (AD s) - ic (AD u00))≤ic (AD s))) (some ((.str (B2 s 0 (AF (AA AB (ic (AD s) - ic (AD u00)))))),[])) none) (some ((.str s),[]))):=by kernel_rfl
def Sc (N:Nat):Env:=D6 [(89,cL)] [] 8 N
theorem zet (N:Nat) (s u00:BA):D1 (Sc N) yL [.tmp 4] [[.str]] [.str s,.str u00]=(some ((.str (F1 s u00)),[])):=by kernel_rfl
open Go Go.Proofs
theorem zb9 (l:List BA) (h:∀ w∈l,w.size≤100):(GO l FI).size≤101*l.length:=by
 have hs:(GO l FI).size=(va4 (l.map (·.data.toList)) [32]).length:=by
  show (Array.size (List.toArray _))=_;rw [C7]
 rw [hs];cases l with
 | nil=>simp [Lib.join_nil]
 | cons x r=>
  rw [A0,Lib.join_length]
  have:∀ (r:List BA),(∀ w∈r,w.size≤100)→Lib.lens (r.map (·.data.toList))≤100*r.length:=fun r=>by
   induction r with
   | nil=>intro _; simp [Lib.lens]
   | cons y r ih=>
    intro h;have h1:=h y (AN ..);rw [S9] at h1;have h2:=ih (fun w hw=>h w (AW _ hw));rw [A0,AM];simp only [Lib.lens,A0,vba] at h2 ⊢;omega
  have:=this (x :: r) h
  rw [A0] at this;simp only [AM,BK,A7] at this ⊢;omega
theorem fD (ws:List BA) (hl:ws.length≤8) (h:∀ w∈ws,w.size≤100):(FU ws).size≤809:=by
 unfold FU
 have:=zb9 ws h
 rw [AY];have e:AD PN=1:=rfl;rw [e];omega
theorem tN:∀ (a b:List (List BA)),GC (a++b)=GC a++GC b
 | [],b=>by
  show GC b=CJ++GC b;rw [ByteArray.empty_append]
 | l :: a,b=>by
  rw [CS,GC,GC,tN a b,vag]
theorem tQ:∀ (L:List (List BA)),(∀ l∈L,l.length≤8∧∀ w∈l,w.size≤100)→(GC L).size≤809*L.length
 | [],_=>by
  have:AD (GC [])=0:=rfl
  omega
 | l :: L,h=>by
  have h1:=fD l (h l (AN ..)).1 (h l (AN ..)).2;have h2:=tQ L fun x hx=>h x (AW _ hx)
  rw [GC,AY,AM];omega
theorem XD {n:Int} (h:EF n):(DQ n).size≤100:=by
 have:=ZL h.1 h.2
 omega
theorem fV {n:Int} (h:EF n):(DU n).size≤100:=by
 have:=(XQ n h).2
 omega
theorem oG {n:Int} (h:E5 n=true) : -2147483648≤n∧n≤2147483647:=by
 unfold E5 at h
 rwa [AH,AQ,AQ] at h
structure Nd.In (x:Nd):Prop where
 v : -2147483648≤x.v∧x.v≤2147483647
 f:0≤x.f∧x.f < 4
 a : -2147483648≤x.a∧x.a≤2147483647
 l:0≤x.l∧x.l < 31
 r:0≤x.r∧x.r < 31
 lf:x.lf=true→x.f=0∧x.a=0∧x.l=0∧x.r=0
 fk:x.lf=false→x.v=0
theorem zgj {x:Nd} (h:M5 x=true):x.In:=by
 obtain ⟨lf,v,f,a,l,r⟩:=x;unfold M5 at h;cases lf with
 | true=>
  simp only [BH,AH,Nd.eq,B8] at h;obtain ⟨⟨_,_,h1,h2,h3,h4,_⟩,hv⟩:=h;subst h1 h2 h3 h4;have z4:(0:Int)≤0∧(0:Int) < 4:=by decide
  have z31:(0:Int)≤0∧(0:Int) < 31:=by decide
  have zf:(-2147483648:Int)≤0∧(0:Int)≤2147483647:=by decide
  exact ⟨oG hv,z4,zf,z31,z31,fun _=>⟨rfl,rfl,rfl,rfl⟩,fun h=>Bool.noConfusion h⟩
 | false=>
  simp only [A9,AH,B8,AQ,Q4] at h;obtain ⟨hv,hf0,hf1,ha,⟨hl0,hl1⟩,hr0,hr1⟩:=h;subst hv;have zf:(-2147483648:Int)≤0∧(0:Int)≤2147483647:=by decide
  have l0:(0:Int)≤l:=by omega
  have r0:(0:Int)≤r:=by omega
  exact ⟨zf,⟨hf0,hf1⟩,oG ha,⟨l0,hl1⟩,⟨r0,hr1⟩,fun h=>Bool.noConfusion h,fun _=>rfl⟩
theorem Ed {x:Nd} (h:x.In):(ME x).length≤8∧∀ w∈ME x,w.size≤100:=by
 have hv:EF x.v:=by have:=h.v; unfold EF; omega
 have hf:EF x.f:=by have:=h.f; unfold EF; omega
 have ha:EF x.a:=by have:=h.a; unfold EF; omega
 have hl:EF x.l:=by have:=h.l; unfold EF; omega
 have hr:EF x.r:=by have:=h.r; unfold EF; omega
 unfold ME;cases x.lf with
 | true=>
  refine ⟨by simp,fun w hw=>?_⟩;simp only [BH,AP,BX,CP] at hw;rcases hw with rfl | rfl
  ·decide
  ·exact fV hv
 | false=>
  refine ⟨by simp,fun w hw=>?_⟩;simp only [A9,AP,BX,CP] at hw;rcases hw with rfl | rfl | rfl | rfl | rfl | rfl | rfl | rfl
  ·decide
  ·exact XD hf
  ·decide
  ·exact fV ha
  ·decide
  ·exact XD hl
  ·decide
  ·exact XD hr
theorem Eh {dim n:Int}:∀ {l:LI} {i:Nat},KO dim n i l=true→∀ w∈l,GK w.toInt=true
 | [],_,_,w,hw=>by cases hw
 | x :: l,i,h,w,hw=>by
  unfold KO at h;rw [AH,AH] at h;rcases AP.1 hw with rfl | hw
  ·exact h.1.1
  ·exact Eh h.2 w hw
theorem Ec {w:Int} (h:GK w=true):(DM w).In:=by
 have hn:DM w=XR w:=by unfold DM; rw [h]; rfl
 unfold GK at h;simp only [AH,B1,B8,A3] at h;rw [hn];apply zgj;cases hr:M5 (XR w) with
 | true=>rfl
 | false=>
  have:=h.2
  unfold IY at this;rw [hr] at this;exact absurd this.symm h.1
theorem zh7:DY PR B0 54 dJ:=by
 refine D7 [(97,YR),(60,T3),(45,YT)] [] dJ [] Tryz.func54 zbK ⟨Kf,sU,Kh,trivial⟩ ?_;intro vs r hwf h;unfold dJ at h;split at h
 ·rename_i s ws;cases hc:(B6 ws.length 1000&&decide (s.size+(FU (ws.map IV.toStr)).size≤1000000000)) with
  | false=>rw [hc] at h; simp [R.get] at h
  | true=>
   rw [hc,R.get_br,DJ,R.get_ok] at h;rw [AH,AQ] at hc;have h1:=AO hc.1;have h2:=hc.2;have m:strMax=140737488355327:=rfl;refine ⟨0,?_⟩;rw [← h];refine (zex 0 s ws).trans ?_;have e:ByteArray.push (s++GO (ws.map IV.toStr) FI) (NE 10)=s++FU (ws.map IV.toStr):=by
    apply UB;unfold FU;simp;rfl
   have e2:(FU (ws.map IV.toStr)).size=(GO (ws.map IV.toStr) FI).size+1:=by
    unfold FU;rw [AY];rfl
   rw [e2] at h2;rw [AE (show ws.length≤strMax by omega),AE (show (GO (ws.map IV.toStr) FI).size≤strMax by omega),AE (show s.size+(GO (ws.map IV.toStr) FI).size≤strMax by omega),
    AE (show AD (s++GO (ws.map IV.toStr) FI)+1≤strMax by rw [AY]; omega),B3,DJ,DJ,DJ,e]
 ·simp [R.get] at h
theorem zcs (s:BA) (hs:s.size < 4294967281):∀ i,(DX (HH s) i).size < 4294967281:=by
 intro i;unfold DX;rw [BW];cases h:(HH s)[i]? with
 | none=>decide
 | some x=>
  have hx:x∈HH s:=vaf h;unfold HH at hx;obtain ⟨w,hw,rfl⟩:=CK.1 hx
  have:=(X1 FI _ s).2 w hw
  exact Nat.lt_of_le_of_lt this hs
theorem pW {ls:LI} (h:KR ls=true) (i:Nat):(DX (E1 ls) i).size < 4294967281:=by
 unfold KR at h;cases ls with
 | nil=>
  show AD (IV.toStr (AI [] i default)) < _;rw [List.getD_nil];decide
 | cons l r=>
  rw [vay,AH,AQ] at h;exact zcs _ h.1 i
theorem XN {ls:LI} (h:KR ls=true) (k:Nat):KR (ls.drop k)=true:=by
 unfold KR at h ⊢;rw [CU] at h ⊢;exact fun x hx=>h x (va6 hx)
theorem Kl:DY PR B0 48 WO:=by
 refine D7 [(46,ND)] [] WO [[.list false [.str]]] Tryz.func48 zbL ⟨aC,trivial⟩ ?_;intro vs r hwf h;unfold WO at h;split at h
 ·rename_i ls;cases hc:KR ls with
  | false=>rw [hc] at h; simp [R.get] at h
  | true=>
   rw [hc,R.get_br,DJ,R.get_ok] at h;refine ⟨0,?_⟩;rw [← h];refine (zey 0 ls).trans ?_;cases ls with
   | nil=>rfl
   | cons l r=>
    unfold KR at hc;rw [vay,AH] at hc;have e0:(ic (AG (l :: r))==0)=false:=by
     rw [T9];exact AL (by simp only [ic,AM]; omega)
    have e1:IV.toStr (AI (l :: r) (AF 0) default)=l.toStr:=rfl;have e2:AT (AF 1) (AK (AG (l :: r)) (l :: r))=AT 1 (l :: r):=by rw [BR]; rfl
    have e3:decide (1≤AD FI)=true:=rfl;rw [e0,e1,e2,e3,hc.1,DK];simp only [AE (show (0:Int) < ic (AG (l :: r)) by simp only [ic,AM]; omega),AE (show (1:Int)≤ic (AG (l :: r)) by simp only [ic,AM]; omega)];rfl
 ·simp [R.get] at h
theorem Kn:DY PR B0 50 WQ:=by
 refine D7 [] [] WQ [[.str]] Tryz.func50 zbO trivial ?_;intro vs r hwf h;unfold WQ at h;split at h
 ·rename_i l i;cases hc:decide (0≤i) with
  | false=>rw [hc] at h; simp [R.get] at h
  | true=>
   rw [hc,R.get_br,DJ,R.get_ok] at h;have h0:=A1 hc;refine ⟨0,?_⟩;rw [← h];refine (zeB 0 l i).trans ?_;cases hi:decide (i≥ic l.length) with
   | true=>
    have hi:=A1 hi;simp only [ic] at hi;have e:DX l i.toNat=CJ:=by
     unfold DX;rw [BW,BZ (by omega)];rfl
    rw [e,DJ];rfl
   | false=>
    have hi:=BG hi;rw [DK,AE h0,AE (show i < ic l.length by omega),B3,DJ];rfl
 ·simp [R.get] at h
theorem Kk:DY PR B0 49 WN:=by
 refine D7 [(90,Q1)] [] WN [[.z]] Tryz.func49 zbJ ⟨lB,trivial⟩ ?_;intro vs r hwf h;unfold WN at h;split at h
 ·rename_i s most;refine ⟨0,?_⟩;rw [R.get_ok] at h;rw [← h];refine (zew 0 s most).trans ?_;unfold FQ;cases KX s <;> cases decide (FK s < 0) <;> cases decide (FK s > most) <;> rfl
 ·simp [R.get] at h
theorem Km:DY PR B0 51 WP:=by
 refine D7 [(91,WA)] [] WP [[.z]] Tryz.func51 zbN ⟨Jp,trivial⟩ ?_;intro vs r hwf h;unfold WP at h;split at h
 ·rename_i s;cases hc:decide (s.size < 4294967281) with
  | false=>rw [hc] at h; simp [R.get] at h
  | true=>
   rw [hc,R.get_br,DJ,R.get_ok] at h;refine ⟨0,?_⟩;rw [← h];refine (zeA 0 s).trans ?_;rw [hc,DJ]
 ·simp [R.get] at h
theorem zh8:DY PR B0 52 dK:=by
 refine D7 [(92,WF),(49,WN),(48,WO),(51,WP),(50,WQ)] [] dK [[.int .u64]] Tryz.func52 zbM ⟨Jx,Kk,Kl,Km,Kn,trivial⟩ ?_;intro vs r hwf h;unfold dK at h;split at h
 ·rename_i ls;cases hc:KR ls with
  | false=>rw [hc] at h; simp [R.get] at h
  | true=>
   rw [hc,R.get_br,DJ,R.get_ok] at h;refine ⟨0,?_⟩;rw [← h];refine (zez 0 ls).trans ?_;rw [hc,DJ,AE (pW hc (AF 1)),AE (pW hc (AF 3)),DJ,DJ];unfold NT;have e:(AZ (DX (E1 ls) (AF 0))==AZ { data:=#[108,101,97,102] })=((DX (E1 ls) 0).toList==TJ.toList):=rfl;rw [e];cases ((DX (E1 ls) 0).toList==TJ.toList) <;> rfl
 ·simp [R.get] at h
theorem zhz:DY PR B0 141 cK:=by
 refine D7 [] [] cK [[.bool]] Tryz.func141 za6 trivial ?_;intro vs r hwf h;unfold cK at h;split at h
 ·rename_i s t;refine ⟨0,?_⟩;rw [R.get_ok] at h;rw [← h];refine (zdQ 0 s t).trans ?_;have hb:=hwf (by simp [MG]);have hs:s.size≤strMax:=hb.1;have m:strMax=140737488355327:=rfl;unfold O2;by_cases hl:t.size≤s.size
  ·have e:AA AB (ic s.size - ic t.size)=((s.size - t.size:Nat):Int):=by
    rw [EO (by simp only [ic]; omega) (by simp only [ic]; omega)];simp only [ic];omega
   rw [e,AE (show ic s.size≥ic t.size by simp only [ic]; omega),DJ,AE (show (0:Int)≤((s.size - t.size:Nat):Int) by omega),AE (show ((s.size - t.size:Nat):Int)≤ic s.size by simp only [ic]; omega),B3,DJ,AE hl,A8,BD]
  ·rw [AL (show ¬ ic s.size≥ic t.size by simp only [ic]; omega),DK,AL hl,BM]
 ·simp [R.get] at h
theorem zhA:DY PR B0 89 cL:=by
 refine D7 [(141,cK)] [] cL [[.str]] Tryz.func89 za7 ⟨zhz,trivial⟩ ?_;intro vs r hwf h;unfold cL at h;split at h
 ·rename_i s t;refine ⟨0,?_⟩;rw [R.get_ok] at h;rw [← h];refine (zdR 0 s t).trans ?_;have hb:=hwf (by simp [MG]);have hs:s.size≤strMax:=hb.1;have m:strMax=140737488355327:=rfl;unfold F1;cases hh:O2 s t with
  | false=>rfl
  | true=>
   have hl:t.size≤s.size:=by
    unfold O2 at hh;rw [AH,AQ] at hh;exact hh.1
   have e:AA AB (ic s.size - ic t.size)=((s.size - t.size:Nat):Int):=by
    rw [EO (by simp only [ic]; omega) (by simp only [ic]; omega)];simp only [ic];omega
   rw [e,DJ,DJ,AE (show (0:Int)≤((s.size - t.size:Nat):Int) by omega),AE (show ((s.size - t.size:Nat):Int)≤ic s.size by simp only [ic]; omega),B3,DJ,BD]
 ·simp [R.get] at h
theorem sW:DY PR B0 47 SG:=by
 refine D7 [(89,cL)] [] SG [[.str]] Tryz.func47 zbG ⟨zhA,trivial⟩ ?_;intro vs r hwf h;unfold SG at h;split at h
 ·rename_i s t;refine ⟨0,?_⟩;rw [R.get_ok] at h;rw [← h];exact zet 0 s t
 ·simp [R.get] at h
abbrev Pf (ts:LI) (i:Int) (l:LI) (j:Int) (so:BA):St:=
 ⟨[(2,(.str { data:=#[] })),(3,(.ptr 3 0 0)),(43,(.list true [.z,(.list false [(.int .u64)])] ts)),(44,(.int .i64 (ic ts.length))),(45,(.int .i64 i)),(59,(.list false [(.int .u64)] l)),(60,(.int .i64 (ic l.length))),(61,(.int .i64 j))],[(3,(some (.bld so)))]⟩
theorem Em (N:Nat) (ts:LI) (i:Int) (l:LI) (hl:l.length≤31) (hn:∀ w∈l,GK w.toInt=true) (K:Out→St→DP):∀ (d j n:Nat) (so:BA),j+d=l.length→d < n→so.size+809*d≤1000000000 →
  D0 (IJ N) (DL KZ [1,1,1,1,1,1,1,0,1,0,0,1,1,0,0,1,1,1,0,0]) ⟨[2,3,43,44,45,59,60,61],[3],[]⟩ n (Pf ts i l (j:Int) so) K =
   K (.exit 4) (Pf ts i l (ic l.length) (so++GC (HY (l.drop j))))
 | d,j,0,_,_,h,_=>absurd h (by omega)
 | 0,j,n+1,so,hd,_,_=>by
  have hj:j=l.length:=by omega
  subst hj;rw [EA,Mt,AL (show ¬ ((l.length:Nat):Int) < ic l.length by simp only [ic]; omega),DK,vaB];have e:so++GC (HY [])=so:=by
   show so++CJ=so;rw [ByteArray.append_empty]
  rw [e]
 | d+1,j,n+1,so,hd,hn',hz=>by
  have hjl:j < l.length:=by omega
  have ej:AA AB ((j:Int)+1)=((j+1:Nat):Int):=by
   rw [EO (by omega) (by omega)];omega
  have hg:l.getD (AF (j:Int)) default=l[j]:=by
   rw [BD,BW,BE hjl];rfl
  have hin:=Ec (hn l[j] (C1 hjl));have hw:=Ed hin;have hls:=fD _ hw.1 hw.2;rw [EA,Mt,ej,hg,AE (show (j:Int) < ic l.length by simp only [ic]; omega),DJ,AE (show (0:Int)≤(j:Int) by omega),B3,DJ,BF hjl];have hr:GC (HY (l[j] :: l.drop (j+1)))=FU (ME (DM l[j].toInt))++GC (HY (l.drop (j+1))):=rfl;rw [hr,← vag];have ih:=Em N ts i l hl hn K d (j+1) n (so++FU (ME (DM l[j].toInt))) (by omega) (by omega) (by rw [AY]; omega);rw [← ih];have hsz:decide (so.size+(FU (ME (DM l[j].toInt))).size≤1000000000)=true:=AE (by omega);revert hsz;unfold ME;cases (DM l[j].toInt).lf with
  | true=>
   intro hsz;have hsz:decide (AD so+AD (FU [TJ,DU (DM l[j].toInt).v])≤1000000000)=true:=hsz;have e:A4 IV.toStr (AT 0 (AK 2 [IV.str { data:=#[108,101,97,102] },IV.str (DU (Nd.v (DM (IV.toInt l[j]))))]))=[TJ,DU (DM l[j].toInt).v]:=rfl;rw [DJ,e,hsz];rfl
  | false=>
   intro hsz;have hsz:decide (AD so+AD (FU [lW,DQ (DM l[j].toInt).f,uE,DU (DM l[j].toInt).a,uG,DQ (DM l[j].toInt).l,uD,DQ (DM l[j].toInt).r])≤1000000000)=true:=hsz;have e:A4 IV.toStr (AT 0 (AK 8 [IV.str { data:=#[105,102] },IV.str (DQ (Nd.f (DM (IV.toInt l[j])))),IV.str { data:=#[60,61] },IV.str (DU (Nd.a (DM (IV.toInt l[j])))),IV.str { data:=#[116,104,101,110] },IV.str (DQ (Nd.l (DM (IV.toInt l[j])))),IV.str { data:=#[101,108,115,101] },IV.str (DQ (Nd.r (DM (IV.toInt l[j]))))]))=[lW,DQ (DM l[j].toInt).f,uE,DU (DM l[j].toInt).a,uG,DQ (DM l[j].toInt).l,uD,DQ (DM l[j].toInt).r]:=rfl;rw [DK,e,hsz];rfl
theorem Nv {d c:Int} {t:IV} (h:HM d c t=true):0≤(t.cell 0).toInt∧(t.cell 0).toInt < c∧1≤(t.cell 1).toList.length∧(t.cell 1).toList.length≤31∧∀ w∈(t.cell 1).toList,GK w.toInt=true:=by
 unfold HM G4 at h;simp only [AH,B1,BO] at h;obtain ⟨h1,h2,⟨h3,h4⟩,h5,_⟩:=h;exact ⟨by omega,by omega,AO h3,AO h4,Eh h5⟩
theorem Nx {d c:Int} {t:IV} (hc:c≤3) (h:HM d c t=true):(∀ l∈TE t,l.length≤8∧∀ w∈l,w.size≤100)∧(TE t).length≤32:=by
 obtain ⟨h1,h2,h3,h4,h5⟩:=Nv h;constructor
 ·intro l hl;unfold TE at hl;rcases AP.1 hl with rfl | hl
  ·refine ⟨by simp,fun w hw=>?_⟩;simp only [AP,BX,CP] at hw;rcases hw with rfl | rfl | rfl
   ·decide
   ·exact XD (by unfold EF; omega)
   ·exact XD (by unfold EF; simp only [ic]; omega)
  ·unfold HY at hl;obtain ⟨w,hw,rfl⟩:=CK.1 hl;exact Ed (Ec (h5 w hw))
 ·unfold TE HY;rw [AM,BK];omega
abbrev Pg (ts:LI) (i:Int) (so:BA):St:=
 ⟨[(2,(.str { data:=#[] })),(3,(.ptr 3 0 0)),(43,(.list true [.z,(.list false [(.int .u64)])] ts)),(44,(.int .i64 (ic ts.length))),(45,(.int .i64 i))],[(3,(some (.bld so)))]⟩
theorem Oc (N:Nat) (hN:40≤N) (d c:Int) (hc:c≤3) (ts:LI) (hl:ts.length≤8) (ht:ts.all (HM d c)=true) (K:Out→St→DP):∀ (m i n:Nat) (so:BA),i+m=ts.length→m < n→so.size+30000*m≤1000000000 →
  D0 (IJ N) (DL KZ [1,1,1,1,1,1,1,0,1,0,0]) ⟨[2,3,43,44,45],[3],[]⟩ n (Pg ts (i:Int) so) K =
   K (.exit 2) (Pg ts (ic ts.length) (so++GC (GZ (ts.drop i))))
 | m,i,0,_,_,h,_=>absurd h (by omega)
 | 0,i,n+1,so,hd,_,_=>by
  have hi:i=ts.length:=by omega
  subst hi;rw [EA,Ms,AL (show ¬ ((ts.length:Nat):Int) < ic ts.length by simp only [ic]; omega),DK,vaB];have e:so++GC (GZ [])=so:=by
   show so++CJ=so;rw [ByteArray.append_empty]
  rw [e]
 | m+1,i,n+1,so,hd,hn,hz=>by
  have hil:i < ts.length:=by omega
  have ei:AA AB ((i:Int)+1)=((i+1:Nat):Int):=by
   rw [EO (by omega) (by omega)];omega
  have hg:ts.getD (AF (i:Int)) default=ts[i]:=by
   rw [BD,BW,BE hil];rfl
  have hok:=CU.1 ht ts[i] (C1 hil);have hw:=Nx hc hok;have hts:=tQ _ hw.1;obtain ⟨h1,h2,h3,h4,h5⟩:=Nv hok;have hh:∀ w∈[OM,DQ (ts[i].cell 0).toInt,DQ (ic (ts[i].cell 1).toList.length)],w.size≤100:=(hw.1 _ (by unfold TE; exact AN ..)).2;have hls:=fD _ (by simp) hh;have e:A4 IV.toStr (AT 0 (AK 3 [IV.str { data:=#[116,114,101,101] },IV.str (DQ (IV.toInt (IV.cell ts[i] 0))),IV.str (DQ (ic (AG (IV.toList (IV.cell ts[i] 1)))))]))=[OM,DQ (ts[i].cell 0).toInt,DQ (ic (ts[i].cell 1).toList.length)]:=rfl;have el:B6 (AG (AT 0 (AK 3 [IV.str { data:=#[116,114,101,101] },IV.str (DQ (IV.toInt (IV.cell ts[i] 0))),IV.str (DQ (ic (AG (IV.toList (IV.cell ts[i] 1)))))]))) 1000=true:=rfl;rw [EA,Ms,hg,e,el,AE (show (i:Int) < ic ts.length by simp only [ic]; omega),DJ,AE (show (0:Int)≤(i:Int) by omega),B3,DJ,
   AE (show so.size+(FU [OM,DQ (ts[i].cell 0).toInt,DQ (ic (ts[i].cell 1).toList.length)]).size≤1000000000 by omega),B3,DJ]
  refine (Em N ts (i:Int) (ts[i].cell 1).toList h4 h5 _ (ts[i].cell 1).toList.length 0 N (so++FU [OM,DQ (ts[i].cell 0).toInt,DQ (ic (ts[i].cell 1).toList.length)]) (by omega) (by omega) (by rw [AY]; omega)).trans ?_;rw [Ys,ei,B5,BF hil];have hr:GC (GZ (ts[i] :: ts.drop (i+1)))=(FU [OM,DQ (ts[i].cell 0).toInt,DQ (ic (ts[i].cell 1).toList.length)]++GC (HY (ts[i].cell 1).toList))++GC (GZ (ts.drop (i+1))):=by
   rw [GZ,tN];rfl
  rw [hr,← vag (a:=so),← vag (a:=so)];have hsz:(FU [OM,DQ (ts[i].cell 0).toInt,DQ (ic (ts[i].cell 1).toList.length)]++GC (HY (ts[i].cell 1).toList)).size≤26000:=by
   have:GC (TE ts[i])=FU [OM,DQ (ts[i].cell 0).toInt,DQ (ic (ts[i].cell 1).toList.length)]++GC (HY (ts[i].cell 1).toList):=rfl
   rw [← this]
   have:=hw.2
   omega
  exact Oc N hN d c hc ts hl ht K m (i+1) n _ (by omega) (by omega) (by rw [vag,AY]; omega)
abbrev aL (d c b0 b1 b2:Int) (ts:LI) (C:Nat) (so:BA) (ws:LI) (n:Nat) (i:Int):St:=
 ⟨[(1,(.ptr 1 0 0)),(2,(.str { data:=#[] })),(3,(.ptr 3 0 0)),(4,(.row 500 0 n)),(28,(.bview 1 2 3 1 C)),(29,(.int .i64 (ic C))),(30,(.int .i64 i))],[(1,(some (.box [(.int .i64 d),(.int .i64 c),(.int .i64 b0),(.int .i64 b1),(.int .i64 b2),(.list true [.z,(.list false [(.int .u64)])] ts)]))),(3,(some (.bld so))),(500,(some (.row true 9 false [.str] ws)))]⟩
theorem l8 (N:Nat) (d c b0 b1 b2:Int) (ts:LI) (C:Nat) (so:BA) (ws:LI) (n i:Nat) (b:Int) (hi:i < C) (hn:n≤10) (h:(i=0∧b=b0)∨(i=1∧b=b1)∨(i=2∧b=b2)) (again:St→DP) (k:Out→St→DP) :
  FG (IJ N) (DL KZ [1,1,1,1,1,0,1,0,0]) (aL d c b0 b1 b2 ts C so ws n (i:Int)) (EW again ⟨[1,2,3,4,28,29,30],[1,3,500],[⟨.tmp 4,500,9,false,[.str]⟩]⟩ k) =
   again (aL d c b0 b1 b2 ts C so (ws.take n++[.str (DU b)]) (n+1) ((i+1:Nat):Int)):=by
 rw [lJ];have ei:AA AB ((i:Int)+1)=((i+1:Nat):Int):=by
  rw [EO (by omega) (by omega)];omega
 have eb:TI.bytes (Env.tyd (IJ N) 9)=16:=rfl;have e1:∀ x:IV,AG (AT 0 (AK 1 [x]))=1:=fun x=>rfl
 rw [ei,eb,e1,e1,e1,AE (show (i:Int) < ic C by simp only [ic]; omega),DJ,DJ,AE (show (n+1)*16≤EG by unfold EG; omega)];rcases h with ⟨rfl,rfl⟩ | ⟨rfl,rfl⟩ | ⟨rfl,rfl⟩ <;> rfl
theorem zjl (N:Nat) (hN:10≤N) (d b0 b1 b2:Int) (ts:LI) (C:Nat) (h1:1≤C) (h3:C≤3) (so:BA) (K:Out→St→DP) :
  D0 (IJ N) (DL KZ [1,1,1,1,1,0,1,0,0]) ⟨[1,2,3,4,28,29,30],[1,3,500],[⟨.tmp 4,500,9,false,[.str]⟩]⟩ N (aL d (C:Int) b0 b1 b2 ts C so [.str I5] 1 0) K =
   K (.exit 0) (aL d (C:Int) b0 b1 b2 ts C so ((I5 :: (([b0,b1,b2].take C).map DU)).map IV.str) (1+C) (C:Int)):=by
 obtain ⟨M,rfl⟩:∃ M,N=M+4:=⟨N - 4,by omega⟩;have e0:aL d (C:Int) b0 b1 b2 ts C so [.str I5] 1 0=aL d (C:Int) b0 b1 b2 ts C so [.str I5] 1 ((0:Nat):Int):=rfl;rw [e0,EA,l8 (M+4) d (C:Int) b0 b1 b2 ts C so _ 1 0 b0 (by omega) (by omega) (by simp)]
 match C,h1,h3 with
 | 1,_,_=>
  rw [EA,lJ,AL (show ¬ ((0+1:Nat):Int) < ic 1 by decide),DK];rfl
 | 2,_,_=>
  rw [EA,l8 (M+4) d _ b0 b1 b2 ts 2 so _ _ 1 b1 (by omega) (by omega) (by simp),EA,lJ,AL (show ¬ ((1+1:Nat):Int) < ic 2 by decide),DK];rfl
 | 3,_,_=>
  rw [EA,l8 (M+4) d _ b0 b1 b2 ts 3 so _ _ 1 b1 (by omega) (by omega) (by simp),EA,l8 (M+4) d _ b0 b1 b2 ts 3 so _ _ 2 b2 (by omega) (by omega) (by simp),EA,lJ,AL (show ¬ ((2+1:Nat):Int) < ic 3 by decide),DK];rfl
theorem pU {m:Md} (h:E0 m=true):(1≤m.d∧m.d≤4)∧(1≤m.c∧m.c≤3)∧m.ts.length≤8∧(HU m.c 0 m.b0=true∧HU m.c 1 m.b1=true∧HU m.c 2 m.b2=true)∧m.ts.all (HM m.d m.c)=true:=by
 unfold E0 at h;simp only [AH,B1,BO] at h;obtain ⟨⟨h1,h2,h3,h4,h5⟩,⟨h6,h7,h8⟩,h9⟩:=h;exact ⟨⟨by omega,by omega⟩,⟨by omega,by omega⟩,AO h5,⟨h6,h7,h8⟩,h9⟩
theorem mS {c j b:Int} (h:HU c j b=true):(-2147483648≤b∧b≤2147483647)∧(c≤j→b=0):=by
 unfold HU at h;rw [AH] at h;refine ⟨oG h.1,fun hj=>?_⟩
 have:=h.2
 rw [AE (show j≥c from hj)] at this;simpa using this
theorem Bd {m:Md} (h:E0 m=true):∀ l∈SY m,l.length≤8∧∀ w∈l,w.size≤100:=by
 obtain ⟨hd,hc,_,⟨g0,g1,g2⟩,_⟩:=pU h;have i0:=(mS g0).1;have i1:=(mS g1).1;have i2:=(mS g2).1;intro l hl;unfold SY at hl;simp only [AP,BX,CP] at hl;rcases hl with rfl | rfl
 ·refine ⟨by simp,fun w hw=>?_⟩;simp only [AP,BX,CP] at hw;rcases hw with rfl | rfl | rfl
  ·decide
  ·exact XD (by unfold EF; omega)
  ·exact XD (by unfold EF; omega)
 ·refine ⟨by simp only [AM,BK,BC,A7]; omega,fun w hw=>?_⟩;rcases AP.1 hw with rfl | hw
  ·decide
  ·obtain ⟨b,hb,rfl⟩:=CK.1 hw;have hb:=vaH hb;simp only [AP,BX,CP] at hb;rcases hb with rfl | rfl | rfl
   ·exact fV (by unfold EF; omega)
   ·exact fV (by unfold EF; omega)
   ·exact fV (by unfold EF; omega)
set_option maxHeartbeats 1000000 in
theorem lC:DY PR B0 20 PS:=by
 refine D7 [(44,SE),(53,MP),(55,MQ),(43,OT),(56,T2),(54,dJ)] [(7,⟨[1,2,3,4,28,29,30],[1,3,500],[⟨.tmp 4,500,9,false,[.str]⟩]⟩),(13,⟨[2,3,43,44,45],[3],[]⟩),(17,⟨[2,3,43,44,45,59,60,61],[3],[]⟩)] PS [[.str]] Tryz.func20 zbI ⟨sR,Z9,aA,gH,sT,zh7,trivial⟩ ?_;intro vs r hwf h;unfold PS at h;split at h
 ·rename_i d c b0 b1 b2 ts;refine ⟨40,?_⟩;rw [R.get_ok] at h;rw [← h];refine (zev 40 d c b0 b1 b2 ts).trans ?_;unfold EC;cases hm:E0 ⟨d,c,b0,b1,b2,ts⟩ with
  | false=>rfl
  | true=>
   obtain ⟨hd,hc,hl,_,ht⟩:=pU hm;simp only at hd hc hl ht;have hh:=Bd hm;have hh1:=hh _ (List.mem_cons_self ..);have hh2:=hh _ (List.mem_cons_of_mem _ (List.mem_cons_self ..));have z1:=fD _ hh1.1 hh1.2;have z2:=fD _ hh2.1 hh2.2;obtain ⟨C,rfl⟩:∃ C:Nat,c=(C:Int):=⟨c.toNat,by omega⟩;have e1:List.map IV.toStr (List.drop 0 (List.take 3 [IV.str { data:=#[102,111,114,101,115,116] },IV.str (DQ d),IV.str (DQ (C:Int))]))=[NY,DQ d,DQ (C:Int)]:=rfl;have e2:Nat.ble (List.length (List.drop 0 (List.take 3 [IV.str { data:=#[102,111,114,101,115,116] },IV.str (DQ d),IV.str (DQ (C:Int))]))) 1000=true:=rfl;have e3:ByteArray.size ByteArray.empty=0:=rfl;have z1:(FU [NY,DQ d,DQ (C:Int)]).size≤809:=z1;rw [Bool.not_true,DK,DJ,e1,e2,e3,decide_eq_true (show 0+(FU [NY,DQ d,DQ (C:Int)]).size≤1000000000 by omega),Bool.and_self,DJ,decide_eq_true (show (0:Int)≤(C:Int) by omega),decide_eq_true (show (C:Int)≤ic 3 by simp only [ic]; omega),Bool.and_self,DJ,Int.toNat_natCast,ByteArray.empty_append];refine (zjl 40 (by omega) d b0 b1 b2 ts C (by omega) (by omega) (FU [NY,DQ d,DQ (C:Int)]) _).trans ?_;rw [Yq];have e4:List.map IV.toStr (List.drop 0 (List.take (1+C) ((I5 :: (([b0,b1,b2].take C).map DU)).map IV.str)))=I5 :: (([b0,b1,b2].take C).map DU):=by
    match C,hc with
    | 0,hc=>exact absurd hc.1 (by decide)
    | 1,_=>rfl
    | 2,_=>rfl
    | 3,_=>rfl
    | C+4,hc=>exact absurd hc.2 (by omega)
   have e5:Nat.ble (List.length (List.drop 0 (List.take (1+C) ((I5 :: (([b0,b1,b2].take C).map DU)).map IV.str)))) 1000=true:=by
    apply Nat.ble_eq_true_of_le;rw [List.length_drop,List.length_take];omega
   have z2:(FU (I5 :: (([b0,b1,b2].take C).map DU))).size≤809:=by
    have:(([b0,b1,b2].take (C:Int).toNat).map DU)=(([b0,b1,b2].take C).map DU):=by rw [Int.toNat_natCast]
    rw [← this];exact z2
   rw [e4,e5,decide_eq_true (show (FU [NY,DQ d,DQ (C:Int)]).size+(FU (I5 :: (([b0,b1,b2].take C).map DU))).size≤1000000000 by omega),Bool.and_self,DJ];refine (Oc 40 (by omega) d (C:Int) (by omega) ts hl ht _ ts.length 0 40 _ (by omega) (by omega) (by rw [ByteArray.size_append]; omega)).trans ?_;rw [Yr,List.drop_zero];have e6:GC (MB ⟨d,(C:Int),b0,b1,b2,ts⟩)=FU [NY,DQ d,DQ (C:Int)]++FU (I5 :: (([b0,b1,b2].take C).map DU))++GC (GZ ts):=by
    show GC (SY ⟨d,(C:Int),b0,b1,b2,ts⟩++GZ ts)=_;rw [tN];show FU [NY,DQ d,DQ (C:Int)]++(FU (I5 :: (([b0,b1,b2].take (C:Int).toNat).map DU))++ByteArray.empty)++GC (GZ ts)=_;rw [ByteArray.append_empty,Int.toNat_natCast]
   rw [e6]
 ·simp [R.get] at h
open Go Go.Proofs
def HN (N:Nat):Env:=D6 [(46,ND),(47,SG),(20,PS),(49,WN),(48,WO),(52,dK),(51,WP),(50,WQ)] [(6,⟨[0,2,3,4,6,7,28,29],[2,6,15],[]⟩),(10,⟨[0,2,3,4,6],[2,6,15,500],[⟨.cell 6 5,500,88,true,[.z,.list false [.int .u64]]⟩]⟩),(14,⟨[0,2,3,4,6,10,61,62],[2,6,10,15,500,501],[⟨.cell 6 5,500,88,true,[.z,.list false [.int .u64]]⟩,⟨.cell 10 1,501,103,false,[.int .u64]⟩]⟩)] 88 N
abbrev VZ (s0:BA) (b3:Bool) (l7:LI) (x28 x29 u01 u02 u03 u04 u05 u06 u07 u08 u09 u0a:Int) (u00:LI):St:=⟨[(0,(.str s0)),(2,(.ptr 2 0 0)),(3,(.bool b3)),(4,(.ptr 15 0 0)),(6,(.ptr 6 0 0)),(7,(.list false [.str] l7)),(28,(.i x28)),(29,(.i x29))],[(2,(some (.box [.i u01,.i u02,.i u03,.i u04,.i u05,.zs]))),(6,(some (.box [.i u06,.i u07,.i u08,.i u09,.i u0a,.zs]))),(15,(some (.box [.list false [.str] u00])))]⟩
abbrev YM (s0:BA) (b3:Bool) (u03 u04 u05 u06 u07 u08 u09 u0a u0b u0c:Int) (u02:Nat) (u00 u01:LI):St:=⟨[(0,(.str s0)),(2,(.ptr 2 0 0)),(3,(.bool b3)),(4,(.ptr 15 0 0)),(6,(.ptr 6 0 0))],[(2,(some (.box [.i u03,.i u04,.i u05,.i u06,.i u07,.zs]))),(6,(some (.box [.i u08,.i u09,.i u0a,.i u0b,.i u0c,.row 500 0 u02]))),(15,(some (.box [.list false [.str] u00]))),(500,(some (.row true 88 true [.z,.list false [.int .u64]] u01)))]⟩
abbrev aR (s0:BA) (b3:Bool) (x61 x62 u06 u07 u08 u09 u0a u0b u0c u0d u0e u0f:Int) (u04:Nat) (u05:Int) (u03:Nat) (u00 u01 u02:LI):St:=⟨[(0,(.str s0)),(2,(.ptr 2 0 0)),(3,(.bool b3)),(4,(.ptr 15 0 0)),(6,(.ptr 6 0 0)),(10,(.ptr 10 0 0)),(61,(.i x61)),(62,(.i x62))],[(2,(some (.box [.i u06,.i u07,.i u08,.i u09,.i u0a,.zs]))),(6,(some (.box [.i u0b,.i u0c,.i u0d,.i u0e,.i u0f,.row 500 0 u04]))),(10,(some (.box [.i u05,.row 501 0 u03]))),(15,(some (.box [.list false [.str] u00]))),(500,(some (.row true 88 true [.z,.list false [.int .u64]] u01))),(501,(some (.row true 103 false [.int .u64] u02)))]⟩
theorem zeu (N:Nat) (s:BA):D1 (HN N) JL [.cell 2 30,.tmp 3] [[.z,.z,.z,.z,.z,.list true [.z,.list false [.int .u64]]],[.bool]] [.str s]=(cond (decide (AD (F1 s {data:=#[10]}) < 4294967281)&&decide (1≤AD {data:=#[10]})) (cond (KR (A4 IV.str (D3 (F1 s {data:=#[10]}) {data:=#[10]}))) (cond (KR (AT 1 (A4 IV.str (D3 (F1 s {data:=#[10]}) {data:=#[10]})))) (D0 (HN N) (DL JL [1,1,1,1,1,0,1,0,0]) ⟨[0,2,3,4,6,7,28,29],[2,6,15],[]⟩ N (VZ s false (E1 (AT 1 (A4 IV.str (D3 (F1 s {data:=#[10]}) {data:=#[10]})))) (FQ (DX (E1 (A4 IV.str (D3 (F1 s {data:=#[10]}) {data:=#[10]}))) (AF 2)) 3) 0 0 0 0 0 0 (FQ (DX (E1 (A4 IV.str (D3 (F1 s {data:=#[10]}) {data:=#[10]}))) (AF 1)) 4) (FQ (DX (E1 (A4 IV.str (D3 (F1 s {data:=#[10]}) {data:=#[10]}))) (AF 2)) 3) 0 0 0 (AT 1 (AT 1 (A4 IV.str (D3 (F1 s {data:=#[10]}) {data:=#[10]}))))) (DS 0 (DT (HN N) (DL JL [1,1,1,1,1,1]) (DV (HN N) none [.cell 2 30,.tmp 3] [[.z,.z,.z,.z,.z,.list true [.z,.list false [.int .u64]]],[.bool]])))) none) none) none):=by kernel_rfl
theorem gL (N:Nat) (s0:BA) (b3:Bool) (l7:LI) (x28 x29 u01 u02 u03 u04 u05 u06 u07 u08 u09 u0a:Int) (u00:LI) (again:St→DP) (k:Out→St→DP):FG (HN N) (DL JL [1,1,1,1,1,0,1,0,0]) (VZ s0 b3 l7 x28 x29 u01 u02 u03 u04 u05 u06 u07 u08 u09 u0a u00) (EW again ⟨[0,2,3,4,6,7,28,29],[2,6,15],[]⟩ k)=(cond (decide (x29 < x28)) (cond (decide (0≤AA AB (1+x29))) (cond (decide (AD (DX l7 (AF (AA AB (1+x29)))) < 4294967281)) (cond (decide (x29=ic 0)) (again (VZ s0 b3 l7 x28 (AA AB (x29+1)) u01 u02 u03 u04 u05 u06 u07 (GE (DX l7 (AF (AA AB (1+x29))))) u09 u0a u00)) (cond (decide (x29=ic 1)) (again (VZ s0 b3 l7 x28 (AA AB (x29+1)) u01 u02 u03 u04 u05 u06 u07 u08 (GE (DX l7 (AF (AA AB (1+x29))))) u0a u00)) (cond (decide (x29=ic 2)) (again (VZ s0 b3 l7 x28 (AA AB (x29+1)) u01 u02 u03 u04 u05 u06 u07 u08 u09 (GE (DX l7 (AF (AA AB (1+x29))))) u00)) none))) none) none) (k (.exit 0) (VZ s0 b3 l7 x28 x29 u01 u02 u03 u04 u05 u06 u07 u08 u09 u0a u00))):=by kernel_rfl
theorem Yn (N:Nat) (s0:BA) (b3:Bool) (l7:LI) (x28 x29 u01 u02 u03 u04 u05 u06 u07 u08 u09 u0a:Int) (u00:LI):(DS 0 (DT (HN N) (DL JL [1,1,1,1,1,1]) (DV (HN N) none [.cell 2 30,.tmp 3] [[.z,.z,.z,.z,.z,.list true [.z,.list false [.int .u64]]],[.bool]]))) (.exit 0) (VZ s0 b3 l7 x28 x29 u01 u02 u03 u04 u05 u06 u07 u08 u09 u0a u00)=(D0 (HN N) (DL JL [1,1,1,1,1,1,0,0,0]) ⟨[0,2,3,4,6],[2,6,15,500],[⟨(.cell 6 5),500,88,true,[.z,.list false [.int .u64]]⟩]⟩ N (YM s0 b3 u01 u02 u03 u04 u05 u06 u07 u08 u09 u0a 0 u00 []) (DS 2 (DT (HN N) (DL JL [1,1,1,1,1,1,1]) (DV (HN N) none [.cell 2 30,.tmp 3] [[.z,.z,.z,.z,.z,.list true [.z,.list false [.int .u64]]],[.bool]])))):=by kernel_rfl
theorem tF (N:Nat) (s0:BA) (b3:Bool) (u03 u04 u05 u06 u07 u08 u09 u0a u0b u0c:Int) (u02:Nat) (u00 u01:LI) (again:St→DP) (k:Out→St→DP):FG (HN N) (DL JL [1,1,1,1,1,1,0,0,0]) (YM s0 b3 u03 u04 u05 u06 u07 u08 u09 u0a u0b u0c u02 u00 u01) (EW again ⟨[0,2,3,4,6],[2,6,15,500],[⟨(.cell 6 5),500,88,true,[.z,.list false [.int .u64]]⟩]⟩ k)=(cond (decide (ic (AG u00) > 0)) (cond (decide (ic (u02 - 0)≤8)) (cond (KR u00) (D0 (HN N) (DL JL [1,1,1,1,1,1,0,0,0,1,0,1,1,0,1,0,0]) ⟨[0,2,3,4,6,10,61,62],[2,6,10,15,500,501],[⟨(.cell 6 5),500,88,true,[.z,.list false [.int .u64]]⟩,⟨(.cell 10 1),501,103,false,[.int .u64]⟩]⟩ N (aR s0 b3 (FQ (DX (E1 u00) (AF 2)) 31) 0 u03 u04 u05 u06 u07 u08 u09 u0a u0b u0c u02 (FQ (DX (E1 u00) (AF 1)) 3) 0 (AT 1 u00) u01 []) (DS 4 (DT (HN N) (DL JL [1,1,1,1,1,1,0,0,0,1,0,1,1,1]) (DS 3 (EW again ⟨[0,2,3,4,6],[2,6,15,500],[⟨(.cell 6 5),500,88,true,[.z,.list false [.int .u64]]⟩]⟩ k))))) none) (k (.exit 2) (YM s0 b3 u03 u04 u05 u06 u07 u08 u09 u0a u0b u0c u02 u00 u01))) (k (.exit 2) (YM s0 b3 u03 u04 u05 u06 u07 u08 u09 u0a u0b u0c u02 u00 u01))):=by kernel_rfl
theorem Mr (N:Nat) (s0:BA) (b3:Bool) (x61 x62 u06 u07 u08 u09 u0a u0b u0c u0d u0e u0f:Int) (u04:Nat) (u05:Int) (u03:Nat) (u00 u01 u02:LI) (again:St→DP) (k:Out→St→DP):FG (HN N) (DL JL [1,1,1,1,1,1,0,0,0,1,0,1,1,0,1,0,0]) (aR s0 b3 x61 x62 u06 u07 u08 u09 u0a u0b u0c u0d u0e u0f u04 u05 u03 u00 u01 u02) (EW again ⟨[0,2,3,4,6,10,61,62],[2,6,10,15,500,501],[⟨(.cell 6 5),500,88,true,[.z,.list false [.int .u64]]⟩,⟨(.cell 10 1),501,103,false,[.int .u64]⟩]⟩ k)=(cond (decide (x62 < x61)) (cond (KR u00) (cond (decide ((u03+AG (AT 0 (AK 1 [IV.int (IY (NT (E1 u00)))])))*TI.bytes (Env.tyd (HN N) 103)≤EG)) (again (aR s0 b3 x61 (AA AB (x62+1)) u06 u07 u08 u09 u0a u0b u0c u0d u0e u0f u04 u05 (u03+AG (AT 0 (AK 1 [IV.int (IY (NT (E1 u00)))]))) (AT 1 u00) u01 (AK u03 u02++AT 0 (AK 1 [IV.int (IY (NT (E1 u00)))])))) none) none) (k (.exit 4) (aR s0 b3 x61 x62 u06 u07 u08 u09 u0a u0b u0c u0d u0e u0f u04 u05 u03 u00 u01 u02))):=by kernel_rfl
theorem Yo (N:Nat) (s0:BA) (b3:Bool) (u03 u04 u05 u06 u07 u08 u09 u0a u0b u0c:Int) (u02:Nat) (u00 u01:LI):(DS 2 (DT (HN N) (DL JL [1,1,1,1,1,1,1]) (DV (HN N) none [.cell 2 30,.tmp 3] [[.z,.z,.z,.z,.z,.list true [.z,.list false [.int .u64]]],[.bool]]))) (.exit 2) (YM s0 b3 u03 u04 u05 u06 u07 u08 u09 u0a u0b u0c u02 u00 u01)=(cond (AZ s0==AZ {data:=#[]}) (some ((.tup [.agg [.i 0,.i 0,.i 0,.i 0,.i 0,.list true [.z,.list false [.int .u64]] []],.bool false]),[])) (cond (!AZ (EC {d:=u08,c:=u09,b0:=u0a,b1:=u0b,b2:=u0c,ts:=AT 0 (AK u02 u01)})==AZ s0) (some ((.tup [.agg [.i 0,.i 0,.i 0,.i 0,.i 0,.list true [.z,.list false [.int .u64]] []],.bool false]),[])) (some ((.tup [.agg [.i u08,.i u09,.i u0a,.i u0b,.i u0c,.list true [.z,.list false [.int .u64]] (AT 0 (AK u02 u01))],.bool true]),[])))):=by kernel_rfl
theorem Yp (N:Nat) (again:St→DP) (k:Out→St→DP) (s0:BA) (b3:Bool) (x61 x62 u06 u07 u08 u09 u0a u0b u0c u0d u0e u0f:Int) (u04:Nat) (u05:Int) (u03:Nat) (u00 u01 u02:LI):(DS 4 (DT (HN N) (DL JL [1,1,1,1,1,1,0,0,0,1,0,1,1,1]) (DS 3 (EW again ⟨[0,2,3,4,6],[2,6,15,500],[⟨(.cell 6 5),500,88,true,[.z,.list false [.int .u64]]⟩]⟩ k)))) (.exit 4) (aR s0 b3 x61 x62 u06 u07 u08 u09 u0a u0b u0c u0d u0e u0f u04 u05 u03 u00 u01 u02)=(cond (decide ((u04+AG (AT 0 (AK 1 [IV.agg [IV.int u05,IV.list (AT 0 (AK u03 u02))]])))*TI.bytes (Env.tyd (HN N) 88)≤EG)) (again (YM s0 b3 u06 u07 u08 u09 u0a u0b u0c u0d u0e u0f (u04+AG (AT 0 (AK 1 [IV.agg [IV.int u05,IV.list (AT 0 (AK u03 u02))]]))) u00 (AK u04 u01++AT 0 (AK 1 [IV.agg [IV.int u05,IV.list (AT 0 (AK u03 u02))]])))) none):=by kernel_rfl
open Go Go.Proofs
theorem y9 (s:BA) {most:Int} (h:0≤most):0≤FQ s most∧FQ s most≤most:=by
 unfold FQ;cases ha:KX s <;> cases h1:decide (FK s < 0) <;> cases h2:decide (FK s > most)
 all_goals simp only [A2,A6,B3,B9,vad,BH,A9]
 all_goals first
  | exact ⟨by omega,by omega⟩
  | (have h1:=BG h1; have h2:=BG h2; omega)
theorem aG (s t:BA):(F1 s t).size≤s.size:=by
 unfold F1;cases O2 s t with
 | true=>
  rw [DJ,vbd];omega
 | false=>exact AX _
theorem zcw {s:BA} (h:s.size < 4294967281):KR (UV s)=true:=by
 unfold KR UV;rw [CU];intro x hx;obtain ⟨w,hw,rfl⟩:=CK.1 hx
 have:=(X1 PN _ (aF s)).2 w hw
 have h2:(aF s).size≤s.size:=aG s PN;refine AE ?_;show w.size < 4294967281;omega
abbrev o9:KP:=⟨[0,2,3,4,6,7,28,29],[2,6,15],[]⟩
abbrev jX:KP:=⟨[0,2,3,4,6],[2,6,15,500],[⟨.cell 6 5,500,88,true,[.z,.list false [.int .u64]]⟩]⟩
abbrev Cc:KP:=⟨[0,2,3,4,6,10,61,62],[2,6,10,15,500,501],[⟨.cell 6 5,500,88,true,[.z,.list false [.int .u64]]⟩,⟨.cell 10 1,501,103,false,[.int .u64]⟩]⟩
abbrev aJ (s:BA) (W:LI) (C i d c b0 b1 b2:Int) (L:LI):St:=
 ⟨[(0,(.str s)),(2,(.ptr 2 0 0)),(3,(.bool false)),(4,(.ptr 15 0 0)),(6,(.ptr 6 0 0)),(7,(.list false [.str] W)),(28,(.int .i64 C)),(29,(.int .i64 i))],[(2,(some (.box [(.int .i64 0),(.int .i64 0),(.int .i64 0),(.int .i64 0),(.int .i64 0),.zs]))),(6,(some (.box [(.int .i64 d),(.int .i64 c),(.int .i64 b0),(.int .i64 b1),(.int .i64 b2),.zs]))),(15,(some (.box [(.list false [.str] L)])))]⟩
theorem YY (N:Nat) (s:BA) (W:LI) (hW:∀ i,(DX W i).size < 4294967281) (C:Int) (i:Nat) (hi:(i:Int) < C) (h3:i < 3) (d c b0 b1 b2:Int) (L:LI) (again:St→DP) (k:Out→St→DP) :
  FG (HN N) (DL JL [1,1,1,1,1,0,1,0,0]) (aJ s W C (i:Int) d c b0 b1 b2 L) (EW again o9 k) =
   again (aJ s W C ((i+1:Nat):Int) d c (cond (BQ i 0) (GE (DX W (1+i))) b0) (cond (BQ i 1) (GE (DX W (1+i))) b1) (cond (BQ i 2) (GE (DX W (1+i))) b2) L):=by
 rw [gL];have ei:AA AB ((i:Int)+1)=((i+1:Nat):Int):=by
  rw [EO (by omega) (by omega)];omega
 have ei':AA AB (1+(i:Int))=((1+i:Nat):Int):=by
  rw [EO (by omega) (by omega)];omega
 rw [ei,ei',BD,AE hi,DJ,AE (show (0:Int)≤((1+i:Nat):Int) by omega),DJ,AE (hW (1+i)),DJ]
 match i,h3 with
 | 0,_=>rfl
 | 1,_=>rfl
 | 2,_=>rfl
theorem Tq (N:Nat) (s:BA) (LS W:LI) (hWe:W=E1 (LS.drop 1)) (hW:∀ i,(DX W i).size < 4294967281) (C:Int) (h0:0≤C) (h3:C≤3) (hN:10≤N) (d c:Int) (L:LI) (K:Out→St→DP) :
  D0 (HN N) (DL JL [1,1,1,1,1,0,1,0,0]) o9 N (aJ s W C 0 d c 0 0 0 L) K=K (.exit 0) (aJ s W C C d c (LO LS C 0) (LO LS C 1) (LO LS C 2) L):=by
 obtain ⟨M,rfl⟩:∃ M,N=M+4:=⟨N - 4,by omega⟩;obtain ⟨n,rfl⟩:∃ n:Nat,C=(n:Int):=⟨C.toNat,by omega⟩;subst hWe;have e0:aJ s (E1 (LS.drop 1)) (n:Int) 0 d c 0 0 0 L=aJ s (E1 (LS.drop 1)) (n:Int) ((0:Nat):Int) d c 0 0 0 L:=rfl;rw [e0]
 match n,h3 with
 | 0,_=>
  rw [EA,gL,AL (show ¬ ((0:Nat):Int) < ((0:Nat):Int) by omega),DK];rfl
 | 1,_=>
  rw [EA,YY (M+4) s _ hW _ 0 (by omega) (by omega),EA,gL,AL (show ¬ ((0+1:Nat):Int) < ((1:Nat):Int) by omega),DK];rfl
 | 2,_=>
  rw [EA,YY (M+4) s _ hW _ 0 (by omega) (by omega),EA,YY (M+4) s _ hW _ 1 (by omega) (by omega),EA,gL,AL (show ¬ ((1+1:Nat):Int) < ((2:Nat):Int) by omega),DK];rfl
 | 3,_=>
  rw [EA,YY (M+4) s _ hW _ 0 (by omega) (by omega),EA,YY (M+4) s _ hW _ 1 (by omega) (by omega),EA,YY (M+4) s _ hW _ 2 (by omega) (by omega),EA,gL,AL (show ¬ ((2+1:Nat):Int) < ((3:Nat):Int) by omega),DK];rfl
 | n+4,h3=>exact absurd h3 (by omega)
abbrev uO (s:BA) (d c b0 b1 b2:Int) (L T:LI) (cl k j:Int) (NL:LI):St:=
 ⟨[(0,(.str s)),(2,(.ptr 2 0 0)),(3,(.bool false)),(4,(.ptr 15 0 0)),(6,(.ptr 6 0 0)),(10,(.ptr 10 0 0)),(61,(.int .i64 k)),(62,(.int .i64 j))],[(2,(some (.box [(.int .i64 0),(.int .i64 0),(.int .i64 0),(.int .i64 0),(.int .i64 0),.zs]))),(6,(some (.box [(.int .i64 d),(.int .i64 c),(.int .i64 b0),(.int .i64 b1),(.int .i64 b2),(.row 500 0 T.length)]))),(10,(some (.box [(.int .i64 cl),(.row 501 0 NL.length)]))),(15,(some (.box [(.list false [.str] L)]))),(500,(some (.row true 88 true [.z,(.list false [(.int .u64)])] T))),(501,(some (.row true 103 false [(.int .u64)] NL)))]⟩
theorem zfZ (L:LI) (j:Nat):M2 L (j+1)=M2 L j++[.int (IY (NT (E1 (L.drop j))))]:=by
 unfold M2;rw [List.range_succ,List.map_append];rfl
theorem f3 (L:LI) (j:Nat):(M2 L j).length=j:=by
 unfold M2;rw [BK,List.length_range]
theorem Eo (N:Nat) (s:BA) (d c b0 b1 b2:Int) (T L:LI) (hL:KR L=true) (cl:Int) (k:Nat) (hk:k≤31) (K:Out→St→DP):∀ (m j n:Nat),j+m=k→m < n →
  D0 (HN N) (DL JL [1,1,1,1,1,1,0,0,0,1,0,1,1,0,1,0,0]) Cc n (uO s d c b0 b1 b2 (L.drop j) T cl (k:Int) (j:Int) (M2 L j)) K =
   K (.exit 4) (uO s d c b0 b1 b2 (L.drop k) T cl (k:Int) (k:Int) (M2 L k))
 | m,j,0,_,h=>absurd h (by omega)
 | 0,j,n+1,hd,_=>by
  have hj:j=k:=by omega
  subst hj;rw [EA,Mr,AL (show ¬ (j:Int) < (j:Int) by omega),DK]
 | m+1,j,n+1,hd,hn=>by
  have ej:AA AB ((j:Int)+1)=((j+1:Nat):Int):=by
   rw [EO (by omega) (by omega)];omega
  have eb:TI.bytes (Env.tyd (HN N) 103)=8:=rfl;have e1:∀ x:IV,AG (AT 0 (AK 1 [x]))=1:=fun x=>rfl
  have e2:∀ x:IV,AT 0 (AK 1 [x])=[x]:=fun x=>rfl
  rw [EA,Mr,ej,eb,e1,e2,AE (show (j:Int) < (k:Int) by omega),DJ,XN hL j,DJ,f3,AE (show (j+1)*8≤EG by unfold EG; omega),DJ];have e3:AK j (M2 L j)=M2 L j:=CV (by rw [f3]; omega);rw [e3,← zfZ,List.drop_drop];have ih:=Eo N s d c b0 b1 b2 T L hL cl k hk K m (j+1) n (by omega) (by omega);unfold uO at ih ⊢;rw [f3] at ih;exact ih
abbrev l9 (s:BA) (d c b0 b1 b2:Int) (L T:LI):St:=
 ⟨[(0,(.str s)),(2,(.ptr 2 0 0)),(3,(.bool false)),(4,(.ptr 15 0 0)),(6,(.ptr 6 0 0))],[(2,(some (.box [(.int .i64 0),(.int .i64 0),(.int .i64 0),(.int .i64 0),(.int .i64 0),.zs]))),(6,(some (.box [(.int .i64 d),(.int .i64 c),(.int .i64 b0),(.int .i64 b1),(.int .i64 b2),(.row 500 0 T.length)]))),(15,(some (.box [(.list false [.str] L)]))),(500,(some (.row true 88 true [.z,(.list false [(.int .u64)])] T)))]⟩
theorem Od (N:Nat) (hN:40≤N) (s:BA) (d c b0 b1 b2:Int) (K:Out→St→DP):∀ (m n:Nat) (L T:LI),KR L=true→T.length+m=9→m < n →
  ∃ L',D0 (HN N) (DL JL [1,1,1,1,1,1,0,0,0]) jX n (l9 s d c b0 b1 b2 L T) K=K (.exit 2) (l9 s d c b0 b1 b2 L' (T++LP m L))
 | m,0,L,T,_,_,h=>absurd h (by omega)
 | m,n+1,[],T,hL,hT,hn=>by
  refine ⟨[],?_⟩;have e:LP m []=[]:=by cases m <;> rfl
  rw [EA,tF,AL (show ¬ ic (AG ([]:LI)) > 0 by decide),DK,e,C9]
 | 0,n+1,l :: L,T,hL,hT,hn=>by
  refine ⟨l :: L,?_⟩;rw [EA,tF,AE (show ic (AG (l :: L)) > 0 by simp only [ic,AM]; omega),DJ,AL (show ¬ ic (T.length - 0)≤8 by simp only [ic]; omega),DK];show K (.exit 2) _=K (.exit 2) (l9 s d c b0 b1 b2 (l :: L) (T++[]));rw [C9]
 | m+1,n+1,l :: L,T,hL,hT,hn=>by
  obtain ⟨k0,k1⟩:=y9 (DX (E1 (l :: L)) 2) (most:=31) (by omega);have hk:FQ (DX (E1 (l :: L)) 2) 31=((M1 (l :: L):Nat):Int):=by unfold M1; omega
  have hLd:=XN hL 1;have hk31:M1 (l :: L)≤31:=by unfold M1; omega
  have e2:AF 2=2:=rfl;have e1:AF 1=1:=rfl;rw [EA,tF,AE (show ic (AG (l :: L)) > 0 by simp only [ic,AM]; omega),DJ,AE (show ic (T.length - 0)≤8 by simp only [ic]; omega),DJ,hL,DJ,e2,e1,hk];have run:=Eo N s d c b0 b1 b2 T (AT 1 (l :: L)) hLd (FQ (DX (E1 (l :: L)) 1) 3) (M1 (l :: L)) hk31
   (DS 4 (DT (HN N) (DL JL [1,1,1,1,1,1,0,0,0,1,0,1,1,1]) (DS 3 (EW (fun s'=>D0 (HN N) (DL JL [1,1,1,1,1,1,0,0,0]) jX n s' K) jX K)))) (M1 (l :: L)) 0 N (by omega) (by omega)
  have eb:TI.bytes (Env.tyd (HN N) 88)=32:=rfl;have e3:∀ x:IV,AG (AT 0 (AK 1 [x]))=1:=fun x=>rfl
  have e4:∀ x:IV,AT 0 (AK 1 [x])=[x]:=fun x=>rfl
  rw [Yp,eb,e3,e4,AE (show (T.length+1)*32≤EG by unfold EG; omega),DJ,f3] at run;have e5:AK T.length T=T:=CV (AX _);have e6:AT 0 (AK (M1 (l :: L)) (M2 (AT 1 (l :: L)) (M1 (l :: L))))=M2 (AT 1 (l :: L)) (M1 (l :: L)):=by
   rw [B5,CV (by rw [f3]; omega)]
  rw [e5,e6] at run;obtain ⟨L',hL'⟩:=Od N hN s d c b0 b1 b2 K m n (AT (M1 (l :: L)) (AT 1 (l :: L))) (T++[Z0 (l :: L)]) (XN hLd _) (by rw [AS,AM,A7]; omega) (by omega);refine ⟨L',?_⟩;have e7:T++LP (m+1) (l :: L)=T++[Z0 (l :: L)]++LP m (AT (M1 (l :: L)) (AT 1 (l :: L))):=by
   rw [va1];rfl
  rw [e7,← hL'];refine Eq.trans ?_ (run.trans ?_)
  ·rfl
  ·have e8:(T++[Z0 (l :: L)]).length=T.length+1:=by rw [AS]; rfl
   unfold l9;rw [e8];rfl
set_option maxHeartbeats 1000000 in
theorem Kj:DY PR B0 19 WM:=by
 refine D7 [(46,ND),(47,SG),(20,PS),(49,WN),(48,WO),(52,dK),(51,WP),(50,WQ)] [(6,o9),(10,jX),(14,Cc)] WM [[.z,.z,.z,.z,.z,.list true [.z,.list false [.int .u64]]],[.bool]] Tryz.func19 zbH ⟨aC,sW,lC,Kk,Kl,zh8,Km,Kn,trivial⟩ ?_;intro vs r hwf h;unfold WM at h;split at h
 ·rename_i s;cases hc:decide (s.size < 4294967281) with
  | false=>rw [hc] at h; simp [R.get] at h
  | true=>
   rw [hc,R.get_br,DJ,R.get_ok] at h;have hs:=of_decide_eq_true hc;refine ⟨40,?_⟩;rw [← h];refine (zeu 40 s).trans ?_;have hok:=zcw hs;have e0:List.map IV.str (D3 (F1 s { data:=#[10] }) { data:=#[10] })=UV s:=rfl;have e1:decide (1≤ByteArray.size { data:=#[10] })=true:=rfl;have ts:=aG s PN;have e2:Int.toNat 2=2:=rfl;have e3:Int.toNat 1=1:=rfl;rw [e0,e1,e2,e3,decide_eq_true (show ByteArray.size (F1 s { data:=#[10] }) < 4294967281 from Nat.lt_of_le_of_lt ts hs),Bool.and_self,DJ,hok,DJ,XN hok 1,DJ];generalize hLS:UV s=LS at hok ⊢;obtain ⟨c0,c3⟩:=y9 (DX (E1 LS) 2) (most:=3) (by omega);refine (Tq 40 s LS (E1 (LS.drop 1)) rfl (pW (XN hok 1)) (FQ (DX (E1 LS) 2) 3) c0 c3 (by omega) (FQ (DX (E1 LS) 1) 4) (FQ (DX (E1 LS) 2) 3) (List.drop 1 (List.drop 1 LS)) _).trans ?_;rw [Yn];obtain ⟨L',hL'⟩:=Od 40 (by omega) s (FQ (DX (E1 LS) 1) 4) (FQ (DX (E1 LS) 2) 3) (LO LS (FQ (DX (E1 LS) 2) 3) 0) (LO LS (FQ (DX (E1 LS) 2) 3) 1) (LO LS (FQ (DX (E1 LS) 2) 3) 2)
    (DS 2 (DT (HN 40) (DL JL [1,1,1,1,1,1,1]) (DV (HN 40) none [(ResultVar.cell 2 30),(ResultVar.tmp 3)] [[.z,.z,.z,.z,.z,(.list true [.z,(.list false [(.int .u64)])])],[.bool]])))
    9 40 (List.drop 1 (List.drop 1 LS)) [] (XN (XN hok 1) 1) rfl (by omega)
   refine hL'.trans ?_;rw [Yo];have e4:([]:LI)++LP 9 (List.drop 1 (List.drop 1 LS))=LP 9 (LS.drop 2):=by
    rw [List.nil_append,List.drop_drop]
   have e5:List.drop 0 (List.take (([]:LI)++LP 9 (List.drop 1 (List.drop 1 LS))).length (([]:LI)++LP 9 (List.drop 1 (List.drop 1 LS))))=LP 9 (LS.drop 2):=by
    rw [List.drop_zero,List.take_of_length_le (Nat.le_refl _),e4]
   rw [e5];have e6:(⟨FQ (DX (E1 LS) 1) 4,FQ (DX (E1 LS) 2) 3,LO LS (FQ (DX (E1 LS) 2) 3) 0,LO LS (FQ (DX (E1 LS) 2) 3) 1,LO LS (FQ (DX (E1 LS) 2) 3) 2,LP 9 (LS.drop 2)⟩:Md)=Y5 s:=by
    unfold Y5;rw [hLS];rfl
   unfold GH KE;rw [← e6];cases (ByteArray.toList s==ByteArray.toList VK) with
   | true=>rfl
   | false=>
    rw [DK,Bool.not_false,Bool.true_and];cases (ByteArray.toList (EC ⟨FQ (DX (E1 LS) 1) 4,FQ (DX (E1 LS) 2) 3,LO LS (FQ (DX (E1 LS) 2) 3) 0,LO LS (FQ (DX (E1 LS) 2) 3) 1,LO LS (FQ (DX (E1 LS) 2) 3) 2,LP 9 (LS.drop 2)⟩)==ByteArray.toList s) <;> rfl
 ·simp [R.get] at h
open Go Go.Proofs
def Pm (N:Nat):Env:=D6 [] [] 39 N
theorem zcT (N:Nat) (u04 u01 u06 u05 u08 u07 u0a u09 u0c u0b u0e u0d q_Lo q_Hi u03:Int) (u02:Bool) (u00 dim:Int):D1 (Pm N) wB [.cell 4 38] [[.z,.z,.z,.z,.z,.z,.z,.z,.z,.z,.z,.z,.z,.z,.z,.bool,.z]] [.agg [.i u04,.i u01,.i u06,.i u05,.i u08,.i u07,.i u0a,.i u09,.i u0c,.i u0b,.i u0e,.i u0d,.i q_Lo,.i q_Hi,.i u03,.bool u02,.i u00],.i dim]=(cond (decide (0≤dim)&&decide (dim≤ic 5)) (cond (decide (0≤dim)&&decide (dim≤ic 5)) (cond (decide (ic (min (AF dim) (AF dim))=ic 0)) (cond (u04==1) (some ((.agg [.i u04,.i u01,.i 0,.i 0,.i 0,.i 0,.i 0,.i 0,.i 0,.i 0,.i 0,.i 0,.i q_Lo,.i q_Hi,.i 0,.bool false,.i u00]),[])) (cond (u04==3) (some ((.agg [.i u04,.i u01,.i 0,.i 0,.i 0,.i 0,.i 0,.i 0,.i 0,.i 0,.i 0,.i 0,.i 0,.i 0,.i u03,.bool u02,.i u00]),[])) (some ((.agg [.i u04,.i u01,.i 0,.i 0,.i 0,.i 0,.i 0,.i 0,.i 0,.i 0,.i 0,.i 0,.i 0,.i 0,.i 0,.bool false,.i u00]),[])))) (cond (decide (ic (min (AF dim) (AF dim))=ic 1)) (cond (u04==1) (some ((.agg [.i u04,.i u01,.i u06,.i u05,.i 0,.i 0,.i 0,.i 0,.i 0,.i 0,.i 0,.i 0,.i q_Lo,.i q_Hi,.i 0,.bool false,.i u00]),[])) (cond (u04==3) (some ((.agg [.i u04,.i u01,.i u06,.i u05,.i 0,.i 0,.i 0,.i 0,.i 0,.i 0,.i 0,.i 0,.i 0,.i 0,.i u03,.bool u02,.i u00]),[])) (some ((.agg [.i u04,.i u01,.i u06,.i u05,.i 0,.i 0,.i 0,.i 0,.i 0,.i 0,.i 0,.i 0,.i 0,.i 0,.i 0,.bool false,.i u00]),[])))) (cond (decide (ic (min (AF dim) (AF dim))=ic 2)) (cond (u04==1) (some ((.agg [.i u04,.i u01,.i u06,.i u05,.i u08,.i u07,.i 0,.i 0,.i 0,.i 0,.i 0,.i 0,.i q_Lo,.i q_Hi,.i 0,.bool false,.i u00]),[])) (cond (u04==3) (some ((.agg [.i u04,.i u01,.i u06,.i u05,.i u08,.i u07,.i 0,.i 0,.i 0,.i 0,.i 0,.i 0,.i 0,.i 0,.i u03,.bool u02,.i u00]),[])) (some ((.agg [.i u04,.i u01,.i u06,.i u05,.i u08,.i u07,.i 0,.i 0,.i 0,.i 0,.i 0,.i 0,.i 0,.i 0,.i 0,.bool false,.i u00]),[])))) (cond (decide (ic (min (AF dim) (AF dim))=ic 3)) (cond (u04==1) (some ((.agg [.i u04,.i u01,.i u06,.i u05,.i u08,.i u07,.i u0a,.i u09,.i 0,.i 0,.i 0,.i 0,.i q_Lo,.i q_Hi,.i 0,.bool false,.i u00]),[])) (cond (u04==3) (some ((.agg [.i u04,.i u01,.i u06,.i u05,.i u08,.i u07,.i u0a,.i u09,.i 0,.i 0,.i 0,.i 0,.i 0,.i 0,.i u03,.bool u02,.i u00]),[])) (some ((.agg [.i u04,.i u01,.i u06,.i u05,.i u08,.i u07,.i u0a,.i u09,.i 0,.i 0,.i 0,.i 0,.i 0,.i 0,.i 0,.bool false,.i u00]),[])))) (cond (decide (ic (min (AF dim) (AF dim))=ic 4)) (cond (u04==1) (some ((.agg [.i u04,.i u01,.i u06,.i u05,.i u08,.i u07,.i u0a,.i u09,.i u0c,.i u0b,.i 0,.i 0,.i q_Lo,.i q_Hi,.i 0,.bool false,.i u00]),[])) (cond (u04==3) (some ((.agg [.i u04,.i u01,.i u06,.i u05,.i u08,.i u07,.i u0a,.i u09,.i u0c,.i u0b,.i 0,.i 0,.i 0,.i 0,.i u03,.bool u02,.i u00]),[])) (some ((.agg [.i u04,.i u01,.i u06,.i u05,.i u08,.i u07,.i u0a,.i u09,.i u0c,.i u0b,.i 0,.i 0,.i 0,.i 0,.i 0,.bool false,.i u00]),[])))) (cond (decide (ic (min (AF dim) (AF dim))=ic 5)) (cond (u04==1) (some ((.agg [.i u04,.i u01,.i u06,.i u05,.i u08,.i u07,.i u0a,.i u09,.i u0c,.i u0b,.i u0e,.i u0d,.i q_Lo,.i q_Hi,.i 0,.bool false,.i u00]),[])) (cond (u04==3) (some ((.agg [.i u04,.i u01,.i u06,.i u05,.i u08,.i u07,.i u0a,.i u09,.i u0c,.i u0b,.i u0e,.i u0d,.i 0,.i 0,.i u03,.bool u02,.i u00]),[])) (some ((.agg [.i u04,.i u01,.i u06,.i u05,.i u08,.i u07,.i u0a,.i u09,.i u0c,.i u0b,.i u0e,.i u0d,.i 0,.i 0,.i 0,.bool false,.i u00]),[])))) none)))))) none) none):=by kernel_rfl
def Pl (N:Nat):Env:=D6 [] [] 9 N
theorem zcS (N:Nat) (n:Int):D1 (Pl N) wA [.tmp 2] [[.bool]] [.i n]=(cond (decide (n≥0)) (some ((.bool (decide (n≤1073741824))),[])) (some ((.bool false),[]))):=by kernel_rfl
def Pj (N:Nat):Env:=D6 [(90,Q1)] [] 11 N
theorem zcP (N:Nat) (s:BA):D1 (Pj N) v6 [.tmp 2] [[.z]] [.str s]=(some ((.i (FK s)),[])):=by kernel_rfl
def Pk (N:Nat):Env:=D6 [(91,WA)] [] 11 N
theorem zcR (N:Nat) (s:BA):D1 (Pk N) v8 [.tmp 2] [[.z]] [.str s]=(cond (decide (AD s < 4294967281)) (some ((.i (GE s)),[])) none):=by kernel_rfl
def Q0 (N:Nat):Env:=D6 [] [(2,⟨[0,1,4,7,8],[],[]⟩)] 19 N
abbrev VY (l0:LI) (s1:BA) (x4 x7 x8:Int):St:=⟨[(0,(.list false [.str] l0)),(1,(.str s1)),(4,(.i x4)),(7,(.i x7)),(8,(.i x8))],[]⟩
theorem zen (N:Nat) (s:LI) (v:BA):D1 (Q0 N) UN [.tmp 4] [[.z]] [.list false [.str] s,.str v]=(D0 (Q0 N) (DL UN [1,0,1,0,0]) ⟨[0,1,4,7,8],[],[]⟩ N (VY s v 0 (ic (AG s)) 0) (DS 0 (DT (Q0 N) (DL UN [1,1]) (DV (Q0 N) none [.tmp 4] [[.z]])))):=by kernel_rfl
theorem Mq (N:Nat) (l0:LI) (s1:BA) (x4 x7 x8:Int) (again:St→DP) (k:Out→St→DP):FG (Q0 N) (DL UN [1,0,1,0,0]) (VY l0 s1 x4 x7 x8) (EW again ⟨[0,1,4,7,8],[],[]⟩ k)=(cond (decide (x8 < x7)) (cond (decide (0≤x8)&&decide (x8 < ic (AG l0))) (cond (AZ s1==AZ (IV.toStr (AI l0 (AF x8) default))) (k .ret (VY l0 s1 x8 x7 x8)) (again (VY l0 s1 x4 x7 (AA AB (x8+1))))) none) (k (.exit 0) (VY l0 s1 x4 x7 x8))):=by kernel_rfl
theorem Yl (N:Nat) (l0:LI) (s1:BA) (x4 x7 x8:Int):(DS 0 (DT (Q0 N) (DL UN [1,1]) (DV (Q0 N) none [.tmp 4] [[.z]]))) (.exit 0) (VY l0 s1 x4 x7 x8)=(some ((.i (-1)),[])):=by kernel_rfl
theorem Ym (N:Nat) (l0:LI) (s1:BA) (x4 x7 x8:Int):(DS 0 (DT (Q0 N) (DL UN [1,1]) (DV (Q0 N) none [.tmp 4] [[.z]]))) .ret (VY l0 s1 x4 x7 x8)=(some ((.i x4),[])):=by kernel_rfl
def mD (N:Nat):Env:=D6 [(121,V3),(120,V4),(161,g8)] [] 46 N
theorem zcQ (N:Nat) (l:LI):D1 (mD N) v7 [.cell 2 38] [[.z,.z,.z,.z,.z,.z,.z,.z,.z,.z,.z,.z,.z,.z,.z,.bool,.z]] [.list false [.str] l]=(cond (decide (AG l≤4294967296)) (cond (decide ((AG l+AG (BN (AF 6) (IV.str {data:=#[]})))*TI.bytes (Env.tyd (mD N) 9)≤EG)) (cond (decide (0≤1)&&decide (1 < ic (AG l+AG (BN (AF 6) (IV.str {data:=#[]})) - 0))) (cond (decide (0≤0)&&decide (0 < ic (AG l+AG (BN (AF 6) (IV.str {data:=#[]})) - 0))) (cond (AZ (IV.toStr (AI (AK (AG l) l++BN (AF 6) (IV.str {data:=#[]})) 0 default))==AZ {data:=#[114,97,110,103,101]}) (cond (decide (0≤3)&&decide (3 < ic (AG l+AG (BN (AF 6) (IV.str {data:=#[]})) - 0))) (cond (decide (AD (IV.toStr (AI (AK (AG l) l++BN (AF 6) (IV.str {data:=#[]})) 3 default)) < 4294967281)) (cond (decide (0≤5)&&decide (5 < ic (AG l+AG (BN (AF 6) (IV.str {data:=#[]})) - 0))) (cond (decide (AD (IV.toStr (AI (AK (AG l) l++BN (AF 6) (IV.str {data:=#[]})) 5 default)) < 4294967281)) (some ((.agg [.i 1,(.i (FK (IV.toStr (AI (AK (AG l) l++BN (AF 6) (IV.str {data:=#[]})) 1 default)))),.i 0,.i 0,.i 0,.i 0,.i 0,.i 0,.i 0,.i 0,.i 0,.i 0,(.i (GE (IV.toStr (AI (AK (AG l) l++BN (AF 6) (IV.str {data:=#[]})) 3 default)))),(.i (GE (IV.toStr (AI (AK (AG l) l++BN (AF 6) (IV.str {data:=#[]})) 5 default)))),.i 0,.bool false,.i 0]),[])) none) none) none) none) (cond (AZ (IV.toStr (AI (AK (AG l) l++BN (AF 6) (IV.str {data:=#[]})) 0 default))==AZ {data:=#[98,101,115,116]}) (some ((.agg [.i 2,(.i (FK (IV.toStr (AI (AK (AG l) l++BN (AF 6) (IV.str {data:=#[]})) 1 default)))),.i 0,.i 0,.i 0,.i 0,.i 0,.i 0,.i 0,.i 0,.i 0,.i 0,.i 0,.i 0,.i 0,.bool false,.i 0]),[])) (cond (AZ (IV.toStr (AI (AK (AG l) l++BN (AF 6) (IV.str {data:=#[]})) 0 default))==AZ {data:=#[114,105,115,101,115]}) (cond (decide (0≤3)&&decide (3 < ic (AG l+AG (BN (AF 6) (IV.str {data:=#[]})) - 0))) (cond (decide (0≤0)&&decide (0 < ic (AG l+AG (BN (AF 6) (IV.str {data:=#[]})) - 0))) (some ((.agg [.i 3,(.i (FK (IV.toStr (AI (AK (AG l) l++BN (AF 6) (IV.str {data:=#[]})) 1 default)))),.i 0,.i 0,.i 0,.i 0,.i 0,.i 0,.i 0,.i 0,.i 0,.i 0,.i 0,.i 0,(.i (FK (IV.toStr (AI (AK (AG l) l++BN (AF 6) (IV.str {data:=#[]})) 3 default)))),(.bool (AZ (IV.toStr (AI (AK (AG l) l++BN (AF 6) (IV.str {data:=#[]})) 0 default))==AZ {data:=#[102,97,108,108,115]})),.i 0]),[])) none) none) (cond (AZ (IV.toStr (AI (AK (AG l) l++BN (AF 6) (IV.str {data:=#[]})) 0 default))==AZ {data:=#[102,97,108,108,115]}) (cond (decide (0≤3)&&decide (3 < ic (AG l+AG (BN (AF 6) (IV.str {data:=#[]})) - 0))) (cond (decide (0≤0)&&decide (0 < ic (AG l+AG (BN (AF 6) (IV.str {data:=#[]})) - 0))) (some ((.agg [.i 3,(.i (FK (IV.toStr (AI (AK (AG l) l++BN (AF 6) (IV.str {data:=#[]})) 1 default)))),.i 0,.i 0,.i 0,.i 0,.i 0,.i 0,.i 0,.i 0,.i 0,.i 0,.i 0,.i 0,(.i (FK (IV.toStr (AI (AK (AG l) l++BN (AF 6) (IV.str {data:=#[]})) 3 default)))),(.bool (AZ (IV.toStr (AI (AK (AG l) l++BN (AF 6) (IV.str {data:=#[]})) 0 default))==AZ {data:=#[102,97,108,108,115]})),.i 0]),[])) none) none) (some ((.agg [.i 0,(.i (FK (IV.toStr (AI (AK (AG l) l++BN (AF 6) (IV.str {data:=#[]})) 1 default)))),.i 0,.i 0,.i 0,.i 0,.i 0,.i 0,.i 0,.i 0,.i 0,.i 0,.i 0,.i 0,.i 0,.bool false,.i 0]),[])))))) none) none) none) none):=by kernel_rfl
open Go Go.Proofs
theorem zgS:DY PR B0 42 aW:=by
 refine D7 [] [] aW [[.bool]] Tryz.func42 Zt trivial ?_;intro vs r hwf h;unfold aW at h;split at h
 ·rename_i n;refine ⟨0,?_⟩;rw [← h];refine (zcS 0 n).trans ?_;simp only [R.get_ok];unfold KC
  have:decide (n≥0)=decide (0≤n):=rfl
  rw [this];cases decide (0≤n) <;> rfl
 ·simp [R.get] at h
theorem Ji:DY PR B0 121 V3:=by
 refine D7 [(90,Q1)] [] V3 [[.z]] Tryz.func121 Zq ⟨lB,trivial⟩ ?_;intro vs r hwf h;unfold V3 at h;split at h
 ·rename_i s;refine ⟨0,?_⟩;rw [← h];exact zcP 0 s
 ·simp [R.get] at h
theorem Jj:DY PR B0 120 V4:=by
 refine D7 [(91,WA)] [] V4 [[.z]] Tryz.func120 Zs ⟨Jp,trivial⟩ ?_;intro vs r hwf h;unfold V4 at h;split at h
 ·rename_i s;refine ⟨0,?_⟩;rw [← h];refine (zcR 0 s).trans ?_;simp only [R.get_br,R.get_ok,R.get_no]
 ·simp [R.get] at h
theorem zgT:DY PR B0 41 aX:=by
 refine D7 [] [] aX [[.z,.z,.z,.z,.z,.z,.z,.z,.z,.z,.z,.z,.z,.z,.z,.bool,.z]] Tryz.func41 Zu trivial ?_;intro vs r hwf h;unfold aX at h;split at h
 ·rename_i k c a0 b0 a1 b1 a2 b2 a3 b3 a4 b4 lo hi ft fl bu d;refine ⟨0,?_⟩;cases hc:(decide (0≤d)&&decide (d≤5)) with
  | false=>rw [hc] at h; simp [R.get] at h
  | true=>
   rw [hc,R.get_br,DJ,R.get_ok] at h;rw [← h];refine (zcT 0 k c a0 b0 a1 b1 a2 b2 a3 b3 a4 b4 lo hi ft fl bu d).trans ?_;have e5:(decide (0≤d)&&decide (d≤ic 5))=true:=hc;rw [e5,DJ,DJ];simp only [AH,AQ] at hc;obtain ⟨n,rfl⟩:∃ n:Nat,d=n:=⟨d.toNat,by omega⟩;simp only [BD,Nat.min_self];unfold FZ;have hn:n=0∨n=1∨n=2∨n=3∨n=4∨n=5:=by omega
   have h13:(k==1)=true→(k==3)=false:=fun h1=>by
    rw [T9] at h1 ⊢
    have:=A1 h1
    exact AL (by omega)
   generalize (k==1)=e1 at h13 ⊢;generalize (k==3)=e3 at h13 ⊢;rcases hn with rfl | rfl | rfl | rfl | rfl | rfl <;> cases e1 <;> cases e3 <;> first | rfl | exact absurd (h13 rfl) (by decide)
 ·simp [R.get] at h
theorem Bm (N:Nat) (l:LI) (s:BA) (hl:l.length≤strMax) (K:Out→St→DP)
  (hx:∀ l0 s1 x4 x7 x8,K (.exit 0) ⟨[(0,(.list false [.str] l0)),(1,(.str s1)),(4,(.int .i64 x4)),(7,(.int .i64 x7)),(8,(.int .i64 x8))],[]⟩=some (.int .i64 (-1),[]))
  (hr:∀ l0 s1 x4 x7 x8,K .ret ⟨[(0,(.list false [.str] l0)),(1,(.str s1)),(4,(.int .i64 x4)),(7,(.int .i64 x7)),(8,(.int .i64 x8))],[]⟩=some (.int .i64 x4,[])) :
  ∀ (d i n:Nat) (x4:Int),i+d=l.length→d < n →
   D0 (Q0 N) (DL UN [1,0,1,0,0]) ⟨[0,1,4,7,8],[],[]⟩ n ⟨[(0,(.list false [.str] l)),(1,(.str s)),(4,(.int .i64 x4)),(7,(.int .i64 (ic l.length))),(8,(.int .i64 (i:Int)))],[]⟩ K=some (.int .i64 (F7 (l.drop i) s (i:Int)),[])
 | 0,i,n+1,x4,hd,hn=>by
  rw [EA,Mq,J5 (by omega),DK,hx,CR (by omega)];rfl
 | d+1,i,n+1,x4,hd,hn=>by
  have hi:i < l.length:=by omega
  unfold strMax at hl;have ih:=Bm N l s (by unfold strMax; omega) K hx hr d (i+1) n x4 (by omega) (by omega);rw [EA,Mq,IK hi,JP,B9,DJ,DJ,JB hi,HR (by omega),BF hi];unfold F7;cases (AZ s==AZ (IV.toStr l[i])) with
  | true=>rw [DJ,DJ,hr]
  | false=>
   rw [DK,DK,ih];rfl
 | _,_,0,_,_,h=>by omega
theorem zh0:DY PR B0 118 dH:=by
 refine D7 [] [(2,⟨[0,1,4,7,8],[],[]⟩)] dH [[.z]] Tryz.func118 zbA trivial ?_;intro vs r hwf h;unfold dH at h;split at h
 ·rename_i l s;refine ⟨l.length+1,?_⟩;rw [← h];refine (zen (l.length+1) l s).trans ?_;simp only [R.get_ok];have hl:=(hwf (by simp [MG])).1;simp only [RW,wfL] at hl
  have:=Bm (l.length+1) l s hl.1 _ (fun l0 s1 x4 x7 x8=>Yl (l.length+1) l0 s1 x4 x7 x8) (fun l0 s1 x4 x7 x8=>Ym (l.length+1) l0 s1 x4 x7 x8) l.length 0 (l.length+1) 0 (by omega) (by omega)
  rw [B5] at this;exact this
 ·simp [R.get] at h
theorem zfn (l:LI) (i m:Nat) (x:IV) (hx:x.toStr=CJ):IV.toStr (AI (l++BN m x) i default)=DX l i:=by
 unfold DX;by_cases h:i < l.length
 ·simp [AI,vae,h]
 ·have e0:(AI l i default).toStr=CJ:=by simp [AI,h]; rfl
  rw [e0];by_cases h6:i - l.length < m
  ·have e:AI (l++BN m x) i default=x:=by simp [AI,vae,h,h6]
   rw [e,hx]
  ·have e:AI (l++BN m x) i default=default:=by simp [AI,vae,h,h6]
   rw [e];rfl
theorem zfo (l:LI) (i:Nat):IV.toStr (AI (AK (AG l) l++BN (AF 6) (IV.str { data:=#[] })) i default)=DX l i:=by
 rw [BR];exact zfn l i _ _ rfl
theorem zgR:DY PR B0 119 aV:=by
 refine D7 [(121,V3),(120,V4),(161,g8)] [] aV [[.z,.z,.z,.z,.z,.z,.z,.z,.z,.z,.z,.z,.z,.z,.z,.bool,.z]] Tryz.func119 Zr
  ⟨Ji,Jj,zhX,trivial⟩ ?_
 intro vs r hwf h;unfold aV at h;split at h
 ·rename_i l;refine ⟨0,?_⟩;cases hc:(decide (l.length≤4294967290)&&l.all (fun x=>decide (x.toStr.size < 4294967281))) with
  | false=>rw [hc] at h; simp [R.get] at h
  | true=>
   rw [hc,R.get_br,DJ,R.get_ok] at h;rw [← h];refine (zcQ 0 l).trans ?_;simp only [AH,AQ,CU] at hc;obtain ⟨hl,hz⟩:=hc;have hw:∀ i,(DX l i).size < 4294967281:=fun i=>by
    unfold DX;by_cases hi:i < l.length
    ·have:AI l i default=l[i]:=by simp [hi]
     rw [this];exact hz _ (C1 hi)
    ·have:AI l i default=default:=by simp [AI,hi]
     rw [this];decide
   have hb:TI.bytes (Env.tyd (mD 0) 9)=16:=by rfl
   have hr6:(BN (AF 6) (IV.str { data:=#[] })).length=6:=rfl;simp only [zfo];rw [hb,hr6];have ge:∀ k:Nat,k < 6→decide ((k:Int) < ic (AG l+6 - 0))=true:=fun k hk=>AE (by simp only [ic]; omega)
   have g0:=ge 0 (by omega);have g1:=ge 1 (by omega);have g3:=ge 3 (by omega);have g5:=ge 5 (by omega);rw [AE (show AG l≤4294967296 by omega),DJ,AE (show (AG l+6)*16≤EG by unfold EG; omega),DJ];have n0:decide ((0:Nat)≤0)=true:=rfl;have d1:(decide (0≤1)&&decide (1 < ic (AG l+6 - 0)))=true:=by simpa using g1
   have d0:(decide (0≤0)&&decide (0 < ic (AG l+6 - 0)))=true:=by simpa using g0
   have d3:(decide (0≤3)&&decide (3 < ic (AG l+6 - 0)))=true:=by simpa using g3
   have d5:(decide (0≤5)&&decide (5 < ic (AG l+6 - 0)))=true:=by simpa using g5
   rw [d1,d0,d3,d5,AE (hw 3),AE (hw 5)];simp only [DJ];unfold EN;cases ((DX l 0).toList==M9.toList) with
   | true=>rfl
   | false=>
    cases ((DX l 0).toList==OK.toList) with
    | true=>rfl
    | false=>
     cases ((DX l 0).toList==NA.toList) <;> cases ((DX l 0).toList==ML.toList) <;> rfl
 ·simp [R.get] at h
open Go Go.Proofs
def HI (N:Nat):Env:=D6 [(42,aW),(41,aX),(44,SE),(43,OT),(45,YT)] [(18,⟨[2,4,6,75,76,77],[2,500],[⟨.tmp 6,500,9,false,[.str]⟩]⟩)] 100 N
abbrev ON (s4:BA) (n6 n75:Nat) (x76 x77 u02 u03 u0a u0b u0c u0d u0e u0f u0g u0h u04 u05 u06 u07 u08:Int) (u00:Bool) (u09:Int) (u01:LI):St:=⟨[(2,(.ptr 2 0 0)),(4,(.str s4)),(6,(.row 500 0 n6)),(75,(.bview 2 2 5 2 n75)),(76,(.i x76)),(77,(.i x77))],[(2,(some (.box [.i u02,.i u03,.i u0a,.i u0b,.i u0c,.i u0d,.i u0e,.i u0f,.i u0g,.i u0h,.i u04,.i u05,.i u06,.i u07,.i u08,.bool u00,.i u09]))),(500,(some (.row true 9 false [.str] u01)))]⟩
theorem zcO (N:Nat) (u04 u01 u06 u05 u08 u07 u0a u09 u0c u0b u0e u0d q_Lo q_Hi u03:Int) (u02:Bool) (u00 a1:Int):D1 (HI N) L4 [.tmp 4] [[.str]] [.agg [.i u04,.i u01,.i u06,.i u05,.i u08,.i u07,.i u0a,.i u09,.i u0c,.i u0b,.i u0e,.i u0d,.i q_Lo,.i q_Hi,.i u03,.bool u02,.i u00],.i a1]=(cond (decide (a1 < 1)) (some ((.str ({data:=#[]})),[])) (cond (decide (a1 > 4)) (some ((.str ({data:=#[]})),[])) (cond (decide (0≤a1)&&decide (a1≤5)) (cond (! (u04==Qy.k (FZ {k:=u04,c:=u01,a0:=u06,b0:=u05,a1:=u08,b1:=u07,a2:=u0a,b2:=u09,a3:=u0c,b3:=u0b,a4:=u0e,b4:=u0d,lo:=q_Lo,hi:=q_Hi,ft:=u03,fl:=u02,bu:=u00} a1)&&(u01==Qy.c (FZ {k:=u04,c:=u01,a0:=u06,b0:=u05,a1:=u08,b1:=u07,a2:=u0a,b2:=u09,a3:=u0c,b3:=u0b,a4:=u0e,b4:=u0d,lo:=q_Lo,hi:=q_Hi,ft:=u03,fl:=u02,bu:=u00} a1)&&(u06==Qy.a0 (FZ {k:=u04,c:=u01,a0:=u06,b0:=u05,a1:=u08,b1:=u07,a2:=u0a,b2:=u09,a3:=u0c,b3:=u0b,a4:=u0e,b4:=u0d,lo:=q_Lo,hi:=q_Hi,ft:=u03,fl:=u02,bu:=u00} a1)&&(u05==Qy.b0 (FZ {k:=u04,c:=u01,a0:=u06,b0:=u05,a1:=u08,b1:=u07,a2:=u0a,b2:=u09,a3:=u0c,b3:=u0b,a4:=u0e,b4:=u0d,lo:=q_Lo,hi:=q_Hi,ft:=u03,fl:=u02,bu:=u00} a1)&&(u08==Qy.a1 (FZ {k:=u04,c:=u01,a0:=u06,b0:=u05,a1:=u08,b1:=u07,a2:=u0a,b2:=u09,a3:=u0c,b3:=u0b,a4:=u0e,b4:=u0d,lo:=q_Lo,hi:=q_Hi,ft:=u03,fl:=u02,bu:=u00} a1)&&(u07==Qy.b1 (FZ {k:=u04,c:=u01,a0:=u06,b0:=u05,a1:=u08,b1:=u07,a2:=u0a,b2:=u09,a3:=u0c,b3:=u0b,a4:=u0e,b4:=u0d,lo:=q_Lo,hi:=q_Hi,ft:=u03,fl:=u02,bu:=u00} a1)&&(u0a==Qy.a2 (FZ {k:=u04,c:=u01,a0:=u06,b0:=u05,a1:=u08,b1:=u07,a2:=u0a,b2:=u09,a3:=u0c,b3:=u0b,a4:=u0e,b4:=u0d,lo:=q_Lo,hi:=q_Hi,ft:=u03,fl:=u02,bu:=u00} a1)&&(u09==Qy.b2 (FZ {k:=u04,c:=u01,a0:=u06,b0:=u05,a1:=u08,b1:=u07,a2:=u0a,b2:=u09,a3:=u0c,b3:=u0b,a4:=u0e,b4:=u0d,lo:=q_Lo,hi:=q_Hi,ft:=u03,fl:=u02,bu:=u00} a1)&&(u0c==Qy.a3 (FZ {k:=u04,c:=u01,a0:=u06,b0:=u05,a1:=u08,b1:=u07,a2:=u0a,b2:=u09,a3:=u0c,b3:=u0b,a4:=u0e,b4:=u0d,lo:=q_Lo,hi:=q_Hi,ft:=u03,fl:=u02,bu:=u00} a1)&&(u0b==Qy.b3 (FZ {k:=u04,c:=u01,a0:=u06,b0:=u05,a1:=u08,b1:=u07,a2:=u0a,b2:=u09,a3:=u0c,b3:=u0b,a4:=u0e,b4:=u0d,lo:=q_Lo,hi:=q_Hi,ft:=u03,fl:=u02,bu:=u00} a1)&&(u0e==Qy.a4 (FZ {k:=u04,c:=u01,a0:=u06,b0:=u05,a1:=u08,b1:=u07,a2:=u0a,b2:=u09,a3:=u0c,b3:=u0b,a4:=u0e,b4:=u0d,lo:=q_Lo,hi:=q_Hi,ft:=u03,fl:=u02,bu:=u00} a1)&&(u0d==Qy.b4 (FZ {k:=u04,c:=u01,a0:=u06,b0:=u05,a1:=u08,b1:=u07,a2:=u0a,b2:=u09,a3:=u0c,b3:=u0b,a4:=u0e,b4:=u0d,lo:=q_Lo,hi:=q_Hi,ft:=u03,fl:=u02,bu:=u00} a1)&&(q_Lo==Qy.lo (FZ {k:=u04,c:=u01,a0:=u06,b0:=u05,a1:=u08,b1:=u07,a2:=u0a,b2:=u09,a3:=u0c,b3:=u0b,a4:=u0e,b4:=u0d,lo:=q_Lo,hi:=q_Hi,ft:=u03,fl:=u02,bu:=u00} a1)&&(q_Hi==Qy.hi (FZ {k:=u04,c:=u01,a0:=u06,b0:=u05,a1:=u08,b1:=u07,a2:=u0a,b2:=u09,a3:=u0c,b3:=u0b,a4:=u0e,b4:=u0d,lo:=q_Lo,hi:=q_Hi,ft:=u03,fl:=u02,bu:=u00} a1)&&(u03==Qy.ft (FZ {k:=u04,c:=u01,a0:=u06,b0:=u05,a1:=u08,b1:=u07,a2:=u0a,b2:=u09,a3:=u0c,b3:=u0b,a4:=u0e,b4:=u0d,lo:=q_Lo,hi:=q_Hi,ft:=u03,fl:=u02,bu:=u00} a1)&&(u02==Qy.fl (FZ {k:=u04,c:=u01,a0:=u06,b0:=u05,a1:=u08,b1:=u07,a2:=u0a,b2:=u09,a3:=u0c,b3:=u0b,a4:=u0e,b4:=u0d,lo:=q_Lo,hi:=q_Hi,ft:=u03,fl:=u02,bu:=u00} a1)&&(u00==Qy.bu (FZ {k:=u04,c:=u01,a0:=u06,b0:=u05,a1:=u08,b1:=u07,a2:=u0a,b2:=u09,a3:=u0c,b3:=u0b,a4:=u0e,b4:=u0d,lo:=q_Lo,hi:=q_Hi,ft:=u03,fl:=u02,bu:=u00} a1)&&true)))))))))))))))))) (some ((.str ({data:=#[]})),[])) (cond (!KC u01) (some ((.str ({data:=#[]})),[])) (cond (!KC u03) (some ((.str ({data:=#[]})),[])) (cond (!KC u00) (some ((.str ({data:=#[]})),[])) (cond (u04==1) (cond (decide (0≤a1)&&decide (a1≤ic 5)) (D0 (HI N) (DL L4 [1,1,1,1,1,1,0,1,0,0]) ⟨[2,4,6,75,76,77],[2,500],[⟨(.tmp 6),500,9,false,[.str]⟩]⟩ N (ON ({data:=#[]}) 7 (AF a1) (ic (AF a1)) 0 u04 u01 u06 u05 u08 u07 u0a u09 u0c u0b u0e u0d q_Lo q_Hi u03 u02 u00 [(IV.str {data:=#[114,97,110,103,101]}),(IV.str (DQ u01)),(IV.str {data:=#[102,114,111,109]}),(IV.str (DU q_Lo)),(IV.str {data:=#[116,111]}),(IV.str (DU q_Hi)),(IV.str {data:=#[105,110]})]) (DS 1 (DT (HI N) (DL L4 [1,1,1,1,1,1,1]) (DV (HI N) none [.tmp 4] [[.str]])))) none) (cond (u04==2) (cond (decide (0≤a1)&&decide (a1≤ic 5)) (D0 (HI N) (DL L4 [1,1,1,1,1,1,0,1,0,0]) ⟨[2,4,6,75,76,77],[2,500],[⟨(.tmp 6),500,9,false,[.str]⟩]⟩ N (ON ({data:=#[]}) 3 (AF a1) (ic (AF a1)) 0 u04 u01 u06 u05 u08 u07 u0a u09 u0c u0b u0e u0d q_Lo q_Hi u03 u02 u00 [(IV.str {data:=#[98,101,115,116]}),(IV.str (DQ u01)),(IV.str {data:=#[105,110]})]) (DS 1 (DT (HI N) (DL L4 [1,1,1,1,1,1,1]) (DV (HI N) none [.tmp 4] [[.str]])))) none) (cond (u04==3) (cond u02 (cond (decide (0≤a1)&&decide (a1≤ic 5)) (D0 (HI N) (DL L4 [1,1,1,1,1,1,0,1,0,0]) ⟨[2,4,6,75,76,77],[2,500],[⟨(.tmp 6),500,9,false,[.str]⟩]⟩ N (ON ({data:=#[]}) 5 (AF a1) (ic (AF a1)) 0 u04 u01 u06 u05 u08 u07 u0a u09 u0c u0b u0e u0d q_Lo q_Hi u03 u02 u00 [(IV.str {data:=#[102,97,108,108,115]}),(IV.str (DQ u01)),(IV.str {data:=#[98,121]}),(IV.str (DQ u03)),(IV.str {data:=#[105,110]})]) (DS 1 (DT (HI N) (DL L4 [1,1,1,1,1,1,1]) (DV (HI N) none [.tmp 4] [[.str]])))) none) (cond (decide (0≤a1)&&decide (a1≤ic 5)) (D0 (HI N) (DL L4 [1,1,1,1,1,1,0,1,0,0]) ⟨[2,4,6,75,76,77],[2,500],[⟨(.tmp 6),500,9,false,[.str]⟩]⟩ N (ON ({data:=#[]}) 5 (AF a1) (ic (AF a1)) 0 u04 u01 u06 u05 u08 u07 u0a u09 u0c u0b u0e u0d q_Lo q_Hi u03 u02 u00 [(IV.str {data:=#[114,105,115,101,115]}),(IV.str (DQ u01)),(IV.str {data:=#[98,121]}),(IV.str (DQ u03)),(IV.str {data:=#[105,110]})]) (DS 1 (DT (HI N) (DL L4 [1,1,1,1,1,1,1]) (DV (HI N) none [.tmp 4] [[.str]])))) none)) (some ((.str ({data:=#[]})),[]))))))))) none))):=by kernel_rfl
theorem Ll (N:Nat) (s4:BA) (n6 n75:Nat) (x76 x77 u02 u03 u0a u0b u0c u0d u0e u0f u0g u0h u04 u05 u06 u07 u08:Int) (u00:Bool) (u09:Int) (u01:LI) (again:St→DP) (k:Out→St→DP):FG (HI N) (DL L4 [1,1,1,1,1,1,0,1,0,0]) (ON s4 n6 n75 x76 x77 u02 u03 u0a u0b u0c u0d u0e u0f u0g u0h u04 u05 u06 u07 u08 u00 u09 u01) (EW again ⟨[2,4,6,75,76,77],[2,500],[⟨(.tmp 6),500,9,false,[.str]⟩]⟩ k)=(cond (decide (x77 < x76)) (cond (decide (x77 < ic n75)) (cond (decide (x77=ic 0)) (cond (decide (AD (DU u0a)+AD {data:=#[46,46]}≤strMax)) (cond (decide (AD (DU u0a++{data:=#[46,46]})+AD (DU u0b)≤strMax)) (cond (decide ((n6+AG (AT 0 (AK 1 [IV.str (DU u0a++{data:=#[46,46]}++DU u0b)])))*TI.bytes (Env.tyd (HI N) 9)≤EG)) (again (ON s4 (n6+AG (AT 0 (AK 1 [IV.str (DU u0a++{data:=#[46,46]}++DU u0b)]))) n75 x76 (AA AB (x77+1)) u02 u03 u0a u0b u0c u0d u0e u0f u0g u0h u04 u05 u06 u07 u08 u00 u09 (AK n6 u01++AT 0 (AK 1 [IV.str (DU u0a++{data:=#[46,46]}++DU u0b)])))) none) none) none) (cond (decide (x77=ic 1)) (cond (decide (AD (DU u0c)+AD {data:=#[46,46]}≤strMax)) (cond (decide (AD (DU u0c++{data:=#[46,46]})+AD (DU u0d)≤strMax)) (cond (decide ((n6+AG (AT 0 (AK 1 [IV.str (DU u0c++{data:=#[46,46]}++DU u0d)])))*TI.bytes (Env.tyd (HI N) 9)≤EG)) (again (ON s4 (n6+AG (AT 0 (AK 1 [IV.str (DU u0c++{data:=#[46,46]}++DU u0d)]))) n75 x76 (AA AB (x77+1)) u02 u03 u0a u0b u0c u0d u0e u0f u0g u0h u04 u05 u06 u07 u08 u00 u09 (AK n6 u01++AT 0 (AK 1 [IV.str (DU u0c++{data:=#[46,46]}++DU u0d)])))) none) none) none) (cond (decide (x77=ic 2)) (cond (decide (AD (DU u0e)+AD {data:=#[46,46]}≤strMax)) (cond (decide (AD (DU u0e++{data:=#[46,46]})+AD (DU u0f)≤strMax)) (cond (decide ((n6+AG (AT 0 (AK 1 [IV.str (DU u0e++{data:=#[46,46]}++DU u0f)])))*TI.bytes (Env.tyd (HI N) 9)≤EG)) (again (ON s4 (n6+AG (AT 0 (AK 1 [IV.str (DU u0e++{data:=#[46,46]}++DU u0f)]))) n75 x76 (AA AB (x77+1)) u02 u03 u0a u0b u0c u0d u0e u0f u0g u0h u04 u05 u06 u07 u08 u00 u09 (AK n6 u01++AT 0 (AK 1 [IV.str (DU u0e++{data:=#[46,46]}++DU u0f)])))) none) none) none) (cond (decide (x77=ic 3)) (cond (decide (AD (DU u0g)+AD {data:=#[46,46]}≤strMax)) (cond (decide (AD (DU u0g++{data:=#[46,46]})+AD (DU u0h)≤strMax)) (cond (decide ((n6+AG (AT 0 (AK 1 [IV.str (DU u0g++{data:=#[46,46]}++DU u0h)])))*TI.bytes (Env.tyd (HI N) 9)≤EG)) (again (ON s4 (n6+AG (AT 0 (AK 1 [IV.str (DU u0g++{data:=#[46,46]}++DU u0h)]))) n75 x76 (AA AB (x77+1)) u02 u03 u0a u0b u0c u0d u0e u0f u0g u0h u04 u05 u06 u07 u08 u00 u09 (AK n6 u01++AT 0 (AK 1 [IV.str (DU u0g++{data:=#[46,46]}++DU u0h)])))) none) none) none) (cond (decide (x77=ic 4)) (cond (decide (AD (DU u04)+AD {data:=#[46,46]}≤strMax)) (cond (decide (AD (DU u04++{data:=#[46,46]})+AD (DU u05)≤strMax)) (cond (decide ((n6+AG (AT 0 (AK 1 [IV.str (DU u04++{data:=#[46,46]}++DU u05)])))*TI.bytes (Env.tyd (HI N) 9)≤EG)) (again (ON s4 (n6+AG (AT 0 (AK 1 [IV.str (DU u04++{data:=#[46,46]}++DU u05)]))) n75 x76 (AA AB (x77+1)) u02 u03 u0a u0b u0c u0d u0e u0f u0g u0h u04 u05 u06 u07 u08 u00 u09 (AK n6 u01++AT 0 (AK 1 [IV.str (DU u04++{data:=#[46,46]}++DU u05)])))) none) none) none) none))))) none) (k (.exit 1) (ON s4 n6 n75 x76 x77 u02 u03 u0a u0b u0c u0d u0e u0f u0g u0h u04 u05 u06 u07 u08 u00 u09 u01))):=by kernel_rfl
theorem Wq (N:Nat) (s4:BA) (n6 n75:Nat) (x76 x77 u02 u03 u0a u0b u0c u0d u0e u0f u0g u0h u04 u05 u06 u07 u08:Int) (u00:Bool) (u09:Int) (u01:LI):(DS 1 (DT (HI N) (DL L4 [1,1,1,1,1,1,1]) (DV (HI N) none [.tmp 4] [[.str]]))) (.exit 1) (ON s4 n6 n75 x76 x77 u02 u03 u0a u0b u0c u0d u0e u0f u0g u0h u04 u05 u06 u07 u08 u00 u09 u01)=(cond (decide ((n6+AG (AT 0 (AK 2 [IV.str {data:=#[98,117,100,103,101,116]},IV.str (DQ u09)])))*TI.bytes (Env.tyd (HI N) 9)≤EG)) (cond (decide (AG (AT 0 (AK (n6+AG (AT 0 (AK 2 [IV.str {data:=#[98,117,100,103,101,116]},IV.str (DQ u09)]))) (AK n6 u01++AT 0 (AK 2 [IV.str {data:=#[98,117,100,103,101,116]},IV.str (DQ u09)]))))≤strMax)&&decide (AD (GO (A4 IV.toStr (AT 0 (AK (n6+AG (AT 0 (AK 2 [IV.str {data:=#[98,117,100,103,101,116]},IV.str (DQ u09)]))) (AK n6 u01++AT 0 (AK 2 [IV.str {data:=#[98,117,100,103,101,116]},IV.str (DQ u09)]))))) {data:=#[32]})≤strMax)) (some ((.str (GO (A4 IV.toStr (AT 0 (AK (n6+AG (AT 0 (AK 2 [IV.str {data:=#[98,117,100,103,101,116]},IV.str (DQ u09)]))) (AK n6 u01++AT 0 (AK 2 [IV.str {data:=#[98,117,100,103,101,116]},IV.str (DQ u09)]))))) {data:=#[32]})),[])) none) none):=by kernel_rfl
open Go
theorem Bu (l:List BA) (h:∀ w∈l,w.size≤100):(GO l FI).size≤101*l.length:=by
 have hs:(GO l FI).size=(va4 (l.map (·.data.toList)) [32]).length:=by
  show (Array.size (List.toArray _))=_;rw [C7]
 rw [hs];cases l with
 | nil=>simp [Lib.join_nil]
 | cons x r=>
  rw [A0,Lib.join_length]
  have:∀ (r:List BA),(∀ w∈r,w.size≤100)→Lib.lens (r.map (·.data.toList))≤100*r.length:=fun r=>by
   induction r with
   | nil=>intro _; simp [Lib.lens]
   | cons y r ih=>
    intro h;have h1:=h y (AN ..);rw [S9] at h1;have h2:=ih (fun w hw=>h w (AW _ hw));rw [A0,AM];simp only [Lib.lens,A0,vba] at h2 ⊢;omega
  have:=this (x :: r) h
  rw [A0] at this;simp only [AM,BK,A7] at this ⊢;omega
theorem Ky {a b:Int} (ha:EF a) (hb:EF b):(M8 a b).size≤82:=by
 unfold M8;have h1:=(XQ a ha).2;have h2:=(XQ b hb).2;have h3:AD aI=2:=rfl;rw [AY,AY,h3];omega
theorem o4 {n:Int} (h:EF n):(DQ n).size≤21:=ZL h.1 h.2
structure Qy.In (q:Qy):Prop where
 k:EF q.k
 c:EF q.c
 a0:EF q.a0
 b0:EF q.b0
 a1:EF q.a1
 b1:EF q.b1
 a2:EF q.a2
 b2:EF q.b2
 a3:EF q.a3
 b3:EF q.b3
 a4:EF q.a4
 b4:EF q.b4
 lo:EF q.lo
 hi:EF q.hi
 ft:EF q.ft
 bu:EF q.bu
open Go Go.Proofs
abbrev mZ (q:Qy):Ob:=.box [.int .i64 q.k,.int .i64 q.c,.int .i64 q.a0,.int .i64 q.b0,.int .i64 q.a1,.int .i64 q.b1,.int .i64 q.a2,.int .i64 q.b2,.int .i64 q.a3,.int .i64 q.b3,.int .i64 q.a4,.int .i64 q.b4,.int .i64 q.lo,.int .i64 q.hi,.int .i64 q.ft,.bool q.fl,.int .i64 q.bu]
abbrev lH (q:Qy) (s4:BA) (W:LI) (D:Nat) (i:Int):St:=⟨[(2,(.ptr 2 0 0)),(4,(.str s4)),(6,(.row 500 0 W.length)),(75,(.bview 2 2 5 2 D)),(76,(.int .i64 (ic D))),(77,(.int .i64 i))],[(2,(some (mZ q))),(500,(some (.row true 9 false [.str] W)))]⟩
theorem Nf (N:Nat):TI.bytes (Env.tyd (HI N) 9)=16:=by rfl
theorem zfE (N:Nat) (q:Qy) (hq:q.In) (s4:BA) (W:LI) (hW:W.length≤20) (hs:∀ w∈W,w.toStr.size≤100) (D:Nat) (i:Int) :
  (DS 1 (DT (HI N) (DL L4 [1,1,1,1,1,1,1]) (DV (HI N) none [(CF 4)] [[.str]]))) (.exit 1) (lH q s4 W D i)=some (.str (GO (W.map IV.toStr++[VH,DQ q.bu]) FI),[]):=by
 refine (Wq N s4 W.length D (ic D) i q.k q.c q.a0 q.b0 q.a1 q.b1 q.a2 q.b2 q.a3 q.b3 q.a4 q.b4 q.lo q.hi q.ft q.fl q.bu W).trans ?_;have e2:(AT 0 (AK 2 [IV.str { data:=#[98,117,100,103,101,116] },IV.str (DQ q.bu)]))=[IV.str { data:=#[98,117,100,103,101,116] },IV.str (DQ q.bu)]:=rfl;rw [Nf,e2,BR];have e3:AT 0 (AK (W.length+AG [IV.str { data:=#[98,117,100,103,101,116] },IV.str (DQ q.bu)]) (W++[IV.str { data:=#[98,117,100,103,101,116] },IV.str (DQ q.bu)]))=W++[IV.str { data:=#[98,117,100,103,101,116] },IV.str (DQ q.bu)]:=by
  rw [B5,CV (by simp)]
 rw [e3];have e4:A4 IV.toStr (W++[IV.str { data:=#[98,117,100,103,101,116] },IV.str (DQ q.bu)])=W.map IV.toStr++[VH,DQ q.bu]:=by simp [IV.toStr]
 rw [e4];have hz:=Bu (W.map IV.toStr++[VH,DQ q.bu]) (fun w hw=>by
  rcases AV.1 hw with h | h
  ·obtain ⟨x,hx,rfl⟩:=CK.1 h;exact hs x hx
  ·simp only [AP,BX,CP] at h;rcases h with rfl | rfl
   ·decide
   ·have:=o4 hq.bu
    omega)
 simp only [AS,BK,AM,A7] at hz ⊢;rw [AE (show (W.length+(0+1+1))*16≤EG by unfold EG; omega),DJ,AE (show W.length+(0+1+1)≤strMax by unfold strMax; omega),
  AE (show AD (GO (W.map IV.toStr++[VH,DQ q.bu]) { data:=#[32] })≤strMax from C2 hz (by unfold strMax; omega)),B9,DJ]
def lD (a b:Int):IV:=.str (M8 a b)
theorem zfG (N:Nat) (q:Qy) (s4:BA) (W:LI) (hW:W.length≤20) (D i:Nat) (hiD:i < D) (a b:Int) (again:St→DP) (k:Out→St→DP) (ha:EF a) (hb:EF b)
  (hab:(i=0∧a=q.a0∧b=q.b0)∨(i=1∧a=q.a1∧b=q.b1)∨(i=2∧a=q.a2∧b=q.b2)∨(i=3∧a=q.a3∧b=q.b3)) :
  FG (HI N) (DL L4 [1,1,1,1,1,1,0,1,0,0]) (lH q s4 W D (i:Int)) (EW again ⟨[2,4,6,75,76,77],[2,500],[⟨.tmp 6,500,9,false,[.str]⟩]⟩ k)=again (lH q s4 (W++[lD a b]) D ((i+1:Nat):Int)):=by
 refine (Ll N s4 W.length D (ic D) i q.k q.c q.a0 q.b0 q.a1 q.b1 q.a2 q.b2 q.a3 q.b3 q.a4 q.b4 q.lo q.hi q.ft q.fl q.bu W again k).trans ?_;have d1:decide ((i:Int) < ic D)=true:=AE (by simp only [ic]; omega);rw [d1,DJ,DJ];have h3:AD { data:=#[46,46] }=2:=rfl;have sz:∀ x y:Int,EF x→EF y→decide (AD (DU x)+AD { data:=#[46,46] }≤strMax)=true∧decide (AD (DU x++{ data:=#[46,46] })+AD (DU y)≤strMax)=true:=fun x y hx hy=>by
  have h1:=(XQ x hx).2;have h2:=(XQ y hy).2;refine ⟨AE (by rw [h3]; unfold strMax; omega),AE (by rw [AY,h3]; unfold strMax; omega)⟩
 have e1:∀ x:IV,(AT 0 (AK 1 [x]))=[x]:=fun _=>rfl
 have g16:∀ x:IV,decide ((W.length+AG [x])*TI.bytes (Env.tyd (HI N) 9)≤EG)=true:=fun x=>AE (by rw [Nf]; simp only [AM,A7]; unfold EG; omega)
 have hl:∀ x:IV,W.length+AG [x]=(W++[x]).length:=fun x=>by simp
 obtain ⟨s1,s2⟩:=sz a b ha hb;simp only [e1,g16,DJ,BR];rcases hab with ⟨rfl,rfl,rfl⟩ | ⟨rfl,rfl,rfl⟩ | ⟨rfl,rfl,rfl⟩ | ⟨rfl,rfl,rfl⟩
 ·rw [s1,s2,show decide (((0:Nat):Int)=ic 0)=true from rfl,DJ,DJ,DJ,hl];rfl
 ·rw [s1,s2,show decide (((1:Nat):Int)=ic 0)=false from rfl,show decide (((1:Nat):Int)=ic 1)=true from rfl,DK,DJ,DJ,DJ,hl];rfl
 ·rw [s1,s2,show decide (((2:Nat):Int)=ic 0)=false from rfl,show decide (((2:Nat):Int)=ic 1)=false from rfl,show decide (((2:Nat):Int)=ic 2)=true from rfl,DK,DK,DJ,DJ,DJ,hl];rfl
 ·rw [s1,s2,show decide (((3:Nat):Int)=ic 0)=false from rfl,show decide (((3:Nat):Int)=ic 1)=false from rfl,show decide (((3:Nat):Int)=ic 2)=false from rfl,show decide (((3:Nat):Int)=ic 3)=true from rfl,DK,DK,DK,DJ,DJ,DJ,hl];rfl
theorem Gl (N:Nat) (q:Qy) (hq:q.In) (s4:BA) (D:Nat) (hD:D≤4) :
  ∀ (d i n:Nat) (W:LI),i+d=D→d < n→W.length+d≤20→(∀ w∈W,w.toStr.size≤100) →
   D0 (HI N) (DL L4 [1,1,1,1,1,1,0,1,0,0]) ⟨[2,4,6,75,76,77],[2,500],[⟨.tmp 6,500,9,false,[.str]⟩]⟩ n (lH q s4 W D (i:Int)) (DS 1 (DT (HI N) (DL L4 [1,1,1,1,1,1,1]) (DV (HI N) none [(CF 4)] [[.str]]))) =
    some (.str (GO (W.map IV.toStr++(((q.spans.take D).drop i).map fun s=>M8 s.1 s.2)++[VH,DQ q.bu]) FI),[])
 | 0,i,n+1,W,hd,hn,hW,hs=>by
  have hi:i=D:=by omega
  rw [EA];refine (Ll N s4 W.length D (ic D) i q.k q.c q.a0 q.b0 q.a1 q.b1 q.a2 q.b2 q.a3 q.b3 q.a4 q.b4 q.lo q.hi q.ft q.fl q.bu W _ _).trans ?_;rw [AL (show ¬ (i:Int) < ic D by simp only [ic]; omega),DK];refine (zfE N q hq s4 W (by omega) hs D i).trans ?_;rw [CR (by rw [BC]; omega)];simp
 | d+1,i,n+1,W,hd,hn,hW,hs=>by
  obtain ⟨a,b,ha,hb,hab,hsp⟩:∃ a b,EF a∧EF b∧((i=0∧a=q.a0∧b=q.b0)∨(i=1∧a=q.a1∧b=q.b1)∨(i=2∧a=q.a2∧b=q.b2)∨(i=3∧a=q.a3∧b=q.b3))∧(q.spans.take D).drop i=(a,b) :: (q.spans.take D).drop (i+1):=by
   have hi:i=0∨i=1∨i=2∨i=3:=by omega
   have hDD:D=0∨D=1∨D=2∨D=3∨D=4:=by omega
   rcases hi with rfl | rfl | rfl | rfl
   ·exact ⟨q.a0,q.b0,hq.a0,hq.b0,.inl ⟨rfl,rfl,rfl⟩,by rcases hDD with rfl | rfl | rfl | rfl | rfl <;> first | rfl | omega⟩
   ·exact ⟨q.a1,q.b1,hq.a1,hq.b1,.inr (.inl ⟨rfl,rfl,rfl⟩),by rcases hDD with rfl | rfl | rfl | rfl | rfl <;> first | rfl | omega⟩
   ·exact ⟨q.a2,q.b2,hq.a2,hq.b2,.inr (.inr (.inl ⟨rfl,rfl,rfl⟩)),by rcases hDD with rfl | rfl | rfl | rfl | rfl <;> first | rfl | omega⟩
   ·exact ⟨q.a3,q.b3,hq.a3,hq.b3,.inr (.inr (.inr ⟨rfl,rfl,rfl⟩)),by rcases hDD with rfl | rfl | rfl | rfl | rfl <;> first | rfl | omega⟩
  rw [EA,zfG N q s4 W (by omega) D i (by omega) a b _ _ ha hb hab,hsp];have ih:=Gl N q hq s4 D hD d (i+1) n (W++[lD a b]) (by omega) (by omega) (by simp only [AS,AM,A7]; omega) (fun w hw=>by
   rcases AV.1 hw with h | h
   ·exact hs w h
   ·rw [BJ] at h;subst h
    have:=Ky ha hb
    simp only [lD,IV.toStr];omega)
  refine ih.trans ?_;simp [lD,IV.toStr]
 | _,_,0,_,_,h,_,_=>by omega
theorem sI:DY PR B0 18 R6:=by
 refine D7 [(42,aW),(41,aX),(44,SE),(43,OT),(45,YT)] [(18,⟨[2,4,6,75,76,77],[2,500],[⟨.tmp 6,500,9,false,[.str]⟩]⟩)] R6 [[.str]] Tryz.func18 Zp
  ⟨zgS,zgT,sR,gH,Kh,trivial⟩ ?_
 intro vs r hwf h;unfold R6 at h;split at h
 ·rename_i k c a0 b0 a1 b1 a2 b2 a3 b3 a4 b4 lo hi ft fl bu d;refine ⟨20,?_⟩;rw [R.get_ok] at h;rw [← h];refine (zcO 20 k c a0 b0 a1 b1 a2 b2 a3 b3 a4 b4 lo hi ft fl bu d).trans ?_;have hb:=hwf (by simp [MG]);have hq:Qy.In ⟨k,c,a0,b0,a1,b1,a2,b2,a3,b3,a4,b4,lo,hi,ft,fl,bu⟩:=by
   have:=hb.1
   simp only [RW,wfLs,wfL,B7,vaA] at this;obtain ⟨h1,h2,h3,h4,h5,h6,h7,h8,h9,h10,h11,h12,h13,h14,h15,h16⟩:=this;exact ⟨h1,h2,h3,h4,h5,h6,h7,h8,h9,h10,h11,h12,h13,h14,h15,h16⟩
  show cond (decide (d < 1)) _ (cond (decide (d > 4)) _ (cond _ (cond (!(Qy.eq ⟨k,c,a0,b0,a1,b1,a2,b2,a3,b3,a4,b4,lo,hi,ft,fl,bu⟩ (FZ ⟨k,c,a0,b0,a1,b1,a2,b2,a3,b3,a4,b4,lo,hi,ft,fl,bu⟩ d))) _ _) _))=_;generalize hQ:(⟨k,c,a0,b0,a1,b1,a2,b2,a3,b3,a4,b4,lo,hi,ft,fl,bu⟩:Qy)=q at hq ⊢;unfold DZ MF;cases h1:decide (d < 1) with
  | true=>simp only [DJ,DK,A2,BM]
  | false=>
   cases h4:decide (d > 4) with
   | true=>simp only [DJ,DK,A2,A6,BM,vad]
   | false=>
    have h1:=BG h1;have h4:=BG h4;rw [AE (show 0≤d by omega),AE (show d≤5 by omega),AE (show d≤ic 5 by simp only [ic]; omega)];simp only [B9,DJ,DK,A6,A8];cases he:q.eq (FZ q d) with
    | false=>simp only [A6,DJ,DK,BM]
    | true=>
     have ec:q.c=c:=by rw [← hQ]
     have ef:q.ft=ft:=by rw [← hQ]
     have eb:q.bu=bu:=by rw [← hQ]
     have ek:q.k=k:=by rw [← hQ]
     rw [ec,ef,eb,ek];cases hc:KC c with
     | false=>simp only [A2,A6,DJ,DK,BM,A8]
     | true=>
      cases hf:KC ft with
      | false=>simp only [A2,A6,DJ,DK,BM,A8]
      | true=>
       cases hbu:KC bu with
       | false=>simp only [A2,A6,DJ,DK,BM,A8]
       | true=>
        simp only [A2,DK,A8];have hDn:d.toNat≤4:=by omega
        have run:=fun (W:LI) (hW:W.length≤16) (hs:∀ w∈W,w.toStr.size≤100)=>Gl 20 q hq ⟨#[]⟩ d.toNat hDn d.toNat 0 20 W (by omega) (by omega) (by omega) hs
        have zi:∀ {n:Int},EF n→(DQ n).size≤100:=fun h=>by have:=o4 h; omega
        have zp:∀ {n:Int},EF n→(DU n).size≤100:=fun h=>by have:=(XQ _ h).2; omega
        have fin:∀ (W:LI) (l:List BA),W.map IV.toStr=l++[NZ]→HV q=l→GO (W.map IV.toStr++(((q.spans.take d.toNat).drop 0).map fun s=>M8 s.1 s.2)++[VH,DQ q.bu]) FI=GO (IA q d.toNat) FI:=fun W l hWl hl=>by
         unfold IA;rw [hWl,hl,B5];simp
        subst hQ;cases k1:(k==1) with
        | true=>
         simp only [DJ,Bool.true_or];refine (run [IV.str M9,IV.str (DQ c),IV.str VI,IV.str (DU lo),IV.str VM,IV.str (DU hi),IV.str NZ] (by simp) (fun w hw=>?_)).trans ?_
         ·simp only [AP,BX,CP] at hw;rcases hw with rfl | rfl | rfl | rfl | rfl | rfl | rfl
          ·decide
          ·exact zi hq.c
          ·decide
          ·exact zp hq.lo
          ·decide
          ·exact zp hq.hi
          ·decide
         ·rw [fin _ [M9,DQ c,VI,DU lo,VM,DU hi] rfl (by unfold HV; simp only [k1,DJ])]
        | false=>
         simp only [DK,vax];cases k2:(k==2) with
         | true=>
          simp only [DJ,Bool.true_or];refine (run [IV.str OK,IV.str (DQ c),IV.str NZ] (by simp) (fun w hw=>?_)).trans ?_
          ·simp only [AP,BX,CP] at hw;rcases hw with rfl | rfl | rfl
           ·decide
           ·exact zi hq.c
           ·decide
          ·rw [fin _ [OK,DQ c] rfl (by unfold HV; simp only [k1,k2,DJ,DK])]
         | false=>
          simp only [DK,vax];cases k3:(k==3) with
          | false=>simp only [DK]
          | true=>
           simp only [DJ];cases fl with
           | true=>
            simp only [DJ];refine (run [IV.str ML,IV.str (DQ c),IV.str OL,IV.str (DQ ft),IV.str NZ] (by simp) (fun w hw=>?_)).trans ?_
            ·simp only [AP,BX,CP] at hw;rcases hw with rfl | rfl | rfl | rfl | rfl
             ·decide
             ·exact zi hq.c
             ·decide
             ·exact zi hq.ft
             ·decide
            ·rw [fin _ [ML,DQ c,OL,DQ ft] rfl (by unfold HV; simp only [k1,k2,DJ,DK])]
           | false=>
            simp only [DK];refine (run [IV.str NA,IV.str (DQ c),IV.str OL,IV.str (DQ ft),IV.str NZ] (by simp) (fun w hw=>?_)).trans ?_
            ·simp only [AP,BX,CP] at hw;rcases hw with rfl | rfl | rfl | rfl | rfl
             ·decide
             ·exact zi hq.c
             ·decide
             ·exact zi hq.ft
             ·decide
            ·rw [fin _ [NA,DQ c,OL,DQ ft] rfl (by unfold HV; simp only [k1,k2,DK])]
 ·simp [R.get] at h
open Go Go.Proofs
def PO (N:Nat):Env:=D6 [(18,R6),(121,V3),(119,aV),(120,V4),(118,dH),(104,T4),(46,ND)] [(9,⟨[0,2,3,4,5,7,8,9,45,46,47],[2,9],[]⟩)] 82 N
abbrev RZ (s0:BA) (x3:Int) (b4:Bool) (l5:LI) (x7 x8:Int) (l45:LI) (x46 x47 u02 u03 u0a u0b u0c u0d u0e u0f u0g u0h u04 u05 u06 u07 u08:Int) (u00:Bool) (u09 u0i u0j u0q u0r u0s u0t u0u u0v u0w u0x u0k u0l u0m u0n u0o:Int) (u01:Bool) (u0p:Int):St:=⟨[(0,(.str s0)),(2,(.ptr 2 0 0)),(3,(.i x3)),(4,(.bool b4)),(5,(.list false [.str] l5)),(7,(.i x7)),(8,(.i x8)),(9,(.ptr 9 0 0)),(45,(.list false [.str] l45)),(46,(.i x46)),(47,(.i x47))],[(2,(some (.box [.i u02,.i u03,.i u0a,.i u0b,.i u0c,.i u0d,.i u0e,.i u0f,.i u0g,.i u0h,.i u04,.i u05,.i u06,.i u07,.i u08,.bool u00,.i u09]))),(9,(some (.box [.i u0i,.i u0j,.i u0q,.i u0r,.i u0s,.i u0t,.i u0u,.i u0v,.i u0w,.i u0x,.i u0k,.i u0l,.i u0m,.i u0n,.i u0o,.bool u01,.i u0p])))]⟩
theorem zcN (N:Nat) (s:BA):D1 (PO N) SM [.cell 2 38,.tmp 3,.tmp 4] [[.z,.z,.z,.z,.z,.z,.z,.z,.z,.z,.z,.z,.z,.z,.z,.bool,.z],[.z],[.bool]] [.str s]=(cond (decide (AD s < 4294967281)&&decide (1≤AD {data:=#[32]})) (cond (decide (F7 (A4 IV.str (D3 s {data:=#[32]})) {data:=#[105,110]} 0 < 0)) (some ((.tup [.agg [.i 0,.i 0,.i 0,.i 0,.i 0,.i 0,.i 0,.i 0,.i 0,.i 0,.i 0,.i 0,.i 0,.i 0,.i 0,.bool false,.i 0],.i 0,.bool false]),[])) (cond (decide (AA AB (AA AB (AA AB (ic (AG (A4 IV.str (D3 s {data:=#[32]}))) - 2) - F7 (A4 IV.str (D3 s {data:=#[32]})) {data:=#[105,110]} 0) - 1) < 1)) (some ((.tup [.agg [.i 0,.i 0,.i 0,.i 0,.i 0,.i 0,.i 0,.i 0,.i 0,.i 0,.i 0,.i 0,.i 0,.i 0,.i 0,.bool false,.i 0],.i 0,.bool false]),[])) (cond (decide (AA AB (AA AB (AA AB (ic (AG (A4 IV.str (D3 s {data:=#[32]}))) - 2) - F7 (A4 IV.str (D3 s {data:=#[32]})) {data:=#[105,110]} 0) - 1) > 4)) (some ((.tup [.agg [.i 0,.i 0,.i 0,.i 0,.i 0,.i 0,.i 0,.i 0,.i 0,.i 0,.i 0,.i 0,.i 0,.i 0,.i 0,.bool false,.i 0],.i 0,.bool false]),[])) (cond (decide (0≤F7 (A4 IV.str (D3 s {data:=#[32]})) {data:=#[105,110]} 0)&&decide (F7 (A4 IV.str (D3 s {data:=#[32]})) {data:=#[105,110]} 0≤ic (AG (A4 IV.str (D3 s {data:=#[32]}))))) (cond (decide (AG (AT 0 (AK (AF (F7 (A4 IV.str (D3 s {data:=#[32]})) {data:=#[105,110]} 0)) (A4 IV.str (D3 s {data:=#[32]}))))≤4294967290)&&List.all (AT 0 (AK (AF (F7 (A4 IV.str (D3 s {data:=#[32]})) {data:=#[105,110]} 0)) (A4 IV.str (D3 s {data:=#[32]})))) fun x=>decide (AD (IV.toStr x) < 4294967281)) (cond (decide (0≤AA AB (F7 (A4 IV.str (D3 s {data:=#[32]})) {data:=#[105,110]} 0+1))&&(decide (AA AB (F7 (A4 IV.str (D3 s {data:=#[32]})) {data:=#[105,110]} 0+1)≤AA AB (ic (AG (A4 IV.str (D3 s {data:=#[32]}))) - 2))&&decide (AA AB (ic (AG (A4 IV.str (D3 s {data:=#[32]}))) - 2)≤ic (AG (A4 IV.str (D3 s {data:=#[32]})))))) (D0 (PO N) (DL SM [1,1,1,1,1,1,1,0,1,0,0]) ⟨[0,2,3,4,5,7,8,9,45,46,47],[2,9],[]⟩ N (RZ s 0 false (A4 IV.str (D3 s {data:=#[32]})) (AA AB (ic (AG (A4 IV.str (D3 s {data:=#[32]}))) - 2)) (AA AB (AA AB (AA AB (ic (AG (A4 IV.str (D3 s {data:=#[32]}))) - 2) - F7 (A4 IV.str (D3 s {data:=#[32]})) {data:=#[105,110]} 0) - 1)) (AT (AF (AA AB (F7 (A4 IV.str (D3 s {data:=#[32]})) {data:=#[105,110]} 0+1))) (AK (AF (AA AB (ic (AG (A4 IV.str (D3 s {data:=#[32]}))) - 2))) (A4 IV.str (D3 s {data:=#[32]})))) (ic (AG (AT (AF (AA AB (F7 (A4 IV.str (D3 s {data:=#[32]})) {data:=#[105,110]} 0+1))) (AK (AF (AA AB (ic (AG (A4 IV.str (D3 s {data:=#[32]}))) - 2))) (A4 IV.str (D3 s {data:=#[32]})))))) 0 0 0 0 0 0 0 0 0 0 0 0 0 0 0 0 false 0 (Qy.k (EN (AT 0 (AK (AF (F7 (A4 IV.str (D3 s {data:=#[32]})) {data:=#[105,110]} 0)) (A4 IV.str (D3 s {data:=#[32]})))))) (Qy.c (EN (AT 0 (AK (AF (F7 (A4 IV.str (D3 s {data:=#[32]})) {data:=#[105,110]} 0)) (A4 IV.str (D3 s {data:=#[32]})))))) (Qy.a0 (EN (AT 0 (AK (AF (F7 (A4 IV.str (D3 s {data:=#[32]})) {data:=#[105,110]} 0)) (A4 IV.str (D3 s {data:=#[32]})))))) (Qy.b0 (EN (AT 0 (AK (AF (F7 (A4 IV.str (D3 s {data:=#[32]})) {data:=#[105,110]} 0)) (A4 IV.str (D3 s {data:=#[32]})))))) (Qy.a1 (EN (AT 0 (AK (AF (F7 (A4 IV.str (D3 s {data:=#[32]})) {data:=#[105,110]} 0)) (A4 IV.str (D3 s {data:=#[32]})))))) (Qy.b1 (EN (AT 0 (AK (AF (F7 (A4 IV.str (D3 s {data:=#[32]})) {data:=#[105,110]} 0)) (A4 IV.str (D3 s {data:=#[32]})))))) (Qy.a2 (EN (AT 0 (AK (AF (F7 (A4 IV.str (D3 s {data:=#[32]})) {data:=#[105,110]} 0)) (A4 IV.str (D3 s {data:=#[32]})))))) (Qy.b2 (EN (AT 0 (AK (AF (F7 (A4 IV.str (D3 s {data:=#[32]})) {data:=#[105,110]} 0)) (A4 IV.str (D3 s {data:=#[32]})))))) (Qy.a3 (EN (AT 0 (AK (AF (F7 (A4 IV.str (D3 s {data:=#[32]})) {data:=#[105,110]} 0)) (A4 IV.str (D3 s {data:=#[32]})))))) (Qy.b3 (EN (AT 0 (AK (AF (F7 (A4 IV.str (D3 s {data:=#[32]})) {data:=#[105,110]} 0)) (A4 IV.str (D3 s {data:=#[32]})))))) (Qy.a4 (EN (AT 0 (AK (AF (F7 (A4 IV.str (D3 s {data:=#[32]})) {data:=#[105,110]} 0)) (A4 IV.str (D3 s {data:=#[32]})))))) (Qy.b4 (EN (AT 0 (AK (AF (F7 (A4 IV.str (D3 s {data:=#[32]})) {data:=#[105,110]} 0)) (A4 IV.str (D3 s {data:=#[32]})))))) (Qy.lo (EN (AT 0 (AK (AF (F7 (A4 IV.str (D3 s {data:=#[32]})) {data:=#[105,110]} 0)) (A4 IV.str (D3 s {data:=#[32]})))))) (Qy.hi (EN (AT 0 (AK (AF (F7 (A4 IV.str (D3 s {data:=#[32]})) {data:=#[105,110]} 0)) (A4 IV.str (D3 s {data:=#[32]})))))) (Qy.ft (EN (AT 0 (AK (AF (F7 (A4 IV.str (D3 s {data:=#[32]})) {data:=#[105,110]} 0)) (A4 IV.str (D3 s {data:=#[32]})))))) (Qy.fl (EN (AT 0 (AK (AF (F7 (A4 IV.str (D3 s {data:=#[32]})) {data:=#[105,110]} 0)) (A4 IV.str (D3 s {data:=#[32]})))))) (Qy.bu (EN (AT 0 (AK (AF (F7 (A4 IV.str (D3 s {data:=#[32]})) {data:=#[105,110]} 0)) (A4 IV.str (D3 s {data:=#[32]}))))))) (DS 0 (DT (PO N) (DL SM [1,1,1,1,1,1,1,1]) (DV (PO N) none [.cell 2 38,.tmp 3,.tmp 4] [[.z,.z,.z,.z,.z,.z,.z,.z,.z,.z,.z,.z,.z,.z,.z,.bool,.z],[.z],[.bool]])))) none) none) none)))) none):=by kernel_rfl
theorem Lk (N:Nat) (s0:BA) (x3:Int) (b4:Bool) (l5:LI) (x7 x8:Int) (l45:LI) (x46 x47 u02 u03 u0a u0b u0c u0d u0e u0f u0g u0h u04 u05 u06 u07 u08:Int) (u00:Bool) (u09 u0i u0j u0q u0r u0s u0t u0u u0v u0w u0x u0k u0l u0m u0n u0o:Int) (u01:Bool) (u0p:Int) (again:St→DP) (k:Out→St→DP):FG (PO N) (DL SM [1,1,1,1,1,1,1,0,1,0,0]) (RZ s0 x3 b4 l5 x7 x8 l45 x46 x47 u02 u03 u0a u0b u0c u0d u0e u0f u0g u0h u04 u05 u06 u07 u08 u00 u09 u0i u0j u0q u0r u0s u0t u0u u0v u0w u0x u0k u0l u0m u0n u0o u01 u0p) (EW again ⟨[0,2,3,4,5,7,8,9,45,46,47],[2,9],[]⟩ k)=(cond (decide (x47 < x46)) (cond (decide (0≤x47)&&decide (x47 < ic (AG l45))) (cond (decide (AD (IV.toStr (AI l45 (AF x47) default)) < 4294967281)) (cond (decide (AD (cutL (IV.toStr (AI l45 (AF x47) default)) {data:=#[46,46]}) < 4294967281)) (cond (decide (AD (FW (IV.toStr (AI l45 (AF x47) default)) {data:=#[46,46]}) < 4294967281)) (cond (decide (x47=ic 0)) (again (RZ s0 x3 b4 l5 x7 x8 l45 x46 (AA AB (x47+1)) u02 u03 u0a u0b u0c u0d u0e u0f u0g u0h u04 u05 u06 u07 u08 u00 u09 u0i u0j (GE (cutL (IV.toStr (AI l45 (AF x47) default)) {data:=#[46,46]})) (GE (FW (IV.toStr (AI l45 (AF x47) default)) {data:=#[46,46]})) u0s u0t u0u u0v u0w u0x u0k u0l u0m u0n u0o u01 u0p)) (cond (decide (x47=ic 1)) (again (RZ s0 x3 b4 l5 x7 x8 l45 x46 (AA AB (x47+1)) u02 u03 u0a u0b u0c u0d u0e u0f u0g u0h u04 u05 u06 u07 u08 u00 u09 u0i u0j u0q u0r (GE (cutL (IV.toStr (AI l45 (AF x47) default)) {data:=#[46,46]})) (GE (FW (IV.toStr (AI l45 (AF x47) default)) {data:=#[46,46]})) u0u u0v u0w u0x u0k u0l u0m u0n u0o u01 u0p)) (cond (decide (x47=ic 2)) (again (RZ s0 x3 b4 l5 x7 x8 l45 x46 (AA AB (x47+1)) u02 u03 u0a u0b u0c u0d u0e u0f u0g u0h u04 u05 u06 u07 u08 u00 u09 u0i u0j u0q u0r u0s u0t (GE (cutL (IV.toStr (AI l45 (AF x47) default)) {data:=#[46,46]})) (GE (FW (IV.toStr (AI l45 (AF x47) default)) {data:=#[46,46]})) u0w u0x u0k u0l u0m u0n u0o u01 u0p)) (cond (decide (x47=ic 3)) (again (RZ s0 x3 b4 l5 x7 x8 l45 x46 (AA AB (x47+1)) u02 u03 u0a u0b u0c u0d u0e u0f u0g u0h u04 u05 u06 u07 u08 u00 u09 u0i u0j u0q u0r u0s u0t u0u u0v (GE (cutL (IV.toStr (AI l45 (AF x47) default)) {data:=#[46,46]})) (GE (FW (IV.toStr (AI l45 (AF x47) default)) {data:=#[46,46]})) u0k u0l u0m u0n u0o u01 u0p)) (cond (decide (x47=ic 4)) (again (RZ s0 x3 b4 l5 x7 x8 l45 x46 (AA AB (x47+1)) u02 u03 u0a u0b u0c u0d u0e u0f u0g u0h u04 u05 u06 u07 u08 u00 u09 u0i u0j u0q u0r u0s u0t u0u u0v u0w u0x (GE (cutL (IV.toStr (AI l45 (AF x47) default)) {data:=#[46,46]})) (GE (FW (IV.toStr (AI l45 (AF x47) default)) {data:=#[46,46]})) u0m u0n u0o u01 u0p)) none))))) none) none) none) none) (k (.exit 0) (RZ s0 x3 b4 l5 x7 x8 l45 x46 x47 u02 u03 u0a u0b u0c u0d u0e u0f u0g u0h u04 u05 u06 u07 u08 u00 u09 u0i u0j u0q u0r u0s u0t u0u u0v u0w u0x u0k u0l u0m u0n u0o u01 u0p))):=by kernel_rfl
theorem Wp (N:Nat) (s0:BA) (x3:Int) (b4:Bool) (l5:LI) (x7 x8:Int) (l45:LI) (x46 x47 u02 u03 u0a u0b u0c u0d u0e u0f u0g u0h u04 u05 u06 u07 u08:Int) (u00:Bool) (u09 u0i u0j u0q u0r u0s u0t u0u u0v u0w u0x u0k u0l u0m u0n u0o:Int) (u01:Bool) (u0p:Int):(DS 0 (DT (PO N) (DL SM [1,1,1,1,1,1,1,1]) (DV (PO N) none [.cell 2 38,.tmp 3,.tmp 4] [[.z,.z,.z,.z,.z,.z,.z,.z,.z,.z,.z,.z,.z,.z,.z,.bool,.z],[.z],[.bool]]))) (.exit 0) (RZ s0 x3 b4 l5 x7 x8 l45 x46 x47 u02 u03 u0a u0b u0c u0d u0e u0f u0g u0h u04 u05 u06 u07 u08 u00 u09 u0i u0j u0q u0r u0s u0t u0u u0v u0w u0x u0k u0l u0m u0n u0o u01 u0p)=(cond (decide (0≤AA AB (x7+1))&&decide (AA AB (x7+1) < ic (AG l5))) (cond (!AZ (DZ {k:=u0i,c:=u0j,a0:=u0q,b0:=u0r,a1:=u0s,b1:=u0t,a2:=u0u,b2:=u0v,a3:=u0w,b3:=u0x,a4:=u0k,b4:=u0l,lo:=u0m,hi:=u0n,ft:=u0o,fl:=u01,bu:=FK (IV.toStr (AI l5 (AF (AA AB (x7+1))) default))} x8)==AZ s0) (some ((.tup [.agg [.i 0,.i 0,.i 0,.i 0,.i 0,.i 0,.i 0,.i 0,.i 0,.i 0,.i 0,.i 0,.i 0,.i 0,.i 0,.bool false,.i 0],.i 0,.bool false]),[])) (some ((.tup [.agg [.i u0i,.i u0j,.i u0q,.i u0r,.i u0s,.i u0t,.i u0u,.i u0v,.i u0w,.i u0x,.i u0k,.i u0l,.i u0m,.i u0n,.i u0o,.bool u01,.i (FK (IV.toStr (AI l5 (AF (AA AB (x7+1))) default)))],.i x8,.bool true]),[]))) none):=by kernel_rfl
open Go Go.Proofs
theorem zbU (l:LI):(EN l).a0=0∧(EN l).b0=0∧(EN l).a1=0∧(EN l).b1=0∧(EN l).a2=0∧(EN l).b2=0∧(EN l).a3=0∧(EN l).b3=0∧(EN l).a4=0∧(EN l).b4=0∧(EN l).bu=0:=by
 unfold EN;cases ((DX l 0).toList==M9.toList) <;> cases ((DX l 0).toList==OK.toList) <;> cases ((DX l 0).toList==NA.toList||(DX l 0).toList==ML.toList) <;> exact ⟨rfl,rfl,rfl,rfl,rfl,rfl,rfl,rfl,rfl,rfl,rfl⟩
def rq (l:LI) (i d:Nat):Qy:=
 ⟨(
  EN (l.take i)).k,(EN (l.take i)).c,
  cond (BU 0 d) (RR l (i+1)) 0,cond (BU 0 d) (RS l (i+1)) 0,cond (BU 1 d) (RR l (i+2)) 0,cond (BU 1 d) (RS l (i+2)) 0,cond (BU 2 d) (RR l (i+3)) 0,cond (BU 2 d) (RS l (i+3)) 0,cond (BU 3 d) (RR l (i+4)) 0,cond (BU 3 d) (RS l (i+4)) 0,0,0,
  (EN (l.take i)).lo,(EN (l.take i)).hi,(EN (l.take i)).ft,(EN (l.take i)).fl,0⟩
theorem zgu (l:LI) (i:Nat):EN (l.take i)=rq l i 0:=by
 obtain ⟨h1,h2,h3,h4,h5,h6,h7,h8,h9,h10,h11⟩:=zbU (l.take i);unfold rq;generalize EN (l.take i)=q at *;cases q;simp only at *;subst h1 h2 h3 h4 h5 h6 h7 h8 h9 h10 h11;rfl
abbrev lI (s:BA) (W:LI) (x7 x8:Int) (L:LI) (q:Qy) (i:Int):St:=
 ⟨[(0,(.str s)),(2,(.ptr 2 0 0)),(3,(.int .i64 0)),(4,(.bool false)),(5,(.list false [.str] W)),(7,(.int .i64 x7)),(8,(.int .i64 x8)),(9,(.ptr 9 0 0)),(45,(.list false [.str] L)),(46,(.int .i64 (ic L.length))),(47,(.int .i64 i))],[(2,(some (mZ Qy.none))),(9,(some (mZ q)))]⟩
theorem Vn (w sep:BA) (h:w.size < 4294967281):decide (AD w < 4294967281)=true∧decide (AD (cutL w sep) < 4294967281)=true∧decide (AD (FW w sep) < 4294967281)=true:=by
 obtain ⟨h1,h2⟩:=iW w sep;exact ⟨AE h,AE (by omega),AE (by omega)⟩
theorem zfr (N:Nat) (s:BA) (W:LI) (x7 x8:Int) (L:LI) (I i:Nat) (hi:i < L.length) (h4:i < 4) (hL:IV.toStr (L.getD i default)=DX W (I+1+i)) (hw:(DX W (I+1+i)).size < 4294967281) (again:St→DP) (k:Out→St→DP) :
  FG (PO N) (DL SM [1,1,1,1,1,1,1,0,1,0,0]) (lI s W x7 x8 L (rq W I i) (i:Int)) (EW again ⟨[0,2,3,4,5,7,8,9,45,46,47],[2,9],[]⟩ k)=again (lI s W x7 x8 L (rq W I (i+1)) ((i+1:Nat):Int)):=by
 refine (Lk N s 0 false W x7 x8 L (ic L.length) i 0 0 0 0 0 0 0 0 0 0 0 0 0 0 0 false 0 (rq W I i).k (rq W I i).c (rq W I i).a0 (rq W I i).b0 (rq W I i).a1 (rq W I i).b1 (rq W I i).a2 (rq W I i).b2 (rq W I i).a3 (rq W I i).b3 (rq W I i).a4 (rq W I i).b4 (rq W I i).lo (rq W I i).hi (rq W I i).ft (rq W I i).fl (rq W I i).bu again k).trans ?_;rw [IK hi,JP,B9,DJ,DJ,BD,hL];obtain ⟨c1,c2,c3⟩:=Vn (DX W (I+1+i)) { data:=#[46,46] } hw;rw [c1,c2,c3,DJ,DJ,DJ];have hi4:i=0∨i=1∨i=2∨i=3:=by omega
 rcases hi4 with rfl | rfl | rfl | rfl
 ·rw [show decide (((0:Nat):Int)=ic 0)=true from rfl,DJ];rfl
 ·rw [show decide (((1:Nat):Int)=ic 0)=false from rfl,show decide (((1:Nat):Int)=ic 1)=true from rfl,DK,DJ];rfl
 ·rw [show decide (((2:Nat):Int)=ic 0)=false from rfl,show decide (((2:Nat):Int)=ic 1)=false from rfl,show decide (((2:Nat):Int)=ic 2)=true from rfl,DK,DK,DJ];rfl
 ·rw [show decide (((3:Nat):Int)=ic 0)=false from rfl,show decide (((3:Nat):Int)=ic 1)=false from rfl,show decide (((3:Nat):Int)=ic 2)=false from rfl,show decide (((3:Nat):Int)=ic 3)=true from rfl,DK,DK,DK,DJ];rfl
theorem Fx (N:Nat) (s:BA) (W:LI) (x7 x8:Int) (L:LI) (I:Nat) (h4:L.length≤4) (hL:∀ i,i < L.length→IV.toStr (L.getD i default)=DX W (I+1+i)) (hw:∀ i,(DX W i).size < 4294967281) (K:Out→St→DP) :
  ∀ (d i n:Nat),i+d=L.length→d < n →
   D0 (PO N) (DL SM [1,1,1,1,1,1,1,0,1,0,0]) ⟨[0,2,3,4,5,7,8,9,45,46,47],[2,9],[]⟩ n (lI s W x7 x8 L (rq W I i) (i:Int)) K=K (.exit 0) (lI s W x7 x8 L (rq W I L.length) (ic L.length))
 | 0,i,n+1,hd,hn=>by
  have hi:i=L.length:=by omega
  subst hi;rw [EA];refine (Lk N s 0 false W x7 x8 L (ic L.length) _ 0 0 0 0 0 0 0 0 0 0 0 0 0 0 0 false 0 (rq W I L.length).k (rq W I L.length).c (rq W I L.length).a0 (rq W I L.length).b0 (rq W I L.length).a1 (rq W I L.length).b1 (rq W I L.length).a2 (rq W I L.length).b2 (rq W I L.length).a3 (rq W I L.length).b3 (rq W I L.length).a4 (rq W I L.length).b4 (rq W I L.length).lo (rq W I L.length).hi (rq W I L.length).ft (rq W I L.length).fl (rq W I L.length).bu _ _).trans ?_;rw [J5 (AX _),DK];rfl
 | d+1,i,n+1,hd,hn=>by
  rw [EA,zfr N s W x7 x8 L I i (by omega) (by omega) (hL i (by omega)) (hw _)];exact Fx N s W x7 x8 L I h4 hL hw K d (i+1) n (by omega) (by omega)
 | _,_,0,_,h=>by omega
theorem Bh (w:BA):∀ (l:LI) (k:Int),0≤k→F7 l w k = -1∨(k≤F7 l w k∧F7 l w k < k+(l.length:Int))
 | [],_,_=>.inl rfl
 | x :: l,k,hk=>by
  unfold F7;cases (w.toList==x.toStr.toList) with
  | true=>rw [DJ]; exact .inr ⟨vab _,by simp only [AM]; omega⟩
  | false=>
   rw [DK];rcases Bh w l (k+1) (by omega) with h | ⟨h1,h2⟩
   ·exact .inl h
   ·exact .inr ⟨by omega,by simp only [AM]; omega⟩
theorem zcr (s:BA) (hs:s.size < 4294967281):(HH s).length≤4294967282∧∀ i,(DX (HH s) i).size < 4294967281:=by
 have h1:=Lib.splitB_all FI (by decide) 0 _ s rfl;have h2:=Lib.countB_le FI (by decide) s.size s (AX _);refine ⟨?_,fun i=>?_⟩
 ·have e:(HH s).length=Lib.countB s FI+1:=by
   unfold HH D3;rw [BK];exact h1
  omega
 ·unfold DX;by_cases hi:i < (HH s).length
  ·have:AI (HH s) i default=(HH s)[i]:=by simp [hi]
   rw [this];have hm:=C1 hi;unfold HH at hm;obtain ⟨p,hp,hpe⟩:=CK.1 hm;have hz:=(X1 FI _ s).2 p hp
   have:((HH s)[i]).toStr=p:=by
    show (A4 IV.str (D3 s FI))[i].toStr=p;rw [← hpe];rfl
   rw [this];omega
  ·have:AI (HH s) i default=default:=by simp [AI,hi]
   rw [this];decide
theorem Jh:DY PR B0 73 V2:=by
 refine D7 [(18,R6),(121,V3),(119,aV),(120,V4),(118,dH),(104,T4),(46,ND)] [(9,⟨[0,2,3,4,5,7,8,9,45,46,47],[2,9],[]⟩)] V2
  [[.z,.z,.z,.z,.z,.z,.z,.z,.z,.z,.z,.z,.z,.z,.z,.bool,.z],[.z],[.bool]] Tryz.func73 Zo
  ⟨sI,Ji,zgR,Jj,zh0,sV,aC,trivial⟩ ?_
 intro vs r hwf h;unfold V2 at h;split at h
 ·rename_i s;refine ⟨20,?_⟩;cases hs:decide (s.size < 4294967281) with
  | false=>rw [hs] at h; simp [R.get] at h
  | true=>
   rw [hs,R.get_br,DJ,R.get_ok] at h;rw [← h];refine (zcN 20 s).trans ?_;have hs':=A1 hs;rw [hs];obtain ⟨hl,hw⟩:=zcr s hs';have eW:A4 IV.str (D3 s { data:=#[32] })=HH s:=rfl;have eI:F7 (HH s) { data:=#[105,110] } 0=NO s:=rfl;rw [eW,eI,show decide (1≤AD { data:=#[32] })=true from rfl,B9,DJ];have hr:=Bh NZ (HH s) 0 (vab _)
   change NO s = -1∨(0≤NO s∧NO s < 0+((HH s).length:Int)) at hr
   have w2:AA AB (ic (AG (HH s)) - 2)=ic (AG (HH s)) - 2:=EO (by simp only [ic]; omega) (by simp only [ic]; omega);rw [w2];have wd:AA AB (AA AB (ic (AG (HH s)) - 2 - NO s) - 1)=OD s:=by
    unfold OD;rw [EO (n:=ic (AG (HH s)) - 2 - NO s) (by simp only [ic]; omega) (by simp only [ic]; omega),EO (by simp only [ic]; omega) (by simp only [ic]; omega)]
   rw [wd];unfold ET JK KW;cases h1:decide (NO s < 0) with
   | true=>simp only [DJ,DK,A2,BM]; rfl
   | false=>
    cases h2:decide (OD s < 1) with
    | true=>simp only [DJ,DK,A2,A6,BM,vad]; rfl
    | false=>
     cases h3:decide (OD s > 4) with
     | true=>simp only [DJ,DK,A2,A6,BM,vad]; rfl
     | false=>
      simp only [DK,A6,A8];have h1:=BG h1;have h2:=BG h2;have h3:=BG h3;obtain ⟨I,hI⟩:∃ I:Nat,NO s=I:=⟨(NO s).toNat,by omega⟩;obtain ⟨D,hD⟩:∃ D:Nat,OD s=D:=⟨(OD s).toNat,by omega⟩;have hD1:1≤D:=by omega
      have hD4:D≤4:=by omega
      unfold fC;have hDd:(D:Int)=((HH s).length:Int) - 2 - I - 1:=by
       rw [← hD,← hI];rfl
      rw [hI,hD] at *;generalize HH s=W at *;have wi:AA AB ((I:Int)+1)=((I+1:Nat):Int):=by rw [EO (by omega) (by omega)]; rfl
      have eb:ic (AG W) - 2=((W.length - 2:Nat):Int):=by simp only [ic]; omega
      rw [wi,eb];simp only [BD,B5];have hall:List.all (AK I W) (fun x=>decide (AD (IV.toStr x) < 4294967281))=true:=by
       rw [CU];intro x hx;obtain ⟨j,hj,rfl⟩:=List.mem_iff_getElem.1 (vaH hx)
       have:=hw j
       unfold DX at this;have e:AI W j default=W[j]:=by simp [hj]
       rw [e] at this;exact AE this
      rw [hall,AE (show (0:Int)≤(I:Int) by omega),AE (show (I:Int)≤ic (AG W) by simp only [ic]; omega),AE (show AG (AK I W)≤4294967290 by rw [BC]; omega),
       AE (show (0:Int)≤((I+1:Nat):Int) by omega),AE (show ((I+1:Nat):Int)≤((W.length - 2:Nat):Int) by omega),AE (show ((W.length - 2:Nat):Int)≤ic (AG W) by simp only [ic]; omega)]
      simp only [B9,DJ];have hLl:(AT (I+1) (AK (W.length - 2) W)).length=D:=by rw [CY,BC]; omega
      have hLg:∀ i,i < (AT (I+1) (AK (W.length - 2) W)).length→IV.toStr ((AT (I+1) (AK (W.length - 2) W)).getD i default)=DX W (I+1+i):=fun i hi=>by
       rw [hLl] at hi;unfold DX;congr 1;simp only [AI,var,CM];rw [BP (by omega)]
      rw [zgu W I];have run:=Fx 20 s W ((W.length - 2:Nat):Int) (D:Int) (AT (I+1) (AK (W.length - 2) W)) I (by rw [hLl]; exact hD4) hLg hw (DS 0 (DT (PO 20) (DL SM [1,1,1,1,1,1,1,1]) (DV (PO 20) none [(va5 2 38),(CF 3),(CF 4)] [[.z,.z,.z,.z,.z,.z,.z,.z,.z,.z,.z,.z,.z,.z,.z,.bool,.z],[.z],[.bool]]))) D 0 20 (by rw [hLl]; omega) (by omega);refine run.trans ?_;rw [hLl];refine (Wp 20 s 0 false W ((W.length - 2:Nat):Int) (D:Int) (AT (I+1) (AK (W.length - 2) W)) (ic (AT (I+1) (AK (W.length - 2) W)).length) _ 0 0 0 0 0 0 0 0 0 0 0 0 0 0 0 false 0 (rq W I D).k (rq W I D).c (rq W I D).a0 (rq W I D).b0 (rq W I D).a1 (rq W I D).b1 (rq W I D).a2 (rq W I D).b2 (rq W I D).a3 (rq W I D).b3 (rq W I D).a4 (rq W I D).b4 (rq W I D).lo (rq W I D).hi (rq W I D).ft (rq W I D).fl (rq W I D).bu).trans ?_;have e7:AA AB (((W.length - 2:Nat):Int)+1)=((W.length - 1:Nat):Int):=by rw [EO (by omega) (by omega)]; omega
      rw [e7,BD,AE (show (0:Int)≤((W.length - 1:Nat):Int) by omega),AE (show ((W.length - 1:Nat):Int) < ic (AG W) by simp only [ic]; omega),B9,DJ];have eq:(⟨(rq W I D).k,(rq W I D).c,(rq W I D).a0,(rq W I D).b0,(rq W I D).a1,(rq W I D).b1,(rq W I D).a2,(rq W I D).b2,(rq W I D).a3,(rq W I D).b3,(rq W I D).a4,(rq W I D).b4,(rq W I D).lo,(rq W I D).hi,(rq W I D).ft,(rq W I D).fl,FK (IV.toStr (AI W (W.length - 1) default))⟩:Qy)=fZ W I D:=rfl;rw [eq];cases ((DZ (fZ W I D) (D:Int)).toList==s.toList) with
      | false=>rfl
      | true=>rfl
 ·simp [R.get] at h
open Go
def Q8 (x:IV):Prop:=∃ v,-3000≤v∧v≤3000∧x=MA v
def UT (dim n:Int) (i:Nat) (x:IV):Prop:=∃ f a l,0≤f∧f < dim∧0≤a∧a≤9∧(i:Int) < l∧l+1 < n∧x=S1 false 0 f a l (l+1)
def nm (x:IV) (j:Nat):Nat:=cond (x.cell 0).toBool 0 ((if (x.cell 4).toInt=(j:Int) then 1 else 0)+(if (x.cell 5).toInt=(j:Int) then 1 else 0))
def NS (l:LI) (j:Nat):Nat:=(l.map (nm · j)).sum
theorem kE {x:IV} (h:Q8 x) (j:Nat):nm x j=0:=by
 obtain ⟨v,_,_,rfl⟩:=h;rfl
theorem zeG (f a:Int) (n j:Nat):nm (S1 false 0 f a (n:Int) ((n:Int)+1)) j=(if j=n then 1 else 0)+(if j=n+1 then 1 else 0):=by
 show (if (n:Int)=(j:Int) then 1 else 0)+(if (n:Int)+1=(j:Int) then 1 else 0)=_;have e1:((n:Int)=(j:Int))↔(j=n):=by omega
 have e2:((n:Int)+1=(j:Int))↔(j=n+1):=by omega
 simp only [e1,e2]
theorem zeF (l m:LI) (j:Nat):NS (l++m) j=NS l j+NS m j:=by simp [NS]
theorem Ea:∀ {l:LI} {p:Nat} {x:IV} (y:IV) (j:Nat),l[p]?=some x→NS (l.set p y) j+nm x j=NS l j+nm y j
 | [],p,x,y,j,h=>by simp at h
 | z :: l,0,x,y,j,h=>by
  simp only [BY,AC] at h;subst h;simp only [List.set_cons_zero,NS,A0,vba];omega
 | z :: l,p+1,x,y,j,h=>by
  have:=Ea (l:=l) y j (by simpa using h)
  simp only [List.set_cons_succ,NS,A0,vba] at this ⊢;omega
structure NsOK (dim:Int) (i:Nat) (s:Ns):Prop where
 len:s.nodes.length=2*i+1
 ll:s.leaves.length=i+1
 node:∀ (k:Nat) x,s.nodes[k]?=some x→Q8 x∨UT dim (2*(i:Int)+1) k x
 leaf:∀ y∈s.leaves,∃ p:Nat,y = .int (p:Int)∧∃ x,s.nodes[p]?=some x∧Q8 x
 dist:s.leaves.Nodup
 cnt:∀ j,NS s.nodes j=if 1≤j∧j < 2*i+1 then 1 else 0
theorem kO (l:LI) (i lo hi:Int) (h:lo≤hi) (h0 : -2000000000000000000≤lo) (h1:hi≤2000000000000000000):lo≤DN (EL l i) lo hi∧DN (EL l i) lo hi≤hi:=
 (HG h h0 h1).2
theorem e9 (l:LI) (i:Int):Q8 (MA (DN (EL l i) (-3000) 3000)):=
 ⟨_,(kO l i (-3000) 3000 (by omega) (by omega) (by omega)).1,(kO l i (-3000) 3000 (by omega) (by omega) (by omega)).2,rfl⟩
theorem zeP (val:LI) (dim:Int):NsOK dim 0 ⟨[MA (DN (EL val 0) (-3000) 3000)],[.int 0]⟩ where
 len:=rfl
 ll:=rfl
 node k x h:=by
  cases k with
  | zero=>
   simp only [BY,AC] at h;subst h;exact .inl (e9 val 0)
  | succ k=>simp at h
 leaf y hy:=by
  simp only [AP,BX,CP] at hy;exact ⟨0,hy,_,rfl,e9 val 0⟩
 dist:=by simp
 cnt j:=by
  have:¬ (1≤j∧j < 2*0+1):=by omega
  rw [BB this];show nm _ j+0=0;rw [kE (e9 val 0)]
theorem zeL {l:LI} (h:l.Nodup) {k:Nat} {y:IV} (hk:l[k]?=some y):y ∉ l.take k++l.drop (k+1):=by
 intro hy;rw [← vbM,List.mem_eraseIdx_iff_getElem?] at hy;obtain ⟨i,hne,hi⟩:=hy;have h1:i < l.length:=(BS.1 hi).1;have h2:k < l.length:=(BS.1 hk).1
 have:l[i]=l[k]:=by
  rw [(BS.1 hi).2,(BS.1 hk).2]
 have hp:=List.pairwise_iff_getElem.1 h;rcases Nat.lt_trichotomy i k with hlt | heq | hlt
 ·exact hp i k h1 h2 hlt this
 ·exact hne heq
 ·exact hp k i h2 h1 hlt this.symm
theorem zeO {part byl atl val:LI} {dim:Int} (hd:1≤dim∧dim≤4) {i:Nat} (hi:i < 7) {s:Ns} (h:NsOK dim i s):NsOK dim (i+1) (KQ part byl atl val dim i s):=by
 obtain ⟨k0,k1⟩:=(HG (n:=(part.getD i default).toInt) (lo:=0) (hi:=ic s.leaves.length - 1) (by simp only [ic]; have:=h.ll; omega) (by omega) (by simp only [ic]; have:=h.ll; omega)).2;have hk0:0≤H7 part i s:=k0;have hk1:H7 part i s≤ic s.leaves.length - 1:=k1;obtain ⟨k,hk⟩:∃ k:Nat,H7 part i s=k:=⟨(H7 part i s).toNat,by omega⟩;have hkl:k < s.leaves.length:=by simp only [ic] at hk1; omega
 have hky:s.leaves[k]?=some s.leaves[k]:=BE hkl;obtain ⟨p,hp,x,hx,hlf⟩:=h.leaf _ (C1 hkl);have hat:(RI part i s).toNat=p:=by
  unfold RI;rw [hk,BD,BW,hky,hp];show ((p:Int)).toNat=p;omega
 have hpl:p < 2*i+1:=by rw [← h.len]; exact (BS.1 hx).1
 have f1:=kO byl (i:Int) 0 (dim - 1) (by omega) (by omega) (by omega);have a1:=kO atl (i:Int) 0 9 (by omega) (by omega) (by omega);generalize hf:DN (EL byl (i:Int)) 0 (dim - 1)=f at f1;generalize ha:DN (EL atl (i:Int)) 0 9=a at a1;have el:ic s.nodes.length=2*(i:Int)+1:=by simp only [ic]; have:=h.len; omega
 have hs:KQ part byl atl val dim i s=⟨s.nodes.set p (S1 false 0 f a (2*(i:Int)+1) (2*(i:Int)+1+1))++[MA (DN (EL val (2*(i:Int)+1)) (-3000) 3000),MA (DN (EL val (2*(i:Int)+2)) (-3000) 3000)],
   s.leaves.take k++s.leaves.drop (k+1)++[.int (2*(i:Int)+1),.int (2*(i:Int)+1+1)]⟩:=by
  unfold KQ;rw [hat,hk,BD,hf,ha,el]
 rw [hs];have L1:=e9 val (2*(i:Int)+1);have L2:=e9 val (2*(i:Int)+2);have hgrow:∀ (q:Nat) z,UT dim (2*(i:Int)+1) q z→UT dim (2*((i+1:Nat):Int)+1) q z:=fun q z hz=>by
  obtain ⟨f,a,l,h1,h2,h3,h4,h5,h6,h7⟩:=hz;exact ⟨f,a,l,h1,h2,h3,h4,h5,by omega,h7⟩
 have hlen:(s.nodes.set p (S1 false 0 f a (2*(i:Int)+1) (2*(i:Int)+1+1))).length=2*i+1:=by rw [vaF,h.len]
 have hnew:∀ (q:Nat) z,(s.nodes.set p (S1 false 0 f a (2*(i:Int)+1) (2*(i:Int)+1+1))++[MA (DN (EL val (2*(i:Int)+1)) (-3000) 3000),MA (DN (EL val (2*(i:Int)+2)) (-3000) 3000)])[q]?=some z →
   (q≠p∧s.nodes[q]?=some z)∨(q=p∧z=S1 false 0 f a (2*(i:Int)+1) (2*(i:Int)+1+1))∨Q8 z:=fun q z hz=>by
  by_cases hq:q < 2*i+1
  ·rw [vbw (by rw [hlen]; exact hq)] at hz;by_cases e:p=q
   ·subst e;rw [List.getElem?_set_self (by rw [h.len]; exact hpl)] at hz;exact .inr (.inl ⟨rfl,(CX hz).symm⟩)
   ·rw [va8 e] at hz;exact .inl ⟨fun e'=>e e'.symm,hz⟩
  ·rw [vbt (by rw [hlen]; omega),hlen] at hz;obtain ⟨r,hr⟩:∃ r,q - (2*i+1)=r:=⟨_,rfl⟩;rw [hr] at hz
   match r,hz with
   | 0,hz=>exact .inr (.inr (by simp at hz; subst hz; exact L1))
   | 1,hz=>exact .inr (.inr (by simp at hz; subst hz; exact L2))
   | r+2,hz=>simp at hz
 refine ⟨?_,?_,?_,?_,?_,?_⟩
 ·show (s.nodes.set p _++[_,_]).length=_;rw [AS,hlen];simp only [AM,A7];omega
 ·show (s.leaves.take k++s.leaves.drop (k+1)++[_,_]).length=_;simp only [AS,BC,CY,AM,A7]
  have:=h.ll
  omega
 ·intro q z hz;rcases hnew q z hz with ⟨_,hz⟩ | ⟨rfl,rfl⟩ | hz
  ·rcases h.node q z hz with h1 | h1
   ·exact .inl h1
   ·exact .inr (hgrow q z h1)
  ·exact .inr ⟨f,a,2*(i:Int)+1,f1.1,by omega,a1.1,a1.2,by omega,by omega,rfl⟩
  ·exact .inl hz
 ·intro y hy;rcases AV.1 hy with hy | hy
  ·have hne:y≠.int (p:Int):=fun e=>by
    have:=zeL h.dist hky
    rw [hp] at this;exact this (e ▸ hy)
   have hyl:y∈s.leaves:=by
    rcases AV.1 hy with hy | hy
    ·exact vaH hy
    ·exact va6 hy
   obtain ⟨q,hq,x',hx',hl'⟩:=h.leaf y hyl;have hqp:p≠q:=fun e=>by subst e; exact hne hq
   refine ⟨q,hq,x',?_,hl'⟩;have hql:q < 2*i+1:=by rw [← h.len]; exact (BS.1 hx').1
   show (s.nodes.set p _++[_,_])[q]?=_;rw [vbw (by rw [hlen]; exact hql),va8 hqp,hx']
  ·simp only [AP,BX,CP] at hy;rcases hy with rfl | rfl
   ·refine ⟨2*i+1,by simp,MA (DN (EL val (2*(i:Int)+1)) (-3000) 3000),?_,L1⟩;show (s.nodes.set p _++[_,_])[2*i+1]?=_;rw [vbt (by rw [hlen]; omega),hlen]
    have:2*i+1 - (2*i+1)=0:=by omega
    rw [this];rfl
   ·refine ⟨2*i+1+1,by simp,MA (DN (EL val (2*(i:Int)+2)) (-3000) 3000),?_,L2⟩;show (s.nodes.set p _++[_,_])[2*i+1+1]?=_;rw [vbt (by rw [hlen]; omega),hlen]
    have:2*i+1+1 - (2*i+1)=1:=by omega
    rw [this];rfl
 ·show (s.leaves.take k++s.leaves.drop (k+1)++[_,_]).Nodup;have big:∀ y∈s.leaves,∀ n:Int,2*(i:Int)+1≤n→y≠.int n:=fun y hy n hn e=>by
   obtain ⟨q,hq,x',hx',_⟩:=h.leaf y hy;have hql:q < 2*i+1:=by rw [← h.len]; exact (BS.1 hx').1
   rw [hq] at e;injection e with e
   omega
  have hsub:∀ y∈s.leaves.take k++s.leaves.drop (k+1),y∈s.leaves:=fun y hy=>by
   rcases AV.1 hy with hy | hy
   ·exact vaH hy
   ·exact va6 hy
  rw [List.nodup_append];refine ⟨?_,?_,?_⟩
  ·rw [← vbM];exact List.Nodup.sublist (List.eraseIdx_sublist ..) h.dist
  ·rw [List.nodup_cons];refine ⟨fun hm=>?_,by simp⟩;simp only [AP,BX,CP] at hm;injection hm with hm
   omega
  ·intro y hy z hz e;subst e;simp only [AP,BX,CP] at hz;rcases hz with hz | hz
   ·exact big y (hsub y hy) _ (by omega) hz
   ·exact big y (hsub y hy) _ (by omega) hz
 ·intro j;show NS (s.nodes.set p _++[_,_]) j=_;rw [zeF];have h1:=Ea (S1 false 0 f a (2*(i:Int)+1) (2*(i:Int)+1+1)) j hx;rw [kE hlf,h.cnt j] at h1;have h2:NS [MA (DN (EL val (2*(i:Int)+1)) (-3000) 3000),MA (DN (EL val (2*(i:Int)+2)) (-3000) 3000)] j=0:=by
   show nm _ j+(nm _ j+0)=0;rw [kE L1,kE L2]
  have h3:=zeG f a (2*i+1) j;have e:((2*i+1:Nat):Int)=2*(i:Int)+1:=by omega
  rw [e] at h3;rw [h3] at h1;rw [h2];by_cases c1:1≤j∧j < 2*i+1
  ·rw [BP c1,BB (by omega),BB (by omega)] at h1;rw [BP (by omega)];omega
  ·rw [BB c1] at h1;by_cases c2:j=2*i+1
   ·rw [BP c2,BB (by omega)] at h1;rw [BP (by omega)];omega
   ·by_cases c3:j=2*i+1+1
    ·rw [BB c2,BP c3] at h1;rw [BP (by omega)];omega
    ·rw [BB c2,BB c3] at h1;rw [BB (by omega)];omega
theorem Es {part byl atl val:LI} {dim:Int} (hd:1≤dim∧dim≤4):∀ (d i:Nat) (s:Ns),i+d≤7→NsOK dim i s→NsOK dim (i+d) (ZR part byl atl val dim d i s)
 | 0,i,s,_,h=>h
 | d+1,i,s,hi,h=>by
  have:=Es (part:=part) (byl:=byl) (atl:=atl) (val:=val) hd d (i+1) _ (by omega) (zeO (part:=part) (byl:=byl) (atl:=atl) (val:=val) hd (by omega) h)
  rw [vaS,Nat.add_comm 1 d] at this;exact this
theorem Et (part byl atl val:LI) {dim:Int} (hd:1≤dim∧dim≤4):∃ i,i≤7∧NsOK dim i (PB part byl atl val dim):=by
 refine ⟨min part.length 7,by omega,?_⟩
 have:=Es (part:=part) (byl:=byl) (atl:=atl) (val:=val) hd (min part.length 7) 0 _ (by omega) (zeP val dim)
 rw [BL] at this;exact this
open Go
theorem Nd.eq_of {x y:Nd} (h:x.eq y=true):x=y:=by
 obtain ⟨a1,a2,a3,a4,a5,a6⟩:=x;obtain ⟨b1,b2,b3,b4,b5,b6⟩:=y;simp only [Nd.eq,AH,B8,B7] at h;obtain ⟨rfl,rfl,rfl,rfl,rfl,rfl⟩:=h;rfl
theorem kF {w:Int} (h:GK w=true):IY (DM w)=w∧M5 (DM w)=true:=by
 have hn:DM w=XR w:=by unfold DM; rw [h]; rfl
 unfold GK at h;simp only [AH,B1,B8,A3] at h;rw [hn];refine ⟨h.2,?_⟩;cases hr:M5 (XR w) with
 | true=>rfl
 | false=>
  have:=h.2
  unfold IY at this;rw [hr] at this;exact absurd this.symm h.1
def pH (i:Nat):Bool:=GK (IG true ((i:Int) - 3000) 0 0 0 0)&&(DM (IG true ((i:Int) - 3000) 0 0 0 0)).eq ⟨true,(i:Int) - 3000,0,0,0,0⟩
def j5:Nat→Bool
 | 0=>true
 | n+1=>pH n&&j5 n
theorem Cq:∀ {n i:Nat},j5 n=true→i < n→pH i=true
 | n+1,i,h,hi=>by
  rw [j5,AH] at h;by_cases e:i=n
  ·subst e; exact h.1
  ·exact Cq h.2 (by omega)
def oI (i:Nat):Bool:=GK (IG false 0 ((i % 4:Nat):Int) ((i / 4 % 10:Nat):Int) ((i / 40:Nat):Int) (((i / 40:Nat):Int)+1)) &&
 (DM (IG false 0 ((i % 4:Nat):Int) ((i / 4 % 10:Nat):Int) ((i / 40:Nat):Int) (((i / 40:Nat):Int)+1))).eq ⟨false,0,((i % 4:Nat):Int),((i / 4 % 10:Nat):Int),((i / 40:Nat):Int),((i / 40:Nat):Int)+1⟩
def jH:Nat→Bool
 | 0=>true
 | n+1=>(BU n 40||oI n)&&jH n
theorem Ap:∀ {n i:Nat},jH n=true→i < n→40≤i→oI i=true
 | n+1,i,h,hi,h40=>by
  rw [jH,AH] at h;by_cases e:i=n
  ·subst e
   have:=h.1
   rw [vao] at this;rcases this with h1 | h1
   ·have:i < 40:=AO h1
    omega
   ·exact h1
  ·exact Ap h.2 (by omega) h40
theorem zcq:j5 6001=true:=by kernel_rfl
theorem Zf:jH 1200=true:=by kernel_rfl
theorem pE {v:Int} (h0 : -3000≤v) (h1:v≤3000):GK (IG true v 0 0 0 0)=true∧DM (IG true v 0 0 0 0)=⟨true,v,0,0,0,0⟩:=by
 have h:=Cq zcq (show (v+3000).toNat < 6001 by omega);have e:(((v+3000).toNat:Nat):Int) - 3000=v:=by omega
 unfold pH at h;rw [e,AH] at h;exact ⟨h.1,Nd.eq_of h.2⟩
theorem As {f a l:Int} (hf:0≤f∧f < 4) (ha:0≤a∧a≤9) (hl:1≤l∧l≤28):GK (IG false 0 f a l (l+1))=true∧DM (IG false 0 f a l (l+1))=⟨false,0,f,a,l,l+1⟩:=by
 have h:=Ap Zf (show l.toNat*40+a.toNat*4+f.toNat < 1200 by omega) (by omega);have e1:(((l.toNat*40+a.toNat*4+f.toNat) % 4:Nat):Int)=f:=by omega
 have e2:(((l.toNat*40+a.toNat*4+f.toNat) / 4 % 10:Nat):Int)=a:=by omega
 have e3:(((l.toNat*40+a.toNat*4+f.toNat) / 40:Nat):Int)=l:=by omega
 unfold oI at h;rw [e1,e2,e3,AH] at h;exact ⟨h.1,Nd.eq_of h.2⟩
theorem zjg {dim n:Int} (hd:dim≤4) (hn:n≤29) {i:Nat} {x:IV} (h:Q8 x∨UT dim n i x) (j:Nat):LH (DM (S5 x).toInt) j=nm x j:=by
 rcases h with ⟨v,h0,h1,rfl⟩ | ⟨f,a,l,h0,h1,h2,h3,h4,h5,rfl⟩
 ·show LH (DM (IG true v 0 0 0 0)) j=_;rw [(pE h0 h1).2];rfl
 ·show LH (DM (IG false 0 f a l (l+1))) j=_;rw [(As ⟨h0,by omega⟩ ⟨h2,h3⟩ ⟨by omega,by omega⟩).2];rfl
theorem zjh {dim n:Int} (hd:dim≤4) (hn:n≤29) {i:Nat} {x:IV} (h:Q8 x∨UT dim n i x):(GK (S5 x).toInt&&OA dim n i (DM (S5 x).toInt))=true:=by
 rcases h with ⟨v,h0,h1,rfl⟩ | ⟨f,a,l,h0,h1,h2,h3,h4,h5,rfl⟩
 ·show (GK (IG true v 0 0 0 0)&&OA dim n i (DM (IG true v 0 0 0 0)))=true;rw [(pE h0 h1).1,(pE h0 h1).2];rfl
 ·show (GK (IG false 0 f a l (l+1))&&OA dim n i (DM (IG false 0 f a l (l+1))))=true;have hw:=As ⟨h0,by omega⟩ ⟨h2,h3⟩ (show 1≤l∧l≤28 by omega);rw [hw.1,hw.2];unfold OA;simp only [A9,AL (show ¬ f≥dim by omega),A3.2 (show l≠l+1 by omega),AL (show ¬ min l (l+1)≤(i:Int) by omega),AL (show ¬ max l (l+1)≥n by omega)];rfl
theorem Ek {dim n:Int} (hd:dim≤4) (hn:n≤29):∀ {l:LI} {i:Nat},(∀ (k:Nat) x,l[k]?=some x→Q8 x∨UT dim n (i+k) x)→KO dim n i (l.map S5)=true
 | [],_,_=>rfl
 | x :: l,i,h=>by
  rw [A0,KO,AH];refine ⟨zjh hd hn (h 0 x rfl),Ek hd hn (i:=i+1) fun k y hk=>?_⟩
  have:=h (k+1) y (by simpa using hk)
  rwa [show i+(k+1)=i+1+k by omega] at this
theorem Dv {dim n:Int} (hd:dim≤4) (hn:n≤29) (j:Nat):∀ {l:LI} {i:Nat},(∀ (k:Nat) x,l[k]?=some x→Q8 x∨UT dim n (i+k) x)→IW (l.map S5) j=NS l j
 | [],_,_=>rfl
 | x :: l,i,h=>by
  have ih:=Dv hd hn j (l:=l) (i:=i+1) fun k y hk=>by
   have:=h (k+1) y (by simpa using hk)
   rwa [show i+(k+1)=i+1+k by omega] at this
  have h0:=zjg hd hn (h 0 x rfl) j;unfold IW NS at ih ⊢;simp only [A0,vba];rw [h0,ih]
theorem zeK (part byl atl val:LI) {dim:Int} (hd:1≤dim∧dim≤4):G4 (MY part byl atl val dim) dim=true:=by
 obtain ⟨i,hi,h⟩:=Et part byl atl val hd;have hlen:(MY part byl atl val dim).length=2*i+1:=by
  unfold MY;rw [BK,h.len]
 have hn:∀ (k:Nat) x,(PB part byl atl val dim).nodes[k]?=some x→Q8 x∨UT dim (ic (MY part byl atl val dim).length) (0+k) x:=fun k x hk=>by
  have e:ic (MY part byl atl val dim).length=2*(i:Int)+1:=by simp only [ic]; omega
  rw [e,BL];exact h.node k x hk
 have hb:ic (MY part byl atl val dim).length≤29:=by simp only [ic]; omega
 unfold G4;rw [AH,AH,AH];refine ⟨⟨C6 (by omega),C6 (by omega)⟩,Ek hd.2 hb hn,?_⟩;unfold ZU;rw [CU];intro j hj;have hj:=vbn.1 hj;rw [B8]
 have:=Dv hd.2 hb (j+1) hn
 have e:IW (MY part byl atl val dim) (j+1)=NS (PB part byl atl val dim).nodes (j+1):=this;rw [e,h.cnt,BP (by omega)]
theorem ZB (d:Int):1≤N9 d∧N9 d≤3:=(HG (n:=d) (lo:=1) (hi:=3) (by omega) (by omega) (by omega)).2
theorem d6 (d:Int):1≤K0 d∧K0 d≤3:=(HG (n:=d) (lo:=1) (hi:=3) (by omega) (by omega) (by omega)).2
def kC (d c:Int) (bias ts:LI):Md:=⟨N9 d,K0 c,SK c bias 0,SK c bias 1,SK c bias 2,RU d c ts⟩
theorem mU (c:Int) (bias:LI) (j:Int):HU (K0 c) j (SK c bias j)=true:=by
 unfold HU SK
 have:=(HG (n:=EL bias j) (lo := -500) (hi:=500) (by omega) (by omega) (by omega)).2
 rcases Int.lt_or_le j (K0 c) with h | h
 ·rw [AE h,AL (show ¬ j≥K0 c by omega)];simp only [BH,BM,A6,B9];unfold E5;rw [AE (by omega),AE (by omega)];rfl
 ·rw [AL (show ¬ j < K0 c by omega),AE (show j≥K0 c from h)];rfl
theorem ziW (d c:Int) (t:IV):HM (N9 d) (K0 c) (aD d c t)=true:=by
 have hd:=ZB d;have hc:=d6 c;have hk:=(HG (n:=(t.cell 0).toInt) (lo:=0) (hi:=K0 c - 1) (by omega) (by omega) (by omega)).2;show (!(decide (DN (t.cell 0).toInt 0 (K0 c - 1) < 0))&&(!(decide (DN (t.cell 0).toInt 0 (K0 c - 1)≥K0 c))&&G4 (MY (t.cell 1).toList (t.cell 2).toList (t.cell 3).toList (t.cell 4).toList (N9 d)) (N9 d)))=true;rw [AL (by omega),AL (by omega),zeK _ _ _ _ ⟨hd.1,by omega⟩];rfl
theorem ziY (d c:Int) (ts:LI):(RU d c ts).all (HM (N9 d) (K0 c))=true:=by
 rw [CU];intro t ht;unfold RU at ht;obtain ⟨u,_,rfl⟩:=CK.1 ht;exact ziW d c u
theorem ziX (d c:Int) (ts:LI):(RU d c ts).length≤4:=by
 unfold RU;rw [BK,BC];omega
theorem zcI {m:Md} (hd:1≤m.d∧m.d≤4) (hc:1≤m.c∧m.c≤3) (hl:m.ts.length≤8) (h0:HU m.c 0 m.b0=true) (h1:HU m.c 1 m.b1=true) (h2:HU m.c 2 m.b2=true) (ht:m.ts.all (HM m.d m.c)=true):E0 m=true:=by
 unfold E0;rw [AL (show ¬ m.d < 1 by omega),AL (show ¬ m.d > 4 by omega),AL (show ¬ m.c < 1 by omega),AL (show ¬ m.c > 3 by omega),C6 hl,h0,h1,h2,ht];rfl
theorem zcJ (d c:Int) (bias ts:LI):E0 (kC d c bias ts)=true:=by
 have hd:=ZB d;have hc:=d6 c;exact zcI (m:=kC d c bias ts) ⟨hd.1,by show N9 d≤4; omega⟩ hc (by have:=ziX d c ts; show (RU d c ts).length≤8; omega) (mU c bias 0) (mU c bias 1) (mU c bias 2) (ziY d c ts)
open Go
abbrev EE:List Kd:=[.bool,.z,.z]
def G3 (x:IV):Bool:=(x.cell 0).toBool
def FC (x:IV):Int:=(x.cell 1).toInt
def FV (x:IV):Int:=(x.cell 2).toInt
def X2 (x y:IV):Bool:=G3 x==G3 y&&(FC x==FC y&&FV x==FV y)
def PJ (x:IV):Bool:=!(G3 x&&!(FC x==0&&FV x==0))&&(decide (0≤FC x)&&decide (FC x≤4))
def PK (l:LI):Bool:=decide (1≤l.length)&&(decide (l.length≤65536)&&l.all PJ)
def bN:DW
 | [.list true [.bool,.z,.z] l]=>.ok (.bool (PK l)) []
 | _=>.no
def FO:LI→LI→Bool
 | [],[]=>true
 | x :: l,y :: m=>X2 x y&&FO l m
 | _,_=>false
def bR:DW
 | [.list true [.bool,.z,.z] l,.list true [.bool,.z,.z] m]=>.ok (.bool (FO l m)) []
 | _=>.no
structure Vd where
 kind:Int
 proof:LI
 w0:Int
 w1:Int
 w2:Int
 w3:Int
 twin:Int
 spent:Int
def Vd.none:Vd:=⟨0,[],0,0,0,0,0,0⟩
def Vd.V (v:Vd):V:=.agg [.int .i64 v.kind,.list true EE v.proof,.int .i64 v.w0,.int .i64 v.w1,.int .i64 v.w2,.int .i64 v.w3,.int .i64 v.twin,.int .i64 v.spent]
def Vd.bare (v:Vd):Bool:=v.w0==0&&(v.w1==0&&(v.w2==0&&(v.w3==0&&v.twin==0)))
def Vd.right (v:Vd):Bool:=
 decide (0≤v.spent)&&(decide (v.spent≤65536) &&
  (v.kind==1&&(v.bare&&PK v.proof)||(v.kind==2&&v.proof.isEmpty||(v.kind==3||v.kind==4)&&(v.bare&&v.proof.isEmpty))))
def bJ:DW
 | [.agg [.int .i64 k,.list true [.bool,.z,.z] p,.int .i64 a,.int .i64 b,.int .i64 c,.int .i64 d,.int .i64 t,.int .i64 s]]=>.ok (.bool (Vd.right ⟨k,p,a,b,c,d,t,s⟩)) []
 | _=>.no
def M0:BA→LI→BA
 | s,[]=>s
 | s,x :: l=>M0 (s.push 32++DQ x.toInt) l
def GP (s w:BA) (l:LI):BA:=(M0 (s++w) l).push 10
def bK:DW
 | [.bor [.bld s],.str w,.list false [.z] l]=>.br (decide ((GP s w l).size≤strMax)) (.ok (.tup []) [[.bld (GP s w l)]]) .no
 | _=>.no
def GL (l:LI) (i:Int):Int:=cond (decide (ic l.length≤i)) 0 (FK (l.getD i.toNat default).toStr)
def bL:DW
 | [.list false [.str] l,.int .i64 i]=>.br (decide (0≤i)) (.ok (.int .i64 (GL l i)) []) .no
 | _=>.no
def RG (b:Bool) (p a:Int):IV:=.agg [.bool b,.int p,.int a]
abbrev IZ:BA:=⟨#[104,111,108,100,115]⟩
abbrev QL:BA:=⟨#[102,97,105,108,115]⟩
abbrev QM:BA:=⟨#[117,110,107,110,111,119,110]⟩
abbrev QN:BA:=⟨#[119,114,111,110,103]⟩
abbrev RV:BA:=⟨#[115,117,109]⟩
abbrev YB:BA:=⟨#[99,117,116]⟩
abbrev ES:BA:=⟨#[10]⟩
abbrev VL:BA:=⟨#[32]⟩
abbrev D8:BA:=⟨#[]⟩
def ID (s:BA):LI:=(D3 (cutL s ES) VL).map IV.str
def MM (l:LI):BA:=(l.getD 0 default).toStr
def Z1 (s:BA):IV:=
 cond ((MM (ID s)).toList==RV.toList) (RG true 0 0) (RG false (GL (ID s) 1) (GL (ID s) 2))
def S6:Nat→BA→LI→LI
 | 0,_,p=>p
 | n+1,s,p=>cond (!(s.toList==D8.toList)&&decide (p.length≤65536)) (S6 n (FW s ES) (p++[Z1 s])) p
def II (s:BA):Vd:=
 cond ((MM (ID s)).toList==IZ.toList) ⟨1,S6 ((FW s ES).size+1) (FW s ES) [],0,0,0,0,0,GL (ID s) 1⟩
 (cond ((MM (ID s)).toList==QL.toList) ⟨2,[],GL (ID s) 2,GL (ID s) 3,GL (ID s) 4,GL (ID s) 5,GL (ID s) 6,GL (ID s) 1⟩
 (cond ((MM (ID s)).toList==QM.toList) ⟨3,[],0,0,0,0,0,GL (ID s) 1⟩
 (cond ((MM (ID s)).toList==QN.toList) ⟨4,[],0,0,0,0,0,GL (ID s) 1⟩
 ⟨0,[],0,0,0,0,0,GL (ID s) 1⟩)))
def bM:DW
 | [.str s]=>.br (decide (s.size < 4294967281)) (.ok (.agg [.int .i64 (II s).kind,.list true [.bool,.z,.z] (II s).proof,.int .i64 (II s).w0,.int .i64 (II s).w1,.int .i64 (II s).w2,.int .i64 (II s).w3,.int .i64 (II s).twin,.int .i64 (II s).spent]) []) .no
 | _=>.no
def K4:BA→LI→BA
 | s,[]=>s
 | s,x :: l=>K4 (cond (G3 x) (GP s RV []) (GP s YB [.int (FC x),.int (FV x)])) l
def EI (v:Vd):BA:=
 cond v.right
  (cond (v.kind==1) (K4 (GP D8 IZ [.int v.spent,.int (ic v.proof.length)]) v.proof)
  (cond (v.kind==2) (GP D8 QL [.int v.spent,.int v.w0,.int v.w1,.int v.w2,.int v.w3,.int v.twin])
  (cond (v.kind==3) (GP D8 QM [.int v.spent])
  (GP D8 QN [.int v.spent]))))
  D8
def SC:DW
 | [.agg [.int .i64 k,.list true [.bool,.z,.z] p,.int .i64 a,.int .i64 b,.int .i64 c,.int .i64 d,.int .i64 t,.int .i64 s]]=>
  .br (decide ((EI ⟨k,p,a,b,c,d,t,s⟩).size≤strMax)) (.ok (.str (EI ⟨k,p,a,b,c,d,t,s⟩)) []) .no
 | _=>.no
def U3 (s:BA):Bool:=!(s.toList==D8.toList)&&(EI (II s)).toList==s.toList
def JS (s:BA):Vd:=cond (U3 s) (II s) Vd.none
def bI:DW
 | [.str s]=>.br (decide (s.size < 4294967281)) (.br (decide ((EI (II s)).size≤strMax)) (.ok (.tup [.agg [.int .i64 (JS s).kind,.list true [.bool,.z,.z] (JS s).proof,.int .i64 (JS s).w0,.int .i64 (JS s).w1,.int .i64 (JS s).w2,.int .i64 (JS s).w3,.int .i64 (JS s).twin,.int .i64 (JS s).spent],.bool (U3 s)]) []) .no) .no
 | _=>.no
def gR (a b:Vd):Bool:=a.kind==b.kind&&(FO a.proof b.proof&&(a.w0==b.w0&&(a.w1==b.w1&&(a.w2==b.w2&&(a.w3==b.w3&&(a.twin==b.twin&&a.spent==b.spent))))))
def bV:DW
 | [.agg [.int .i64 k,.list true [.bool,.z,.z] p,.int .i64 a,.int .i64 b,.int .i64 c,.int .i64 d,.int .i64 t,.int .i64 s],
  .agg [.int .i64 k',.list true [.bool,.z,.z] p',.int .i64 a',.int .i64 b',.int .i64 c',.int .i64 d',.int .i64 t',.int .i64 s']]=>.ok (.bool (gR ⟨k,p,a,b,c,d,t,s⟩ ⟨k',p',a',b',c',d',t',s'⟩)) []
 | _=>.no
end Go.FM
