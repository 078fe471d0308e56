/-
  A small machine that reckons what a call comes to; the functions of the program, one by one. (THE LIBRARY's strconv.FormatUint AT BASE 10: the number's de, WHAT THE LIBRARY's FUNCTIONS OVER SLICES OF STRINGS COME TO,, THE LIBRARY's FUNCTIONS AS THE SMALL MACHINE SEES THEM: stri, and so on.)
-/
import Derived.Test.YtehhekmihbaghaaGreatDoorVb
import Derived.Lib.AppendIntMem
set_option linter.all false
set_option maxRecDepth 100000
open Array renaming length_toList→CL,toList_append→vai
open BitVec renaming ofInt→A5,toNat→CH
open Bool renaming and_eq_true→AI,not_true→A3,not_false→A7,true_and→BC,false_and→BL,and_true→B2,not_eq_true'→B3,and_self→B4,and_false→vaf,or_eq_true→vap,false_or→vaz,eq_iff_iff→va2
open ByteArray renaming size→AG,size_append→AU,toList→AW,empty→CK,append_assoc→C7,extract→vaa,size_push→va4,size_extract→vbf
open Go.Addr.mk renaming injEq→DH
open Go.IntKind renaming wrap→AA,i64→AB,u64→AJ,bits→AR,signed→vaj,wrap_u64→vbi
open Go.Lib renaming decDigits→BU,strCells→DC,indexByte→DG,itoa→vam,strCells_length→vat,split→vay,bytesWorld→vaO,cut→vaP,parseUint10→vaQ,atoiAll→vbj,count_one→vbv,parseUintB_64→vbL
open Go.ResultVar renaming tmp→CF,cell→va7
open Go.World renaming cell?→vaN
open Int renaming toNat→AE,toNat_natCast→BF,le_refl→vac,fdiv→va0
open List renaming length→AF,getD→AH,take→AK,length_cons→AM,mem_cons_self→AO,mem_cons→AP,drop→AS,length_append→AT,mem_append→AX,mem_cons_of_mem→AY,map_cons→A0,map→A2,length_nil→A6,getElem?_eq_getElem→A8,length_take→BB,drop_eq_getElem_cons→BE,length_map→BG,mem_singleton→BM,replicate→BN,take_length→BO,getElem?_eq_some_iff→BR,getD_eq_getElem?_getD→BV,not_mem_nil→BX,drop_zero→BY,getElem?_cons_zero→BZ,getElem?_eq_none→B1,getElem?_map→B9,map_nil→CA,drop_of_length_le→CD,mem_map→CI,getElem?_take→CM,all_eq_true→CR,cons_append→CT,take_of_length_le→CV,getElem_mem→CX,length_drop→CY,length_singleton→C2,size_toArray→C8,append_nil→DB,getElem?_append→vag,mem_of_getElem?→vah,getElem?_drop→var,range→vau,all_cons→vaA,drop_length→vaD,length_set→vaG,append_assoc→vaI,mem_of_mem_take→vaK,mem_range→vaR,sum_cons→va3,mem_of_mem_drop→va8,count_eq_zero_of_not_mem→vba,getElem?_set_ne→vbb,getElem?_append_right→vbu,getElem?_append_left→vbx,isPrefixOf→vbA,eraseIdx_eq_take_drop_succ→vbN
open Nat renaming le_of_ble_eq_true→AN,le_refl→AZ,zero_add→BI,beq→BQ,blt→BS,ble→B6,le_trans→C1,ble_eq_true_of_le→C6,add_zero→C9,eq_of_beq_eq_true→vao,add_assoc→vaV,strongRecOn→vbr
open Option renaming map_eq_some_iff→DE
open Option.some renaming injEq→AC,inj→CS
open Prod.mk renaming injEq→AV
open UInt8 renaming toNat_ofNat_of_lt'→vab,size→vbo
namespace Go.FM
open Go Go.Proofs Go.RowKit Go.Sort Go.Lib
set_option maxHeartbeats 12800000 in
theorem Zh (u:Nat) (hu64:u < 18446744073709551616) (w:World) (htab:Lib.TabIs Tryz.prog w "internal/strconv.uint64pow10" .u64 Lib.pow10Tab) :
  Calls Tryz.prog 129 #[.int .u64 u,.int .i64 10] w fun e w'=>e = .returned (.string ⟨(Lib.decDigits u).toArray⟩)∧∃ k os,w'=grow (w.drewN k) os:=by
 by_cases hs:u < 100
 ·have hwr:IntKind.i64.wrap (u:Int)=(u:Int):=by rw [IntKind.wrap_i64]; omega
  have iu:(u:Int) < 100:=by omega
  go_enter Tryz.func129,Tryz.ntmps129
  go_wp2_with (go_at_call 170; refine (Tryz.internal_strconv_small u hs _).mono ?_; rintro e w' ⟨rfl,rfl⟩)
  go_ret
  exact ⟨rfl,0,#[],by simp [World.drewN_zero]⟩
 ·have hu1:1≤u:=by omega
  have hnd20:Lib.nDigits u≤20:=by have:=Lib.numDigits_eq u hu1 hu64; split at this <;> omega
  have hal:Tryz.prog.arrayLen 225=24:=by simp [Program.arrayLen,Tryz.underlying225]
  have hsl:∀ W,(Instr.sliceAt 225 (.pointer (some ⟨w.heap.size,0,none⟩)) none (some (.int .i64 (Lib.nDigits u:Int))) none).run Tryz.prog W = .ok (.slice (some ⟨w.heap.size,0,none⟩) (Lib.nDigits u) 24) W:=fun W=>by
   rw [run_sliceAt_array_h W 225 ⟨w.heap.size,0,none⟩ (by simp [Program.arrayLen,Program.elem,Tryz.underlying225]) .i64 (Lib.nDigits u:Int) (by omega) (by rw [hal]; omega)]
   go_simp
  have hH0:=Lib.holds_zero0 w 225 (Lib.nDigits u) (by omega);have hfmt:=Tryz.internal_strconv_formatBase10 w.heap.size 0 24 u (Array.replicate (Lib.nDigits u) 0) (w.alloc (.cells Lib.zeros24 225)) hH0 (by rw [Array.size_replicate]; exact Lib.lt_pow_nDigits u) hu64 (by rw [Array.size_replicate]; omega);rw [Array.size_replicate] at hfmt;have HH0:=Lib.hid hH0;have iu:¬ (u:Int) < 100:=by omega
  clear hH0 hal hs
  go_enter Tryz.func129,Tryz.ntmps129
  go_wp2_with (first
   | (go_at_call 171; refine (Tryz.internal_strconv_numDigits u hu1 hu64 _ (Lib.tabIs_alloc htab _)).mono ?_; rintro e w' ⟨rfl,rfl⟩))
  go_at_call 172
  refine hfmt.mono ?_;rintro e w' ⟨rfl,k,v',dk,rfl,hF⟩;have hcv:(convert 69 9 (.slice (some ⟨w.heap.size,0,none⟩) (Lib.nDigits u) 24)).run Tryz.prog ((putRow (fun (b:UInt8)=>Value.int .u8 (b.toNat:Int)) (w.alloc (.cells Lib.zeros24 225)) w.heap.size 0 dk).drewN k) = .ok (.string ⟨(Lib.decDigits u).toArray⟩) ((putRow (fun (b:UInt8)=>Value.int .u8 (b.toNat:Int)) (w.alloc (.cells Lib.zeros24 225)) w.heap.size 0 dk).drewN k):=by
   have h:=run_convert_bytes_back (P:=Tryz.prog) ((putRow (fun (b:UInt8)=>Value.int .u8 (b.toNat:Int)) (w.alloc (.cells Lib.zeros24 225)) w.heap.size 0 dk).drewN k) 69 9 5 ⟨w.heap.size,0,none⟩ 24 (Lib.decDigits u) Tryz.underlying69 Tryz.underlying5 Tryz.underlying9 (fun j hj=>by
    rw [Lib.row_is_numeral hF j hj,Lib.add_plain,World.cell?_drewN];exact cell?_putRow (fun (b:UInt8)=>Value.int .u8 (b.toNat:Int)) _ w.heap.size 0 _ dk HH0.out (by rw [hF.size,Array.size_replicate]) j (by rw [hF.size]; rw [Lib.decDigits_length] at hj; exact hj))
   rw [Lib.decDigits_length] at h;exact h
  go_wp2
  go_ret
  obtain ⟨os,eo⟩:=Lib.fin_at w (.cells Lib.zeros24 225) dk k 0;exact ⟨rfl,k,os,eo⟩
set_option maxHeartbeats 1600000 in
theorem Zg (u:Nat) (hu64:u < 18446744073709551616) (w:World) (htab:Lib.TabIs Tryz.prog w "internal/strconv.uint64pow10" .u64 Lib.pow10Tab) :
  Calls Tryz.prog 83 #[.int .u64 u,.int .i64 10] w fun e w'=>e = .returned (.string ⟨(Lib.decDigits u).toArray⟩)∧∃ k os,w'=grow (w.drewN k) os:=by
 go_enter Tryz.func83,Tryz.ntmps83
 go_wp2_with (go_at_call 129; refine (Zh u hu64 _ htab).mono ?_; rintro e w' ⟨rfl,hw⟩)
 go_ret
 exact ⟨rfl,hw⟩
theorem ziD:(PR.info? 9).map (fun i=>(i.zero,i.size,i.bytes))=some (some (.string .empty),1,16):=by kernel_rfl
set_option maxHeartbeats 4000000 in
theorem Ut (b:Addr) (n c:Nat) (news:List Value) (w:World) (hl:news.length=n) (hn:n≤maxLen) (hbig:n*16≤140737488355328)
  (hc:∀ j u,news[j]?=some u→w.cell? (b.add j)=some u) (h1:∀ u∈news,u.oneCell'=true) :
  Calls Tryz.prog 161 #[.slice (some b) n c] w fun e w'=>∃ v',e = .returned v'∧w'.ownsRow w.heap.size 9 1 v' n news∧Below w.heap.size w w':=by
 obtain ⟨i0,hi,hz0,hz1,hz2⟩:=info_parts ziD;have qS:∀ (w:World) (a:Option Addr) (n c n' c':Nat),(binOp .eql 66 (.slice a n c) (.slice none n' c')).run Tryz.prog w = .ok (.bool a.isNone) w:=fun w a n c n' c'=>Lib.run_eql_slice_nil w _ _ a n c n' c' Tryz.underlying66
 have A:Aside (∀ j u,news[j]?=some u→w.cell? (b.add j)=some u):=hc;clear hc
 go_enter Tryz.func161,Tryz.ntmps161
 go_wp2_with (at_builtin; refine wpList_append_own _ rfl _ _ 66 rfl w.heap.size 9 i0 (.string .empty) 1 16 Tryz.underlying66 hi hz0 hz1 hz2 rfl (by decide) _ _ _ rfl (World.ownsRow_made w #[] 0 (Nat.le_refl _) (Nat.zero_le _) (by simp)) b n c news rfl ?qc1 ?qc2 ?qc3 ?qc4 ?qc5 ?qc6 ?_)
 case qc1=>rw [Nat.mul_one]; exact hl
 case qc2=>
  intro j u hj;exact Lib.cell?_alloc_some _ (A.out j u hj)
 case qc3=>exact h1
 case qc4=>rw [Nat.zero_add]; exact hn
 case qc5=>rw [Nat.zero_add]; exact hbig
 case qc6=>simp
 intro v' w1 hown hgrow hnil
 go_wp2
 go_ret
 refine ⟨v',rfl,by simpa using hown,?_⟩;exact ((Below.refl _ w).alloc (Nat.le_refl _) _).grown hgrow (by simp) (by intro k hk; simp [Value.ownBlock] at hk; omega)
set_option maxHeartbeats 1000000 in
theorem Uq (n c:Nat) (w:World):Calls Tryz.prog 161 #[.slice none n c] w fun e w'=>e = .returned (.slice none 0 0)∧w'=w:=by
 have qS:∀ (w:World) (a:Option Addr) (n c n' c':Nat),(binOp .eql 66 (.slice a n c) (.slice none n' c')).run Tryz.prog w = .ok (.bool a.isNone) w:=fun w a n c n' c'=>Lib.run_eql_slice_nil w _ _ a n c n' c' Tryz.underlying66
 go_enter Tryz.func161,Tryz.ntmps161
 go_wp2
 go_ret
 exact ⟨rfl,rfl⟩
open Go Go.RowKit
def hU:DV
 | [.list false [.str] l]=>.br (decide (l.length≤4294967296)) (.ok (.vec 9 false [.str] l) []) .no
 | _=>.no
def dF:DV
 | [.list false [.str] l,.str s]=>.ok (.int .i64 (FY l s 0)) []
 | _=>.no
open Go Go.Proofs Go.RowKit
structure GF (h:Nat→Option Obj):Prop where
 unit:True
 gm:∃ c T fr m,h 1=some (.cells c T fr)∧c[0]?=some (.int .i64 m)
 gp:∃ T fr,h 0=some (.cells (Lib.pow10Tab.map fun z=>Value.int .u64 z).toArray T fr)
 gs:∃ c T fr te pe,h 2=some (.cells c T fr)∧c[0]?=some (.iface te pe)
 gr:∃ c T fr te pe,h 3=some (.cells c T fr)∧c[0]?=some (.iface te pe)
def B0:BT:={ T:=108,e:=5,ng:=4,F:=GF }
theorem jN {w:World} {h:Nat→Option Obj} (hh:h=fun b=>if b < B0.ng then w.heap[b]? else none) {g:Nat} (hg:g < 4) {o:Obj} (ho:h g=some o):w.heap[g]?=some o:=by
 rw [hh] at ho;simp only at ho;rw [BP (show g < B0.ng from hg)] at ho;exact ho
theorem As {w:World} (h:Glob B0 w):∃ m,w.cell? ⟨1,0,none⟩=some (.int .i64 m):=by
 obtain ⟨c,T,fr,m,h1,h2⟩:=h.2.gm;exact ⟨m,by simp only [vaN,jN rfl (by decide) h1]; exact h2⟩
theorem Au {w:World} (h:Glob B0 w):Lib.TabIs Tryz.prog w "internal/strconv.uint64pow10" .u64 Lib.pow10Tab:=by
 obtain ⟨T,fr,h1⟩:=h.2.gp;have hn:Tryz.prog.globalNamed "internal/strconv.uint64pow10" = some 0:=by kernel_rfl
 unfold Lib.TabIs World.var?;rw [hn];simp only [Option.bind_some,jN rfl (by decide) h1]
theorem Aw {w:World} (h:Glob B0 w):∃ ev,w.cell? ⟨2,0,none⟩=some ev∧(ev = .nilIface∨∃ te pe,ev = .iface te pe):=by
 obtain ⟨c,T,fr,te,pe,h1,h2⟩:=h.2.gs;exact ⟨_,by simp only [vaN,jN rfl (by decide) h1]; exact h2,.inr ⟨te,pe,rfl⟩⟩
theorem Av {w:World} (h:Glob B0 w):∃ ev,w.cell? ⟨3,0,none⟩=some ev∧(ev = .nilIface∨∃ te pe,ev = .iface te pe):=by
 obtain ⟨c,T,fr,te,pe,h1,h2⟩:=h.2.gr;exact ⟨_,by simp only [vaN,jN rfl (by decide) h1]; exact h2,.inr ⟨te,pe,rfl⟩⟩
theorem Keep.below {w w':World} (h:Below w.heap.size w w'):Keep (fun _=>False) w w':=⟨h.os,h.tape,h.output,h.size,fun b hb _=>h.block b hb⟩
theorem Keep.drewN {O:Nat→Prop} (w:World):∀ n,Keep O w (w.drewN n):=fun _=>⟨rfl,rfl,rfl,AZ _,fun _ _ _=>rfl⟩
theorem Keep.grow (w:World) (os:Array Obj):Keep (fun _=>False) w (Go.Sort.grow w os):=⟨rfl,rfl,rfl,by simp [Go.Sort.grow],fun b hb _=>by simp [Go.Sort.grow,Array.getElem?_append_left hb]⟩
theorem sV:DX PR B0 60 T3:=by
 intro w X γ vs xs r out hsp hg hx hR hV;unfold T3 at hsp;simp only at hsp;split at hsp
 ·rename_i s t;cases hc:decide (s.size+t.size≤strMax) with
  | false=>rw [hc] at hsp; simp [R.get] at hsp
  | true=>
   rw [hc] at hsp;simp only [R.get,AC,AV] at hsp;obtain ⟨rfl,rfl⟩:=hsp;have hle:s.size+t.size≤strMax:=A1 hc;refine sP hR rfl rfl (fun γ' o w' O x h=>by
    simp only [VRel] at h ⊢;obtain ⟨cs,rfl,h⟩:=h;refine ⟨cs,rfl,?_⟩
    match cs,h with
    | ⟨[a,b]⟩,h=>simp only [VRels,VRel] at h ⊢; exact h) (fun b v p hgm hB=>?_)
   obtain ⟨x0,x1,rfl⟩:∃ x0 x1,xs=[x0,x1]:=by
    have:=hV.length
    simp at this
    match xs,this with
    | [a,b],_=>exact ⟨a,b,rfl⟩
   simp only [A0,CA,EQ,VRels] at hV;have h0:=mZ hgm hV.1;have h1:=hV.2.1;simp only [VRel] at h1;obtain ⟨rfl,ht⟩:=h1;subst h0;refine Does.of_calls Tryz.func60 (by kernel_rfl) (by kernel_rfl) ((Tx b p v (DC s) t w hB.self hB.heap (by rw [vat]; exact hB.own) hB.ne (by rw [vat]; unfold strMax at hle; omega)).mono ?_);rintro e w' ⟨rfl,v',q1,q2,q3,q4,q5⟩;refine ⟨_,rfl,⟨_,v',⟨.inr rfl,q1,?_,q3,?_⟩,q4,q5⟩,fun O=>?_⟩
   ·have e1:DC (s++t)=DC s++DC t:=by simp [DC]
    have e2:(s++t).size=(DC s++DC t).length:=by simp [vat]
    rw [e1,e2];exact q2
   ·simp only [AU]; exact hle
   ·simp only [VRel];refine ⟨_,rfl,?_⟩;simp only [VRels,VRel,ic,B7];refine ⟨trivial,?_,?_⟩
    ·have:AB.min = -9223372036854775808:=rfl
     omega
    ·have:AB.max=9223372036854775807:=rfl
     unfold strMax at hle;omega
 ·simp [R.get] at hsp
theorem Ua {c:Int} (h0:IntKind.u8.min≤c) (h1:c≤IntKind.u8.max):(Value.int .u8 ((M6 c).toNat:Int)) = .int .u8 c:=by
 have e1:IntKind.u8.min=0:=rfl;have e2:IntKind.u8.max=255:=rfl
 have:((M6 c).toNat:Int)=c:=by
  unfold M6;rw [vab (by simp [vbo]; omega)];omega
 rw [this]
theorem Jy:DX PR B0 97 YN:=by
 intro w X γ vs xs r out hsp hg hx hR hV;unfold YN at hsp;simp only at hsp;split at hsp
 ·rename_i s c;cases hc:decide (s.size+1≤strMax) with
  | false=>rw [hc] at hsp; simp [R.get] at hsp
  | true=>
   rw [hc] at hsp;simp only [R.get,AC,AV] at hsp;obtain ⟨rfl,rfl⟩:=hsp;have hle:s.size+1≤strMax:=A1 hc;refine sP hR rfl rfl (fun γ' o w' O x h=>by simp only [VRel] at h ⊢; exact h) (fun b v p hgm hB=>?_);obtain ⟨x0,x1,rfl⟩:∃ x0 x1,xs=[x0,x1]:=by
    have:=hV.length
    simp at this
    match xs,this with
    | [a,b],_=>exact ⟨a,b,rfl⟩
   simp only [A0,CA,EQ,VRels] at hV;have h0:=mZ hgm hV.1;have h1:=hV.2.1;simp only [VRel] at h1;obtain ⟨rfl,hc0,hc1⟩:=h1;subst h0;refine Does.of_calls Tryz.func97 (by kernel_rfl) (by kernel_rfl) ((Tw b p v (DC s) c w hB.self hB.heap (by rw [vat]; exact hB.own) hB.ne (by rw [vat]; unfold strMax at hle; omega)).mono ?_);rintro e w' ⟨rfl,v',q1,q2,q3,q4,q5⟩;refine ⟨_,rfl,⟨_,v',⟨.inr rfl,q1,?_,q3,?_⟩,q4,q5⟩,fun O=>by simp only [VRel]⟩
   ·have e1:DC (s.push (M6 c))=DC s++[.int .u8 c]:=by
     rw [← Ua hc0 hc1];simp [DC]
    have e2:(s.push (M6 c)).size=(DC s++[Value.int .u8 c]).length:=by simp [vat]
    rw [e1,e2];exact q2
   ·simp only [va4]; exact hle
 ·simp [R.get] at hsp
theorem sU:DX PR B0 56 T2:=by
 intro w X γ vs xs r out hsp hg hx hR hV;unfold T2 at hsp;simp only at hsp;split at hsp
 ·rename_i s;simp only [R.get,AC,AV] at hsp;obtain ⟨rfl,rfl⟩:=hsp;refine sP hR rfl rfl (fun γ' o w' O x h=>by simp only [VRel] at h ⊢; exact h) (fun b v p hgm hB=>?_);obtain ⟨x0,rfl⟩:∃ x0,xs=[x0]:=by
   have:=hV.length
   simp at this
   match xs,this with
   | [a],_=>exact ⟨a,rfl⟩
  simp only [A0,CA,EQ,VRels] at hV;have h0:=mZ hgm hV.1;subst h0;refine Does.of_calls Tryz.func56 (by kernel_rfl) (by kernel_rfl) ((Tp b p v s w hB.heap hB.own hB.ne).mono ?_);rintro e w' ⟨rfl,q1,q2,q3⟩;exact ⟨_,rfl,⟨p,v,⟨hB.self,q1,q2,hB.ne,hB.size⟩,q3,fun k hk=>.inl hk⟩,fun O=>by simp only [VRel]; exact ⟨trivial,hB.size⟩⟩
 ·simp [R.get] at hsp
theorem gG:DX PR B0 43 OO:=by
 intro w X γ vs xs r out hsp hg hx hR hV;unfold OO at hsp;simp only at hsp;split at hsp
 ·rename_i n;simp only [R.get,AC,AV] at hsp;obtain ⟨rfl,rfl⟩:=hsp;obtain ⟨x0,rfl⟩:∃ x0,xs=[x0]:=by
   have:=hV.length
   simp at this
   match xs,this with
   | [a],_=>exact ⟨a,rfl⟩
  simp only [A0,CA,EQ,VRels,VRel,B7] at hV;obtain ⟨rfl,h0,h1⟩:=hV;refine QE hR rfl rfl (Does.of_calls Tryz.func43 (by kernel_rfl) (by kernel_rfl) ((Tryz.strconv_Itoa n h0 h1 w (Au hg)).mono ?_));rintro e w' ⟨rfl,k,os,rfl⟩;exact ⟨_,rfl,((Keep.drewN w k).trans (Keep.grow _ os) (fun _ _ h=>h)),fun O _=>by
   simp only [VRel];exact ⟨rfl,by have:=ZI h0 h1; unfold strMax; omega⟩⟩
 ·simp [R.get] at hsp
theorem lG:DX PR B0 90 Q0:=by
 intro w X γ vs xs r out hsp hg hx hR hV;unfold Q0 at hsp;simp only at hsp;split at hsp
 ·rename_i s;simp only [R.get,AC,AV] at hsp;obtain ⟨rfl,rfl⟩:=hsp;obtain ⟨x0,rfl⟩:∃ x0,xs=[x0]:=by
   have:=hV.length
   simp at this
   match xs,this with
   | [a],_=>exact ⟨a,rfl⟩
  simp only [A0,CA,EQ,VRels,VRel,B7] at hV;obtain ⟨rfl,hs⟩:=hV;unfold strMax at hs;have hb:=vE s;refine QE hR rfl rfl (Does.of_calls Tryz.func90 (by kernel_rfl) (by kernel_rfl) ?_);cases ha:vbj s.data.toList
  ·rename_i v;refine (Tryz.strconv_Atoi_ok s (by omega) v ha w).mono ?_;rintro e w' ⟨rfl,hw⟩;have e1:FF s=v:=by unfold FF; rw [ha]
   have e2:KM s=true:=by unfold KM; rw [ha]
   rw [e1] at hb ⊢;rw [e2];refine ⟨_,rfl,?_,fun O _=>?_⟩
   ·rcases hw with rfl | ⟨t,rfl⟩
    ·exact Keep.refl _ _
    ·unfold vaO;have h1:=Keep.alloc (fun _=>False) w.drew (.cells (Lib.bytesCells w 5 t) 5);refine ((Keep.drew (fun _=>False) w).trans h1 (fun _ _ h=>h)).trans (Keep.freeze (O:=fun k=>k=w.heap.size) _ ⟨w.heap.size,_,none⟩ 1 rfl) (fun b hb h=>?_);subst h;exact absurd hb (Nat.lt_irrefl _)
   ·simp only [VRel];exact ⟨_,rfl,by simp only [VRels,VRel,B7,vaC]; exact hb⟩
  ·skip
   obtain ⟨ev,h1,h2⟩:=Aw hg;refine (Tryz.strconv_Atoi_syntax s (by omega) ha ev w h1 h2).mono ?_;rintro e w' ⟨N,rfl,_,_,hw⟩;have e1:FF s=0:=by unfold FF; rw [ha]
   have e2:KM s=false:=by unfold KM; rw [ha]
   rw [e1] at hb ⊢;rw [e2];refine ⟨_,rfl,Keep.below hw,fun O _=>?_⟩;simp only [VRel];exact ⟨_,rfl,by simp only [VRels,VRel,B7]; exact ⟨⟨trivial,hb⟩,_,_,rfl⟩⟩
  ·skip
   obtain ⟨ev,h1,h2⟩:=Av hg;refine (Tryz.strconv_Atoi_range s (by omega) ha ev w h1 h2).mono ?_;rintro e w' ⟨N,rfl,_,_,hw⟩;have e1:FF s=Lib.atoiSat s.data.toList:=by unfold FF; rw [ha]
   have e2:KM s=false:=by unfold KM; rw [ha]
   rw [e1] at hb ⊢;rw [e2];refine ⟨_,rfl,Keep.below hw,fun O _=>?_⟩;simp only [VRel];exact ⟨_,rfl,by simp only [VRels,VRel,B7]; exact ⟨⟨trivial,hb⟩,_,_,rfl⟩⟩
 ·simp [R.get] at hsp
theorem zh6:DX PR B0 83 iA:=by
 intro w X γ vs xs r out hsp hg hx hR hV;unfold iA at hsp;simp only at hsp;split at hsp
 ·rename_i n b;cases hc:decide (b=10) with
  | false=>rw [hc] at hsp; simp [R.get] at hsp
  | true=>
   rw [hc] at hsp;have hb:=A1 hc;subst hb;simp only [R.get,AC,AV] at hsp;obtain ⟨rfl,rfl⟩:=hsp;obtain ⟨x0,x1,rfl⟩:∃ x0 x1,xs=[x0,x1]:=by
    have:=hV.length
    simp at this
    match xs,this with
    | [a,b],_=>exact ⟨a,b,rfl⟩
   simp only [A0,CA,EQ,VRels,VRel,B7] at hV;obtain ⟨⟨rfl,h0,h1⟩,rfl,_⟩:=hV;have e0:AJ.min=0:=rfl;have e1:AJ.max=18446744073709551615:=rfl;rw [e0] at h0;rw [e1] at h1;obtain ⟨u,rfl⟩:∃ u:Nat,n=u:=⟨n.toNat,by omega⟩;refine QE hR rfl rfl (Does.of_calls Tryz.func83 (by kernel_rfl) (by kernel_rfl) ((Zg u (by omega) w (Au hg)).mono ?_));rintro e w' ⟨rfl,k,os,rfl⟩;refine ⟨_,rfl,((Keep.drewN w k).trans (Keep.grow _ os) (fun _ _ h=>h)),fun O _=>?_⟩;simp only [VRel];have hz:=qA h0 h1;exact ⟨by simp [E5],by unfold strMax; omega⟩
 ·simp [R.get] at hsp
theorem zh7:DX PR B0 189 iB:=by
 intro w X γ vs xs r out hsp hg hx hR hV;unfold iB at hsp;simp only at hsp;split at hsp
 ·rename_i s b c;cases hc:(decide (b=10)&&decide (c=64)) with
  | false=>rw [hc] at hsp; simp [R.get] at hsp
  | true=>
   rw [hc] at hsp;simp only [AI,AQ] at hc;obtain ⟨rfl,rfl⟩:=hc;simp only [R.get,AC,AV] at hsp;obtain ⟨rfl,rfl⟩:=hsp;obtain ⟨x0,x1,x2,rfl⟩:∃ x0 x1 x2,xs=[x0,x1,x2]:=by
    have:=hV.length
    simp at this
    match xs,this with
    | [a,b,c],_=>exact ⟨a,b,c,rfl⟩
   simp only [A0,CA,EQ,VRels,VRel,B7] at hV;obtain ⟨⟨rfl,hs⟩,⟨rfl,_⟩,rfl,_⟩:=hV;unfold strMax at hs;have hb:=rH s;refine QE hR rfl rfl (Does.of_calls Tryz.func189 (by kernel_rfl) (by kernel_rfl) ?_);cases ha:Lib.parseMag s.data.toList
   ·rename_i v;refine (Tryz.strconv_ParseUint_10_at64_ok s (by omega) v (by rw [vbL]; exact ha) w).mono ?_;rintro e w' ⟨rfl,hw⟩;have e1:GO s=v:=by unfold GO; rw [ha]
    have e2:JC s=true:=by unfold JC; rw [ha]
    rw [e1] at hb ⊢;rw [e2];refine ⟨_,rfl,?_,fun O _=>?_⟩
    ·rcases hw with rfl | rfl
     ·exact Keep.refl _ _
     ·unfold vaO;have h1:=Keep.alloc (fun _=>False) w.drew (.cells (Lib.bytesCells w 5 s) 5);refine ((Keep.drew (fun _=>False) w).trans h1 (fun _ _ h=>h)).trans (Keep.freeze (O:=fun k=>k=w.heap.size) _ ⟨w.heap.size,_,none⟩ 1 rfl) (fun b hb h=>?_);subst h;exact absurd hb (Nat.lt_irrefl _)
    ·simp only [VRel];exact ⟨_,rfl,by simp only [VRels,VRel,B7,vaC]; exact hb⟩
   ·skip
    obtain ⟨ev,h1,h2⟩:=Aw hg;refine (Tryz.strconv_ParseUint_10_at64_syntax s (by omega) (by rw [vbL]; exact ha) ev w h1 h2).mono ?_;rintro e w' ⟨N,rfl,_,_,hw⟩;have e1:GO s=0:=by unfold GO; rw [ha]
    have e2:JC s=false:=by unfold JC; rw [ha]
    rw [e1] at hb ⊢;rw [e2];refine ⟨_,rfl,Keep.below hw,fun O _=>?_⟩;simp only [VRel];exact ⟨_,rfl,by simp only [VRels,VRel,B7]; exact ⟨⟨trivial,hb⟩,_,_,rfl⟩⟩
   ·skip
    obtain ⟨ev,h1,h2⟩:=Av hg;refine (Tryz.strconv_ParseUint_10_at64_range s (by omega) (by rw [vbL]; exact ha) ev w h1 h2).mono ?_;rintro e w' ⟨N,rfl,_,_,hw⟩;have e1:GO s=18446744073709551615:=by unfold GO; rw [ha]
    have e2:JC s=false:=by unfold JC; rw [ha]
    rw [e1] at hb ⊢;rw [e2];refine ⟨_,rfl,Keep.below hw,fun O _=>?_⟩;simp only [VRel];exact ⟨_,rfl,by simp only [VRels,VRel,B7]; exact ⟨⟨trivial,hb⟩,_,_,rfl⟩⟩
 ·simp [R.get] at hsp
theorem zh9:DX PR B0 85 iD:=by
 intro w X γ vs xs r out hsp hg hx hR hV;unfold iD at hsp;simp only at hsp;split at hsp
 ·rename_i s cs;cases hc:(decide (cs.size=1)&&decide ((cs.data.toList.headD 0).toNat < 128)) with
  | false=>rw [hc] at hsp; simp [R.get] at hsp
  | true=>
   rw [hc] at hsp;simp only [AI,AQ] at hc;simp only [R.get,AC,AV] at hsp;obtain ⟨rfl,rfl⟩:=hsp;obtain ⟨c,rfl⟩:∃ c,cs=⟨#[c]⟩:=by
    obtain ⟨⟨l⟩⟩:=cs;have h1:l.length=1:=hc.1
    match l,h1 with
    | [c],_=>exact ⟨c,rfl⟩
   obtain ⟨x0,x1,rfl⟩:∃ x0 x1,xs=[x0,x1]:=by
    have:=hV.length
    simp at this
    match xs,this with
    | [a,b],_=>exact ⟨a,b,rfl⟩
   simp only [A0,CA,EQ,VRels,VRel,B7] at hV;obtain ⟨⟨rfl,hs⟩,rfl,_⟩:=hV;have hz:=Nw s ⟨#[c]⟩;unfold strMax at hs;refine QE hR rfl rfl (Does.of_calls Tryz.func85 (by kernel_rfl) (by kernel_rfl) ((Tryz.strings_TrimRight_one s c hc.2 w (by omega)).mono ?_));rintro e w' ⟨rfl,rfl⟩;refine ⟨_,rfl,Keep.refl _ _,fun O _=>?_⟩;simp only [VRel];exact ⟨rfl,by unfold strMax; omega⟩
 ·simp [R.get] at hsp
theorem Kb:DX PR B0 86 YQ:=by
 intro w X γ vs xs r out hsp hg hx hR hV;unfold YQ at hsp;simp only at hsp;split at hsp
 ·rename_i s n;cases hc:(decide (0≤n)&&decide (s.size*n.toNat≤strMax)) with
  | false=>rw [hc] at hsp; simp [R.get] at hsp
  | true=>
   rw [hc] at hsp;simp only [AI,AQ] at hc;simp only [R.get,AC,AV] at hsp;obtain ⟨rfl,rfl⟩:=hsp;obtain ⟨x0,x1,rfl⟩:∃ x0 x1,xs=[x0,x1]:=by
    have:=hV.length
    simp at this
    match xs,this with
    | [a,b],_=>exact ⟨a,b,rfl⟩
   simp only [A0,CA,EQ,VRels,VRel,B7] at hV;obtain ⟨⟨rfl,hs⟩,rfl,_,hn1⟩:=hV;have e1:AB.max=9223372036854775807:=rfl;rw [e1] at hn1;obtain ⟨c,rfl⟩:∃ c:Nat,n=c:=⟨n.toNat,by omega⟩;have hz:=rP s c;have hle:=hc.2;simp only [BF] at hle ⊢;unfold strMax at hle;refine QE hR rfl rfl (Does.of_calls Tryz.func86 (by kernel_rfl) (by kernel_rfl) ((Tryz.strings_Repeat s c w (by omega) (by omega)).mono ?_));rintro e w' ⟨rfl,hw⟩;refine ⟨_,rfl,Keep.below hw,fun O _=>?_⟩;simp only [VRel];exact ⟨rfl,by rw [hz]; unfold strMax; omega⟩
 ·simp [R.get] at hsp
theorem Jz:DX PR B0 57 YO:=by
 intro w X γ vs xs r out hsp hg hx hR hV;unfold YO at hsp;simp only at hsp;split at hsp
 ·rename_i s p;simp only [R.get,AC,AV] at hsp;obtain ⟨rfl,rfl⟩:=hsp;obtain ⟨x0,x1,rfl⟩:∃ x0 x1,xs=[x0,x1]:=by
   have:=hV.length
   simp at this
   match xs,this with
   | [a,b],_=>exact ⟨a,b,rfl⟩
  simp only [A0,CA,EQ,VRels,VRel,B7] at hV;obtain ⟨⟨rfl,hs⟩,rfl,_⟩:=hV;have hz:=Nv s p;refine QE hR rfl rfl (Does.of_calls Tryz.func57 (by kernel_rfl) (by kernel_rfl) ((Tryz.strings_CutPrefix s p w).mono ?_));rintro e w' ⟨rfl,rfl⟩;refine ⟨_,rfl,Keep.refl _ _,fun O _=>?_⟩;simp only [VRel];exact ⟨_,rfl,by simp only [VRels,VRel,B7]; exact ⟨⟨rfl,by omega⟩,rfl⟩⟩
 ·simp [R.get] at hsp
theorem sW:DX PR B0 104 T4:=by
 intro w X γ vs xs r out hsp hg hx hR hV;unfold T4 at hsp;simp only at hsp;split at hsp
 ·rename_i s sep;cases hc:decide (s.size < 4294967281) with
  | false=>rw [hc] at hsp; simp [R.get] at hsp
  | true=>
   rw [hc] at hsp;simp only [R.get,AC,AV] at hsp;obtain ⟨rfl,rfl⟩:=hsp;obtain ⟨x0,x1,rfl⟩:∃ x0 x1,xs=[x0,x1]:=by
    have:=hV.length
    simp at this
    match xs,this with
    | [a,b],_=>exact ⟨a,b,rfl⟩
   simp only [A0,CA,EQ,VRels,VRel,B7] at hV;obtain ⟨⟨rfl,hs⟩,rfl,hsep⟩:=hV;obtain ⟨m,hm⟩:=As hg;refine QE hR rfl rfl (Does.of_calls Tryz.func104 (by kernel_rfl) (by kernel_rfl) ((Tryz.strings_Cut s sep m w (A1 hc) hm).mono ?_));rintro e w' ⟨rfl,n,rfl⟩;have hsz:=i6 s sep;refine ⟨_,rfl,Keep.drewN w n,fun O _=>?_⟩;simp only [VRel];exact ⟨_,rfl,by simp only [VRels,VRel,B7]; exact ⟨⟨rfl,by omega⟩,⟨rfl,by omega⟩,rfl⟩⟩
 ·simp [R.get] at hsp
theorem Z8:DX PR B0 46 M5:=by
 intro w X γ vs xs r out hsp hg hx hR hV;unfold M5 at hsp;simp only at hsp;split at hsp
 ·rename_i s sep;cases hc:(decide (s.size < 4294967281)&&decide (1≤sep.size)) with
  | false=>rw [hc] at hsp; simp [R.get] at hsp
  | true=>
   rw [hc] at hsp;simp only [AI,AQ] at hc;simp only [R.get,AC,AV] at hsp;obtain ⟨rfl,rfl⟩:=hsp;obtain ⟨x0,x1,rfl⟩:∃ x0 x1,xs=[x0,x1]:=by
    have:=hV.length
    simp at this
    match xs,this with
    | [a,b],_=>exact ⟨a,b,rfl⟩
   simp only [A0,CA,EQ,VRels,VRel,B7] at hV;obtain ⟨⟨rfl,hs⟩,rfl,hsep⟩:=hV;obtain ⟨m,hm⟩:=As hg;have hlen:=Lib.splitB_all sep hc.2 0 _ s rfl;have hcnt:=Lib.countB_le sep hc.2 s.size s (AZ _);refine QE hR rfl rfl (Does.of_calls Tryz.func46 (by kernel_rfl) (by kernel_rfl) ((Tryz.strings_Split s sep m w hc.1 hm hc.2).mono ?_));rintro e w' ⟨rfl,rfl⟩;refine ⟨_,rfl,Keep.alloc _ w _,fun O hO=>?_⟩;simp only [VRel]
   have:=ziE (w:=w) (w':=w.alloc (.cells ((D2 s sep).map Value.string).toArray 9)) hO (g:=w.heap.size) (AZ _) (vaF w _) (l:=D2 s sep) (c:=Lib.countB s sep+1) (by unfold D2; omega) (by unfold maxLen; omega) (by unfold D2 strMax; omega) (fun p hp=>C1 ((Z9 sep _ s).2 p hp) hs)
   unfold D2 at this ⊢;rw [hlen] at this;exact this
 ·simp [R.get] at hsp
theorem Mw {w:World} {O:Nat→Prop} {l:LI} {x:Value} (h:Kd.Rel w O (.list false [.str]) (.list l) x):∃ p c,x = .slice p l.length c∧l.length≤c∧c≤maxLen∧l.length≤strMax∧∀ j y,l[j]?=some y→∃ b o,p=some ⟨b,o,none⟩∧b < w.heap.size∧w.cell? ⟨b,o+j,none⟩=some (.string y.toStr)∧y.toStr.size≤strMax:=by
 simp only [Kd.Rel,IV.toList] at h;obtain ⟨p,c,rfl,hc,hm,hl,hi⟩:=h;refine ⟨p,c,rfl,hc,hm,hl,fun j y hy=>?_⟩;obtain ⟨b,o,rfl,_,hb,hr⟩:=hi j y hy;simp only [Kd.RelAll,AM,A6,BI,Nat.mul_one,C9,B7] at hr;obtain ⟨u,hu,hs⟩:=hr;simp only [Kd.Rel,F6] at hs;obtain ⟨rfl,hs⟩:=hs;exact ⟨b,o,rfl,hb,hu,hs⟩
theorem Ka:DX PR B0 45 YP:=by
 intro w X γ vs xs r out hsp hg hx hR hV;unfold YP at hsp;simp only at hsp;split at hsp
 ·rename_i l sep;cases hc:(decide (l.length≤strMax)&&decide ((GI (l.map IV.toStr) sep).size≤strMax)) with
  | false=>rw [hc] at hsp; simp [R.get] at hsp
  | true=>
   rw [hc] at hsp;simp only [AI,AQ] at hc;simp only [R.get,AC,AV] at hsp;obtain ⟨rfl,rfl⟩:=hsp;obtain ⟨x0,x1,rfl⟩:∃ x0 x1,xs=[x0,x1]:=by
    have:=hV.length
    simp at this
    match xs,this with
    | [a,b],_=>exact ⟨a,b,rfl⟩
   simp only [A0,CA,EQ,VRels,VRel,B7] at hV;obtain ⟨h0,rfl,_⟩:=hV;obtain ⟨p,c,rfl,hc1,hc2,hc3,hcell⟩:=Mw h0;have hz:(GI (l.map IV.toStr) sep).size=(Lib.join ((l.map IV.toStr).map (·.data.toList)) sep.data.toList).length:=by
    show (Array.size (List.toArray _))=_;rw [C8]
   have hle:=hc.2;rw [hz] at hle;unfold strMax at hle hc3;refine QE hR rfl rfl (Does.of_calls Tryz.func45 (by kernel_rfl) (by kernel_rfl) (Calls.mono (R:=fun e w'=>e = .returned (.string (GI (l.map IV.toStr) sep))∧Below w.heap.size w w') ?_ ?_))
   ·cases l with
    | nil=>
     refine (Tryz.strings_Join_none p c sep w).mono ?_;rintro e w' ⟨rfl,rfl⟩;exact ⟨rfl,Below.refl _ _⟩
    | cons y r=>
     obtain ⟨b,o,rfl,hb,_⟩:=hcell 0 y rfl
     have:=Tryz.strings_Join b o c ((y :: r).map IV.toStr) sep w (fun j x hj=>by
      rw [B9,DE] at hj;obtain ⟨y',hj,rfl⟩:=hj;obtain ⟨b',o',hp,_,hu,_⟩:=hcell j y' hj;simp only [AC,DH,B7] at hp;obtain ⟨rfl,rfl⟩:=hp;exact hu) hb (by rw [BG]; omega) (by rw [BG]; omega) (by omega)
     rw [BG] at this;exact this
   ·rintro e w' ⟨rfl,hw⟩;refine ⟨_,rfl,Keep.below hw,fun O _=>?_⟩;simp only [VRel];exact ⟨trivial,by rw [hz]; unfold strMax; omega⟩
 ·simp [R.get] at hsp
theorem zh0:DX PR B0 161 hU:=by
 intro w X γ vs xs r out hsp hg hx hR hV;unfold hU at hsp;simp only at hsp;split at hsp
 ·rename_i l;cases hc:decide (l.length≤4294967296) with
  | false=>rw [hc] at hsp; simp [R.get] at hsp
  | true=>
   rw [hc] at hsp;have hc:=A1 hc;simp only [R.get,AC,AV] at hsp;obtain ⟨rfl,rfl⟩:=hsp;obtain ⟨x0,rfl⟩:∃ x0,xs=[x0]:=by
    have:=hV.length
    simp at this
    match xs,this with
    | [a],_=>exact ⟨a,rfl⟩
   simp only [A0,CA,EQ,VRels,VRel,B7] at hV;obtain ⟨p,c,rfl,hc1,hc2,hc3,hcell⟩:=Mw hV;have hel:∀ (w':World) (O:Nat→Prop) i y,l[i]?=some y→Kd.RelAll w' O [.str] (F6 false y) 0 (fun j u=>(l.map fun y=>Value.string y.toStr)[i*[Kd.str].length+j]?=some u):=fun w' O i y hy=>by
    obtain ⟨b,o,_,_,_,hs⟩:=hcell i y hy;simp only [Kd.RelAll,AM,A6,BI,Nat.mul_one,C9,B7];refine ⟨.string y.toStr,by rw [B9,hy]; rfl,?_⟩;simp only [Kd.Rel,F6];exact ⟨trivial,hs⟩
   refine Jm hR rfl (by decide) (by decide) hc3 (Does.of_calls Tryz.func161 (by kernel_rfl) (by kernel_rfl) ?_);cases p with
   | none=>
    have h0:l=[]:=by
     cases l with
     | nil=>rfl
     | cons y r=>
      obtain ⟨b,o,hp,_⟩:=hcell 0 y rfl;cases hp
    subst h0;refine (Uq _ c w).mono ?_;rintro e w' ⟨rfl,rfl⟩;exact ⟨_,[],rfl,Keep.refl _ _,⟨rfl,.inl ⟨rfl,rfl⟩⟩,hel _⟩
   | some a=>
    refine (Ut a l.length c (l.map fun y=>Value.string y.toStr) w (by rw [BG]) (by unfold maxLen; omega) (by omega) (fun j u hj=>?_) (fun u hu=>?_)).mono ?_
    ·rw [B9,DE] at hj;obtain ⟨y,hj,rfl⟩:=hj;obtain ⟨b,o,hp,_,hu,_⟩:=hcell j y hj;simp only [AC] at hp;subst hp;rw [Addr.add_lit];exact hu
    ·rw [CI] at hu;obtain ⟨y,_,rfl⟩:=hu;rfl
    ·rintro e w' ⟨v',rfl,hown,hw⟩;exact ⟨v',_,rfl,Keep.below hw,hown,hel _⟩
 ·simp [R.get] at hsp
def SpsOK:List (Nat × DV)→Prop
 | []=>True
 | (f,sp) :: r=>DX PR B0 f sp∧SpsOK r
theorem SpsOK.get:∀ {l:List (Nat × DV)},SpsOK l→∀ f sp,lk l f=some sp→DX PR B0 f sp
 | [],_,f,sp,h=>by simp [lk] at h
 | (g,sg) :: r,hs,f,sp,h=>by
  simp only [lk] at h;split at h
  ·rename_i hb;simp only [AC] at h;subst h;rw [← F1.1 hb];exact hs.1
  ·exact SpsOK.get hs.2 f sp h
theorem D6 {f:Nat} {fn:Func} {code:Code} {rs:List ResultVar} {nt:Nat} (sps:List (Nat × DV)) (lp:List (Nat × KP)) (sp:DV) (rks:List (List Kd)) (hf:PR.funcs[f]?=some fn)
  (hc:(fn.name == "runtime.NumGoroutine")=false∧fn.body=some code∧fn.ntmps=nt∧B6 nt 900000=true∧fn.results.toList=rs) (hs:SpsOK sps)
  (h:∀ vs r,(LB vs (GG vs)→TJ vs)→(sp vs).get=some r→∃ N,DZ (D5 sps lp nt N) code rs rks vs=some r):DX PR B0 f sp:=
 Jn (D5 sps lp nt) sp rks hf hc (fun _=>rfl) Df (fun _=>Nh rfl Ng) (fun _=>z7 rfl z6) (fun _=>hs.get) (fun _ f p hp=>by cases hp) (fun _ h=>vN h) h
def IpsOK:List (Nat × Ip)→Prop
 | []=>True
 | (f,p) :: r=>R7 PR f p∧IpsOK r
theorem IpsOK.get:∀ {l:List (Nat × Ip)},IpsOK l→∀ f p,lk l f=some p→R7 PR f p
 | [],_,f,p,h=>by simp [lk] at h
 | (g,pg) :: r,hs,f,p,h=>by
  simp only [lk] at h;split at h
  ·rename_i hb;simp only [AC] at h;subst h;rw [← F1.1 hb];exact hs.1
  ·exact IpsOK.get hs.2 f p h
theorem Jo {f:Nat} {fn:Func} {code:Code} {rs:List ResultVar} {nt:Nat} (sps:List (Nat × DV)) (ips:List (Nat × Ip)) (lp:List (Nat × KP)) (sp:DV) (rks:List (List Kd)) (hf:PR.funcs[f]?=some fn)
  (hc:(fn.name == "runtime.NumGoroutine")=false∧fn.body=some code∧fn.ntmps=nt∧B6 nt 900000=true∧fn.results.toList=rs) (hs:SpsOK sps) (hi:IpsOK ips)
  (h:∀ vs r,(LB vs (GG vs)→TJ vs)→(sp vs).get=some r→∃ N,DZ (kG sps ips lp nt N) code rs rks vs=some r):DX PR B0 f sp:=
 Jn (kG sps ips lp nt) sp rks hf hc (fun _=>rfl) Df (fun _=>Nh rfl Ng) (fun _=>z7 rfl z6) (fun _=>hs.get) (fun _=>hi.get) (fun _ h=>vN h) h
open Go Go.RowKit
theorem EH {n:Int} (h0 : -9223372036854775808≤n) (h1:n≤9223372036854775807):AA .i64 n=n:=by
 have e:AA .i64 n=(n+9223372036854775808) % 18446744073709551616 - 9223372036854775808:=by
  simp [AA,AR,vaj];omega
 rw [e];omega
theorem G8 {α:Type} {l:List α} {i:Nat} (h:i < l.length):decide ((i:Int) < ic l.length)=true:=by simp [ic]; omega
theorem I2 {α:Type} {l:List α} {i:Nat} (h:l.length≤i):decide ((i:Int) < ic l.length)=false:=by simp [ic]; omega
theorem H7 {i:Nat}:decide (0≤(i:Int))=true:=by simp
theorem HC {i:Nat} (h:i < 9223372036854775807):AA .i64 ((i:Int)+1)=((i+1:Nat):Int):=by rw [EH (by omega) (by omega)]; rfl
theorem H6 {α:Type} [Inhabited α] {l:List α} {i:Nat} (h:i < l.length):l.getD (i:Int).toNat default=l[i]:=by simp [h]
theorem nV (a b:Int):decide (a≤b)=!decide (b < a):=by rw [va2]; simp
theorem nU (a b:Int):decide (a > b)=decide (b < a):=rfl
theorem T7 (a b:Int):(a==b)=decide (a=b):=rfl
theorem vR (a b:Int):(a != b)=!decide (a=b):=rfl
theorem DI {α:Type _} (a b:α):cond true a b=a:=Eq.trans (Eq.refl a) (Eq.refl a)
theorem DJ {α:Type _} (a b:α):cond false a b=b:=Eq.trans (Eq.refl b) (Eq.refl b)
open Go
def FL (n:Int):Int:=AA .i64 n
def JP (n:Int):Int:=AA .u64 n
def M2 (lo hi:Int):Int:=FL (FL (hi - lo)+1)
def DM (n lo hi:Int):Int:=cond (decide (n.tmod (M2 lo hi) < 0)) (FL (lo+FL (FL (FL (n.tmod (M2 lo hi)+hi) - lo)+1))) (FL (lo+n.tmod (M2 lo hi)))
def MG:DV
 | [.int .i64 n,.int .i64 lo,.int .i64 hi]=>.br (decide (M2 lo hi=0)) .no (.ok (.int .i64 (DM n lo hi)) [])
 | _=>.no
abbrev X9:BA:=⟨#[45]⟩
abbrev On:BA:=⟨#[46]⟩
abbrev zjk:BA:=⟨#[48]⟩
abbrev YA:BA:=⟨#[]⟩
def V9:DV
 | []=>.ok (.int .u64 390625) []
 | _=>.no
def KB (r:Nat):List UInt8:=Lib.trimRightB (Lib.repeatL [48] (8 - (BU (r*390625)).length)++BU (r*390625)) 48
def IL (u:Nat):List UInt8:=BU (u / 256)++(if u % 256=0 then [] else 46 :: KB (u % 256))
def KU (n:Int):List UInt8:=if n < 0 then 45 :: IL n.natAbs else IL n.natAbs
def DU (n:Int):BA:=⟨(KU n).toArray⟩
def SE:DV
 | [.int .i64 n]=>.ok (.str (DU n)) []
 | _=>.no
def cE:DV
 | [.str s]=>.ok (.tup [.int .u64 (GO s),.bool (JC s)]) []
 | _=>.no
def PX (s:BA):BA:=cutL (F9 s X9) On
def JJ (s:BA):BA:=FQ (F9 s X9) On
def NA (s:BA):BA:=JJ s++H1 zjk (8 - (JJ s).size)
def PW (s:BA):Int:=JP (JP (GO (PX s)*256)+GO (NA s) / 390625)
def d8 (s:BA):Int:=FL (cond (N5 s X9) (JP (0 - PW s)) (PW s))
def W3 (s:BA):Bool:=
 decide ((JJ s).size≤8)&&(JC (PX s)&&(JC (NA s)&&(decide (GO (PX s)≤36028797018963968)&&(decide (GO (NA s) % 390625=0)&&decide (DU (d8 s)=s)))))
def F7 (s:BA):Int:=cond (W3 s) (d8 s) 0
def V8:DV
 | [.str s]=>.br (decide (s.size < 4294967281)) (.ok (.tup [.int .i64 (F7 s),.bool (W3 s)]) []) .no
 | _=>.no
open Go Go.Proofs
def Pw (N:Nat):Env:=D5 [] [] 24 N
theorem zdo (N:Nat) (n lo hi:Int):DZ (Pw N) wM [.tmp 6] [[.z]] [.i n,.i lo,.i hi] =
 (cond (decide (AA AB (AA AB (hi - lo)+1)=0))
 none
 (cond (decide (Int.tmod n (AA AB (AA AB (hi - lo)+1)) < 0))
 (some ((.i (AA AB (lo+AA AB (AA AB (AA AB (Int.tmod n (AA AB (AA AB (hi - lo)+1))+hi) - lo)+1)))),[]))
 (some ((.i (AA AB (lo+Int.tmod n (AA AB (AA AB (hi - lo)+1))))),[])))):=by kernel_rfl
def Qo (N:Nat):Env:=D5 [] [(3,⟨[0,1,2],[],[]⟩)] 8 N
def Qn (N:Nat):Env:=D5 [(189,iB)] [] 19 N
theorem zdL (N:Nat) (s:BA):DZ (Qn N) xB [.tmp 2,.tmp 3] [[.int .u64],[.bool]] [.str s] =
 (cond (JC s)
 (cond (decide (0≤0)&&decide (0 < ic (AG s)))
 (some ((.tup [.int .u64 (GO s),.bool (ic (UInt8.toNat (AH (Array.toList (ByteArray.data s)) (AE 0) 0)) != 43)]),[]))
 none)
 (some ((.tup [.int .u64 (GO s),.bool false]),[]))):=by kernel_rfl
def Ql (N:Nat):Env:=D5 [(84,V9),(83,iA),(86,YQ),(85,iD)] [] 38 N
theorem zdJ (N:Nat) (n:Int):DZ (Ql N) w9 [.tmp 2] [[.str]] [.i n] =
 (cond (decide (n < 0))
 (cond (decide (AG { data:=#[45] }+AG (E5 (va0 (AA AJ (0 - AA AJ n)) (2 ^ min (AE 8) (AR AJ))))≤strMax))
 (cond (AA AJ (ic (CH (A5 (AR AJ) (AA AJ (0 - AA AJ n)) &&& A5 (AR AJ) 255)))==0)
 (some ((.str ({ data:=#[45] }++E5 (va0 (AA AJ (0 - AA AJ n)) (2 ^ min (AE 8) (AR AJ))))),[]))
 (cond (decide (AG ({ data:=#[45] }++E5 (va0 (AA AJ (0 - AA AJ n)) (2 ^ min (AE 8) (AR AJ))))+AG { data:=#[46] }≤strMax))
 (cond (decide (0≤AA AB (8 - ic (AG (E5 (AA AJ (AA AJ (ic (CH (A5 (AR AJ) (AA AJ (0 - AA AJ n)) &&& A5 (AR AJ) 255)))*390625))))))&&decide (AG { data:=#[48] }*AE (AA AB (8 - ic (AG (E5 (AA AJ (AA AJ (ic (CH (A5 (AR AJ) (AA AJ (0 - AA AJ n)) &&& A5 (AR AJ) 255)))*390625))))))≤strMax))
 (cond (decide (AG (H1 { data:=#[48] } (AE (AA AB (8 - ic (AG (E5 (AA AJ (AA AJ (ic (CH (A5 (AR AJ) (AA AJ (0 - AA AJ n)) &&& A5 (AR AJ) 255)))*390625))))))))+AG (E5 (AA AJ (AA AJ (ic (CH (A5 (AR AJ) (AA AJ (0 - AA AJ n)) &&& A5 (AR AJ) 255)))*390625)))≤strMax))
 (cond (decide (AG ({ data:=#[45] }++E5 (va0 (AA AJ (0 - AA AJ n)) (2 ^ min (AE 8) (AR AJ)))++{ data:=#[46] })+AG (PJ (H1 { data:=#[48] } (AE (AA AB (8 - ic (AG (E5 (AA AJ (AA AJ (ic (CH (A5 (AR AJ) (AA AJ (0 - AA AJ n)) &&& A5 (AR AJ) 255)))*390625)))))))++E5 (AA AJ (AA AJ (ic (CH (A5 (AR AJ) (AA AJ (0 - AA AJ n)) &&& A5 (AR AJ) 255)))*390625))) { data:=#[48] })≤strMax))
 (some ((.str ({ data:=#[45] }++E5 (va0 (AA AJ (0 - AA AJ n)) (2 ^ min (AE 8) (AR AJ)))++{ data:=#[46] }++PJ (H1 { data:=#[48] } (AE (AA AB (8 - ic (AG (E5 (AA AJ (AA AJ (ic (CH (A5 (AR AJ) (AA AJ (0 - AA AJ n)) &&& A5 (AR AJ) 255)))*390625)))))))++E5 (AA AJ (AA AJ (ic (CH (A5 (AR AJ) (AA AJ (0 - AA AJ n)) &&& A5 (AR AJ) 255)))*390625))) { data:=#[48] })),[]))
 none)
 none)
 none)
 none))
 none)
 (cond (decide (AG { data:=#[] }+AG (E5 (va0 (AA AJ n) (2 ^ min (AE 8) (AR AJ))))≤strMax))
 (cond (AA AJ (ic (CH (A5 (AR AJ) (AA AJ n) &&& A5 (AR AJ) 255)))==0)
 (some ((.str ({ data:=#[] }++E5 (va0 (AA AJ n) (2 ^ min (AE 8) (AR AJ))))),[]))
 (cond (decide (AG ({ data:=#[] }++E5 (va0 (AA AJ n) (2 ^ min (AE 8) (AR AJ))))+AG { data:=#[46] }≤strMax))
 (cond (decide (0≤AA AB (8 - ic (AG (E5 (AA AJ (AA AJ (ic (CH (A5 (AR AJ) (AA AJ n) &&& A5 (AR AJ) 255)))*390625))))))&&decide (AG { data:=#[48] }*AE (AA AB (8 - ic (AG (E5 (AA AJ (AA AJ (ic (CH (A5 (AR AJ) (AA AJ n) &&& A5 (AR AJ) 255)))*390625))))))≤strMax))
 (cond (decide (AG (H1 { data:=#[48] } (AE (AA AB (8 - ic (AG (E5 (AA AJ (AA AJ (ic (CH (A5 (AR AJ) (AA AJ n) &&& A5 (AR AJ) 255)))*390625))))))))+AG (E5 (AA AJ (AA AJ (ic (CH (A5 (AR AJ) (AA AJ n) &&& A5 (AR AJ) 255)))*390625)))≤strMax))
 (cond (decide (AG ({ data:=#[] }++E5 (va0 (AA AJ n) (2 ^ min (AE 8) (AR AJ)))++{ data:=#[46] })+AG (PJ (H1 { data:=#[48] } (AE (AA AB (8 - ic (AG (E5 (AA AJ (AA AJ (ic (CH (A5 (AR AJ) (AA AJ n) &&& A5 (AR AJ) 255)))*390625)))))))++E5 (AA AJ (AA AJ (ic (CH (A5 (AR AJ) (AA AJ n) &&& A5 (AR AJ) 255)))*390625))) { data:=#[48] })≤strMax))
 (some ((.str ({ data:=#[] }++E5 (va0 (AA AJ n) (2 ^ min (AE 8) (AR AJ)))++{ data:=#[46] }++PJ (H1 { data:=#[48] } (AE (AA AB (8 - ic (AG (E5 (AA AJ (AA AJ (ic (CH (A5 (AR AJ) (AA AJ n) &&& A5 (AR AJ) 255)))*390625)))))))++E5 (AA AJ (AA AJ (ic (CH (A5 (AR AJ) (AA AJ n) &&& A5 (AR AJ) 255)))*390625))) { data:=#[48] })),[]))
 none)
 none)
 none)
 none))
 none)):=by kernel_rfl
open Go Go.Proofs
theorem Z5:DX PR B0 17 MG:=by
 refine D6 [] [] MG [[.z]] Tryz.func17 zaz trivial ?_;intro vs r hwf h;unfold MG at h;split at h
 ·rename_i n lo hi;refine ⟨0,?_⟩;rw [← h];refine (zdo 0 n lo hi).trans ?_;simp only [R.get_br,R.get_ok,R.get_no];unfold DM M2 FL;cases decide (AA AB (AA AB (hi - lo)+1)=0) <;> cases decide (Int.tmod n (AA AB (AA AB (hi - lo)+1)) < 0) <;> rfl
 ·simp [R.get] at h
open Go
theorem T9 {s t:BA} (h:s.data.toList=t.data.toList):s=t:=ByteArray.ext (Array.ext' h)
theorem iQ (s t:BA):(s.toList==t.toList)=decide (s=t):=by
 rw [Lib.toList_data,Lib.toList_data];by_cases h:s=t
 ·subst h; simp
 ·rw [AL h,A4];exact fun e=>h (T9 e)
theorem S8 (s:BA):s.size=s.data.toList.length:=by rw [CL]; rfl
theorem W2 (u:Nat):∀ c∈BU u,48≤c.toNat∧c.toNat≤57:=by
 induction u using vbr with
 | _ u ih=>
  intro c hc;rw [BU] at hc;split at hc
  ·rename_i h;simp only [BM] at hc;subst hc;rw [vab (by simp [vbo]; omega)];omega
  ·rename_i h;rw [AX,BM] at hc;rcases hc with hc | hc
   ·exact ih (u / 10) (by omega) c hc
   ·subst hc;rw [vab (by simp [vbo]; omega)];omega
theorem i7 (u:Nat):BU u≠[]:=by
 rw [BU];split <;> simp
theorem zb6 (n:Int):∀ c∈vam n,c.toNat=45∨(48≤c.toNat∧c.toNat≤57):=by
 intro c hc;unfold vam at hc;split at hc
 ·rcases AP.1 hc with h | h
  ·subst h; exact .inl rfl
  ·exact .inr (W2 _ c h)
 ·exact .inr (W2 _ c hc)
theorem zfu (u:Nat):∀ (acc:Nat) (r:List UInt8),acc*10 ^ (BU u).length+u < 18446744073709551616 →
  vaQ acc (BU u++r)=vaQ (acc*10 ^ (BU u).length+u) r:=by
 induction u using vbr with
 | _ u ih=>
  intro acc r hlt;rw [BU] at hlt ⊢;split at hlt
  ·rename_i h;rw [dif_pos h];simp only [C2,Nat.pow_one,List.singleton_append] at hlt ⊢;have hc:(UInt8.ofNat (48+u)).toNat=48+u:=vab (by simp [vbo]; omega);rw [vaQ,hc,BP (by omega),BD (by omega),BD (by omega)];congr 1;omega
  ·rename_i h;rw [dif_neg h];simp only [AT,C2,Nat.pow_succ,vaI,List.singleton_append] at hlt ⊢;have ea:acc*(10 ^ (BU (u / 10)).length*10)=acc*10 ^ (BU (u / 10)).length*10:=by rw [Nat.mul_assoc]
   rw [ea] at hlt ⊢;rw [ih (u / 10) (by omega) acc _ (by omega)];have hc:(UInt8.ofNat (48+u % 10)).toNat=48+u % 10:=vab (by simp [vbo]; omega);rw [vaQ,hc,BP (by omega),BD (by omega),BD (by omega)];congr 1;omega
theorem qR (u:Nat) (h:u < 18446744073709551616):Lib.parseMag (BU u) = .ok u:=by
 unfold Lib.parseMag;rw [BD (i7 u)]
 have:=zfu u 0 [] (by omega)
 rw [DB] at this;rw [this,Nat.zero_mul,BI];rfl
theorem vH (n:Int) (h0 : -9223372036854775808≤n) (h1:n≤9223372036854775807):vbj (vam n) = .ok n:=by
 unfold vam;split
 ·rename_i hn;unfold vbj;have e:(45:UInt8).toNat=45:=rfl;simp only [e,or_true,CQ,qR n.natAbs (by omega),vbc,false_and,if_false,vaC];rw [BD (by omega)];congr 1;omega
 ·rename_i hn;obtain ⟨c,r,hl⟩:∃ c r,BU n.toNat=c :: r:=by
   cases h:BU n.toNat with
   | nil=>exact absurd h (i7 _)
   | cons c r=>exact ⟨c,r,rfl⟩
  have hc:=W2 n.toNat c (by rw [hl]; exact AO ..);have hm:=qR n.toNat (by omega);rw [hl] at hm ⊢;unfold vbj;have e1:¬ c.toNat=43:=by omega
  have e2:¬ c.toNat=45:=by omega
  simp only [e1,e2,or_self,if_false,hm,false_and,not_false_eq_true,vaC];rw [BD (by omega)];congr 1;omega
theorem vF {s:BA} {n:Int} (h:s.data.toList=vam n) (h0 : -9223372036854775808≤n) (h1:n≤9223372036854775807):FF s=n:=by
 unfold FF;rw [h,vH n h0 h1]
theorem oX:∀ (w r:List UInt8) (c:UInt8),c ∉ w→DG (w++c :: r) c=w.length
 | [],r,c,_=>by simp [DG]
 | b :: w,r,c,h=>by
  simp only [AP,not_or] at h;have e:(b==c)=false:=A4.2 (fun e=>h.1 e.symm);have e2:((w.length:Int) == -1)=false:=by rw [A4]; omega
  simp only [CT,DG,e,oX w r c h.2,e2,AM];simp
theorem Bh:∀ (w:List UInt8) (c:UInt8),c ∉ w→DG w c = -1
 | [],c,_=>rfl
 | b :: w,c,h=>by
  simp only [AP,not_or] at h;have e:(b==c)=false:=A4.2 (fun e=>h.1 e.symm);simp [DG,e,Bh w c h.2]
theorem Vg (w r:List UInt8) (c:UInt8) (h:c ∉ w):vaP (w++c :: r) [c]=(w,r,true):=by
 unfold vaP;rw [Lib.index_one,oX w r c h,BP (by omega)];simp
theorem Ku (w r:List UInt8) (c:UInt8) (h:c ∉ w):vay (w++c :: r) [c]=w :: vay r [c]:=by
 unfold vay;have ec:Lib.count (w++c :: r) [c]=Lib.count r [c]+1:=by
  rw [vbv,vbv,List.count_append,vba h,List.count_cons_self,BI]
 rw [ec,Lib.splitK,Lib.index_one,oX w r c h];have e2:((w.length:Int) == -1)=false:=by rw [A4]; omega
 rw [e2];simp
theorem Kx (w:List UInt8) (c:UInt8) (h:c ∉ w):vay w [c]=[w]:=by
 unfold vay;rw [vbv,vba h];rfl
theorem Kt (s sep:BA):(D2 s sep).map (·.data.toList)=vay s.data.toList sep.data.toList:=by
 unfold D2 vay;rw [Lib.splitB_data]
open Go
theorem ziV {n m:Int} (h:0 < m) : -m < n.tmod m∧n.tmod m < m:=by
 constructor
 ·rcases Int.lt_or_le n 0 with hn | hn
  ·have e:n.tmod m = -((-n).tmod m):=by rw [Int.neg_tmod,Int.neg_neg]
   have:=Int.tmod_lt_of_pos (-n) h
   omega
  ·have:=Int.tmod_nonneg m hn
   omega
 ·exact Int.tmod_lt_of_pos n h
theorem HE {n lo hi:Int} (h:lo≤hi) (h0 : -2000000000000000000≤lo) (h1:hi≤2000000000000000000):M2 lo hi=hi - lo+1∧lo≤DM n lo hi∧DM n lo hi≤hi:=by
 have e1:FL (hi - lo)=hi - lo:=EH (by omega) (by omega);have e2:M2 lo hi=hi - lo+1:=by
  unfold M2;rw [e1];exact EH (by omega) (by omega)
 refine ⟨e2,?_⟩;unfold DM;rw [e2];obtain ⟨t0,t1⟩:=ziV (n:=n) (m:=hi - lo+1) (by omega);generalize n.tmod (hi - lo+1)=q at t0 t1 ⊢;cases hq:decide (q < 0) with
 | true=>
  have hq:=A1 hq;simp only [BJ];have a1:FL (q+hi)=q+hi:=EH (by omega) (by omega);have a2:FL (q+hi - lo)=q+hi - lo:=EH (by omega) (by omega);have a3:FL (q+hi - lo+1)=q+hi - lo+1:=EH (by omega) (by omega);have a4:FL (lo+(q+hi - lo+1))=lo+(q+hi - lo+1):=EH (by omega) (by omega);rw [a1,a2,a3,a4];omega
 | false=>
  have hq:=BH hq;simp only [A9];have a1:FL (lo+q)=lo+q:=EH (by omega) (by omega);rw [a1];omega
theorem lW (n:Int):AA .u64 n=n % 18446744073709551616:=by simp [AA,AR,vaj]
abbrev ED (n:Int):Prop := -9223372036854775808≤n∧n≤9223372036854775807
theorem uS {f:Nat→Bool} (h:(vau 256).all f=true) {r:Nat} (hr:r < 256):f r=true:=CR.1 h r (vaR.2 hr)
def Ep (r:Nat):Bool:=match Lib.parseMag ((if r=0 then [] else KB r)++Lib.repeatL [48] (8 - (if r=0 then [] else KB r).length)) with | .ok v=>BQ v (r*390625) | _=>false
theorem zfz:(vau 256).all Ep=true:=by kernel_rfl
theorem zfy {r:Nat} (h:r < 256):Lib.parseMag ((if r=0 then [] else KB r)++Lib.repeatL [48] (8 - (if r=0 then [] else KB r).length)) = .ok (r*390625):=by
 have:=uS zfz h
 unfold Ep at this;split at this
 ·rename_i v hv;rw [hv,vao this]
 ·cases this
def El (r:Nat):Bool:=BQ r 0||(B6 (KB r).length 8&&((KB r).all (fun c=>B6 48 c.toNat&&B6 c.toNat 57)&&(match (KB r).reverse with | []=>false | c :: _=>!(BQ c.toNat 48))))
theorem Vr:(vau 256).all El=true:=by kernel_rfl
theorem i8 {r:Nat} (h0:r≠0) (h:r < 256):(KB r).length≤8∧(∀ c∈KB r,48≤c.toNat∧c.toNat≤57)∧∃ l c,KB r=l++[c]∧c.toNat≠48:=by
 have:=uS Vr h
 unfold El at this;simp only [vap,AI,CR] at this;rcases this with h1 | ⟨h1,h2,h3⟩
 ·exact absurd (vao h1) h0
 ·refine ⟨AN h1,fun c hc=>⟨AN (h2 c hc).1,AN (h2 c hc).2⟩,?_⟩;cases hr:(KB r).reverse with
  | nil=>rw [hr] at h3; cases h3
  | cons c l=>
   rw [hr] at h3;refine ⟨l.reverse,c,?_,?_⟩
   ·have:=congrArg List.reverse hr
    simpa using this
   ·intro e;have h3:(!c.toNat.beq 48)=true:=h3;rw [e] at h3;cases h3
theorem gE (u:Nat):IL u=BU (u / 256)++(if u % 256=0 then [] else 46 :: KB (u % 256)):=rfl
theorem Vn (v:Nat):∃ c r,BU v=c :: r∧48≤c.toNat∧c.toNat≤57:=by
 cases h:BU v with
 | nil=>exact absurd h (i7 v)
 | cons c r=>exact ⟨c,r,rfl,W2 v c (by rw [h]; exact AO ..)⟩
theorem sI (u:Nat):∃ c r,IL u=c :: r∧48≤c.toNat∧c.toNat≤57:=by
 obtain ⟨c,r,h,h1⟩:=Vn (u / 256);exact ⟨c,r++_,by rw [gE,h]; rfl,h1⟩
theorem Vo (v:Nat) {c:UInt8} (h:c.toNat < 48):c ∉ BU v:=fun hc=>by
 have:=W2 v c hc
 omega
theorem Vj (w:List UInt8) (c:UInt8) (h:c ∉ w):vaP w [c]=(w,[],false):=by
 unfold vaP;rw [Lib.index_one,Bh w c h,BD (by omega)]
theorem zgQ (u:Nat):(vaP (IL u) [46]).1=BU (u / 256)∧(vaP (IL u) [46]).2.1=(if u % 256=0 then [] else KB (u % 256)):=by
 have hno:(46:UInt8) ∉ BU (u / 256):=Vo _ (by decide);rw [gE];by_cases h:u % 256=0
 ·rw [BP h,BP h,DB,Vj _ _ hno];exact ⟨rfl,rfl⟩
 ·rw [BD h,BD h,Vg _ _ _ hno];exact ⟨rfl,rfl⟩
theorem zfL (n:Int):N5 (DU n) X9=decide (n < 0)∧F9 (DU n) X9=⟨(IL n.natAbs).toArray⟩:=by
 unfold N5 F9 Lib.trimPrefix Lib.hasPrefix DU KU;show [(45:UInt8)].isPrefixOf (if n < 0 then 45 :: IL n.natAbs else IL n.natAbs)=_∧(⟨(if [(45:UInt8)].isPrefixOf (if n < 0 then 45 :: IL n.natAbs else IL n.natAbs)=true then _ else (if n < 0 then 45 :: IL n.natAbs else IL n.natAbs)).toArray⟩:BA)=_;by_cases h:n < 0
 ·rw [BP h,AD h];have e:[(45:UInt8)].isPrefixOf (45 :: IL n.natAbs)=true:=by simp [vbA]
  rw [e,BP rfl];exact ⟨rfl,rfl⟩
 ·rw [BD h,AL h];obtain ⟨c,r,hc,hc1,_⟩:=sI n.natAbs;have e:[(45:UInt8)].isPrefixOf (IL n.natAbs)=false:=by
   rw [hc];simp only [vbA,B2,A4];intro e;rw [← e] at hc1;revert hc1;decide
  rw [e];simp
theorem Gl {s:BA} {v:Nat} (h:Lib.parseMag s.data.toList = .ok v):GO s=v∧JC s=true:=by
 unfold GO JC;rw [h];exact ⟨rfl,rfl⟩
theorem zfO {n:Int} (hn:ED n):W3 (DU n)=true∧F7 (DU n)=n:=by
 obtain ⟨hn0,hn1⟩:=hn;obtain ⟨hm,hb⟩:=zfL n;have hu:n.natAbs≤9223372036854775808:=by omega
 obtain ⟨c1,c2⟩:=zgQ n.natAbs;have hW:PX (DU n)=⟨(BU (n.natAbs / 256)).toArray⟩:=by
  unfold PX cutL;rw [hb];show (⟨(vaP (IL n.natAbs) [46]).1.toArray⟩:BA)=_;rw [c1]
 have hP:JJ (DU n)=⟨(if n.natAbs % 256=0 then [] else KB (n.natAbs % 256)).toArray⟩:=by
  unfold JJ FQ;rw [hb];show (⟨(vaP (IL n.natAbs) [46]).2.1.toArray⟩:BA)=_;rw [c2]
 have hr:n.natAbs % 256 < 256:=by omega
 obtain ⟨v1,n1⟩:=Gl (s:=PX (DU n)) (v:=n.natAbs / 256) (by rw [hW]; exact qR _ (by omega));have hz:(JJ (DU n)).size=(if n.natAbs % 256=0 then ([]:List UInt8) else KB (n.natAbs % 256)).length:=by rw [hP,S8]
 have h8:(JJ (DU n)).size≤8:=by
  rw [hz];split
  ·simp
  ·rename_i h0;exact (i8 h0 hr).1
 obtain ⟨v2,n2⟩:=Gl (s:=NA (DU n)) (v:=n.natAbs % 256*390625) (by
  have:=zfy hr
  unfold NA;rw [hz,hP];simp only [ByteArray.data_append,vai];exact this)
 have hS:PW (DU n)=(n.natAbs:Int):=by
  unfold PW JP;rw [v1,v2];rw [lW,lW];omega
 have hN:d8 (DU n)=n:=by
  unfold d8;rw [hm,hS];unfold FL JP;cases hd:decide (n < 0) with
  | true=>
   have:=A1 hd
   simp only [BJ];rw [IntKind.wrap_i64,lW];omega
  | false=>
   have:=BH hd
   simp only [A9];rw [EH (by omega) (by omega)];omega
 have hI:W3 (DU n)=true:=by
  unfold W3;rw [AD h8,n1,n2,v1,v2,hN,AD (show ((n.natAbs / 256:Nat):Int)≤36028797018963968 by omega),AD (show ((n.natAbs % 256*390625:Nat):Int) % 390625=0 by omega),AD rfl];rfl
 refine ⟨hI,?_⟩;unfold F7;rw [hI,hN];rfl
theorem Gb (n:Int):∃ c r,(DU n).data.toList=c :: r∧c.toNat≠43:=by
 show ∃ c r,KU n=c :: r∧c.toNat≠43;unfold KU;split
 ·exact ⟨45,_,rfl,by decide⟩
 ·obtain ⟨c,r,h,h1,_⟩:=sI n.natAbs;exact ⟨c,r,h,by omega⟩
theorem XP (n:Int) (hn:ED n):1≤(DU n).size∧(DU n).size≤40:=by
 obtain ⟨c,r,h,_⟩:=Gb n;refine ⟨by rw [S8,h]; simp,?_⟩;rw [S8];show (KU n).length≤40;have hs:(IL n.natAbs).length≤30:=by
  rw [gE,AT];have h1:(BU (n.natAbs / 256)).length≤20:=by
   have:=qA (n:=((n.natAbs / 256:Nat):Int)) (by omega) (by obtain ⟨_,_⟩:=hn; omega)
   rw [S8] at this;exact this
  split
  ·simp; omega
  ·rename_i h0
   have:=(i8 h0 (by omega:n.natAbs % 256 < 256)).1
   simp only [AM];omega
 unfold KU;split
 ·simp only [AM]; omega
 ·omega
open Go
structure Qy where
 k:Int
 c:Int
 a0:Int
 b0:Int
 a1:Int
 b1:Int
 a2:Int
 b2:Int
 a3:Int
 b3:Int
 a4:Int
 b4:Int
 lo:Int
 hi:Int
 ft:Int
 fl:Bool
 bu:Int
def Qy.V (q:Qy):V:=.agg [.int .i64 q.k,.int .i64 q.c,.int .i64 q.a0,.int .i64 q.b0,.int .i64 q.a1,.int .i64 q.b1,.int .i64 q.a2,.int .i64 q.b2,.int .i64 q.a3,.int .i64 q.b3,.int .i64 q.a4,.int .i64 q.b4,.int .i64 q.lo,.int .i64 q.hi,.int .i64 q.ft,.bool q.fl,.int .i64 q.bu]
def Qy.none:Qy:=⟨0,0,0,0,0,0,0,0,0,0,0,0,0,0,0,false,0⟩
def Qy.eq (p q:Qy):Bool:=
 (p.k==q.k)&&((p.c==q.c)&&((p.a0==q.a0)&&((p.b0==q.b0)&&((p.a1==q.a1)&&((p.b1==q.b1)&&((p.a2==q.a2)&&((p.b2==q.b2)&&((p.a3==q.a3)&&((p.b3==q.b3)&&((p.a4==q.a4)&&((p.b4==q.b4)&&((p.lo==q.lo)&&((p.hi==q.hi)&&((p.ft==q.ft)&&((p.fl==q.fl)&&((p.bu==q.bu)&&true))))))))))))))))
def FU (q:Qy) (d:Int):Qy:=
 ⟨q.k,q.c,cond (decide (0 < d)) q.a0 0,cond (decide (0 < d)) q.b0 0,cond (decide (1 < d)) q.a1 0,cond (decide (1 < d)) q.b1 0,cond (decide (2 < d)) q.a2 0,cond (decide (2 < d)) q.b2 0,cond (decide (3 < d)) q.a3 0,cond (decide (3 < d)) q.b3 0,cond (decide (4 < d)) q.a4 0,cond (decide (4 < d)) q.b4 0,
  cond (q.k==1) q.lo 0,cond (q.k==1) q.hi 0,cond (q.k==3) q.ft 0,cond (q.k==3) q.fl false,q.bu⟩
def aW:DV
 | [.agg [.int .i64 k,.int .i64 c,.int .i64 a0,.int .i64 b0,.int .i64 a1,.int .i64 b1,.int .i64 a2,.int .i64 b2,.int .i64 a3,.int .i64 b3,.int .i64 a4,.int .i64 b4,.int .i64 lo,.int .i64 hi,.int .i64 ft,.bool fl,.int .i64 bu],.int .i64 d]=>
  .br (decide (0≤d)&&decide (d≤5)) (.ok (.agg [.int .i64 (FU ⟨k,c,a0,b0,a1,b1,a2,b2,a3,b3,a4,b4,lo,hi,ft,fl,bu⟩ d).k,.int .i64 (FU ⟨k,c,a0,b0,a1,b1,a2,b2,a3,b3,a4,b4,lo,hi,ft,fl,bu⟩ d).c,
   .int .i64 (FU ⟨k,c,a0,b0,a1,b1,a2,b2,a3,b3,a4,b4,lo,hi,ft,fl,bu⟩ d).a0,.int .i64 (FU ⟨k,c,a0,b0,a1,b1,a2,b2,a3,b3,a4,b4,lo,hi,ft,fl,bu⟩ d).b0,
   .int .i64 (FU ⟨k,c,a0,b0,a1,b1,a2,b2,a3,b3,a4,b4,lo,hi,ft,fl,bu⟩ d).a1,.int .i64 (FU ⟨k,c,a0,b0,a1,b1,a2,b2,a3,b3,a4,b4,lo,hi,ft,fl,bu⟩ d).b1,
   .int .i64 (FU ⟨k,c,a0,b0,a1,b1,a2,b2,a3,b3,a4,b4,lo,hi,ft,fl,bu⟩ d).a2,.int .i64 (FU ⟨k,c,a0,b0,a1,b1,a2,b2,a3,b3,a4,b4,lo,hi,ft,fl,bu⟩ d).b2,
   .int .i64 (FU ⟨k,c,a0,b0,a1,b1,a2,b2,a3,b3,a4,b4,lo,hi,ft,fl,bu⟩ d).a3,.int .i64 (FU ⟨k,c,a0,b0,a1,b1,a2,b2,a3,b3,a4,b4,lo,hi,ft,fl,bu⟩ d).b3,
   .int .i64 (FU ⟨k,c,a0,b0,a1,b1,a2,b2,a3,b3,a4,b4,lo,hi,ft,fl,bu⟩ d).a4,.int .i64 (FU ⟨k,c,a0,b0,a1,b1,a2,b2,a3,b3,a4,b4,lo,hi,ft,fl,bu⟩ d).b4,
   .int .i64 (FU ⟨k,c,a0,b0,a1,b1,a2,b2,a3,b3,a4,b4,lo,hi,ft,fl,bu⟩ d).lo,.int .i64 (FU ⟨k,c,a0,b0,a1,b1,a2,b2,a3,b3,a4,b4,lo,hi,ft,fl,bu⟩ d).hi,
   .int .i64 (FU ⟨k,c,a0,b0,a1,b1,a2,b2,a3,b3,a4,b4,lo,hi,ft,fl,bu⟩ d).ft,.bool (FU ⟨k,c,a0,b0,a1,b1,a2,b2,a3,b3,a4,b4,lo,hi,ft,fl,bu⟩ d).fl,
   .int .i64 (FU ⟨k,c,a0,b0,a1,b1,a2,b2,a3,b3,a4,b4,lo,hi,ft,fl,bu⟩ d).bu]) []) .no
 | _=>.no
def J5 (n:Int):Bool:=decide (0≤n)&&decide (n≤1073741824)
def aV:DV
 | [.int .i64 n]=>.ok (.bool (J5 n)) []
 | _=>.no
def V1:DV
 | [.str s]=>.ok (.int .i64 (FF s)) []
 | _=>.no
def V2:DV
 | [.str s]=>.br (decide (s.size < 4294967281)) (.ok (.int .i64 (F7 s)) []) .no
 | _=>.no
abbrev M0:BA:=⟨#[114,97,110,103,101]⟩
abbrev OF:BA:=⟨#[98,101,115,116]⟩
abbrev M1:BA:=⟨#[114,105,115,101,115]⟩
abbrev MB:BA:=⟨#[102,97,108,108,115]⟩
abbrev VH:BA:=⟨#[102,114,111,109]⟩
abbrev VK:BA:=⟨#[116,111]⟩
abbrev OG:BA:=⟨#[98,121]⟩
abbrev NQ:BA:=⟨#[105,110]⟩
abbrev VG:BA:=⟨#[98,117,100,103,101,116]⟩
abbrev aG:BA:=⟨#[46,46]⟩
abbrev G2:BA:=⟨#[32]⟩
def MZ (a b:Int):BA:=DU a++aG++DU b
def HW (q:Qy):List BA:=
 cond (q.k==1) [M0,DP q.c,VH,DU q.lo,VK,DU q.hi]
 (cond (q.k==2) [OF,DP q.c] [cond q.fl MB M1,DP q.c,OG,DP q.ft])
def Qy.spans (q:Qy):List (Int × Int):=[(q.a0,q.b0),(q.a1,q.b1),(q.a2,q.b2),(q.a3,q.b3),(q.a4,q.b4)]
def JG (q:Qy) (d:Nat):List BA:=HW q++NQ :: ((q.spans.take d).map fun s=>MZ s.1 s.2)++[VG,DP q.bu]
def N9 (q:Qy) (d:Int):Bool:=
 (!(decide (d < 1))&&!(decide (d > 4)))&&(q.eq (FU q d)&&(J5 q.c&&(J5 q.ft&&(J5 q.bu&&((q.k==1)||((q.k==2)||(q.k==3)))))))
def D9 (q:Qy) (d:Int):BA:=cond (N9 q d) (GI (JG q d.toNat) G2) YA
def R8:DV
 | [.agg [.int .i64 k,.int .i64 c,.int .i64 a0,.int .i64 b0,.int .i64 a1,.int .i64 b1,.int .i64 a2,.int .i64 b2,.int .i64 a3,.int .i64 b3,.int .i64 a4,.int .i64 b4,.int .i64 lo,.int .i64 hi,.int .i64 ft,.bool fl,.int .i64 bu],.int .i64 d]=>
  .ok (.str (D9 ⟨k,c,a0,b0,a1,b1,a2,b2,a3,b3,a4,b4,lo,hi,ft,fl,bu⟩ d)) []
 | _=>.no
def DW (l:LI) (i:Nat):BA:=(l.getD i default).toStr
def EK (l:LI):Qy:=
 cond ((DW l 0).toList==M0.toList) ⟨1,FF (DW l 1),0,0,0,0,0,0,0,0,0,0,F7 (DW l 3),F7 (DW l 5),0,false,0⟩
 (cond ((DW l 0).toList==OF.toList) ⟨2,FF (DW l 1),0,0,0,0,0,0,0,0,0,0,0,0,0,false,0⟩
 (cond ((DW l 0).toList==M1.toList||(DW l 0).toList==MB.toList) ⟨3,FF (DW l 1),0,0,0,0,0,0,0,0,0,0,0,0,FF (DW l 3),(DW l 0).toList==MB.toList,0⟩
 ⟨0,FF (DW l 1),0,0,0,0,0,0,0,0,0,0,0,0,0,false,0⟩))
def aU:DV
 | [.list false [.str] l]=>.br (decide (l.length≤4294967290)&&l.all (fun x=>decide (x.toStr.size < 4294967281)))
  (.ok (.agg [.int .i64 (EK l).k,.int .i64 (EK l).c,.int .i64 (EK l).a0,.int .i64 (EK l).b0,.int .i64 (EK l).a1,.int .i64 (EK l).b1,.int .i64 (EK l).a2,.int .i64 (EK l).b2,.int .i64 (EK l).a3,.int .i64 (EK l).b3,.int .i64 (EK l).a4,.int .i64 (EK l).b4,
   .int .i64 (EK l).lo,.int .i64 (EK l).hi,.int .i64 (EK l).ft,.bool (EK l).fl,.int .i64 (EK l).bu]) []) .no
 | _=>.no
def RT (l:LI) (i:Nat):Int:=F7 (cutL (DW l i) aG)
def RU (l:LI) (i:Nat):Int:=F7 (FQ (DW l i) aG)
def fX (l:LI) (i d:Nat):Qy:=
 ⟨(
  EK (l.take i)).k,(EK (l.take i)).c,
  cond (BS 0 d) (RT l (i+1)) 0,cond (BS 0 d) (RU l (i+1)) 0,cond (BS 1 d) (RT l (i+2)) 0,cond (BS 1 d) (RU l (i+2)) 0,cond (BS 2 d) (RT l (i+3)) 0,cond (BS 2 d) (RU l (i+3)) 0,cond (BS 3 d) (RT l (i+4)) 0,cond (BS 3 d) (RU l (i+4)) 0,0,0,
  (EK (l.take i)).lo,(EK (l.take i)).hi,(EK (l.take i)).ft,(EK (l.take i)).fl,FF (DW l (l.length - 1))⟩
def HH (s:BA):LI:=(D2 s G2).map IV.str
def ND (s:BA):Int:=FY (HH s) NQ 0
def N7 (s:BA):Int:=ic (HH s).length - 2 - ND s - 1
def e9 (s:BA):Qy:=fX (HH s) (ND s).toNat (N7 s).toNat
def OR (s:BA):Bool:=(!(decide (ND s < 0))&&(!(decide (N7 s < 1))&&!(decide (N7 s > 4))))&&(D9 (e9 s) (N7 s)).toList==s.toList
def GU (s:BA):Qy:=cond (OR s) (e9 s) Qy.none
def PU (s:BA):Int:=cond (OR s) (N7 s) 0
def aT:DV
 | [.str s]=>.br (decide (s.size < 4294967281))
  (.ok (.tup [.agg [.int .i64 (GU s).k,.int .i64 (GU s).c,.int .i64 (GU s).a0,.int .i64 (GU s).b0,.int .i64 (GU s).a1,.int .i64 (GU s).b1,.int .i64 (GU s).a2,.int .i64 (GU s).b2,.int .i64 (GU s).a3,.int .i64 (GU s).b3,.int .i64 (GU s).a4,.int .i64 (GU s).b4,
   .int .i64 (GU s).lo,.int .i64 (GU s).hi,.int .i64 (GU s).ft,.bool (GU s).fl,.int .i64 (GU s).bu],.int .i64 (PU s),.bool (OR s)]) []) .no
 | _=>.no
open Go
def EI (l:LI) (i:Int):Int:=cond (ic l.length==0) 0 (l.getD (i.tmod (ic l.length)).toNat default).toInt
def SD:DV
 | [.list false [.z] l,.int .i64 i]=>.br (decide (0≤i)) (.ok (.int .i64 (EI l i)) []) .no
 | _=>.no
def E2 (n:Int):Bool:=decide (-2147483648≤n)&&decide (n≤2147483647)
def bX:DV
 | [.int .i64 n,.int .i64 w]=>.br (decide (w=32)) (.ok (.bool (E2 n)) []) .no
 | _=>.no
def f7 (lf:Bool) (v f a l r:Int):Bool:=
 cond lf (E2 v&&((f==0)&&((a==0)&&((l==0)&&(r==0)))))
  ((v==0)&&(decide (0≤f)&&(decide (f < 4)&&(E2 a&&(decide (1≤l)&&(decide (l < 31)&&(decide (1≤r)&&decide (r < 31))))))))
def bY:DV
 | [.agg [.bool lf,.int .i64 v,.int .i64 f,.int .i64 a,.int .i64 l,.int .i64 r]]=>.ok (.bool (f7 lf v f a l r)) []
 | _=>.no
def iG (a b:Int):Int:=JP (ic (CH (A5 (AR AJ) a &&& A5 (AR AJ) b)))
def fL (a b:Int):Int:=JP (ic (CH (A5 (AR AJ) a ||| A5 (AR AJ) b)))
def Z3 (a:Int) (k:Nat):Int:=JP (a*2 ^ k)
def IH (lf:Bool) (v f a l r:Int):Int:=
 cond (f7 lf v f a l r)
  (cond lf (fL 9223372036854775808 (iG (JP v) 4294967295))
   (fL (fL (fL (iG (JP a) 4294967295) (Z3 (JP f) 32)) (Z3 (JP l) 40)) (Z3 (JP r) 48)))
  0
def V7:DV
 | [.agg [.bool lf,.int .i64 v,.int .i64 f,.int .i64 a,.int .i64 l,.int .i64 r]]=>.ok (.int .u64 (IH lf v f a l r)) []
 | _=>.no
def S0 (lf:Bool) (v f a l r:Int):IV:=.agg [.bool lf,.int v,.int f,.int a,.int l,.int r]
def L0 (v:Int):IV:=S0 true v 0 0 0 0
def S4 (x:IV):IV:=.int (IH (x.cell 0).toBool (x.cell 1).toInt (x.cell 2).toInt (x.cell 3).toInt (x.cell 4).toInt (x.cell 5).toInt)
structure Ns where
 nodes:LI
 leaves:LI
def H9 (part:LI) (i:Nat) (s:Ns):Int:=DM (part.getD i default).toInt 0 (ic s.leaves.length - 1)
def RJ (part:LI) (i:Nat) (s:Ns):Int:=(s.leaves.getD (H9 part i s).toNat default).toInt
def KG (part byl atl val:LI) (dim:Int) (i:Nat) (s:Ns):Ns:=
 ⟨s.nodes.set (RJ part i s).toNat (S0 false 0 (DM (EI byl (i:Int)) 0 (dim - 1)) (DM (EI atl (i:Int)) 0 9) (ic s.nodes.length) (ic s.nodes.length+1)) ++
   [L0 (DM (EI val (2*(i:Int)+1)) (-3000) 3000),L0 (DM (EI val (2*(i:Int)+2)) (-3000) 3000)],
  s.leaves.take (H9 part i s).toNat++s.leaves.drop ((H9 part i s).toNat+1)++[.int (ic s.nodes.length),.int (ic s.nodes.length+1)]⟩
def ZO (part byl atl val:LI) (dim:Int):Nat→Nat→Ns→Ns
 | 0,_,s=>s
 | d+1,i,s=>ZO part byl atl val dim d (i+1) (KG part byl atl val dim i s)
def O7 (part byl atl val:LI) (dim:Int):Ns:=ZO part byl atl val dim (min part.length 7) 0 ⟨[L0 (DM (EI val 0) (-3000) 3000)],[.int 0]⟩
def MP (part byl atl val:LI) (dim:Int):LI:=(O7 part byl atl val dim).nodes.map S4
def bT:DV
 | [.agg [.int .i64 _,.list false [.z] part,.list false [.z] byl,.list false [.z] atl,.list false [.z] val],.int .i64 dim]=>
  .br (decide (1≤dim)&&decide (dim≤4)) (.ok (.list false [.int .u64] (MP part byl atl val dim)) []) .no
 | _=>.no
def N2 (d:Int):Int:=DM d 1 3
def KQ (c:Int):Int:=DM c 1 3
def SJ (c:Int) (bias:LI) (j:Int):Int:=cond (decide (j < KQ c)) (DM (EI bias j) (-500) 500) 0
def aB (d c:Int) (t:IV):IV:=.agg [.int (DM (t.cell 0).toInt 0 (KQ c - 1)),.list (MP (t.cell 1).toList (t.cell 2).toList (t.cell 3).toList (t.cell 4).toList (N2 d))]
def RW (d c:Int) (ts:LI):LI:=(ts.take 4).map (aB d c)
def g8:DV
 | [.agg [.int .i64 d,.int .i64 c,.list false [.z] bias,.list true [.z,.list false [.z],.list false [.z],.list false [.z],.list false [.z]] ts]]=>
  .ok (.agg [.int .i64 (N2 d),.int .i64 (KQ c),.int .i64 (SJ c bias 0),.int .i64 (SJ c bias 1),.int .i64 (SJ c bias 2),.list true [.z,.list false [.int .u64]] (RW d c ts)]) []
 | _=>.no
def FV (d:Int) (l:LI) (i:Int):Int:=cond (decide (i < d)) (DM (EI l (2*i)) (-2) 9) 0
def FW (d:Int) (l:LI) (i:Int):Int:=cond (decide (i < d)) (DM (EI l (2*i)) (-2) 9+DM (EI l (2*i+1)) 0 11) 0
def bS:DV
 | [.agg [.int .i64 d,.int .i64 _,.int .i64 _,.int .i64 _,.int .i64 _,.list true [.z,.list false [.int .u64]] _],.list false [.z] l]=>
  .br (decide (0≤d)&&decide (d≤4)) (.ok (.agg [.int .i64 (FV d l 0),.int .i64 (FW d l 0),.int .i64 (FV d l 1),.int .i64 (FW d l 1),.int .i64 (FV d l 2),.int .i64 (FW d l 2),.int .i64 (FV d l 3),.int .i64 (FW d l 3),.int .i64 0,.int .i64 0]) []) .no
 | _=>.no
structure Ak where
 k:Int
 c:Int
 lo:Int
 size:Int
 ft:Int
 bu:Int
 fl:Bool
 sp:LI
def FN (a:Ak) (cls:Int):Int:=cond (DM a.k 1 3==2&&decide (cls < 2)) 1 (DM a.k 1 3)
def KD (a:Ak):Int:=DM a.lo (-9000) 9000
def JD (a:Ak) (dim cls:Int):Qy:=
 ⟨FN a cls,DM a.c 0 (cls - 1),FV dim a.sp 0,FW dim a.sp 0,FV dim a.sp 1,FW dim a.sp 1,FV dim a.sp 2,FW dim a.sp 2,FV dim a.sp 3,FW dim a.sp 3,0,0,
  cond (FN a cls==1) (KD a) 0,cond (FN a cls==1) (KD a+DM a.size 0 18000) 0,cond (FN a cls==3) (DM a.ft 0 (dim - 1)) 0,cond (FN a cls==3) a.fl false,DM a.bu 0 65536⟩
def g7:DV
 | [.agg [.int .i64 k,.int .i64 c,.int .i64 lo,.int .i64 size,.int .i64 ft,.int .i64 bu,.bool fl,.list false [.z] sp],.agg [.int .i64 dim,.int .i64 cls,.int .i64 _,.int .i64 _,.int .i64 _,.list true [.z,.list false [.int .u64]] _]]=>
  .br ((decide (1≤dim)&&decide (dim≤4))&&(decide (1≤cls)&&decide (cls≤3)))
   (.ok (.agg [.int .i64 (JD ⟨k,c,lo,size,ft,bu,fl,sp⟩ dim cls).k,.int .i64 (JD ⟨k,c,lo,size,ft,bu,fl,sp⟩ dim cls).c,
    .int .i64 (JD ⟨k,c,lo,size,ft,bu,fl,sp⟩ dim cls).a0,.int .i64 (JD ⟨k,c,lo,size,ft,bu,fl,sp⟩ dim cls).b0,.int .i64 (JD ⟨k,c,lo,size,ft,bu,fl,sp⟩ dim cls).a1,.int .i64 (JD ⟨k,c,lo,size,ft,bu,fl,sp⟩ dim cls).b1,
    .int .i64 (JD ⟨k,c,lo,size,ft,bu,fl,sp⟩ dim cls).a2,.int .i64 (JD ⟨k,c,lo,size,ft,bu,fl,sp⟩ dim cls).b2,.int .i64 (JD ⟨k,c,lo,size,ft,bu,fl,sp⟩ dim cls).a3,.int .i64 (JD ⟨k,c,lo,size,ft,bu,fl,sp⟩ dim cls).b3,
    .int .i64 (JD ⟨k,c,lo,size,ft,bu,fl,sp⟩ dim cls).a4,.int .i64 (JD ⟨k,c,lo,size,ft,bu,fl,sp⟩ dim cls).b4,.int .i64 (JD ⟨k,c,lo,size,ft,bu,fl,sp⟩ dim cls).lo,.int .i64 (JD ⟨k,c,lo,size,ft,bu,fl,sp⟩ dim cls).hi,
    .int .i64 (JD ⟨k,c,lo,size,ft,bu,fl,sp⟩ dim cls).ft,.bool (JD ⟨k,c,lo,size,ft,bu,fl,sp⟩ dim cls).fl,.int .i64 (JD ⟨k,c,lo,size,ft,bu,fl,sp⟩ dim cls).bu]) []) .no
 | _=>.no
open Go Go.Proofs
def Qa (N:Nat):Env:=D5 [] [] 15 N
theorem zdv (N:Nat) (l:LI) (i:Int):DZ (Qa N) wQ [.tmp 4] [[.z]] [.list false [.z] l,.i i]=(cond (ic (AF l)==0) (some ((.i 0),[])) (cond (decide (ic (AF l)=0)) none (cond (decide (0≤Int.tmod i (ic (AF l)))&&decide (Int.tmod i (ic (AF l)) < ic (AF l))) (some ((.i (IV.toInt (AH l (AE (Int.tmod i (ic (AF l)))) default))),[])) none))):=by kernel_rfl
def Qc (N:Nat):Env:=D5 [] [] 27 N
theorem zdz (N:Nat) (n w:Int):DZ (Qc N) wS [.tmp 4] [[.bool]] [.i n,.i w]=(cond (decide (w < 1)) (some ((.bool false),[])) (cond (decide (w > 64)) (some ((.bool false),[])) (cond (w==64) (some ((.bool true),[])) (cond (decide (AA AB (w - 1) < 0)) none (cond (decide (n≥AA AB (0 - AA AB (1*2 ^ min (AE (AA AB (w - 1))) (AR AB))))) (some ((.bool (decide (n≤AA AB (AA AB (1*2 ^ min (AE (AA AB (w - 1))) (AR AB)) - 1)))),[])) (some ((.bool false),[]))))))):=by kernel_rfl
def Qe (N:Nat):Env:=D5 [(160,bX)] [] 66 N
theorem zdB (N:Nat) (u01:Bool) (u04 u00 n_At u02 u03:Int):DZ (Qe N) wU [.tmp 2] [[.bool]] [.agg [.bool u01,.i u04,.i u00,.i n_At,.i u02,.i u03]]=(cond u01 (cond (E2 u04) (cond (u00==0) (cond (n_At==0) (cond (u02==0) (some ((.bool (u03==0)),[])) (some ((.bool false),[]))) (some ((.bool false),[]))) (some ((.bool false),[]))) (some ((.bool false),[]))) (cond (u04==0) (cond (decide (u00≥0)) (cond (decide (u00 < 4)) (cond (E2 n_At) (cond (decide (u02≥1)) (cond (decide (u02 < 31)) (cond (decide (u03≥1)) (some ((.bool (decide (u03 < 31))),[])) (some ((.bool false),[]))) (some ((.bool false),[]))) (some ((.bool false),[]))) (some ((.bool false),[]))) (some ((.bool false),[]))) (some ((.bool false),[]))) (some ((.bool false),[])))):=by kernel_rfl
def Qd (N:Nat):Env:=D5 [(117,bY)] [] 32 N
theorem zdA (N:Nat) (u01:Bool) (u04 u00 n_At u02 u03:Int):DZ (Qd N) wT [.tmp 2] [[.int .u64]] [.agg [.bool u01,.i u04,.i u00,.i n_At,.i u02,.i u03]]=(cond (!f7 u01 u04 u00 n_At u02 u03) (some ((.int .u64 0),[])) (cond u01 (some ((.int .u64 (AA AJ (ic (CH (A5 (AR AJ) 9223372036854775808 ||| A5 (AR AJ) (AA AJ (ic (CH (A5 (AR AJ) (AA AJ u04) &&& A5 (AR AJ) 4294967295))))))))),[])) (some ((.int .u64 (AA AJ (ic (CH (A5 (AR AJ) (AA AJ (ic (CH (A5 (AR AJ) (AA AJ (ic (CH (A5 (AR AJ) (AA AJ (ic (CH (A5 (AR AJ) (AA AJ n_At) &&& A5 (AR AJ) 4294967295)))) ||| A5 (AR AJ) (AA AJ (AA AJ u00*2 ^ min (AE 32) (AR AJ))))))) ||| A5 (AR AJ) (AA AJ (AA AJ u02*2 ^ min (AE 40) (AR AJ))))))) ||| A5 (AR AJ) (AA AJ (AA AJ u03*2 ^ min (AE 48) (AR AJ)))))))),[])))):=by kernel_rfl
def R6 (N:Nat):Env:=D5 [(17,MG),(38,SD)] [(3,⟨[1,4,5,9,10],[4,5],[]⟩)] 32 N
abbrev R3 (l1:LI) (x9 x10 u00 u01 u02 u03 u04 u05 u06 u07 u08 u09 u0a u0b u0c u0d u0e u0f u0g u0h u0i u0j:Int):St:=⟨[(1,(.list false [.z] l1)),(4,(.ptr 4 0 0)),(5,(.ptr 5 0 0)),(9,(.i x9)),(10,(.i x10))],[(4,(some (.box [.i u00,.i u01,.i u02,.i u03,.i u04,.i u05,.i u06,.i u07,.i u08,.i u09]))),(5,(some (.box [.i u0a,.i u0b,.i u0c,.i u0d,.i u0e,.i u0f,.i u0g,.i u0h,.i u0i,.i u0j])))]⟩
theorem zdr (N:Nat) (u04 u03 u00 u01 u02:Int) (u05 l:LI):DZ (R6 N) UH [.cell 4 36] [[.z,.z,.z,.z,.z,.z,.z,.z,.z,.z]] [.agg [.i u04,.i u03,.i u00,.i u01,.i u02,.list true [.z,.list false [.int .u64]] u05],.list false [.z] l]=(DY (R6 N) (DK UH [1,1,0,1,0,0]) ⟨[1,4,5,9,10],[4,5],[]⟩ N (R3 l u04 0 0 0 0 0 0 0 0 0 0 0 0 0 0 0 0 0 0 0 0 0) (DQ 0 (DS (R6 N) (DK UH [1,1,1]) (DT (R6 N) none [.cell 4 36] [[.z,.z,.z,.z,.z,.z,.z,.z,.z,.z]])))):=by kernel_rfl
theorem Lq (N:Nat) (l1:LI) (x9 x10 u00 u01 u02 u03 u04 u05 u06 u07 u08 u09 u0a u0b u0c u0d u0e u0f u0g u0h u0i u0j:Int) (again:St→DO) (k:Out→St→DO):EZ (R6 N) (DK UH [1,1,0,1,0,0]) (R3 l1 x9 x10 u00 u01 u02 u03 u04 u05 u06 u07 u08 u09 u0a u0b u0c u0d u0e u0f u0g u0h u0i u0j) (EN again ⟨[1,4,5,9,10],[4,5],[]⟩ k)=(cond (decide (x10 < x9)) (cond (decide (0≤AA AB (2*x10))) (cond (decide (0≤AA AB (AA AB (2*x10)+1))) (cond (decide (x10=ic 0)) (again (R3 l1 x9 (AA AB (x10+1)) u00 u01 u02 u03 u04 u05 u06 u07 u08 u09 (DM (EI l1 (AA AB (2*x10))) (-2) 9) (AA AB (DM (EI l1 (AA AB (2*x10))) (-2) 9+DM (EI l1 (AA AB (AA AB (2*x10)+1))) 0 11)) u0c u0d u0e u0f u0g u0h u0i u0j)) (cond (decide (x10=ic 1)) (again (R3 l1 x9 (AA AB (x10+1)) u00 u01 u02 u03 u04 u05 u06 u07 u08 u09 u0a u0b (DM (EI l1 (AA AB (2*x10))) (-2) 9) (AA AB (DM (EI l1 (AA AB (2*x10))) (-2) 9+DM (EI l1 (AA AB (AA AB (2*x10)+1))) 0 11)) u0e u0f u0g u0h u0i u0j)) (cond (decide (x10=ic 2)) (again (R3 l1 x9 (AA AB (x10+1)) u00 u01 u02 u03 u04 u05 u06 u07 u08 u09 u0a u0b u0c u0d (DM (EI l1 (AA AB (2*x10))) (-2) 9) (AA AB (DM (EI l1 (AA AB (2*x10))) (-2) 9+DM (EI l1 (AA AB (AA AB (2*x10)+1))) 0 11)) u0g u0h u0i u0j)) (cond (decide (x10=ic 3)) (again (R3 l1 x9 (AA AB (x10+1)) u00 u01 u02 u03 u04 u05 u06 u07 u08 u09 u0a u0b u0c u0d u0e u0f (DM (EI l1 (AA AB (2*x10))) (-2) 9) (AA AB (DM (EI l1 (AA AB (2*x10))) (-2) 9+DM (EI l1 (AA AB (AA AB (2*x10)+1))) 0 11)) u0i u0j)) (cond (decide (x10=ic 4)) (again (R3 l1 x9 (AA AB (x10+1)) u00 u01 u02 u03 u04 u05 u06 u07 u08 u09 u0a u0b u0c u0d u0e u0f u0g u0h (DM (EI l1 (AA AB (2*x10))) (-2) 9) (AA AB (DM (EI l1 (AA AB (2*x10))) (-2) 9+DM (EI l1 (AA AB (AA AB (2*x10)+1))) 0 11)))) none))))) none) none) (k (.exit 0) (R3 l1 x9 x10 u00 u01 u02 u03 u04 u05 u06 u07 u08 u09 u0a u0b u0c u0d u0e u0f u0g u0h u0i u0j))):=by kernel_rfl
theorem Xi (N:Nat) (l1:LI) (x9 x10 u00 u01 u02 u03 u04 u05 u06 u07 u08 u09 u0a u0b u0c u0d u0e u0f u0g u0h u0i u0j:Int):(DQ 0 (DS (R6 N) (DK UH [1,1,1]) (DT (R6 N) none [.cell 4 36] [[.z,.z,.z,.z,.z,.z,.z,.z,.z,.z]]))) (.exit 0) (R3 l1 x9 x10 u00 u01 u02 u03 u04 u05 u06 u07 u08 u09 u0a u0b u0c u0d u0e u0f u0g u0h u0i u0j)=(some ((.agg [.i u0a,.i u0b,.i u0c,.i u0d,.i u0e,.i u0f,.i u0g,.i u0h,.i u0i,.i u0j]),[])):=by kernel_rfl
open Go Go.Proofs
def Px (N:Nat):Env:=D5 [(17,MG),(40,bS)] [] 58 N
theorem zdp (N:Nat) (u04 u01 a_Lo u05 u03 u00:Int) (u02:Bool) (u06:LI) (u0b u0a u07 u08 u09:Int) (u0c:LI):DZ (Px N) wN [.cell 4 38] [[.z,.z,.z,.z,.z,.z,.z,.z,.z,.z,.z,.z,.z,.z,.z,.bool,.z]] [.agg [.i u04,.i u01,.i a_Lo,.i u05,.i u03,.i u00,.bool u02,.list false [.z] u06],.agg [.i u0b,.i u0a,.i u07,.i u08,.i u09,.list true [.z,.list false [.int .u64]] u0c]]=(cond (decide (M2 0 (AA AB (u0a - 1))=0)) none (cond (decide (0≤u0b)&&decide (u0b≤4)) (cond (DM u04 1 3==2) (cond (decide (u0a < 2)) (some ((.agg [.i 1,.i (DM u01 0 (AA AB (u0a - 1))),.i (FV u0b u06 0),.i (FW u0b u06 0),.i (FV u0b u06 1),.i (FW u0b u06 1),.i (FV u0b u06 2),.i (FW u0b u06 2),.i (FV u0b u06 3),.i (FW u0b u06 3),.i 0,.i 0,.i (DM a_Lo (-9000) 9000),.i (AA AB (DM a_Lo (-9000) 9000+DM u05 0 18000)),.i 0,.bool false,.i (DM u00 0 65536)]),[])) (cond (DM u04 1 3==1) (some ((.agg [.i (DM u04 1 3),.i (DM u01 0 (AA AB (u0a - 1))),.i (FV u0b u06 0),.i (FW u0b u06 0),.i (FV u0b u06 1),.i (FW u0b u06 1),.i (FV u0b u06 2),.i (FW u0b u06 2),.i (FV u0b u06 3),.i (FW u0b u06 3),.i 0,.i 0,.i (DM a_Lo (-9000) 9000),.i (AA AB (DM a_Lo (-9000) 9000+DM u05 0 18000)),.i 0,.bool false,.i (DM u00 0 65536)]),[])) (some ((.agg [.i (DM u04 1 3),.i (DM u01 0 (AA AB (u0a - 1))),.i (FV u0b u06 0),.i (FW u0b u06 0),.i (FV u0b u06 1),.i (FW u0b u06 1),.i (FV u0b u06 2),.i (FW u0b u06 2),.i (FV u0b u06 3),.i (FW u0b u06 3),.i 0,.i 0,.i 0,.i 0,.i 0,.bool false,.i (DM u00 0 65536)]),[])))) (cond (DM u04 1 3==3) (cond (decide (M2 0 (AA AB (u0b - 1))=0)) none (cond (DM u04 1 3==1) (some ((.agg [.i (DM u04 1 3),.i (DM u01 0 (AA AB (u0a - 1))),.i (FV u0b u06 0),.i (FW u0b u06 0),.i (FV u0b u06 1),.i (FW u0b u06 1),.i (FV u0b u06 2),.i (FW u0b u06 2),.i (FV u0b u06 3),.i (FW u0b u06 3),.i 0,.i 0,.i (DM a_Lo (-9000) 9000),.i (AA AB (DM a_Lo (-9000) 9000+DM u05 0 18000)),.i (DM u03 0 (AA AB (u0b - 1))),.bool u02,.i (DM u00 0 65536)]),[])) (some ((.agg [.i (DM u04 1 3),.i (DM u01 0 (AA AB (u0a - 1))),.i (FV u0b u06 0),.i (FW u0b u06 0),.i (FV u0b u06 1),.i (FW u0b u06 1),.i (FV u0b u06 2),.i (FW u0b u06 2),.i (FV u0b u06 3),.i (FW u0b u06 3),.i 0,.i 0,.i 0,.i 0,.i (DM u03 0 (AA AB (u0b - 1))),.bool u02,.i (DM u00 0 65536)]),[])))) (cond (DM u04 1 3==1) (some ((.agg [.i (DM u04 1 3),.i (DM u01 0 (AA AB (u0a - 1))),.i (FV u0b u06 0),.i (FW u0b u06 0),.i (FV u0b u06 1),.i (FW u0b u06 1),.i (FV u0b u06 2),.i (FW u0b u06 2),.i (FV u0b u06 3),.i (FW u0b u06 3),.i 0,.i 0,.i (DM a_Lo (-9000) 9000),.i (AA AB (DM a_Lo (-9000) 9000+DM u05 0 18000)),.i 0,.bool false,.i (DM u00 0 65536)]),[])) (some ((.agg [.i (DM u04 1 3),.i (DM u01 0 (AA AB (u0a - 1))),.i (FV u0b u06 0),.i (FW u0b u06 0),.i (FV u0b u06 1),.i (FW u0b u06 1),.i (FV u0b u06 2),.i (FW u0b u06 2),.i (FV u0b u06 3),.i (FW u0b u06 3),.i 0,.i 0,.i 0,.i 0,.i 0,.bool false,.i (DM u00 0 65536)]),[]))))) none)):=by kernel_rfl
open Go Go.Proofs
theorem sS:DX PR B0 38 SD:=by
 refine D6 [] [] SD [[.z]] Tryz.func38 zaG trivial ?_;intro vs r hwf h;unfold SD at h;split at h
 ·rename_i l i;cases hc:decide (0≤i) with
  | false=>rw [hc] at h; simp [R.get] at h
  | true=>
   rw [hc,R.get_br,DI,R.get_ok] at h;have hc:=A1 hc;refine ⟨0,?_⟩;rw [← h];refine (zdv 0 l i).trans ?_;unfold EI;cases h0:(ic (AF l)==0) with
   | true=>rfl
   | false=>
    rw [T7] at h0;have h0':=BH h0;have hl:0 < (l.length:Int):=by simp only [ic] at h0'; omega
    have t0:=Int.tmod_nonneg (l.length:Int) hc;have t1:=Int.tmod_lt_of_pos i hl;rw [DJ,h0,DJ,AD (show 0≤Int.tmod i (ic (AF l)) from t0),AD (show Int.tmod i (ic (AF l)) < ic (AF l) from t1),B2,DI,DJ]
 ·simp [R.get] at h
theorem zhp:DX PR B0 160 bX:=by
 refine D6 [] [] bX [[.bool]] Tryz.func160 zaK trivial ?_;intro vs r hwf h;unfold bX at h;split at h
 ·rename_i n w;cases hc:decide (w=32) with
  | false=>rw [hc] at h; simp [R.get] at h
  | true=>
   rw [hc,R.get_br,DI,R.get_ok] at h;have hc:=A1 hc;subst hc;refine ⟨0,?_⟩;rw [← h];refine (zdz 0 n 32).trans ?_;have e1:AA AB (0 - AA AB (1*2 ^ min (AE (AA AB ((32:Int) - 1))) (AR AB))) = -2147483648:=by kernel_rfl
   have e2:AA AB (AA AB (1*2 ^ min (AE (AA AB ((32:Int) - 1))) (AR AB)) - 1)=2147483647:=by kernel_rfl
   have e3:decide (AA AB ((32:Int) - 1) < 0)=false:=by kernel_rfl
   rw [e1,e2,e3];unfold E2;have e4:decide (n ≥ -2147483648)=decide (-2147483648≤n):=rfl;rw [e4];cases decide (-2147483648≤n) <;> rfl
 ·simp [R.get] at h
theorem y6 (a b:Bool):cond a (some (V.bool b,[])) (some (V.bool false,[]))=(some (V.bool (a&&b),[]):DO):=by cases a <;> rfl
theorem zhq:DX PR B0 117 bY:=by
 refine D6 [(160,bX)] [] bY [[.bool]] Tryz.func117 zaM ⟨zhp,trivial⟩ ?_;intro vs r hwf h;unfold bY at h;split at h
 ·rename_i lf v f a l r';refine ⟨0,?_⟩;rw [← h];refine (zdB 0 lf v f a l r').trans ?_;simp only [R.get_ok,y6];unfold f7;cases lf with
  | true=>rfl
  | false=>rfl
 ·simp [R.get] at h
theorem Jh:DX PR B0 71 V7:=by
 refine D6 [(117,bY)] [] V7 [[.int .u64]] Tryz.func71 zaL ⟨zhq,trivial⟩ ?_;intro vs r hwf h;unfold V7 at h;split at h
 ·rename_i lf v f a l r';refine ⟨0,?_⟩;rw [← h];refine (zdA 0 lf v f a l r').trans ?_;unfold IH;cases f7 lf v f a l r' with
  | false=>rfl
  | true=>cases lf <;> rfl
 ·simp [R.get] at h
def L7 (l:LI) (j:Int):Int:=DM (EI l (2*j)) (-2) 9
def LH (l:LI) (j:Int):Int:=DM (EI l (2*j)) (-2) 9+DM (EI l (2*j+1)) 0 11
def rgC (l:LI) (i:Nat):List V:=[.int .i64 (cond (BS 0 i) (L7 l 0) 0),.int .i64 (cond (BS 0 i) (LH l 0) 0),.int .i64 (cond (BS 1 i) (L7 l 1) 0),.int .i64 (cond (BS 1 i) (LH l 1) 0),.int .i64 (cond (BS 2 i) (L7 l 2) 0),.int .i64 (cond (BS 2 i) (LH l 2) 0),.int .i64 (cond (BS 3 i) (L7 l 3) 0),.int .i64 (cond (BS 3 i) (LH l 3) 0),.int .i64 0,.int .i64 0]
abbrev lJ (l:LI) (D:Int) (i:Nat) (x:Int):St:=⟨[(1,(.list false [.z] l)),(4,(.ptr 4 0 0)),(5,(.ptr 5 0 0)),(9,(.int .i64 D)),(10,(.int .i64 x))],[(4,(some (.box [(.int .i64 0),(.int .i64 0),(.int .i64 0),(.int .i64 0),(.int .i64 0),(.int .i64 0),(.int .i64 0),(.int .i64 0),(.int .i64 0),(.int .i64 0)]))),(5,(some (.box (rgC l i))))]⟩
theorem ziH (l:LI) (j:Int):AA AB (DM (EI l (2*j)) (-2) 9+DM (EI l (2*j+1)) 0 11)=LH l j:=by
 obtain ⟨_,a1,a2⟩:=HE (n:=EI l (2*j)) (lo := -2) (hi:=9) (by omega) (by omega) (by omega);obtain ⟨_,b1,b2⟩:=HE (n:=EI l (2*j+1)) (lo:=0) (hi:=11) (by omega) (by omega) (by omega);exact EH (by omega) (by omega)
theorem zgh (N:Nat) (l:LI) (D:Int) (i:Nat) (hi:(i:Int) < D) (h4:i < 4) (again:St→DO) (k:Out→St→DO) :
  EZ (R6 N) (DK UH [1,1,0,1,0,0]) (lJ l D i (i:Int)) (EN again ⟨[1,4,5,9,10],[4,5],[]⟩ k)=again (lJ l D (i+1) ((i+1:Nat):Int)):=by
 refine (Lq N l D i 0 0 0 0 0 0 0 0 0 0 (cond (BS 0 i) (L7 l 0) 0) (cond (BS 0 i) (LH l 0) 0) (cond (BS 1 i) (L7 l 1) 0) (cond (BS 1 i) (LH l 1) 0) (cond (BS 2 i) (L7 l 2) 0) (cond (BS 2 i) (LH l 2) 0) (cond (BS 3 i) (L7 l 3) 0) (cond (BS 3 i) (LH l 3) 0) 0 0 again k).trans ?_;have w2:AA AB (2*(i:Int))=2*(i:Int):=EH (by omega) (by omega);have w3:AA AB (2*(i:Int)+1)=2*(i:Int)+1:=EH (by omega) (by omega);rw [AD hi,DI,w2,w3,AD (show 0≤2*(i:Int) by omega),DI,AD (show 0≤2*(i:Int)+1 by omega),DI,ziH];have hi4:i=0∨i=1∨i=2∨i=3:=by omega
 rcases hi4 with rfl | rfl | rfl | rfl
 ·rw [show decide (((0:Nat):Int)=ic 0)=true from rfl,DI];rfl
 ·rw [show decide (((1:Nat):Int)=ic 0)=false from rfl,show decide (((1:Nat):Int)=ic 1)=true from rfl,DJ,DI];rfl
 ·rw [show decide (((2:Nat):Int)=ic 0)=false from rfl,show decide (((2:Nat):Int)=ic 1)=false from rfl,show decide (((2:Nat):Int)=ic 2)=true from rfl,DJ,DJ,DI];rfl
 ·rw [show decide (((3:Nat):Int)=ic 0)=false from rfl,show decide (((3:Nat):Int)=ic 1)=false from rfl,show decide (((3:Nat):Int)=ic 2)=false from rfl,show decide (((3:Nat):Int)=ic 3)=true from rfl,DJ,DJ,DJ,DI];rfl
theorem Hc (N:Nat) (l:LI) (D:Nat) (hD:D≤4) (K:Out→St→DO):∀ (d i n:Nat),i+d=D→d < n →
  DY (R6 N) (DK UH [1,1,0,1,0,0]) ⟨[1,4,5,9,10],[4,5],[]⟩ n (lJ l D i (i:Int)) K=K (.exit 0) (lJ l D D (D:Int))
 | 0,i,n+1,hd,hn=>by
  have hi:i=D:=by omega
  subst hi;rw [D4];refine (Lq N l _ _ 0 0 0 0 0 0 0 0 0 0 (cond (BS 0 i) (L7 l 0) 0) (cond (BS 0 i) (LH l 0) 0) (cond (BS 1 i) (L7 l 1) 0) (cond (BS 1 i) (LH l 1) 0) (cond (BS 2 i) (L7 l 2) 0) (cond (BS 2 i) (LH l 2) 0) (cond (BS 3 i) (L7 l 3) 0) (cond (BS 3 i) (LH l 3) 0) 0 0 _ _).trans ?_;rw [AL (show ¬ (i:Int) < (i:Int) by omega),DJ];rfl
 | d+1,i,n+1,hd,hn=>by
  rw [D4,zgh N l D i (by omega) (by omega)];exact Hc N l D hD K d (i+1) n (by omega) (by omega)
 | _,_,0,_,h=>by omega
theorem zhj:DX PR B0 40 bS:=by
 refine D6 [(17,MG),(38,SD)] [(3,⟨[1,4,5,9,10],[4,5],[]⟩)] bS [[.z,.z,.z,.z,.z,.z,.z,.z,.z,.z]] Tryz.func40 zaC
  ⟨Z5,sS,trivial⟩ ?_
 intro vs r hwf h;unfold bS at h;split at h
 ·rename_i d c b0 b1 b2 ts l;cases hc:(decide (0≤d)&&decide (d≤4)) with
  | false=>rw [hc] at h; simp [R.get] at h
  | true=>
   rw [hc,R.get_br,DI,R.get_ok] at h;simp only [AI,AQ] at hc;refine ⟨10,?_⟩;rw [← h];refine (zdr 10 d c b0 b1 b2 ts l).trans ?_;obtain ⟨D,rfl⟩:∃ D:Nat,d=D:=⟨d.toNat,by omega⟩;refine (Hc 10 l D (by omega) _ D 0 10 (by omega) (by omega)).trans ?_;refine (Xi 10 l D D 0 0 0 0 0 0 0 0 0 0 (cond (BS 0 D) (L7 l 0) 0) (cond (BS 0 D) (LH l 0) 0) (cond (BS 1 D) (L7 l 1) 0) (cond (BS 1 D) (LH l 1) 0) (cond (BS 2 D) (L7 l 2) 0) (cond (BS 2 D) (LH l 2) 0) (cond (BS 3 D) (L7 l 3) 0) (cond (BS 3 D) (LH l 3) 0) 0 0).trans ?_;have hD:D=0∨D=1∨D=2∨D=3∨D=4:=by omega
   rcases hD with rfl | rfl | rfl | rfl | rfl <;> rfl
 ·simp [R.get] at h
theorem zhh:DX PR B0 16 g7:=by
 refine D6 [(17,MG),(40,bS)] [] g7 [[.z,.z,.z,.z,.z,.z,.z,.z,.z,.z,.z,.z,.z,.z,.z,.bool,.z]] Tryz.func16 zaA
  ⟨Z5,zhj,trivial⟩ ?_
 intro vs r hwf h;unfold g7 at h;split at h
 ·rename_i k c lo size ft bu fl sp dim cls b0 b1 b2 ts;cases hc:((decide (1≤dim)&&decide (dim≤4))&&(decide (1≤cls)&&decide (cls≤3))) with
  | false=>rw [hc] at h; simp [R.get] at h
  | true=>
   rw [hc,R.get_br,DI,R.get_ok] at h;simp only [AI,AQ] at hc;obtain ⟨⟨d1,d4⟩,c1,c3⟩:=hc;refine ⟨0,?_⟩;rw [← h];refine (zdp 0 k c lo size ft bu fl sp dim cls b0 b1 b2 ts).trans ?_;have w1:AA AB (cls - 1)=cls - 1:=EH (by omega) (by omega);have w2:AA AB (dim - 1)=dim - 1:=EH (by omega) (by omega);obtain ⟨m1,_,_⟩:=HE (n:=c) (lo:=0) (hi:=cls - 1) (by omega) (by omega) (by omega);obtain ⟨m2,_,_⟩:=HE (n:=ft) (lo:=0) (hi:=dim - 1) (by omega) (by omega) (by omega);obtain ⟨_,l1,l2⟩:=HE (n:=lo) (lo := -9000) (hi:=9000) (by omega) (by omega) (by omega);obtain ⟨_,s1,s2⟩:=HE (n:=size) (lo:=0) (hi:=18000) (by omega) (by omega) (by omega);have w3:AA AB (DM lo (-9000) 9000+DM size 0 18000)=DM lo (-9000) 9000+DM size 0 18000:=EH (by omega) (by omega);rw [w1,w2,w3,m1,m2,AL (show ¬ (cls - 1 - 0+1=0) by omega),AL (show ¬ (dim - 1 - 0+1=0) by omega),AD (show 0≤dim by omega),AD (show dim≤4 by omega)];unfold JD FN KD;obtain ⟨_,k1,k2⟩:=HE (n:=k) (lo:=1) (hi:=3) (by omega) (by omega) (by omega);generalize DM k 1 3=K at k1 k2;have hK:K=1∨K=2∨K=3:=by omega
   simp only;generalize decide (cls < 2)=cl;rcases hK with rfl | rfl | rfl <;> cases cl <;> rfl
 ·simp [R.get] at h
open Go
def R9:DV
 | [.int .i64 n,.int .i64 w]=>.br (decide (w=32)) (.ok (.bool (E2 n)) []) .no
 | _=>.no
def V3:DV
 | [.int .i64 a,.int .i64 w]=>.br (decide (0≤a)&&decide (a < 64)) (.ok (.bool (decide (1≤w)&&decide (w≤64 - a))) []) .no
 | _=>.no
def XG (w:Int):Int:=(18446744073709551615:Int).fdiv (2 ^ (64 - w).toNat)
def V4:DV
 | [.int .i64 w]=>.br (decide (1≤w)&&decide (w≤64)) (.ok (.int .u64 (XG w)) []) .no
 | _=>.no
def Sj (a b:Int):Int:=JP (ic (CH (A5 (AR AJ) a &&& ~~~ (A5 (AR AJ) b))))
def P8 (x a w y:Int):Int:=fL (Sj x (Z3 (XG w) a.toNat)) (iG (Z3 y a.toNat) (Z3 (XG w) a.toNat))
def IF (x a w:Int):Int:=iG (x.fdiv (2 ^ a.toNat)) (XG w)
def a8:DV
 | [.int .u64 x,.int .i64 a,.int .i64 w,.int .u64 y]=>.br (decide (0≤a)&&(decide (a < 64)&&(decide (1≤w)&&decide (w≤64 - a)))) (.ok (.int .u64 (P8 x a w y)) []) .no
 | _=>.no
def SA:DV
 | [.int .u64 x,.int .i64 a,.int .i64 w]=>.br (decide (0≤a)&&(decide (a < 64)&&(decide (1≤w)&&decide (w≤64 - a)))) (.ok (.int .u64 (IF x a w)) []) .no
 | _=>.no
def uI (n:Int):Int:=(FL (n*2 ^ 32)).fdiv (2 ^ 32)
def bB:DV
 | [.int .i64 n,.int .i64 w]=>.br (decide (w=32)) (.ok (.int .i64 (uI n)) []) .no
 | _=>.no
def OC (x:Int):Int:=uI (FL (IF x 0 32))
def bA:DV
 | [.int .u64 x,.int .i64 a,.int .i64 w]=>.br (decide (a=0)&&decide (w=32)) (.ok (.int .i64 (OC x)) []) .no
 | _=>.no
structure Nd where
 lf:Bool
 v:Int
 f:Int
 a:Int
 l:Int
 r:Int
def Nd.eq (x y:Nd):Bool:=(x.lf==y.lf)&&((x.v==y.v)&&((x.f==y.f)&&((x.a==y.a)&&((x.l==y.l)&&((x.r==y.r)&&true)))))
def Nd.zero:Nd:=⟨false,0,0,0,0,0⟩
def Q4 (n:Int):Bool:=decide (1≤n)&&decide (n < 31)
def cT:DV
 | [.int .i64 n]=>.ok (.bool (Q4 n)) []
 | _=>.no
def MW (x:Nd):Bool:=
 cond x.lf (x.eq ⟨true,x.v,0,0,0,0⟩&&E2 x.v)
  ((x.v==0)&&(decide (0≤x.f)&&(decide (x.f < 4)&&(E2 x.a&&(Q4 x.l&&Q4 x.r)))))
def cR:DV
 | [.agg [.bool lf,.int .i64 v,.int .i64 f,.int .i64 a,.int .i64 l,.int .i64 r]]=>.ok (.bool (MW ⟨lf,v,f,a,l,r⟩)) []
 | _=>.no
def IY (x:Nd):Int:=
 cond (MW x)
  (cond x.lf (P8 9223372036854775808 0 32 (JP x.v))
   (P8 (P8 (P8 (P8 0 0 32 (JP x.a)) 32 4 (JP x.f)) 40 8 (JP x.l)) 48 8 (JP x.r)))
  0
def WD:DV
 | [.agg [.bool lf,.int .i64 v,.int .i64 f,.int .i64 a,.int .i64 l,.int .i64 r]]=>.ok (.int .u64 (IY ⟨lf,v,f,a,l,r⟩)) []
 | _=>.no
def XQ (w:Int):Nd:=
 cond (IF w 63 1==0) ⟨false,0,FL (IF w 32 4),OC w,FL (IF w 40 8),FL (IF w 48 8)⟩ ⟨true,OC w,0,0,0,0⟩
def GC (w:Int):Bool:=!(w==0)&&(IY (XQ w)==w)
def DL (w:Int):Nd:=cond (GC w) (XQ w) Nd.zero
def MI:DV
 | [.int .u64 w]=>.ok (.tup [.agg [.bool (DL w).lf,.int .i64 (DL w).v,.int .i64 (DL w).f,.int .i64 (DL w).a,.int .i64 (DL w).l,.int .i64 (DL w).r],.bool (GC w)]) []
 | _=>.no
def cS:DV
 | [.int .i64 a,.int .i64 w,.bor [.int .u64 x]]=>.br (decide (0≤a)&&(decide (a < 64)&&(decide (1≤w)&&decide (w≤64 - a)))) (.ok (.int .i64 (FL (IF x a w))) [[.int .u64 x]]) .no
 | _=>.no
def K8 (x:Nd) (j:Nat):Nat:=cond x.lf 0 ((if x.l=(j:Int) then 1 else 0)+(if x.r=(j:Int) then 1 else 0))
def IW (l:LI) (j:Nat):Nat:=(l.map fun w=>K8 (DL w.toInt) j).sum
def N4 (dim n:Int) (i:Nat) (x:Nd):Bool:=
 cond x.lf true (!(decide (x.f≥dim))&&(!(x.l==x.r)&&(!(decide (min x.l x.r≤(i:Int)))&&!(decide (max x.l x.r≥n)))))
def KF (dim n:Int):Nat→LI→Bool
 | _,[]=>true
 | i,w :: r=>(GC w.toInt&&N4 dim n i (DL w.toInt))&&KF dim n (i+1) r
def ZR (l:LI):Bool:=(vau (l.length - 1)).all fun j=>IW l (j+1)==1
def GV (l:LI) (dim:Int):Bool:=(B6 1 l.length&&B6 l.length 31)&&(KF dim (ic l.length) 0 l&&ZR l)
def WP:DV
 | [.list false [.int .u64] l,.int .i64 dim]=>.ok (.bool (GV l dim)) []
 | _=>.no
structure Md where
 d:Int
 c:Int
 b0:Int
 b1:Int
 b2:Int
 ts:LI
def HM (d c:Int) (t:IV):Bool:=!(decide ((t.cell 0).toInt < 0))&&(!(decide ((t.cell 0).toInt≥c))&&GV (t.cell 1).toList d)
def HV (c j b:Int):Bool:=E2 b&&!(decide (j≥c)&&!(b==0))
def EW (m:Md):Bool:=
 (!(decide (m.d < 1))&&(!(decide (m.d > 4))&&(!(decide (m.c < 1))&&(!(decide (m.c > 3))&&B6 m.ts.length 8)))) &&
  ((HV m.c 0 m.b0&&(HV m.c 1 m.b1&&HV m.c 2 m.b2))&&m.ts.all (HM m.d m.c))
abbrev MO:List Kd:=[.z,.list false [.int .u64]]
def WC:DV
 | [.agg [.int .i64 k,.list false [.int .u64] l],.bor [.int .i64 d,.int .i64 c,.int .i64 b0,.int .i64 b1,.int .i64 b2,.list true [.z,.list false [.int .u64]] ts]]=>
  .ok (.bool (!(HM d c (.agg [.int k,.list l])))) [[.int .i64 d,.int .i64 c,.int .i64 b0,.int .i64 b1,.int .i64 b2,.list true MO ts]]
 | _=>.no
def W8 (d c:Int):LI→Int→Int
 | [],_ => -1
 | t :: r,i=>cond (HM d c t) (W8 d c r (i+1)) i
def dE:DV
 | [.list true [.z,.list false [.int .u64]] l,.clo 95 [.bor [.int .i64 d,.int .i64 c,.int .i64 b0,.int .i64 b1,.int .i64 b2,.list true [.z,.list false [.int .u64]] ts]]]=>
  .ok (.int .i64 (W8 d c l 0)) [[.int .i64 d,.int .i64 c,.int .i64 b0,.int .i64 b1,.int .i64 b2,.list true MO ts]]
 | _=>.no
def dD:DV
 | [.list true [.z,.list false [.int .u64]] l,.clo 95 [.bor [.int .i64 d,.int .i64 c,.int .i64 b0,.int .i64 b1,.int .i64 b2,.list true [.z,.list false [.int .u64]] ts]]]=>
  .ok (.bool (!(l.all (HM d c)))) [[.int .i64 d,.int .i64 c,.int .i64 b0,.int .i64 b1,.int .i64 b2,.list true MO ts]]
 | _=>.no
def MH:DV
 | [.agg [.int .i64 d,.int .i64 c,.int .i64 b0,.int .i64 b1,.int .i64 b2,.list true [.z,.list false [.int .u64]] ts]]=>.ok (.bool (EW ⟨d,c,b0,b1,b2,ts⟩)) []
 | _=>.no
abbrev NP:BA:=⟨#[102,111,114,101,115,116]⟩
abbrev I7:BA:=⟨#[98,105,97,115]⟩
abbrev OH:BA:=⟨#[116,114,101,101]⟩
abbrev TH:BA:=⟨#[108,101,97,102]⟩
abbrev lZ:BA:=⟨#[105,102]⟩
abbrev uE:BA:=⟨#[60,61]⟩
abbrev uF:BA:=⟨#[116,104,101,110]⟩
abbrev uD:BA:=⟨#[101,108,115,101]⟩
abbrev PL:BA:=⟨#[10]⟩
def FO (ws:List BA):BA:=GI ws G2++PL
def F5:List (List BA)→BA
 | []=>CK
 | l :: r=>FO l++F5 r
def L6 (x:Nd):List BA:=
 cond x.lf [TH,DU x.v] [lZ,DP x.f,uE,DU x.a,uF,DP x.l,uD,DP x.r]
def HY (l:LI):List (List BA):=l.map fun w=>L6 (DL w.toInt)
def TE (t:IV):List (List BA):=[OH,DP (t.cell 0).toInt,DP (ic (t.cell 1).toList.length)] :: HY (t.cell 1).toList
def GP:LI→List (List BA)
 | []=>[]
 | t :: r=>TE t++GP r
def SX (m:Md):List (List BA):=[[NP,DP m.d,DP m.c],I7 :: ([m.b0,m.b1,m.b2].take m.c.toNat).map DU]
def L3 (m:Md):List (List BA):=SX m++GP m.ts
def FH (m:Md):BA:=cond (EW m) (F5 (L3 m)) YA
def FK (s:BA) (most:Int):Int:=cond (KM s&&(!(decide (FF s < 0))&&!(decide (FF s > most)))) (FF s) 0
def EX (ls:LI):LI:=match ls with | []=>[] | l :: _=>HH l.toStr
def NJ (l:LI):Nd:=
 cond ((DW l 0).toList==TH.toList) ⟨true,F7 (DW l 1),0,0,0,0⟩ ⟨false,0,FK (DW l 1) 4,F7 (DW l 3),FK (DW l 5) 31,FK (DW l 7) 31⟩
def MT (ls:LI) (k:Nat):LI:=(vau k).map fun i=>.int (IY (NJ (EX (ls.drop i))))
def MS (ls:LI):Nat:=(FK (DW (EX ls) 2) 31).toNat
def ZX (ls:LI):IV:=.agg [.int (FK (DW (EX ls) 1) 3),.list (MT (ls.drop 1) (MS ls))]
def LG:Nat→LI→LI
 | 0,_=>[]
 | n+1,ls=>match ls with
  | []=>[]
  | l :: r=>ZX (l :: r) :: LG n (r.drop (MS (l :: r)))
def LF (ls:LI) (c:Int) (j:Nat):Int:=cond (decide ((j:Int) < c)) (F7 (DW (EX (ls.drop 1)) (1+j))) 0
def ZW (ls:LI):Int:=FK (DW (EX ls) 2) 3
def rM (ls:LI):Md:=⟨FK (DW (EX ls) 1) 4,ZW ls,LF ls (ZW ls) 0,LF ls (ZW ls) 1,LF ls (ZW ls) 2,LG 9 (ls.drop 2)⟩
def SW (s t:BA):Bool:=decide (t.size≤s.size)&&(s.extract (s.size - t.size) s.size).toList==t.toList
def GT (s t:BA):BA:=cond (SW s t) (s.extract 0 (s.size - t.size)) s
def aD (s:BA):BA:=GT s PL
def UT (s:BA):LI:=(D2 (aD s) PL).map IV.str
def Y2 (s:BA):Md:=rM (UT s)
def Md.zero:Md:=⟨0,0,0,0,0,[]⟩
def PI (s:BA):Bool:=!(s.toList==YA.toList)&&(FH (Y2 s)).toList==s.toList
def IJ (s:BA):Md:=cond (PI s) (Y2 s) Md.zero
def KH (l:LI):Bool:=l.all fun x=>decide (x.toStr.size < 4294967281)
def dI:DV
 | [.bor [.bld s],.list false [.str] ws]=>.br (B6 ws.length 1000&&decide (s.size+(FO (ws.map IV.toStr)).size≤1000000000)) (.ok (.tup []) [[.bld (s++FO (ws.map IV.toStr))]]) .no
 | _=>.no
def NW:DV
 | [.agg [.int .i64 d,.int .i64 c,.int .i64 b0,.int .i64 b1,.int .i64 b2,.list true [.z,.list false [.int .u64]] ts]]=>.ok (.str (FH ⟨d,c,b0,b1,b2,ts⟩)) []
 | _=>.no
def WM:DV
 | [.bor [.list false [.str] ls]]=>.br (KH ls) (.ok (.list false [.str] (EX ls)) [[.list false [.str] (ls.drop 1)]]) .no
 | _=>.no
def WO:DV
 | [.list false [.str] l,.int .i64 i]=>.br (decide (0≤i)) (.ok (.str (DW l i.toNat)) []) .no
 | _=>.no
def WL:DV
 | [.str s,.int .i64 most]=>.ok (.int .i64 (FK s most)) []
 | _=>.no
def WN:DV
 | [.str s]=>.br (decide (s.size < 4294967281)) (.ok (.int .i64 (F7 s)) []) .no
 | _=>.no
def dJ:DV
 | [.bor [.list false [.str] ls]]=>.br (KH ls) (.ok (.int .u64 (IY (NJ (EX ls)))) [[.list false [.str] (ls.drop 1)]]) .no
 | _=>.no
def cL:DV
 | [.str s,.str t]=>.ok (.bool (SW s t)) []
 | _=>.no
def cM:DV
 | [.str s,.str t]=>.ok (.str (GT s t)) []
 | _=>.no
def SF:DV
 | [.str s,.str t]=>.ok (.str (GT s t)) []
 | _=>.no
def dH:DV
 | [.str s]=>.br (decide (s.size < 4294967281)) (.ok (.tup [.agg [.int .i64 (IJ s).d,.int .i64 (IJ s).c,.int .i64 (IJ s).b0,.int .i64 (IJ s).b1,.int .i64 (IJ s).b2,.list true MO (IJ s).ts],.bool (PI s)]) []) .no
 | _=>.no
open Go Go.Proofs
def Pi (N:Nat):Env:=D5 [] [] 25 N
theorem zc2 (N:Nat) (n w:Int):DZ (Pi N) v8 [.tmp 4] [[.bool]] [.i n,.i w]=(cond (decide (w < 1)) (some ((.bool false),[])) (cond (decide (w > 64)) (some ((.bool false),[])) (cond (decide (AA AJ (AA AB (w - 1)) < 0)) none (cond (va0 n (2 ^ min (AE (AA AJ (AA AB (w - 1)))) (AR AB))==0) (some ((.bool true),[])) (cond (decide (AA AJ (AA AB (w - 1)) < 0)) none (some ((.bool (va0 n (2 ^ min (AE (AA AJ (AA AB (w - 1)))) (AR AB)) == -1)),[]))))))):=by kernel_rfl
def Pm (N:Nat):Env:=D5 [] [] 21 N
theorem zc6 (N:Nat) (n w:Int):DZ (Pm N) wD [.tmp 4] [[.z]] [.i n,.i w]=(cond (decide (w < 1)) (some ((.i n),[])) (cond (decide (w≥64)) (some ((.i n),[])) (cond (decide (AA AJ (AA AB (64 - w)) < 0)) none (cond (decide (AA AJ (AA AB (64 - w)) < 0)) none (some ((.i (va0 (AA AB (n*2 ^ min (AE (AA AJ (AA AB (64 - w)))) (AR AB))) (2 ^ min (AE (AA AJ (AA AB (64 - w)))) (AR AB)))),[])))))):=by kernel_rfl
def Pn (N:Nat):Env:=D5 [] [] 21 N
theorem zc7 (N:Nat) (atv w:Int):DZ (Pn N) wE [.tmp 4] [[.bool]] [.i atv,.i w]=(cond (decide (atv≥0)) (cond (decide (atv < 64)) (cond (decide (w≥1)) (some ((.bool (decide (w≤AA AB (64 - atv)))),[])) (some ((.bool false),[]))) (some ((.bool false),[]))) (some ((.bool false),[]))):=by kernel_rfl
def Po (N:Nat):Env:=D5 [] [] 7 N
theorem zc8 (N:Nat) (w:Int):DZ (Po N) wF [.tmp 2] [[.int .u64]] [.i w]=(cond (decide (AA AJ (AA AB (64 - w)) < 0)) none (some ((.int .u64 (va0 18446744073709551615 (2 ^ min (AE (AA AJ (AA AB (64 - w)))) (AR AJ)))),[]))):=by kernel_rfl
def Pk (N:Nat):Env:=D5 [(149,V3),(150,V4)] [] 30 N
theorem zc4 (N:Nat) (x atv w y:Int):DZ (Pk N) wB [.tmp 8] [[.int .u64]] [.int .u64 x,.i atv,.i w,.int .u64 y]=(cond (decide (0≤atv)&&decide (atv < 64)) (cond (! (decide (1≤w)&&decide (w≤64 - atv))) (some ((.int .u64 x),[])) (cond (decide (1≤w)&&decide (w≤64)) (cond (decide (AA AJ atv < 0)) none (cond (decide (AA AJ atv < 0)) none (some ((.int .u64 (AA AJ (ic (CH (A5 (AR AJ) (AA AJ (ic (CH (A5 (AR AJ) x &&& ~~~A5 (AR AJ) (AA AJ (XG w*2 ^ min (AE (AA AJ atv)) (AR AJ))))))) ||| A5 (AR AJ) (AA AJ (ic (CH (A5 (AR AJ) (AA AJ (y*2 ^ min (AE (AA AJ atv)) (AR AJ))) &&& A5 (AR AJ) (AA AJ (XG w*2 ^ min (AE (AA AJ atv)) (AR AJ)))))))))))),[])))) none)) none):=by kernel_rfl
def Pj (N:Nat):Env:=D5 [(149,V3),(150,V4)] [] 18 N
theorem zc3 (N:Nat) (x atv w:Int):DZ (Pj N) wA [.tmp 6] [[.int .u64]] [.int .u64 x,.i atv,.i w]=(cond (decide (0≤atv)&&decide (atv < 64)) (cond (! (decide (1≤w)&&decide (w≤64 - atv))) (some ((.int .u64 0),[])) (cond (decide (AA AJ atv < 0)) none (cond (decide (1≤w)&&decide (w≤64)) (some ((.int .u64 (AA AJ (ic (CH (A5 (AR AJ) (va0 x (2 ^ min (AE (AA AJ atv)) (AR AJ))) &&& A5 (AR AJ) (XG w)))))),[])) none))) none):=by kernel_rfl
def Pl (N:Nat):Env:=D5 [(99,SA),(148,bB)] [] 14 N
theorem zc5 (N:Nat) (x atv w:Int):DZ (Pl N) wC [.tmp 6] [[.z]] [.int .u64 x,.i atv,.i w]=(cond (decide (0≤atv)&&(decide (atv < 64)&&(decide (1≤w)&&decide (w≤64 - atv)))) (cond (decide (w=32)) (some ((.i (uI (AA AB (IF x atv w)))),[])) none) none):=by kernel_rfl
def Rd (N:Nat):Env:=D5 [] [] 9 N
theorem zd7 (N:Nat) (n:Int):DZ (Rd N) xQ [.tmp 2] [[.bool]] [.i n]=(cond (decide (n≥1)) (some ((.bool (decide (n < 31))),[])) (some ((.bool false),[]))):=by kernel_rfl
def Ra (N:Nat):Env:=D5 [(93,R9),(190,cT)] [] 43 N
theorem zd4 (N:Nat) (u01:Bool) (u04 u00 n_At u02 u03:Int):DZ (Ra N) xN [.tmp 2] [[.bool]] [.agg [.bool u01,.i u04,.i u00,.i n_At,.i u02,.i u03]]=(cond u01 (cond (u01==true&&(u04==u04&&(u00==0&&(n_At==0&&(u02==0&&(u03==0&&true)))))) (some ((.bool (E2 u04)),[])) (some ((.bool false),[]))) (cond (u04==0) (cond (decide (u00≥0)) (cond (decide (u00 < 4)) (cond (E2 n_At) (cond (Q4 u02) (some ((.bool (Q4 u03)),[])) (some ((.bool false),[]))) (some ((.bool false),[]))) (some ((.bool false),[]))) (some ((.bool false),[]))) (some ((.bool false),[])))):=by kernel_rfl
def Qz (N:Nat):Env:=D5 [(146,a8),(145,cR)] [] 32 N
theorem zd3 (N:Nat) (u01:Bool) (u04 u00 n_At u02 u03:Int):DZ (Qz N) xM [.tmp 2] [[.int .u64]] [.agg [.bool u01,.i u04,.i u00,.i n_At,.i u02,.i u03]]=(cond (!MW {lf:=u01,v:=u04,f:=u00,a:=n_At,l:=u02,r:=u03}) (some ((.int .u64 0),[])) (cond u01 (some ((.int .u64 (P8 9223372036854775808 0 32 (AA AJ u04))),[])) (some ((.int .u64 (P8 (P8 (P8 (P8 0 0 32 (AA AJ n_At)) 32 4 (AA AJ u00)) 40 8 (AA AJ u02)) 48 8 (AA AJ u03))),[])))):=by kernel_rfl
def Rc (N:Nat):Env:=D5 [(99,SA)] [] 11 N
theorem zd6 (N:Nat) (a w x:Int):DZ (Rc N) xP [.tmp 5] [[.z]] [.i a,.i w,.bor [.int .u64 x]]=(cond (decide (0≤a)&&(decide (a < 64)&&(decide (1≤w)&&decide (w≤64 - a)))) (some ((.i (AA AB (IF x a w))),[[.int .u64 x]])) none):=by kernel_rfl
def Rb (N:Nat):Env:=D5 [(99,SA),(98,bA),(92,WD),(100,cS)] [] 33 N
theorem zd5 (N:Nat) (w:Int):DZ (Rb N) xO [.cell 2 111,.tmp 3] [[.bool,.z,.z,.z,.z,.z],[.bool]] [.int .u64 w]=(cond (IF w 63 1==0) (cond (w==0) (some ((.tup [.agg [.bool false,.i 0,.i 0,.i 0,.i 0,.i 0],.bool false]),[])) (cond (IY {lf:=false,v:=0,f:=FL (IF w 32 4),a:=OC w,l:=FL (IF w 40 8),r:=FL (IF w 48 8)} != w) (some ((.tup [.agg [.bool false,.i 0,.i 0,.i 0,.i 0,.i 0],.bool false]),[])) (some ((.tup [.agg [.bool false,.i 0,.i (FL (IF w 32 4)),.i (OC w),.i (FL (IF w 40 8)),.i (FL (IF w 48 8))],.bool true]),[])))) (cond (w==0) (some ((.tup [.agg [.bool false,.i 0,.i 0,.i 0,.i 0,.i 0],.bool false]),[])) (cond (IY {lf:=true,v:=OC w,f:=0,a:=0,l:=0,r:=0} != w) (some ((.tup [.agg [.bool false,.i 0,.i 0,.i 0,.i 0,.i 0],.bool false]),[])) (some ((.tup [.agg [.bool true,.i (OC w),.i 0,.i 0,.i 0,.i 0],.bool true]),[]))))):=by kernel_rfl
open Go Go.Proofs
theorem tV {n:Int} (h0:0≤n) (h1:n < 18446744073709551616):AA AJ n=n:=by
 rw [lW];omega
theorem sN:DX PR B0 93 R9:=by
 refine D6 [] [] R9 [[.bool]] Tryz.func93 Zy trivial ?_;intro vs r hwf h;unfold R9 at h;split at h
 ·rename_i n w;cases hc:decide (w=32) with
  | false=>rw [hc] at h; simp [R.get] at h
  | true=>
   rw [hc,R.get_br,DI,R.get_ok] at h;have hc:=A1 hc;subst hc;refine ⟨0,?_⟩;rw [← h];refine (zc2 0 n 32).trans ?_;have e3:decide (AA AJ (AA AB ((32:Int) - 1)) < 0)=false:=by kernel_rfl
   have e4:(2:Int) ^ min (AE (AA AJ (AA AB ((32:Int) - 1)))) (AR AB)=2147483648:=by kernel_rfl
   rw [e3,e4,AL (show ¬ (32:Int) < 1 by omega),AL (show ¬ (32:Int) > 64 by omega),DJ,DJ,DJ,DJ];have h0:=Int.fdiv_mul_add_fmod n 2147483648;have h1:=Int.fmod_nonneg_of_pos n (show (0:Int) < 2147483648 by omega);have h2:=Int.fmod_lt_of_pos n (show (0:Int) < 2147483648 by omega);generalize va0 n 2147483648=q at h0 ⊢;generalize Int.fmod n 2147483648=m at h0 h1 h2;unfold E2;rw [T7,T7];cases hq:decide (q=0) with
   | true=>
    have hq:=A1 hq;rw [AD (show -2147483648≤n by omega),AD (show n≤2147483647 by omega)];rfl
   | false=>
    have hq:=BH hq;cases hp:decide (q = -1) with
    | true=>
     have hp:=A1 hp;rw [AD (show -2147483648≤n by omega),AD (show n≤2147483647 by omega)];rfl
    | false=>
     have hp:=BH hp;rw [DJ];congr 3
     symm
     rw [Bool.and_eq_false_iff,BW,BW];omega
 ·simp [R.get] at h
theorem zg1:DX PR B0 148 bB:=by
 refine D6 [] [] bB [[.z]] Tryz.func148 zac trivial ?_;intro vs r hwf h;unfold bB at h;split at h
 ·rename_i n w;cases hc:decide (w=32) with
  | false=>rw [hc] at h; simp [R.get] at h
  | true=>
   rw [hc,R.get_br,DI,R.get_ok] at h;have hc:=A1 hc;subst hc;refine ⟨0,?_⟩;rw [← h];refine (zc6 0 n 32).trans ?_;have e3:decide (AA AJ (AA AB ((64:Int) - 32)) < 0)=false:=by kernel_rfl
   have e4:min (AE (AA AJ (AA AB ((64:Int) - 32)))) (AR AB)=32:=by kernel_rfl
   rw [e3,e4,AL (show ¬ (32:Int) < 1 by omega),AL (show ¬ (32:Int)≥64 by omega),DJ,DJ,DJ,DJ];rfl
 ·simp [R.get] at h
theorem Jd:DX PR B0 149 V3:=by
 refine D6 [] [] V3 [[.bool]] Tryz.func149 zad trivial ?_;intro vs r hwf h;unfold V3 at h;split at h
 ·rename_i a w;cases hc:(decide (0≤a)&&decide (a < 64)) with
  | false=>rw [hc] at h; simp [R.get] at h
  | true=>
   rw [hc,R.get_br,DI,R.get_ok] at h;rw [AI,AQ,AQ] at hc;refine ⟨0,?_⟩;rw [← h];refine (zc7 0 a w).trans ?_;have e:AA AB (64 - a)=64 - a:=EH (by omega) (by omega);have e1:decide (w≥1)=decide (1≤w):=rfl;rw [AD (show a≥0 by omega),AD hc.2,DI,DI,e,e1];cases decide (1≤w) <;> rfl
 ·simp [R.get] at h
theorem Je:DX PR B0 150 V4:=by
 refine D6 [] [] V4 [[.int .u64]] Tryz.func150 zae trivial ?_;intro vs r hwf h;unfold V4 at h;split at h
 ·rename_i w;cases hc:(decide (1≤w)&&decide (w≤64)) with
  | false=>rw [hc] at h; simp [R.get] at h
  | true=>
   rw [hc,R.get_br,DI,R.get_ok] at h;rw [AI,AQ,AQ] at hc;refine ⟨0,?_⟩;rw [← h];refine (zc8 0 w).trans ?_;have e:AA AB (64 - w)=64 - w:=EH (by omega) (by omega);have e2:AA AJ (64 - w)=64 - w:=tV (by omega) (by omega);have e3:min (64 - w).toNat (AR AJ)=(64 - w).toNat:=by
    have:AR AJ=64:=rfl
    omega
   rw [e,e2,e3,AL (show ¬ (64 - w < 0) by omega),DJ];rfl
 ·simp [R.get] at h
theorem Ah {a w:Int} (hc:(decide (0≤a)&&(decide (a < 64)&&(decide (1≤w)&&decide (w≤64 - a))))=true):0≤a∧a < 64∧1≤w∧w≤64 - a:=by
 simpa only [AI,AQ] using hc
theorem zgZ:DX PR B0 146 a8:=by
 refine D6 [(149,V3),(150,V4)] [] a8 [[.int .u64]] Tryz.func146 zaa ⟨Jd,Je,trivial⟩ ?_;intro vs r hwf h;unfold a8 at h;split at h
 ·rename_i x a w y;cases hc:(decide (0≤a)&&(decide (a < 64)&&(decide (1≤w)&&decide (w≤64 - a)))) with
  | false=>rw [hc] at h; simp [R.get] at h
  | true=>
   rw [hc,R.get_br,DI,R.get_ok] at h;obtain ⟨h1,h2,h3,h4⟩:=Ah hc;refine ⟨0,?_⟩;rw [← h];refine (zc4 0 x a w y).trans ?_;have e2:AA AJ a=a:=tV (by omega) (by omega);have e3:min a.toNat (AR AJ)=a.toNat:=by
    have:AR AJ=64:=rfl
    omega
   rw [e2,e3,AD h1,AD h2,AD h3,AD h4,AD (show w≤64 by omega),AL (show ¬ a < 0 by omega)];simp only [B4,A3,DI,DJ];rfl
 ·simp [R.get] at h
theorem sO:DX PR B0 99 SA:=by
 refine D6 [(149,V3),(150,V4)] [] SA [[.int .u64]] Tryz.func99 Zz ⟨Jd,Je,trivial⟩ ?_;intro vs r hwf h;unfold SA at h;split at h
 ·rename_i x a w;cases hc:(decide (0≤a)&&(decide (a < 64)&&(decide (1≤w)&&decide (w≤64 - a)))) with
  | false=>rw [hc] at h; simp [R.get] at h
  | true=>
   rw [hc,R.get_br,DI,R.get_ok] at h;obtain ⟨h1,h2,h3,h4⟩:=Ah hc;refine ⟨0,?_⟩;rw [← h];refine (zc3 0 x a w).trans ?_;have e2:AA AJ a=a:=tV (by omega) (by omega);have e3:min a.toNat (AR AJ)=a.toNat:=by
    have:AR AJ=64:=rfl
    omega
   rw [e2,e3,AD h1,AD h2,AD h3,AD h4,AD (show w≤64 by omega),AL (show ¬ a < 0 by omega)];simp only [B4,A3,DI,DJ];rfl
 ·simp [R.get] at h
theorem zg0:DX PR B0 98 bA:=by
 refine D6 [(99,SA),(148,bB)] [] bA [[.z]] Tryz.func98 zab ⟨sO,zg1,trivial⟩ ?_;intro vs r hwf h;unfold bA at h;split at h
 ·rename_i x a w;cases hc:(decide (a=0)&&decide (w=32)) with
  | false=>rw [hc] at h; simp [R.get] at h
  | true=>
   rw [hc,R.get_br,DI,R.get_ok] at h;rw [AI,AQ,AQ] at hc;obtain ⟨rfl,rfl⟩:=hc;refine ⟨0,?_⟩;rw [← h];refine (zc5 0 x 0 32).trans ?_;rfl
 ·simp [R.get] at h
theorem zhO:DX PR B0 190 cT:=by
 refine D6 [] [] cT [[.bool]] Tryz.func190 zbi trivial ?_;intro vs r hwf h;unfold cT at h;split at h
 ·rename_i n;refine ⟨0,?_⟩;rw [R.get_ok] at h;rw [← h];refine (zd7 0 n).trans ?_;unfold Q4;have e1:decide (n≥1)=decide (1≤n):=rfl;rw [e1];cases decide (1≤n) <;> rfl
 ·simp [R.get] at h
theorem zhM:DX PR B0 145 cR:=by
 refine D6 [(93,R9),(190,cT)] [] cR [[.bool]] Tryz.func145 zbf ⟨sN,zhO,trivial⟩ ?_;intro vs r hwf h;unfold cR at h;split at h
 ·rename_i lf v f a l r';refine ⟨0,?_⟩;rw [← h];refine (zd4 0 lf v f a l r').trans ?_;simp only [R.get_ok,y6];unfold MW;cases lf with
  | true=>rfl
  | false=>rfl
 ·simp [R.get] at h
theorem Jq:DX PR B0 92 WD:=by
 refine D6 [(146,a8),(145,cR)] [] WD [[.int .u64]] Tryz.func92 zbe ⟨zgZ,zhM,trivial⟩ ?_;intro vs r hwf h;unfold WD at h;split at h
 ·rename_i lf v f a l r';refine ⟨0,?_⟩;rw [← h];refine (zd3 0 lf v f a l r').trans ?_;unfold IY;cases MW ⟨lf,v,f,a,l,r'⟩ with
  | false=>rfl
  | true=>cases lf <;> rfl
 ·simp [R.get] at h
theorem zhN:DX PR B0 100 cS:=by
 refine D6 [(99,SA)] [] cS [[.z]] Tryz.func100 zbh ⟨sO,trivial⟩ ?_;intro vs r hwf h;unfold cS at h;split at h
 ·rename_i a w x;cases hc:(decide (0≤a)&&(decide (a < 64)&&(decide (1≤w)&&decide (w≤64 - a)))) with
  | false=>rw [hc] at h; simp [R.get] at h
  | true=>
   rw [hc,R.get_br,DI,R.get_ok] at h;refine ⟨0,?_⟩;rw [← h];refine (zd6 0 a w x).trans ?_;rw [hc];rfl
 ·simp [R.get] at h
theorem Z7:DX PR B0 55 MI:=by
 refine D6 [(99,SA),(98,bA),(92,WD),(100,cS)] [] MI [[.bool,.z,.z,.z,.z,.z],[.bool]] Tryz.func55 zbg ⟨sO,zg0,Jq,zhN,trivial⟩ ?_;intro vs r hwf h;unfold MI at h;split at h
 ·rename_i w;refine ⟨0,?_⟩;rw [← h];refine (zd5 0 w).trans ?_;rw [R.get_ok];unfold DL GC XQ;cases (IF w 63 1==0) with
  | true=>
   simp only [BJ];cases hw:(w==0) with
   | true=>rfl
   | false=>
    simp only [A9,A7,BC];have e:(IY ⟨false,0,FL (IF w 32 4),OC w,FL (IF w 40 8),FL (IF w 48 8)⟩ != w)=!(IY ⟨false,0,FL (IF w 32 4),OC w,FL (IF w 40 8),FL (IF w 48 8)⟩==w):=rfl;rw [e];cases (IY ⟨false,0,FL (IF w 32 4),OC w,FL (IF w 40 8),FL (IF w 48 8)⟩==w) <;> rfl
  | false=>
   simp only [A9];cases hw:(w==0) with
   | true=>rfl
   | false=>
    simp only [A9,A7,BC];have e:(IY ⟨true,OC w,0,0,0,0⟩ != w)=!(IY ⟨true,OC w,0,0,0,0⟩==w):=rfl;rw [e];cases (IY ⟨true,OC w,0,0,0,0⟩==w) <;> rfl
 ·simp [R.get] at h
open Go Go.Proofs
def H4 (N:Nat):Env:=D5 [(55,MI)] [(5,⟨[0,1,4,5,23,24,25],[22],[]⟩),(17,⟨[4,85,86,87],[22],[]⟩)] 94 N
abbrev OK (l0:LI) (x1:Int) (b4:Bool) (n5:Nat) (l23:LI) (x24 x25:Int) (lo22:LI):St:=⟨[(0,(.list false [.int .u64] l0)),(1,(.i x1)),(4,(.bool b4)),(5,(.row 22 0 n5)),(23,(.list false [.int .u64] l23)),(24,(.i x24)),(25,(.i x25))],[(22,(some (.row true 3 false [.z] lo22)))]⟩
abbrev V0 (b4:Bool) (n85:Nat) (x86 x87:Int) (lo22:LI):St:=⟨[(4,(.bool b4)),(85,(.row 22 1 n85)),(86,(.i x86)),(87,(.i x87))],[(22,(some (.row true 3 false [.z] lo22)))]⟩
theorem zeH (N:Nat) (l:LI) (a1:Int):DZ (H4 N) LV [.tmp 4] [[.bool]] [.list false [.int .u64] l,.i a1]=(cond (decide (ic (AF l) < 1)) (some ((.bool false),[])) (cond (decide (ic (AF l) > 31)) (some ((.bool false),[])) (cond (BS 0 (TI.size (Env.tyd (H4 N) 3))&&(BS 3 1000000&&decide (0≤ic (AF l)))&&(decide (ic (AF l)=ic (AF l))&&decide (ic (AF l)*ic (TI.bytes (Env.tyd (H4 N) 3))≤ic EE))) (DY (H4 N) (DK LV [1,1,1,0,1,0,0]) ⟨[0,1,4,5,23,24,25],[22],[]⟩ N (OK l a1 false (AE (ic (AF l))) l (ic (AF l)) 0 (BN (AE (ic (AF l))) (IV.int 0))) (DQ 0 (DS (H4 N) (DK LV [1,1,1,1]) (DT (H4 N) none [.tmp 4] [[.bool]])))) none))):=by kernel_rfl
theorem Mm (N:Nat) (l0:LI) (x1:Int) (b4:Bool) (n5:Nat) (l23:LI) (x24 x25:Int) (lo22:LI) (again:St→DO) (k:Out→St→DO):EZ (H4 N) (DK LV [1,1,1,0,1,0,0]) (OK l0 x1 b4 n5 l23 x24 x25 lo22) (EN again ⟨[0,1,4,5,23,24,25],[22],[]⟩ k)=(cond (decide (x25 < x24)) (cond (decide (0≤x25)&&decide (x25 < ic (AF l23))) (cond (!GC (IV.toInt (AH l23 (AE x25) default))) (k .ret (OK l0 x1 false n5 l23 x24 x25 lo22)) (cond (Nd.lf (DL (IV.toInt (AH l23 (AE x25) default)))) (again (OK l0 x1 b4 n5 l23 x24 (AA AB (x25+1)) lo22)) (cond (decide (Nd.f (DL (IV.toInt (AH l23 (AE x25) default)))≥x1)) (k .ret (OK l0 x1 false n5 l23 x24 x25 lo22)) (cond (Nd.l (DL (IV.toInt (AH l23 (AE x25) default)))==Nd.r (DL (IV.toInt (AH l23 (AE x25) default)))) (k .ret (OK l0 x1 false n5 l23 x24 x25 lo22)) (cond (decide (min (Nd.l (DL (IV.toInt (AH l23 (AE x25) default)))) (Nd.r (DL (IV.toInt (AH l23 (AE x25) default))))≤x25)) (k .ret (OK l0 x1 false n5 l23 x24 x25 lo22)) (cond (decide (max (Nd.l (DL (IV.toInt (AH l23 (AE x25) default)))) (Nd.r (DL (IV.toInt (AH l23 (AE x25) default))))≥ic (AF l0))) (k .ret (OK l0 x1 false n5 l23 x24 x25 lo22)) (cond (decide (0≤Nd.l (DL (IV.toInt (AH l23 (AE x25) default))))&&decide (Nd.l (DL (IV.toInt (AH l23 (AE x25) default))) < ic (n5 - 0))) (cond (decide (0≤Nd.l (DL (IV.toInt (AH l23 (AE x25) default))))&&decide (Nd.l (DL (IV.toInt (AH l23 (AE x25) default))) < ic (n5 - 0))) (cond (decide (0≤Nd.r (DL (IV.toInt (AH l23 (AE x25) default))))&&decide (Nd.r (DL (IV.toInt (AH l23 (AE x25) default))) < ic (n5 - 0))) (cond (decide (0≤Nd.r (DL (IV.toInt (AH l23 (AE x25) default))))&&decide (Nd.r (DL (IV.toInt (AH l23 (AE x25) default))) < ic (n5 - 0))) (again (OK l0 x1 b4 n5 l23 x24 (AA AB (x25+1)) (List.set (List.set lo22 (0+AE (Nd.l (DL (IV.toInt (AH l23 (AE x25) default))))) (OB false [Kd.int AB] (AH lo22 (0+AE (Nd.l (DL (IV.toInt (AH l23 (AE x25) default))))) default) 0 [IV.int (AA AB (IV.toInt (AH lo22 (0+AE (Nd.l (DL (IV.toInt (AH l23 (AE x25) default))))) default)+1))])) (0+AE (Nd.r (DL (IV.toInt (AH l23 (AE x25) default))))) (OB false [Kd.int AB] (AH (List.set lo22 (0+AE (Nd.l (DL (IV.toInt (AH l23 (AE x25) default))))) (OB false [Kd.int AB] (AH lo22 (0+AE (Nd.l (DL (IV.toInt (AH l23 (AE x25) default))))) default) 0 [IV.int (AA AB (IV.toInt (AH lo22 (0+AE (Nd.l (DL (IV.toInt (AH l23 (AE x25) default))))) default)+1))])) (0+AE (Nd.r (DL (IV.toInt (AH l23 (AE x25) default))))) default) 0 [IV.int (AA AB (IV.toInt (AH (List.set lo22 (0+AE (Nd.l (DL (IV.toInt (AH l23 (AE x25) default))))) (OB false [Kd.int AB] (AH lo22 (0+AE (Nd.l (DL (IV.toInt (AH l23 (AE x25) default))))) default) 0 [IV.int (AA AB (IV.toInt (AH lo22 (0+AE (Nd.l (DL (IV.toInt (AH l23 (AE x25) default))))) default)+1))])) (0+AE (Nd.r (DL (IV.toInt (AH l23 (AE x25) default))))) default)+1))])))) none) none) none) none))))))) none) (k (.exit 0) (OK l0 x1 b4 n5 l23 x24 x25 lo22))):=by kernel_rfl
theorem Yr (N:Nat) (l0:LI) (x1:Int) (b4:Bool) (n5:Nat) (l23:LI) (x24 x25:Int) (lo22:LI):(DQ 0 (DS (H4 N) (DK LV [1,1,1,1]) (DT (H4 N) none [.tmp 4] [[.bool]]))) (.exit 0) (OK l0 x1 b4 n5 l23 x24 x25 lo22)=(cond (decide (0≤1)&&decide (1≤ic (n5 - 0))) (DY (H4 N) (DK LV [1,1,1,1,0,1,0,0]) ⟨[4,85,86,87],[22],[]⟩ N (V0 b4 (0+(n5 - 0)) (ic (0+(n5 - 0) - 1)) 0 lo22) (DQ 2 (DS (H4 N) (DK LV [1,1,1,1,1]) (DT (H4 N) none [.tmp 4] [[.bool]])))) none):=by kernel_rfl
theorem Ys (N:Nat) (l0:LI) (x1:Int) (b4:Bool) (n5:Nat) (l23:LI) (x24 x25:Int) (lo22:LI):(DQ 0 (DS (H4 N) (DK LV [1,1,1,1]) (DT (H4 N) none [.tmp 4] [[.bool]]))) .ret (OK l0 x1 b4 n5 l23 x24 x25 lo22)=(some ((.bool b4),[])):=by kernel_rfl
theorem Mn (N:Nat) (b4:Bool) (n85:Nat) (x86 x87:Int) (lo22:LI) (again:St→DO) (k:Out→St→DO):EZ (H4 N) (DK LV [1,1,1,1,0,1,0,0]) (V0 b4 n85 x86 x87 lo22) (EN again ⟨[4,85,86,87],[22],[]⟩ k)=(cond (decide (x87 < x86)) (cond (decide (0≤x87)&&decide (x87 < ic (n85 - 1))) (cond (IV.toInt (AH lo22 (1+AE x87) default) != 1) (k .ret (V0 false n85 x86 x87 lo22)) (again (V0 b4 n85 x86 (AA AB (x87+1)) lo22))) none) (k (.exit 2) (V0 b4 n85 x86 x87 lo22))):=by kernel_rfl
theorem Yt (N:Nat) (b4:Bool) (n85:Nat) (x86 x87:Int) (lo22:LI):(DQ 2 (DS (H4 N) (DK LV [1,1,1,1,1]) (DT (H4 N) none [.tmp 4] [[.bool]]))) (.exit 2) (V0 b4 n85 x86 x87 lo22)=(some ((.bool true),[])):=by kernel_rfl
theorem Yu (N:Nat) (b4:Bool) (n85:Nat) (x86 x87:Int) (lo22:LI):(DQ 2 (DS (H4 N) (DK LV [1,1,1,1,1]) (DT (H4 N) none [.tmp 4] [[.bool]]))) .ret (V0 b4 n85 x86 x87 lo22)=(some ((.bool b4),[])):=by kernel_rfl
def Qx (N:Nat):Env:=D5 [(96,WP)] [] 22 N
theorem zd0 (N:Nat) (k:Int) (l:LI) (d c b0 b1 b2:Int) (ts:LI):DZ (Qx N) xL [.tmp 3] [[.bool]] [.agg [.i k,.list false [.int .u64] l],.bor [.i d,.i c,.i b0,.i b1,.i b2,.list true [.z,.list false [.int .u64]] ts]]=(cond (decide (k < 0)) (some ((.bool true),[[.i d,.i c,.i b0,.i b1,.i b2,.list true [.z,.list false [.int .u64]] ts]])) (cond (decide (k≥c)) (some ((.bool true),[[.i d,.i c,.i b0,.i b1,.i b2,.list true [.z,.list false [.int .u64]] ts]])) (some ((.bool (!GV l d)),[[.i d,.i c,.i b0,.i b1,.i b2,.list true [.z,.list false [.int .u64]] ts]])))):=by kernel_rfl
def ON (N:Nat):Env:=D5 [(95,WC)] [(2,⟨[0,1,4,7,8],[900000],[]⟩)] 19 N
abbrev VW (l0:LI) (x4 x7 x8 u01 u02 u03 u04 u05:Int) (u00:LI):St:=⟨[(0,(.list true [.z,.list false [.int .u64]] l0)),(1,(.clo 95 [.ptr 900000 0 0])),(4,(.i x4)),(7,(.i x7)),(8,(.i x8))],[(900000,(some (.box [.i u01,.i u02,.i u03,.i u04,.i u05,.list true [.z,.list false [.int .u64]] u00])))]⟩
theorem zer (N:Nat) (l:LI) (d c b0 b1 b2:Int) (ts:LI):DZ (ON N) SM [.tmp 4] [[.z]] [.list true [.z,.list false [.int .u64]] l,.clo 95 [.bor [.i d,.i c,.i b0,.i b1,.i b2,.list true [.z,.list false [.int .u64]] ts]]]=(DY (ON N) (DK SM [1,0,1,0,0]) ⟨[0,1,4,7,8],[900000],[]⟩ N (VW l 0 (ic (AF l)) 0 d c b0 b1 b2 ts) (DQ 0 (DS (ON N) (DK SM [1,1]) (DT (ON N) (some [.i d,.i c,.i b0,.i b1,.i b2,.list true [.z,.list false [.int .u64]] ts]) [.tmp 4] [[.z]])))):=by kernel_rfl
theorem Mh (N:Nat) (l0:LI) (x4 x7 x8 u01 u02 u03 u04 u05:Int) (u00:LI) (again:St→DO) (k:Out→St→DO):EZ (ON N) (DK SM [1,0,1,0,0]) (VW l0 x4 x7 x8 u01 u02 u03 u04 u05 u00) (EN again ⟨[0,1,4,7,8],[900000],[]⟩ k)=(cond (decide (x8 < x7)) (cond (decide (0≤x8)&&decide (x8 < ic (AF l0))) (cond (!HM u01 u02 (IV.agg [IV.int (IV.toInt (IV.cell (AH l0 (AE x8) default) 0)),IV.list (IV.toList (IV.cell (AH l0 (AE x8) default) 1))])) (k .ret (VW l0 x8 x7 x8 u01 u02 u03 u04 u05 u00)) (again (VW l0 x4 x7 (AA AB (x8+1)) u01 u02 u03 u04 u05 u00))) none) (k (.exit 0) (VW l0 x4 x7 x8 u01 u02 u03 u04 u05 u00))):=by kernel_rfl
theorem Yh (N:Nat) (d c b0 b1 b2:Int) (ts l0:LI) (x4 x7 x8 u01 u02 u03 u04 u05:Int) (u00:LI):(DQ 0 (DS (ON N) (DK SM [1,1]) (DT (ON N) (some [.i d,.i c,.i b0,.i b1,.i b2,.list true [.z,.list false [.int .u64]] ts]) [.tmp 4] [[.z]]))) (.exit 0) (VW l0 x4 x7 x8 u01 u02 u03 u04 u05 u00)=(some ((.i (-1)),[[.i u01,.i u02,.i u03,.i u04,.i u05,.list true [.z,.list false [.int .u64]] u00]])):=by kernel_rfl
theorem Yi (N:Nat) (d c b0 b1 b2:Int) (ts l0:LI) (x4 x7 x8 u01 u02 u03 u04 u05:Int) (u00:LI):(DQ 0 (DS (ON N) (DK SM [1,1]) (DT (ON N) (some [.i d,.i c,.i b0,.i b1,.i b2,.list true [.z,.list false [.int .u64]] ts]) [.tmp 4] [[.z]]))) .ret (VW l0 x4 x7 x8 u01 u02 u03 u04 u05 u00)=(some ((.i x4),[[.i u01,.i u02,.i u03,.i u04,.i u05,.list true [.z,.list false [.int .u64]] u00]])):=by kernel_rfl
def Ro (N:Nat):Env:=D5 [(147,dE)] [] 9 N
theorem zeq (N:Nat) (l:LI) (d c b0 b1 b2:Int) (ts:LI):DZ (Ro N) yA [.tmp 4] [[.bool]] [.list true [.z,.list false [.int .u64]] l,.clo 95 [.bor [.i d,.i c,.i b0,.i b1,.i b2,.list true [.z,.list false [.int .u64]] ts]]]=(some ((.bool (decide (W8 d c l 0≥0))),[[.i d,.i c,.i b0,.i b1,.i b2,.list true [.z,.list false [.int .u64]] ts]])):=by kernel_rfl
def NT (N:Nat):Env:=D5 [(93,R9),(95,WC),(94,dD)] [(4,⟨[1,2,30,31],[1,53005],[]⟩)] 54 N
abbrev K1 (b2:Bool) (u01 u02 u03 x31 u04 u05 u06 u07 u08:Int) (u00:LI):St:=⟨[(1,(.ptr 1 0 0)),(2,(.bool b2)),(30,(.agg [.i u01,.i u02,.i u03])),(31,(.i x31))],[(1,(some (.box [.i u04,.i u05,.i u06,.i u07,.i u08,.list true [.z,.list false [.int .u64]] u00]))),(53005,none)]⟩
theorem zdZ (N:Nat) (u04 u03 u00 u01 u02:Int) (u05:LI):DZ (NT N) Q3 [.tmp 2] [[.bool]] [.agg [.i u04,.i u03,.i u00,.i u01,.i u02,.list true [.z,.list false [.int .u64]] u05]]=(cond (decide (u04 < 1)) (some ((.bool false),[])) (cond (decide (u04 > 4)) (some ((.bool false),[])) (cond (decide (u03 < 1)) (some ((.bool false),[])) (cond (decide (u03 > 3)) (some ((.bool false),[])) (cond (decide (ic (AF u05) > 8)) (some ((.bool false),[])) (DY (NT N) (DK Q3 [1,1,0,1,0,0]) ⟨[1,2,30,31],[1,53005],[]⟩ N (K1 false u00 u01 u02 0 u04 u03 u00 u01 u02 u05) (DQ 0 (DS (NT N) (DK Q3 [1,1,1]) (DT (NT N) none [.tmp 2] [[.bool]]))))))))):=by kernel_rfl
theorem Lz (N:Nat) (b2:Bool) (u01 u02 u03 x31 u04 u05 u06 u07 u08:Int) (u00:LI) (again:St→DO) (k:Out→St→DO):EZ (NT N) (DK Q3 [1,1,0,1,0,0]) (K1 b2 u01 u02 u03 x31 u04 u05 u06 u07 u08 u00) (EN again ⟨[1,2,30,31],[1,53005],[]⟩ k)=(cond (decide (x31 < 3)) (cond (decide (x31=ic 0)) (cond (!E2 u01) (k .ret (K1 false u01 u02 u03 x31 u04 u05 u06 u07 u08 u00)) (cond (decide (x31≥u05)) (cond (u01 != 0) (k .ret (K1 false u01 u02 u03 x31 u04 u05 u06 u07 u08 u00)) (again (K1 b2 u01 u02 u03 (AA AB (x31+1)) u04 u05 u06 u07 u08 u00))) (again (K1 b2 u01 u02 u03 (AA AB (x31+1)) u04 u05 u06 u07 u08 u00)))) (cond (decide (x31=ic 1)) (cond (!E2 u02) (k .ret (K1 false u01 u02 u03 x31 u04 u05 u06 u07 u08 u00)) (cond (decide (x31≥u05)) (cond (u02 != 0) (k .ret (K1 false u01 u02 u03 x31 u04 u05 u06 u07 u08 u00)) (again (K1 b2 u01 u02 u03 (AA AB (x31+1)) u04 u05 u06 u07 u08 u00))) (again (K1 b2 u01 u02 u03 (AA AB (x31+1)) u04 u05 u06 u07 u08 u00)))) (cond (decide (x31=ic 2)) (cond (!E2 u03) (k .ret (K1 false u01 u02 u03 x31 u04 u05 u06 u07 u08 u00)) (cond (decide (x31≥u05)) (cond (u03 != 0) (k .ret (K1 false u01 u02 u03 x31 u04 u05 u06 u07 u08 u00)) (again (K1 b2 u01 u02 u03 (AA AB (x31+1)) u04 u05 u06 u07 u08 u00))) (again (K1 b2 u01 u02 u03 (AA AB (x31+1)) u04 u05 u06 u07 u08 u00)))) none))) (k (.exit 0) (K1 b2 u01 u02 u03 x31 u04 u05 u06 u07 u08 u00))):=by kernel_rfl
theorem Xw (N:Nat) (b2:Bool) (u01 u02 u03 x31 u04 u05 u06 u07 u08:Int) (u00:LI):(DQ 0 (DS (NT N) (DK Q3 [1,1,1]) (DT (NT N) none [.tmp 2] [[.bool]]))) (.exit 0) (K1 b2 u01 u02 u03 x31 u04 u05 u06 u07 u08 u00)=(some ((.bool (!!List.all u00 (HM u04 u05))),[])):=by kernel_rfl
theorem Xx (N:Nat) (b2:Bool) (u01 u02 u03 x31 u04 u05 u06 u07 u08:Int) (u00:LI):(DQ 0 (DS (NT N) (DK Q3 [1,1,1]) (DT (NT N) none [.tmp 2] [[.bool]]))) .ret (K1 b2 u01 u02 u03 x31 u04 u05 u06 u07 u08 u00)=(some ((.bool b2),[])):=by kernel_rfl
open Go Go.Proofs
theorem Dk {l:LI} {i:Nat} {w:IV} (h:l[i]?=some w) (j:Nat):IW (l.take (i+1)) j=IW (l.take i) j+K8 (DL w.toInt) j:=by
 unfold IW;rw [List.take_add_one,h];simp
theorem zcP (x:Nd) (j:Nat):K8 x j≤2:=by
 unfold K8;cases x.lf
 ·simp only [A9];split <;> split <;> omega
 ·simp only [BJ];omega
theorem Di:∀ (l:LI) (j:Nat),IW l j≤2*l.length
 | [],_=>AZ _
 | w :: l,j=>by
  have:=Di l j
  have:=zcP (DL w.toInt) j
  unfold IW at *;simp only [A0,va3,AM];omega
def NM (l:LI) (i:Nat):LI:=(vau l.length).map fun j=>IV.int (IW (l.take i) j:Nat)
theorem aS (l:LI) (i:Nat):(NM l i).length=l.length:=by simp [NM]
theorem YM (l:LI) (i:Nat) {j:Nat} (h:j < l.length):(NM l i)[j]?=some (IV.int (IW (l.take i) j:Nat)):=by
 unfold NM;rw [B9,List.getElem?_range h];rfl
theorem Sg (l:LI):NM l 0=BN l.length (IV.int 0):=by
 apply List.ext_getElem?;intro j;by_cases h:j < l.length
 ·rw [YM l 0 h,List.getElem?_replicate,BP h];simp [IW]
 ·rw [B1 (by rw [aS]; omega),B1 (by simp; omega)]
theorem Sf {l:LI} {i:Nat} {w:IV} (h:l[i]?=some w) (hl:(DL w.toInt).lf=true):NM l (i+1)=NM l i:=by
 unfold NM;congr 1
 funext j
 rw [Dk h];unfold K8;rw [hl];rfl
theorem Se {l:LI} {i:Nat} {w:IV} (h:l[i]?=some w) (hl:(DL w.toInt).lf=false) (hn:l.length≤31) {a b:Nat} (ha:(DL w.toInt).l=(a:Int)) (hb:(DL w.toInt).r=(b:Int)) (hab:a≠b) (al:a < l.length) (bl:b < l.length) :
  ((NM l i).set a (IV.int (AA AB (((NM l i).getD a default).toInt+1)))).set b (IV.int (AA AB ((((NM l i).set a (IV.int (AA AB (((NM l i).getD a default).toInt+1)))).getD b default).toInt+1)))=NM l (i+1):=by
 have hil:i < l.length:=(BR.1 h).1;have hsm:∀ j,IW (l.take i) j≤62:=fun j=>by
  have:=Di (l.take i) j
  rw [BB] at this;omega
 have ga:((NM l i).getD a default).toInt=(IW (l.take i) a:Nat):=by
  rw [BV,YM l i al];rfl
 have gb:(((NM l i).set a (IV.int (AA AB (((NM l i).getD a default).toInt+1)))).getD b default).toInt=(IW (l.take i) b:Nat):=by
  rw [BV,vbb hab,YM l i bl];rfl
 rw [gb,ga,EH (by omega) (by have:=hsm a; omega),EH (by omega) (by have:=hsm b; omega)];apply List.ext_getElem?;intro j;by_cases hj:j < l.length
 ·rw [YM l (i+1) hj,Dk h];have e:K8 (DL w.toInt) j=(if a=j then 1 else 0)+(if b=j then 1 else 0):=by
   unfold K8;rw [hl,ha,hb,A9];have e1:((a:Int)=(j:Int))↔a=j:=by omega
   have e2:((b:Int)=(j:Int))↔b=j:=by omega
   simp only [e1,e2]
  rw [e];by_cases h1:b=j
  ·subst h1;rw [List.getElem?_set_self (by rw [vaG,aS]; exact bl),BD hab,BP rfl];congr 2
  ·rw [vbb h1];by_cases h2:a=j
   ·subst h2;rw [List.getElem?_set_self (by rw [aS]; exact al),BP rfl,BD h1];congr 2
   ·rw [vbb h2,YM l i hj,BD h1,BD h2];congr 2
 ·rw [B1 (by rw [vaG,vaG,aS]; omega),B1 (by rw [aS]; omega)]
abbrev mF (l:LI) (dim:Int) (b:Bool) (i:Int) (nm:LI):St:=
 ⟨[(0,(.list false [(.int .u64)] l)),(1,(.int .i64 dim)),(4,(.bool b)),(5,(.row 22 0 l.length)),(23,(.list false [(.int .u64)] l)),(24,(.int .i64 (ic l.length))),(25,(.int .i64 i))],[(22,(some (.row true 3 false [.z] nm)))]⟩
theorem tU (N:Nat) (l:LI) (dim:Int) (hl:l.length≤31) (K:Out→St→DO) (hK:∀ i nm,K .ret (mF l dim false i nm)=some (.bool false,[])):∀ (d i n:Nat),i+d=l.length→d < n →
  DY (H4 N) (DK LV [1,1,1,0,1,0,0]) ⟨[0,1,4,5,23,24,25],[22],[]⟩ n (mF l dim false (i:Int) (NM l i)) K =
   cond (KF dim (ic l.length) i (l.drop i)) (K (.exit 0) (mF l dim false (ic l.length) (NM l l.length))) (some (.bool false,[]))
 | d,i,0,_,h=>absurd h (by omega)
 | 0,i,n+1,hd,_=>by
  have hi:i=l.length:=by omega
  subst hi;rw [D4,Mm];rw [AL (show ¬ ((l.length:Nat):Int) < ic l.length by simp only [ic]; omega),DJ,vaD];rfl
 | d+1,i,n+1,hd,hn=>by
  have hil:i < l.length:=by omega
  have hw:l[i]?=some l[i]:=A8 hil;rw [D4,Mm,BE hil];have hg:l.getD (AE (i:Int)) default=l[i]:=by
   rw [BF,BV,hw];rfl
  rw [hg];generalize l[i]=w at hw ⊢;have ei:AA AB ((i:Int)+1)=((i+1:Nat):Int):=by
   rw [EH (by omega) (by omega)];omega
  rw [ei,AD (show (i:Int) < ic l.length by simp only [ic]; omega),DI,AD (show (0:Int)≤(i:Int) by omega),B4,DI];unfold KF;cases hb:GC w.toInt with
  | false=>
   simp only [A7,DI,BL,DJ];exact hK (i:Int) (NM l i)
  | true=>
   simp only [A3,DJ,BC];unfold N4;cases hlf:(DL w.toInt).lf with
   | true=>
    simp only [DI,BC];rw [← Sf hw hlf];exact tU N l dim hl K hK d (i+1) n (by omega) (by omega)
   | false=>
    simp only [DJ];cases h1:decide ((DL w.toInt).f≥dim) with
    | true=>
     simp only [DI,A3,BL,DJ];exact hK (i:Int) (NM l i)
    | false=>
    cases h2:((DL w.toInt).l==(DL w.toInt).r) with
    | true=>
     simp only [DI,DJ,A3,A7,BL,vaf];exact hK (i:Int) (NM l i)
    | false=>
    cases h3:decide (min (DL w.toInt).l (DL w.toInt).r≤(i:Int)) with
    | true=>
     simp only [DI,DJ,A3,A7,BL,vaf];exact hK (i:Int) (NM l i)
    | false=>
    cases h4:decide (max (DL w.toInt).l (DL w.toInt).r≥ic l.length) with
    | true=>
     simp only [DI,DJ,A3,A7,BL,vaf];exact hK (i:Int) (NM l i)
    | false=>
     have g2:(DL w.toInt).l≠(DL w.toInt).r:=A4.1 h2;have g3:=BH h3;have g4:=BH h4;simp only [ic] at g4;obtain ⟨a,ha⟩:∃ a:Nat,(DL w.toInt).l=(a:Int):=⟨(DL w.toInt).l.toNat,by omega⟩;obtain ⟨b,hb'⟩:∃ b:Nat,(DL w.toInt).r=(b:Int):=⟨(DL w.toInt).r.toNat,by omega⟩;have hab:a≠b:=fun e=>g2 (by rw [ha,hb',e])
     have al:a < l.length:=by omega
     have bl:b < l.length:=by omega
     have hN:=Se hw hlf hl ha hb' hab al bl;rw [ha,hb'];rw [AD (show (0:Int)≤(a:Int) by omega),AD (show (0:Int)≤(b:Int) by omega),AD (show (a:Int) < ic (l.length - 0) by simp only [ic]; omega),AD (show (b:Int) < ic (l.length - 0) by simp only [ic]; omega)];simp only [DI,DJ,A7,B4,BC,BF,BI];refine Eq.trans ?_ (tU N l dim hl K hK d (i+1) n (by omega) (by omega));rw [← hN];rfl
abbrev zjE (l:LI) (b:Bool) (j:Int):St:=
 ⟨[(4,(.bool b)),(85,(.row 22 1 (0+(l.length - 0)))),(86,(.int .i64 (ic (0+(l.length - 0) - 1)))),(87,(.int .i64 j))],[(22,(some (.row true 3 false [.z] (NM l l.length))))]⟩
theorem Es (N:Nat) (l:LI) (hl:l.length≤31):∀ (d j n:Nat),j+d=l.length - 1→d < n →
  DY (H4 N) (DK LV [1,1,1,1,0,1,0,0]) ⟨[4,85,86,87],[22],[]⟩ n (zjE l false (j:Int)) (DQ 2 (DS (H4 N) (DK LV [1,1,1,1,1]) (DT (H4 N) none [(CF 4)] [[.bool]]))) =
   some (.bool ((List.range' j d).all fun j=>IW l (j+1)==1),[])
 | d,j,0,_,h=>absurd h (by omega)
 | 0,j,n+1,hd,_=>by
  rw [D4,Mn,AL (show ¬ (j:Int) < ic (0+(l.length - 0) - 1) by simp only [ic]; omega),DJ];exact Yt N false _ _ _ _
 | d+1,j,n+1,hd,hn=>by
  have ej:AA AB ((j:Int)+1)=((j+1:Nat):Int):=by
   rw [EH (by omega) (by omega)];omega
  rw [D4,Mn,ej,AD (show (j:Int) < ic (0+(l.length - 0) - 1) by simp only [ic]; omega),DI,AD (show (0:Int)≤(j:Int) by omega),B4,DI];have hg:((NM l l.length).getD (1+AE (j:Int)) default).toInt=(IW l (j+1):Nat):=by
   rw [BF,Nat.add_comm 1 j,BV,YM l l.length (by omega),BO];rfl
  rw [hg,List.range'_succ,vaA];have e:(((IW l (j+1):Nat):Int) != 1)=!(IW l (j+1)==1):=by
   show (!(((IW l (j+1):Nat):Int)==1))=_;congr 1;rw [va2,B8,B8];omega
  rw [e];cases (IW l (j+1)==1) with
  | false=>
   rw [A7,DI];exact Yu N false _ _ _ _
  | true=>
   rw [A3,DJ,BC];exact Es N l hl d (j+1) n (by omega) (by omega)
theorem zi3 (N:Nat) (l:LI) (dim:Int) (hl:l.length≤31) (h1:1≤l.length) (hN:40≤N) (i:Int) :
  (DQ 0 (DS (H4 N) (DK LV [1,1,1,1]) (DT (H4 N) none [(CF 4)] [[.bool]]))) (.exit 0) (mF l dim false i (NM l l.length))=some (.bool (ZR l),[]):=by
 refine (Yr N l dim false l.length l (ic l.length) i (NM l l.length)).trans ?_;rw [AD (show (0:Nat)≤1 by omega),AD (show (1:Int)≤ic (l.length - 0) by simp only [ic]; omega),B4,DI]
 have:=Es N l hl (l.length - 1) 0 N (by omega) (by omega)
 refine this.trans ?_;unfold ZR;rw [List.range_eq_range']
theorem Kh:DX PR B0 96 WP:=by
 refine D6 [(55,MI)] [(5,⟨[0,1,4,5,23,24,25],[22],[]⟩),(17,⟨[4,85,86,87],[22],[]⟩)] WP [[.bool]] Tryz.func96 zbP ⟨Z7,trivial⟩ ?_;intro vs r hwf h;unfold WP at h;split at h
 ·rename_i l dim;refine ⟨40,?_⟩;rw [R.get_ok] at h;rw [← h];refine (zeH 40 l dim).trans ?_;unfold GV;by_cases h1:1≤l.length
  ·by_cases h2:l.length≤31
   ·have eb:ic (TI.bytes (Env.tyd (H4 40) 3))=8:=rfl;rw [AL (show ¬ ic l.length < 1 by simp only [ic]; omega),AL (show ¬ ic l.length > 31 by simp only [ic]; omega),DJ,DJ,eb,
     AD (show (0:Int)≤ic l.length by simp only [ic]; omega),AD (show ic l.length=ic l.length from rfl),AD (show ic l.length*8≤ic EE by unfold EE; simp only [ic]; omega)]
    have e0:(BS 0 (TI.size (Env.tyd (H4 40) 3))&&(BS 3 1000000&&true)&&(true&&true))=true:=rfl;have e1:AE (ic l.length)=l.length:=by simp only [ic]; omega
    rw [e0,DI,e1,← Sg,C6 h1,C6 h2];refine (tU 40 l dim h2 _ (fun i nm=>?_) l.length 0 40 (by omega) (by omega)).trans ?_
    ·exact Ys 40 l dim false l.length l (ic l.length) i nm
    ·rw [BY,zi3 40 l dim h2 h1 (by omega)];cases KF dim (ic l.length) 0 l <;> rfl
   ·have e:B6 l.length 31=false:=by
     cases hb:B6 l.length 31 with
     | false=>rfl
     | true=>exact absurd (AN hb) h2
    rw [AL (show ¬ ic l.length < 1 by simp only [ic]; omega),AD (show ic l.length > 31 by simp only [ic]; omega),DJ,DI,e,vaf,BL]
  ·have e:B6 1 l.length=false:=by
    cases hb:B6 1 l.length with
    | false=>rfl
    | true=>exact absurd (AN hb) h1
   rw [AD (show ic l.length < 1 by simp only [ic]; omega),DI,e,BL,BL]
 ·simp [R.get] at h
theorem Jp:DX PR B0 95 WC:=by
 refine D6 [(96,WP)] [] WC [[.bool]] Tryz.func95 zbb ⟨Kh,trivial⟩ ?_;intro vs r hwf h;unfold WC at h;split at h
 ·rename_i k l d c b0 b1 b2 ts;refine ⟨0,?_⟩;rw [R.get_ok] at h;rw [← h];refine (zd0 0 k l d c b0 b1 b2 ts).trans ?_;have e:HM d c (.agg [.int k,.list l])=(!(decide (k < 0))&&(!(decide (k≥c))&&GV l d)):=rfl;rw [e];cases decide (k < 0) with
  | true=>rfl
  | false=>
   cases decide (k≥c) with
   | true=>rfl
   | false=>rfl
 ·simp [R.get] at h
abbrev zjz (l:LI) (d c b0 b1 b2:Int) (ts:LI) (r i:Int):St:=
 ⟨[(0,(.list true [.z,(.list false [(.int .u64)])] l)),(1,(.clo 95 [(.ptr 900000 0 0)])),(4,(.int .i64 r)),(7,(.int .i64 (ic l.length))),(8,(.int .i64 i))],[(900000,(some (.box [(.int .i64 d),(.int .i64 c),(.int .i64 b0),(.int .i64 b1),(.int .i64 b2),(.list true [.z,(.list false [(.int .u64)])] ts)])))]⟩
theorem zi0 (d c:Int) (t:IV):HM d c (.agg [.int (IV.toInt (IV.cell t 0)),.list (IV.toList (IV.cell t 1))])=HM d c t:=rfl
theorem Bi (N:Nat) (l:LI) (hl:l.length≤strMax) (d c b0 b1 b2:Int) (ts:LI):∀ (m i n:Nat),i+m=l.length→m < n →
  DY (ON N) (DK SM [1,0,1,0,0]) ⟨[0,1,4,7,8],[900000],[]⟩ n (zjz l d c b0 b1 b2 ts 0 (i:Int)) (DQ 0 (DS (ON N) (DK SM [1,1]) (DT (ON N) (some [(.int .i64 d),(.int .i64 c),(.int .i64 b0),(.int .i64 b1),(.int .i64 b2),(.list true [.z,(.list false [(.int .u64)])] ts)]) [(CF 4)] [[.z]]))) =
   some (.int .i64 (W8 d c (l.drop i) (i:Int)),[[(.int .i64 d),(.int .i64 c),(.int .i64 b0),(.int .i64 b1),(.int .i64 b2),(.list true MO ts)]])
 | m,i,0,_,h=>absurd h (by omega)
 | 0,i,n+1,hd,_=>by
  have hi:i=l.length:=by omega
  subst hi;rw [D4,Mh,AL (show ¬ ((l.length:Nat):Int) < ic l.length by simp only [ic]; omega),DJ,vaD];exact Yh N d c b0 b1 b2 ts l 0 (ic l.length) (l.length:Int) d c b0 b1 b2 ts
 | m+1,i,n+1,hd,hn=>by
  have hil:i < l.length:=by omega
  have m':strMax=140737488355327:=rfl;have ei:AA AB ((i:Int)+1)=((i+1:Nat):Int):=by
   rw [EH (by omega) (by omega)];omega
  have hg:l.getD (AE (i:Int)) default=l[i]:=by
   rw [BF,BV,A8 hil];rfl
  rw [D4,Mh,ei,hg,zi0,AD (show (i:Int) < ic l.length by simp only [ic]; omega),DI,AD (show (0:Int)≤(i:Int) by omega),B4,DI,BE hil,W8];cases HM d c l[i] with
  | true=>
   rw [A3,DJ,DI];exact Bi N l hl d c b0 b1 b2 ts m (i+1) n (by omega) (by omega)
  | false=>
   rw [A7,DI,DJ];exact Yi N d c b0 b1 b2 ts l (i:Int) (ic l.length) (i:Int) d c b0 b1 b2 ts
theorem zh2:DX PR B0 147 dE:=by
 refine D6 [(95,WC)] [(2,⟨[0,1,4,7,8],[900000],[]⟩)] dE [[.z]] Tryz.func147 zbz ⟨Jp,trivial⟩ ?_;intro vs r hwf h;unfold dE at h;split at h
 ·rename_i l d c b0 b1 b2 ts;refine ⟨l.length+1,?_⟩;rw [R.get_ok] at h;rw [← h];refine (zer (l.length+1) l d c b0 b1 b2 ts).trans ?_;have hl:l.length≤strMax:=by
   have hb:=hwf (by simp [LB])
   have:=hb.1
   simp only [QN,wfL] at this;exact this.1
  exact Bi (l.length+1) l hl d c b0 b1 b2 ts l.length 0 (l.length+1) (by omega) (by omega)
 ·simp [R.get] at h
theorem Bf (d c:Int):∀ (l:LI) (i:Nat),decide (W8 d c l (i:Int)≥0)=!(l.all (HM d c))
 | [],i=>rfl
 | t :: l,i=>by
  unfold W8;rw [vaA];cases HM d c t with
  | true=>
   rw [DI,BC];exact Bf d c l (i+1)
  | false=>
   rw [DJ,BL,AD (show (i:Int)≥0 by omega)];rfl
theorem zh1:DX PR B0 94 dD:=by
 refine D6 [(147,dE)] [] dD [[.bool]] Tryz.func94 zby ⟨zh2,trivial⟩ ?_;intro vs r hwf h;unfold dD at h;split at h
 ·rename_i l d c b0 b1 b2 ts;refine ⟨0,?_⟩;rw [R.get_ok] at h;rw [← h];refine (zeq 0 l d c b0 b1 b2 ts).trans ?_
  have:=Bf d c l 0
  rw [show ((0:Nat):Int)=0 from rfl] at this;rw [this]
 ·simp [R.get] at h
abbrev aI (d c b0 b1 b2:Int) (ts:LI) (b:Bool) (i:Int):St:=
 ⟨[(1,(.ptr 1 0 0)),(2,(.bool b)),(30,(.agg [(.int .i64 b0),(.int .i64 b1),(.int .i64 b2)])),(31,(.int .i64 i))],[(1,(some (.box [(.int .i64 d),(.int .i64 c),(.int .i64 b0),(.int .i64 b1),(.int .i64 b2),(.list true [.z,(.list false [(.int .u64)])] ts)]))),(53005,none)]⟩
theorem Th (c j b:Int) {α:Type _} (x y:α):cond (!E2 b) y (cond (decide (j≥c)) (cond (b != 0) y x) x)=cond (HV c j b) x y:=by
 unfold HV;have e:(b != 0)=!(b==0):=rfl;rw [e];cases E2 b <;> cases decide (j≥c) <;> cases (b==0) <;> rfl
theorem mX (N:Nat) (d c b0 b1 b2:Int) (ts:LI) (j:Nat) (b:Int) (h:(j=0∧b=b0)∨(j=1∧b=b1)∨(j=2∧b=b2)) (again:St→DO) (k:Out→St→DO) :
  EZ (NT N) (DK Q3 [1,1,0,1,0,0]) (aI d c b0 b1 b2 ts false (j:Int)) (EN again ⟨[1,2,30,31],[1,53005],[]⟩ k) =
   cond (HV c (j:Int) b) (again (aI d c b0 b1 b2 ts false ((j+1:Nat):Int))) (k .ret (aI d c b0 b1 b2 ts false (j:Int))):=by
 rw [Lz];have ej:AA AB ((j:Int)+1)=((j+1:Nat):Int):=by
  rw [EH (by omega) (by omega)];omega
 rw [ej,← Th,AD (show (j:Int) < 3 by omega),DI];rcases h with ⟨rfl,rfl⟩ | ⟨rfl,rfl⟩ | ⟨rfl,rfl⟩ <;> rfl
theorem Z6:DX PR B0 53 MH:=by
 refine D6 [(93,R9),(95,WC),(94,dD)] [(4,⟨[1,2,30,31],[1,53005],[]⟩)] MH [[.bool]] Tryz.func53 zba ⟨sN,Jp,zh1,trivial⟩ ?_;intro vs r hwf h;unfold MH at h;split at h
 ·rename_i d c b0 b1 b2 ts;refine ⟨6,?_⟩;rw [R.get_ok] at h;rw [← h];refine (zdZ 6 d c b0 b1 b2 ts).trans ?_;have run:DY (NT 6) (DK Q3 [1,1,0,1,0,0]) ⟨[1,2,30,31],[1,53005],[]⟩ 6 (aI d c b0 b1 b2 ts false 0) (DQ 0 (DS (NT 6) (DK Q3 [1,1,1]) (DT (NT 6) none [(CF 2)] [[.bool]]))) =
    some (.bool ((HV c 0 b0&&(HV c 1 b1&&HV c 2 b2))&&ts.all (HM d c)),[]):=by
   have e0:aI d c b0 b1 b2 ts false 0=aI d c b0 b1 b2 ts false ((0:Nat):Int):=rfl;have R2:=fun j=>Xx 6 false b0 b1 b2 j d c b0 b1 b2 ts
   have R1:=fun j=>Xw 6 false b0 b1 b2 j d c b0 b1 b2 ts
   rw [e0,D4,mX 6 d c b0 b1 b2 ts 0 b0 (by simp),R2];cases h0:HV c ((0:Nat):Int) b0 with
   | false=>rfl
   | true=>
    rw [DI,D4,mX 6 d c b0 b1 b2 ts 1 b1 (by simp),R2];cases h1:HV c ((1:Nat):Int) b1 with
    | false=>rfl
    | true=>
     rw [DI,D4,mX 6 d c b0 b1 b2 ts 2 b2 (by simp),R2];cases h2:HV c ((2:Nat):Int) b2 with
     | false=>rfl
     | true=>
      rw [DI,D4,Lz,AL (show ¬ ((2+1:Nat):Int) < 3 by omega),DJ,R1,Bool.not_not];rfl
  unfold EW;cases decide (d < 1) with
  | true=>rfl
  | false=>
  cases decide (d > 4) with
  | true=>rfl
  | false=>
  cases decide (c < 1) with
  | true=>rfl
  | false=>
  cases decide (c > 3) with
  | true=>rfl
  | false=>
   simp only [DJ,A7,BC];by_cases h8:ts.length≤8
   ·rw [AL (show ¬ ic ts.length > 8 by simp only [ic]; omega),DJ,C6 h8,BC];exact run
   ·have e:B6 ts.length 8=false:=by
     cases hb:B6 ts.length 8 with
     | false=>rfl
     | true=>exact absurd (AN hb) h8
    rw [AD (show ic ts.length > 8 by simp only [ic]; omega),DI,e,BL]
 ·simp [R.get] at h
open Go Go.Proofs
def Qm (N:Nat):Env:=D5 [(44,SE),(144,cE),(84,V9),(104,T4),(57,YO),(86,YQ)] [] 76 N
theorem zdK (N:Nat) (s:BA):DZ (Qm N) xA [.tmp 2,.tmp 3] [[.z],[.bool]] [.str s] =
 (cond (decide (AG (F9 s { data:=#[45] }) < 4294967281))
 (cond (decide (ic (AG (FQ (F9 s { data:=#[45] }) { data:=#[46] })) > 8))
 (some ((.tup [.i 0,.bool false]),[]))
 (cond (decide (0≤AA AB (8 - ic (AG (FQ (F9 s { data:=#[45] }) { data:=#[46] }))))&&decide (AG { data:=#[48] }*AE (AA AB (8 - ic (AG (FQ (F9 s { data:=#[45] }) { data:=#[46] }))))≤strMax))
 (cond (decide (AG (FQ (F9 s { data:=#[45] }) { data:=#[46] })+AG (H1 { data:=#[48] } (AE (AA AB (8 - ic (AG (FQ (F9 s { data:=#[45] }) { data:=#[46] }))))))≤strMax))
 (cond (!JC (cutL (F9 s { data:=#[45] }) { data:=#[46] }))
 (some ((.tup [.i 0,.bool false]),[]))
 (cond (!JC (FQ (F9 s { data:=#[45] }) { data:=#[46] }++H1 { data:=#[48] } (AE (AA AB (8 - ic (AG (FQ (F9 s { data:=#[45] }) { data:=#[46] })))))))
 (some ((.tup [.i 0,.bool false]),[]))
 (cond (decide (GO (cutL (F9 s { data:=#[45] }) { data:=#[46] }) > 36028797018963968))
 (some ((.tup [.i 0,.bool false]),[]))
 (cond (Int.tmod (GO (FQ (F9 s { data:=#[45] }) { data:=#[46] }++H1 { data:=#[48] } (AE (AA AB (8 - ic (AG (FQ (F9 s { data:=#[45] }) { data:=#[46] }))))))) 390625 != 0)
 (some ((.tup [.i 0,.bool false]),[]))
 (cond (N5 s { data:=#[45] })
 (cond (AW (DU (AA AB (AA AJ (0 - AA AJ (AA AJ (GO (cutL (F9 s { data:=#[45] }) { data:=#[46] })*2 ^ min (AE 8) (AR AJ))+AA AJ (Int.tdiv (GO (FQ (F9 s { data:=#[45] }) { data:=#[46] }++H1 { data:=#[48] } (AE (AA AB (8 - ic (AG (FQ (F9 s { data:=#[45] }) { data:=#[46] }))))))) 390625))))))==AW s)
 (some ((.tup [(.i (AA AB (AA AJ (0 - AA AJ (AA AJ (GO (cutL (F9 s { data:=#[45] }) { data:=#[46] })*2 ^ min (AE 8) (AR AJ))+AA AJ (Int.tdiv (GO (FQ (F9 s { data:=#[45] }) { data:=#[46] }++H1 { data:=#[48] } (AE (AA AB (8 - ic (AG (FQ (F9 s { data:=#[45] }) { data:=#[46] }))))))) 390625)))))),.bool true]),[]))
 (some ((.tup [.i 0,.bool false]),[])))
 (cond (AW (DU (AA AB (AA AJ (AA AJ (GO (cutL (F9 s { data:=#[45] }) { data:=#[46] })*2 ^ min (AE 8) (AR AJ))+AA AJ (Int.tdiv (GO (FQ (F9 s { data:=#[45] }) { data:=#[46] }++H1 { data:=#[48] } (AE (AA AB (8 - ic (AG (FQ (F9 s { data:=#[45] }) { data:=#[46] }))))))) 390625)))))==AW s)
 (some ((.tup [(.i (AA AB (AA AJ (AA AJ (GO (cutL (F9 s { data:=#[45] }) { data:=#[46] })*2 ^ min (AE 8) (AR AJ))+AA AJ (Int.tdiv (GO (FQ (F9 s { data:=#[45] }) { data:=#[46] }++H1 { data:=#[48] } (AE (AA AB (8 - ic (AG (FQ (F9 s { data:=#[45] }) { data:=#[46] }))))))) 390625))))),.bool true]),[]))
 (some ((.tup [.i 0,.bool false]),[]))))))))
 none)
 none))
 none):=by kernel_rfl
open Go Go.Proofs
theorem Jj:DX PR B0 84 V9:=by
 refine D6 [] [(3,⟨[0,1,2],[],[]⟩)] V9 [[.int .u64]] Tryz.func84 zaX trivial ?_;intro vs r hwf h;unfold V9 at h;split at h
 ·refine ⟨9,?_⟩;rw [← h];show DZ (Qo 9) xC [.tmp 0] [[.int .u64]] []=_
  kernel_rfl
 ·simp [R.get] at h
theorem zfU {s:BA} (h:JC s=true):0 < s.size:=by
 unfold JC at h;split at h
 ·rename_i v hv
  have:s.data.toList≠[]:=fun e=>by rw [e] at hv; cases hv
  rw [S8];exact List.length_pos_iff.2 this
 ·cases h
theorem zfT {s:BA} (h:JC s=true):(AH s.data.toList 0 0).toNat≠43:=by
 unfold JC at h;split at h
 ·rename_i v hv;revert hv;cases s.data.toList with
  | nil=>intro _; decide
  | cons c r=>
   intro hv he;have he:c.toNat=43:=he;unfold Lib.parseMag at hv;rw [BD (by simp),vaQ,BD (by omega)] at hv;cases hv
 ·cases h
theorem zhx:DX PR B0 144 cE:=by
 refine D6 [(189,iB)] [] cE [[.int .u64],[.bool]] Tryz.func144 zaW ⟨zh7,trivial⟩ ?_;intro vs r hwf h;unfold cE at h;split at h
 ·rename_i s;refine ⟨0,?_⟩;rw [← h];refine (zdL 0 s).trans ?_;simp only [R.get_ok];cases hp:JC s with
  | false=>simp only [DJ]
  | true=>
   have h1:(decide (0≤0)&&decide (0 < ic (AG s)))=true:=by
    have:=zfU hp
    simp [ic]; omega
   have h2:(ic (UInt8.toNat (AH (Array.toList (ByteArray.data s)) (AE 0) 0)) != 43)=true:=by
    have:=zfT hp
    rw [vR];simp only [ic,Int.toNat_zero];simp only [B3,BW];omega
   rw [h1,h2];simp only [DI]
 ·simp [R.get] at h
theorem uJ {n:Int} (h0:0≤n) (h1:n < 18446744073709551616):AA .u64 n=n:=by rw [vbi]; omega
theorem zjw {n:Int} (h0:n < 0) (h1 : -9223372036854775808≤n):AA .u64 (0 - AA .u64 n)=(n.natAbs:Int):=by rw [vbi,vbi]; omega
theorem zjx {n:Int} (h0:¬ n < 0) (h1:n≤9223372036854775807):AA .u64 n=(n.natAbs:Int):=by rw [vbi]; omega
theorem uU (u:Nat) (h:u < 18446744073709551616):AA .u64 (ic (CH (A5 (AR AJ) (u:Int) &&& A5 (AR AJ) 255)))=((u % 256:Nat):Int):=by
 have e:CH (A5 (AR AJ) (u:Int) &&& A5 (AR AJ) 255)=u % 256:=by
  have h1:(A5 (AR AJ) (u:Int)).toNat=u:=by
   show (A5 64 (u:Int)).toNat=u;rw [BitVec.toNat_ofInt];omega
  have h2:(A5 (AR AJ) 255).toNat=2 ^ 8 - 1:=by rfl
  rw [BitVec.toNat_and,h1,h2,Nat.and_two_pow_sub_one_eq_mod]
 rw [e];exact uJ (by simp [ic]; omega) (by simp [ic]; omega)
theorem Iz (u:Nat):va0 (u:Int) (2 ^ min (AE 8) (AR AJ))=((u / 256:Nat):Int):=by
 have e:(2:Int) ^ min (AE 8) (AR AJ)=((256:Nat):Int):=rfl;rw [e,Int.fdiv_eq_ediv_of_nonneg _ (by omega)];rfl
theorem Dh {r:Nat} (h:r < 256):AA .u64 ((r:Int)*390625)=((r*390625:Nat):Int):=by
 rw [uJ (by omega) (by omega)];omega
theorem p9 (u:Nat):E5 (u:Int)=⟨(BU u).toArray⟩:=rfl
theorem Vq:(vau 256).all (fun r=>B6 (BU (r*390625)).length 8)=true:=by kernel_rfl
theorem Vp {r:Nat} (h:r < 256):(BU (r*390625)).length≤8:=by
 have:=CR.1 Vq r (vaR.2 h)
 exact AN this
theorem zK (l:List UInt8):(⟨l.toArray⟩:BA).data.toList=l:=rfl
theorem d7 (s t:BA):(s++t).data.toList=s.data.toList++t.data.toList:=by simp
theorem zgR (l:List UInt8):(⟨l.toArray⟩:BA).size=l.length:=by rw [S8]
theorem Ge {u:Nat} (hu:u < 18446744073709551616) (sg:BA) (hsg:sg.size≤1) (K:BA) (hK:K=sg++⟨(IL u).toArray⟩) :
  (cond (decide (AG sg+AG (E5 ((u / 256:Nat):Int))≤strMax))
   (cond (((u % 256:Nat):Int)==0)
    (some ((.str (sg++E5 ((u / 256:Nat):Int))),[]))
    (cond (decide (AG (sg++E5 ((u / 256:Nat):Int))+AG { data:=#[46] }≤strMax))
     (cond (decide (0≤AA AB (8 - ic (AG (E5 ((u % 256*390625:Nat):Int)))))&&decide (AG { data:=#[48] }*AE (AA AB (8 - ic (AG (E5 ((u % 256*390625:Nat):Int)))))≤strMax))
      (cond (decide (AG (H1 { data:=#[48] } (AE (AA AB (8 - ic (AG (E5 ((u % 256*390625:Nat):Int)))))))+AG (E5 ((u % 256*390625:Nat):Int))≤strMax))
       (cond (decide (AG (sg++E5 ((u / 256:Nat):Int)++{ data:=#[46] })+AG (PJ (H1 { data:=#[48] } (AE (AA AB (8 - ic (AG (E5 ((u % 256*390625:Nat):Int))))))++E5 ((u % 256*390625:Nat):Int)) { data:=#[48] })≤strMax))
        (some ((.str (sg++E5 ((u / 256:Nat):Int)++{ data:=#[46] }++PJ (H1 { data:=#[48] } (AE (AA AB (8 - ic (AG (E5 ((u % 256*390625:Nat):Int))))))++E5 ((u % 256*390625:Nat):Int)) { data:=#[48] })),[]))
        none)
       none)
      none)
     none))
   none)=(some (V.str K,[]):DO):=by
 have hr:u % 256 < 256:=by omega
 have l1:(E5 ((u / 256:Nat):Int)).size≤20:=qA (by omega) (by omega);have l2:(E5 ((u % 256*390625:Nat):Int)).size=(BU (u % 256*390625)).length:=by rw [p9,zgR]
 have l3:=Vp hr;generalize hD:BU (u % 256*390625)=D at l2 l3;have e8:AA AB (8 - ic (AG (E5 ((u % 256*390625:Nat):Int))))=((8 - D.length:Nat):Int):=by
  rw [l2,EH (by simp [ic]; omega) (by simp [ic]; omega)];simp only [ic];omega
 rw [e8];simp only [BF];have s46:AG { data:=#[46] }=1:=rfl;have s48:AG { data:=#[48] }=1:=rfl;have l4:(H1 { data:=#[48] } (8 - D.length)).size=8 - D.length:=by rw [rP,s48]; omega
 have l5:=Nw (H1 { data:=#[48] } (8 - D.length)++E5 ((u % 256*390625:Nat):Int)) { data:=#[48] };rw [AU,l4,l2] at l5;rw [AD (show AG sg+AG (E5 ((u / 256:Nat):Int))≤strMax by unfold strMax; omega),
  AD (show AG (sg++E5 ((u / 256:Nat):Int))+AG { data:=#[46] }≤strMax by rw [AU,s46]; unfold strMax; omega),
  AD (show (0:Int)≤((8 - D.length:Nat):Int) by omega),
  AD (show AG { data:=#[48] }*(8 - D.length)≤strMax by rw [s48]; unfold strMax; omega),
  AD (show AG (H1 { data:=#[48] } (8 - D.length))+AG (E5 ((u % 256*390625:Nat):Int))≤strMax by rw [l4,l2]; unfold strMax; omega),
  AD (show AG (sg++E5 ((u / 256:Nat):Int)++{ data:=#[46] })+AG (PJ (H1 { data:=#[48] } (8 - D.length)++E5 ((u % 256*390625:Nat):Int)) { data:=#[48] })≤strMax by rw [AU,AU,s46]; unfold strMax; omega)]
 simp only [DI,B2];subst hK;by_cases h0:u % 256=0
 ·have e0:(((u % 256:Nat):Int)==0)=true:=by rw [T7]; exact AD (by omega)
  rw [e0,DI]
  have:sg++E5 ((u / 256:Nat):Int)=sg++⟨(IL u).toArray⟩:=by
   apply T9;rw [d7,d7,p9,zK,zK,IL,BP h0,DB]
  rw [this]
 ·have e0:(((u % 256:Nat):Int)==0)=false:=by rw [T7]; exact AL (by omega)
  rw [e0,DJ]
  have:sg++E5 ((u / 256:Nat):Int)++{ data:=#[46] }++PJ (H1 { data:=#[48] } (8 - D.length)++E5 ((u % 256*390625:Nat):Int)) { data:=#[48] }=sg++⟨(IL u).toArray⟩:=by
   apply T9;simp only [d7,p9,IL,BD h0,PJ,H1,KB,hD,vaI];rfl
  rw [this]
theorem sT:DX PR B0 44 SE:=by
 refine D6 [(84,V9),(83,iA),(86,YQ),(85,iD)] [] SE [[.str]] Tryz.func44 zaU ⟨Jj,zh6,Kb,zh9,trivial⟩ ?_;intro vs r hwf h;unfold SE at h;split at h
 ·rename_i n;refine ⟨0,?_⟩;rw [← h];refine (zdJ 0 n).trans ?_;simp only [R.get_ok];have hb:=(hwf (by simp [LB])).1;simp only [QN,wfL] at hb;obtain ⟨h0,h1⟩:=hb;have e0:AB.min = -9223372036854775808:=rfl;have e1:AB.max=9223372036854775807:=rfl;rw [e0] at h0;rw [e1] at h1;have hu:n.natAbs < 18446744073709551616:=by omega
  by_cases hn:n < 0
  ·rw [AD hn,DI,zjw hn h0,Iz,uU _ hu,Dh (by omega)];exact Ge hu ⟨#[45]⟩ (by decide) _ (by apply T9; rw [d7]; unfold DU KU; rw [BP hn]; rfl)
  ·rw [AL hn,DJ,zjx hn h1,Iz,uU _ hu,Dh (by omega)];exact Ge hu ⟨#[]⟩ (by decide) _ (by apply T9; rw [d7]; unfold DU KU; rw [BD hn]; rfl)
 ·simp [R.get] at h
open Go Go.Proofs
theorem Ji:DX PR B0 91 V8:=by
 refine D6 [(44,SE),(144,cE),(84,V9),(104,T4),(57,YO),(86,YQ)] [] V8 [[.z],[.bool]] Tryz.func91 zaV
  ⟨sT,zhx,Jj,sW,Jz,Kb,trivial⟩ ?_
 intro vs r hwf h;unfold V8 at h;split at h
 ·rename_i s;refine ⟨0,?_⟩;cases hs:decide (s.size < 4294967281) with
  | false=>rw [hs] at h; simp [R.get] at h
  | true=>
   rw [hs,R.get_br,DI,R.get_ok] at h;have hs:=A1 hs;rw [← h];refine (zdK 0 s).trans ?_;have hz:=Nv s { data:=#[45] };rw [AD (show AG (F9 s { data:=#[45] }) < 4294967281 by omega),DI];have eW:cutL (F9 s { data:=#[45] }) { data:=#[46] }=PX s:=rfl;have eP:FQ (F9 s { data:=#[45] }) { data:=#[46] }=JJ s:=rfl;have eM:N5 s { data:=#[45] }=N5 s X9:=rfl;rw [eW,eP,eM];unfold F7;by_cases h8:(JJ s).size≤8
   ·have c1:decide (ic (AG (JJ s)) > 8)=false:=AL (by simp only [ic]; omega);have e8:AA AB (8 - ic (AG (JJ s)))=((8 - (JJ s).size:Nat):Int):=by
     rw [EH (by simp only [ic]; omega) (by simp only [ic]; omega)];simp only [ic];omega
    rw [c1,DJ,e8];simp only [BF];have s48:AG { data:=#[48] }=1:=rfl;have eF:JJ s++H1 { data:=#[48] } (8 - (JJ s).size)=NA s:=rfl;have l4:(H1 { data:=#[48] } (8 - (JJ s).size)).size=8 - (JJ s).size:=by rw [rP,s48]; omega
    rw [AD (show (0:Int)≤((8 - (JJ s).size:Nat):Int) by omega),AD (show AG { data:=#[48] }*(8 - (JJ s).size)≤strMax by rw [s48]; unfold strMax; omega),B2,DI,
     AD (show AG (JJ s)+AG (H1 { data:=#[48] } (8 - (JJ s).size))≤strMax by rw [l4]; unfold strMax; omega),DI,eF]
    have hw:=rH (PX s);have hf:=rH (NA s);have b0:AJ.min=0:=rfl;have b1:AJ.max=18446744073709551615:=rfl;rw [b0,b1] at hw hf;have em:Int.tmod (GO (NA s)) 390625=GO (NA s) % 390625:=Int.tmod_eq_emod_of_nonneg hf.1;have ed:AA AJ (Int.tdiv (GO (NA s)) 390625)=GO (NA s) / 390625:=by
     rw [Int.tdiv_eq_ediv_of_nonneg hf.1,uJ (by omega) (by omega)]
    have e2:(2:Int) ^ min (AE 8) (AR AJ)=256:=rfl;rw [em,ed,e2];have eS:AA AJ (AA AJ (GO (PX s)*256)+GO (NA s) / 390625)=PW s:=rfl;rw [eS];unfold W3;rw [AD h8,nU,nV,vR];cases hp1:JC (PX s) with
    | false=>simp only [A7,DI,DJ,BL,vaf]
    | true=>
     cases hp2:JC (NA s) with
     | false=>simp only [A7,A3,DI,DJ,BL,vaf]
     | true=>
      simp only [A3,DJ,BC];cases hc:decide (36028797018963968 < GO (PX s)) with
      | true=>simp only [A3,DI,DJ,BL]
      | false=>
       cases hd:decide (GO (NA s) % 390625=0) with
       | false=>simp only [A7,DI,DJ,BL,BC]
       | true=>
        simp only [A7,A3,DJ,BC];unfold d8;cases hm:N5 s X9 with
        | false=>
         simp only [DJ];rw [show AA AB (PW s)=FL (PW s) from rfl,iQ];cases decide (DU (FL (PW s))=s) <;> simp only [DI,DJ]
        | true=>
         simp only [DI];rw [show AA AB (AA AJ (0 - PW s))=FL (JP (0 - PW s)) from rfl,iQ];cases decide (DU (FL (JP (0 - PW s)))=s) <;> simp only [DI,DJ]
   ·have c1:decide (ic (AG (JJ s)) > 8)=true:=AD (by simp only [ic]; omega);rw [c1,DI];unfold W3;rw [AL h8,BL,DJ]
 ·simp [R.get] at h
open Go Go.Proofs
def IK (N:Nat):Env:=D5 [(44,SE),(53,MH),(55,MI),(43,OO),(56,T2),(54,dI)] [(7,⟨[1,2,3,4,28,29,30],[1,3,500],[⟨.tmp 4,500,9,false,[.str]⟩]⟩),(13,⟨[2,3,43,44,45],[3],[]⟩),(17,⟨[2,3,43,44,45,59,60,61],[3],[]⟩)] 94 N
abbrev VZ (s2:BA) (n4 n28:Nat) (x29 x30 u02 u03 u04 u05 u06:Int) (u00:LI) (so3:BA) (u01:LI):St:=⟨[(1,(.ptr 1 0 0)),(2,(.str s2)),(3,(.ptr 3 0 0)),(4,(.row 500 0 n4)),(28,(.bview 1 2 3 1 n28)),(29,(.i x29)),(30,(.i x30))],[(1,(some (.box [.i u02,.i u03,.i u04,.i u05,.i u06,.list true [.z,.list false [.int .u64]] u00]))),(3,(some (.bld so3))),(500,(some (.row true 9 false [.str] u01)))]⟩
abbrev aQ (s2:BA) (l43:LI) (x44 x45:Int) (so3:BA):St:=⟨[(2,(.str s2)),(3,(.ptr 3 0 0)),(43,(.list true [.z,.list false [.int .u64]] l43)),(44,(.i x44)),(45,(.i x45))],[(3,(some (.bld so3)))]⟩
abbrev YJ (s2:BA) (l43:LI) (x44 x45:Int) (l59:LI) (x60 x61:Int) (so3:BA):St:=⟨[(2,(.str s2)),(3,(.ptr 3 0 0)),(43,(.list true [.z,.list false [.int .u64]] l43)),(44,(.i x44)),(45,(.i x45)),(59,(.list false [.int .u64] l59)),(60,(.i x60)),(61,(.i x61))],[(3,(some (.bld so3)))]⟩
theorem zeA (N:Nat) (u04 u03 u00 u01 u02:Int) (u05:LI):DZ (IK N) KO [.tmp 2] [[.str]] [.agg [.i u04,.i u03,.i u00,.i u01,.i u02,.list true [.z,.list false [.int .u64]] u05]]=(cond (!EW {d:=u04,c:=u03,b0:=u00,b1:=u01,b2:=u02,ts:=u05}) (some ((.str ({data:=#[]})),[])) (cond (B6 (AF (AS 0 (AK 3 [IV.str {data:=#[102,111,114,101,115,116]},IV.str (DP u04),IV.str (DP u03)]))) 1000&&decide (AG CK+AG (FO (A2 IV.toStr (AS 0 (AK 3 [IV.str {data:=#[102,111,114,101,115,116]},IV.str (DP u04),IV.str (DP u03)]))))≤1000000000)) (cond (decide (0≤u03)&&decide (u03≤ic 3)) (DY (IK N) (DK KO [1,1,1,1,1,0,1,0,0]) ⟨[1,2,3,4,28,29,30],[1,3,500],[⟨(.tmp 4),500,9,false,[.str]⟩]⟩ N (VZ ({data:=#[]}) 1 (AE u03) (ic (AE u03)) 0 u04 u03 u00 u01 u02 u05 (CK++FO (A2 IV.toStr (AS 0 (AK 3 [IV.str {data:=#[102,111,114,101,115,116]},IV.str (DP u04),IV.str (DP u03)])))) [(IV.str {data:=#[98,105,97,115]})]) (DQ 0 (DS (IK N) (DK KO [1,1,1,1,1,1]) (DT (IK N) none [.tmp 2] [[.str]])))) none) none)):=by kernel_rfl
theorem lM (N:Nat) (s2:BA) (n4 n28:Nat) (x29 x30 u02 u03 u04 u05 u06:Int) (u00:LI) (so3:BA) (u01:LI) (again:St→DO) (k:Out→St→DO):EZ (IK N) (DK KO [1,1,1,1,1,0,1,0,0]) (VZ s2 n4 n28 x29 x30 u02 u03 u04 u05 u06 u00 so3 u01) (EN again ⟨[1,2,3,4,28,29,30],[1,3,500],[⟨(.tmp 4),500,9,false,[.str]⟩]⟩ k)=(cond (decide (x30 < x29)) (cond (decide (x30 < ic n28)) (cond (decide (x30=ic 0)) (cond (decide ((n4+AF (AS 0 (AK 1 [IV.str (DU u04)])))*TI.bytes (Env.tyd (IK N) 9)≤EE)) (again (VZ s2 (n4+AF (AS 0 (AK 1 [IV.str (DU u04)]))) n28 x29 (AA AB (x30+1)) u02 u03 u04 u05 u06 u00 so3 (AK n4 u01++AS 0 (AK 1 [IV.str (DU u04)])))) none) (cond (decide (x30=ic 1)) (cond (decide ((n4+AF (AS 0 (AK 1 [IV.str (DU u05)])))*TI.bytes (Env.tyd (IK N) 9)≤EE)) (again (VZ s2 (n4+AF (AS 0 (AK 1 [IV.str (DU u05)]))) n28 x29 (AA AB (x30+1)) u02 u03 u04 u05 u06 u00 so3 (AK n4 u01++AS 0 (AK 1 [IV.str (DU u05)])))) none) (cond (decide (x30=ic 2)) (cond (decide ((n4+AF (AS 0 (AK 1 [IV.str (DU u06)])))*TI.bytes (Env.tyd (IK N) 9)≤EE)) (again (VZ s2 (n4+AF (AS 0 (AK 1 [IV.str (DU u06)]))) n28 x29 (AA AB (x30+1)) u02 u03 u04 u05 u06 u00 so3 (AK n4 u01++AS 0 (AK 1 [IV.str (DU u06)])))) none) none))) none) (k (.exit 0) (VZ s2 n4 n28 x29 x30 u02 u03 u04 u05 u06 u00 so3 u01))):=by kernel_rfl
theorem Yo (N:Nat) (s2:BA) (n4 n28:Nat) (x29 x30 u02 u03 u04 u05 u06:Int) (u00:LI) (so3:BA) (u01:LI):(DQ 0 (DS (IK N) (DK KO [1,1,1,1,1,1]) (DT (IK N) none [.tmp 2] [[.str]]))) (.exit 0) (VZ s2 n4 n28 x29 x30 u02 u03 u04 u05 u06 u00 so3 u01)=(cond (B6 (AF (AS 0 (AK n4 u01))) 1000&&decide (AG so3+AG (FO (A2 IV.toStr (AS 0 (AK n4 u01))))≤1000000000)) (DY (IK N) (DK KO [1,1,1,1,1,1,1,0,1,0,0]) ⟨[2,3,43,44,45],[3],[]⟩ N (aQ s2 u00 (ic (AF u00)) 0 (so3++FO (A2 IV.toStr (AS 0 (AK n4 u01))))) (DQ 2 (DS (IK N) (DK KO [1,1,1,1,1,1,1,1]) (DT (IK N) none [.tmp 2] [[.str]])))) none):=by kernel_rfl
theorem Mk (N:Nat) (s2:BA) (l43:LI) (x44 x45:Int) (so3:BA) (again:St→DO) (k:Out→St→DO):EZ (IK N) (DK KO [1,1,1,1,1,1,1,0,1,0,0]) (aQ s2 l43 x44 x45 so3) (EN again ⟨[2,3,43,44,45],[3],[]⟩ k)=(cond (decide (x45 < x44)) (cond (decide (0≤x45)&&decide (x45 < ic (AF l43))) (cond (B6 (AF (AS 0 (AK 3 [IV.str {data:=#[116,114,101,101]},IV.str (DP (IV.toInt (IV.cell (AH l43 (AE x45) default) 0))),IV.str (DP (ic (AF (IV.toList (IV.cell (AH l43 (AE x45) default) 1)))))]))) 1000&&decide (AG so3+AG (FO (A2 IV.toStr (AS 0 (AK 3 [IV.str {data:=#[116,114,101,101]},IV.str (DP (IV.toInt (IV.cell (AH l43 (AE x45) default) 0))),IV.str (DP (ic (AF (IV.toList (IV.cell (AH l43 (AE x45) default) 1)))))]))))≤1000000000)) (DY (IK N) (DK KO [1,1,1,1,1,1,1,0,1,0,0,1,1,0,0,1,1,1,0,0]) ⟨[2,3,43,44,45,59,60,61],[3],[]⟩ N (YJ s2 l43 x44 x45 (IV.toList (IV.cell (AH l43 (AE x45) default) 1)) (ic (AF (IV.toList (IV.cell (AH l43 (AE x45) default) 1)))) 0 (so3++FO (A2 IV.toStr (AS 0 (AK 3 [IV.str {data:=#[116,114,101,101]},IV.str (DP (IV.toInt (IV.cell (AH l43 (AE x45) default) 0))),IV.str (DP (ic (AF (IV.toList (IV.cell (AH l43 (AE x45) default) 1)))))]))))) (DQ 4 (DQ 3 (DS (IK N) (DK KO [1,1,1,1,1,1,1,0,1,0,0,1,1,1]) (EN again ⟨[2,3,43,44,45],[3],[]⟩ k))))) none) none) (k (.exit 2) (aQ s2 l43 x44 x45 so3))):=by kernel_rfl
theorem Ml (N:Nat) (s2:BA) (l43:LI) (x44 x45:Int) (l59:LI) (x60 x61:Int) (so3:BA) (again:St→DO) (k:Out→St→DO):EZ (IK N) (DK KO [1,1,1,1,1,1,1,0,1,0,0,1,1,0,0,1,1,1,0,0]) (YJ s2 l43 x44 x45 l59 x60 x61 so3) (EN again ⟨[2,3,43,44,45,59,60,61],[3],[]⟩ k)=(cond (decide (x61 < x60)) (cond (decide (0≤x61)&&decide (x61 < ic (AF l59))) (cond (Nd.lf (DL (IV.toInt (AH l59 (AE x61) default)))) (cond (B6 (AF (AS 0 (AK 2 [IV.str {data:=#[108,101,97,102]},IV.str (DU (Nd.v (DL (IV.toInt (AH l59 (AE x61) default)))))]))) 1000&&decide (AG so3+AG (FO (A2 IV.toStr (AS 0 (AK 2 [IV.str {data:=#[108,101,97,102]},IV.str (DU (Nd.v (DL (IV.toInt (AH l59 (AE x61) default)))))]))))≤1000000000)) (again (YJ s2 l43 x44 x45 l59 x60 (AA AB (x61+1)) (so3++FO (A2 IV.toStr (AS 0 (AK 2 [IV.str {data:=#[108,101,97,102]},IV.str (DU (Nd.v (DL (IV.toInt (AH l59 (AE x61) default)))))])))))) none) (cond (B6 (AF (AS 0 (AK 8 [IV.str {data:=#[105,102]},IV.str (DP (Nd.f (DL (IV.toInt (AH l59 (AE x61) default))))),IV.str {data:=#[60,61]},IV.str (DU (Nd.a (DL (IV.toInt (AH l59 (AE x61) default))))),IV.str {data:=#[116,104,101,110]},IV.str (DP (Nd.l (DL (IV.toInt (AH l59 (AE x61) default))))),IV.str {data:=#[101,108,115,101]},IV.str (DP (Nd.r (DL (IV.toInt (AH l59 (AE x61) default)))))]))) 1000&&decide (AG so3+AG (FO (A2 IV.toStr (AS 0 (AK 8 [IV.str {data:=#[105,102]},IV.str (DP (Nd.f (DL (IV.toInt (AH l59 (AE x61) default))))),IV.str {data:=#[60,61]},IV.str (DU (Nd.a (DL (IV.toInt (AH l59 (AE x61) default))))),IV.str {data:=#[116,104,101,110]},IV.str (DP (Nd.l (DL (IV.toInt (AH l59 (AE x61) default))))),IV.str {data:=#[101,108,115,101]},IV.str (DP (Nd.r (DL (IV.toInt (AH l59 (AE x61) default)))))]))))≤1000000000)) (again (YJ s2 l43 x44 x45 l59 x60 (AA AB (x61+1)) (so3++FO (A2 IV.toStr (AS 0 (AK 8 [IV.str {data:=#[105,102]},IV.str (DP (Nd.f (DL (IV.toInt (AH l59 (AE x61) default))))),IV.str {data:=#[60,61]},IV.str (DU (Nd.a (DL (IV.toInt (AH l59 (AE x61) default))))),IV.str {data:=#[116,104,101,110]},IV.str (DP (Nd.l (DL (IV.toInt (AH l59 (AE x61) default))))),IV.str {data:=#[101,108,115,101]},IV.str (DP (Nd.r (DL (IV.toInt (AH l59 (AE x61) default)))))])))))) none)) none) (k (.exit 4) (YJ s2 l43 x44 x45 l59 x60 x61 so3))):=by kernel_rfl
theorem Yp (N:Nat) (s2:BA) (l43:LI) (x44 x45:Int) (so3:BA):(DQ 2 (DS (IK N) (DK KO [1,1,1,1,1,1,1,1]) (DT (IK N) none [.tmp 2] [[.str]]))) (.exit 2) (aQ s2 l43 x44 x45 so3)=(some ((.str so3),[])):=by kernel_rfl
theorem Yq (N:Nat) (again:St→DO) (k:Out→St→DO) (s2:BA) (l43:LI) (x44 x45:Int) (l59:LI) (x60 x61:Int) (so3:BA):(DQ 4 (DQ 3 (DS (IK N) (DK KO [1,1,1,1,1,1,1,0,1,0,0,1,1,1]) (EN again ⟨[2,3,43,44,45],[3],[]⟩ k)))) (.exit 4) (YJ s2 l43 x44 x45 l59 x60 x61 so3)=(again (aQ s2 l43 x44 (AA AB (x45+1)) so3)):=by kernel_rfl
def Rx (N:Nat):Env:=D5 [(97,YN),(60,T3),(45,YP)] [] 10 N
theorem zeC (N:Nat) (b:BA) (u00:LI):DZ (Rx N) yI [] [] [.bor [.bld b],.list false [.str] u00]=(cond (decide (AF u00≤strMax)&&decide (AG (GI (A2 IV.toStr u00) {data:=#[32]})≤strMax)) (cond (decide (AG b+AG (GI (A2 IV.toStr u00) {data:=#[32]})≤strMax)) (cond (decide (AG (b++GI (A2 IV.toStr u00) {data:=#[32]})+1≤strMax)) (some ((.tup []),[[(.bld (ByteArray.push (b++GI (A2 IV.toStr u00) {data:=#[32]}) (M6 10)))]])) none) none) none):=by kernel_rfl
def Ry (N:Nat):Env:=D5 [(46,M5)] [] 26 N
theorem zeD (N:Nat) (u00:LI):DZ (Ry N) yJ [.tmp 2] [[.list false [.str]]] [.bor [.list false [.str] u00]]=(cond (ic (AF u00)==0) (some ((.list false [.str] []),[[.list false [.str] u00]])) (cond (decide (0≤0)&&decide (0 < ic (AF u00))) (cond (decide (0≤1)&&decide (1≤ic (AF u00))) (cond (decide (AG (IV.toStr (AH u00 (AE 0) default)) < 4294967281)&&decide (1≤AG {data:=#[32]})) (some ((.list false [.str] (A2 IV.str (D2 (IV.toStr (AH u00 (AE 0) default)) {data:=#[32]}))),[[.list false [.str] (AS (AE 1) (AK (AF u00) u00))]])) none) none) none)):=by kernel_rfl
def Sb (N:Nat):Env:=D5 [] [] 13 N
theorem zeG (N:Nat) (l:LI) (i:Int):DZ (Sb N) yM [.tmp 4] [[.str]] [.list false [.str] l,.i i]=(cond (decide (i≥ic (AF l))) (some ((.str ({data:=#[]})),[])) (cond (decide (0≤i)&&decide (i < ic (AF l))) (some ((.str (IV.toStr (AH l (AE i) default))),[])) none)):=by kernel_rfl
def Rw (N:Nat):Env:=D5 [(90,Q0)] [] 24 N
theorem zeB (N:Nat) (s:BA) (most:Int):DZ (Rw N) yH [.tmp 4] [[.z]] [.str s,.i most]=(cond (!KM s) (some ((.i 0),[])) (cond (decide (FF s < 0)) (some ((.i 0),[])) (cond (decide (FF s > most)) (some ((.i 0),[])) (some ((.i (FF s)),[]))))):=by kernel_rfl
def Sa (N:Nat):Env:=D5 [(91,V8)] [] 11 N
theorem zeF (N:Nat) (s:BA):DZ (Sa N) yL [.tmp 2] [[.z]] [.str s]=(cond (decide (AG s < 4294967281)) (some ((.i (F7 s)),[])) none):=by kernel_rfl
def Rz (N:Nat):Env:=D5 [(92,WD),(49,WL),(48,WM),(51,WN),(50,WO)] [] 28 N
theorem zeE (N:Nat) (u00:LI):DZ (Rz N) yK [.tmp 2] [[.int .u64]] [.bor [.list false [.str] u00]]=(cond (KH u00) (cond (AW (DW (EX u00) (AE 0))==AW {data:=#[108,101,97,102]}) (cond (decide (AG (DW (EX u00) (AE 1)) < 4294967281)) (some ((.int .u64 (IY {lf:=true,v:=F7 (DW (EX u00) (AE 1)),f:=0,a:=0,l:=0,r:=0})),[[.list false [.str] (AS 1 u00)]])) none) (cond (decide (AG (DW (EX u00) (AE 3)) < 4294967281)) (some ((.int .u64 (IY {lf:=false,v:=0,f:=FK (DW (EX u00) (AE 1)) 4,a:=F7 (DW (EX u00) (AE 3)),l:=FK (DW (EX u00) (AE 5)) 31,r:=FK (DW (EX u00) (AE 7)) 31})),[[.list false [.str] (AS 1 u00)]])) none)) none):=by kernel_rfl
def Qu (N:Nat):Env:=D5 [] [] 21 N
theorem zdV (N:Nat) (s u00:BA):DZ (Qu N) xI [.tmp 4] [[.bool]] [.str s,.str u00]=(cond (decide (ic (AG s)≥ic (AG u00))) (cond (decide (0≤AA AB (ic (AG s) - ic (AG u00)))&&decide (AA AB (ic (AG s) - ic (AG u00))≤ic (AG s))) (some ((.bool (AW (vaa s (AE (AA AB (ic (AG s) - ic (AG u00)))) (AG s))==AW u00)),[])) none) (some ((.bool false),[]))):=by kernel_rfl
def Qv (N:Nat):Env:=D5 [(141,cL)] [] 16 N
theorem zdW (N:Nat) (s u00:BA):DZ (Qv N) xJ [.tmp 4] [[.str]] [.str s,.str u00]=(cond (SW s u00) (cond (decide (0≤AA AB (ic (AG s) - ic (AG u00)))&&decide (AA AB (ic (AG s) - ic (AG u00))≤ic (AG s))) (some ((.str (vaa s 0 (AE (AA AB (ic (AG s) - ic (AG u00)))))),[])) none) (some ((.str s),[]))):=by kernel_rfl
def Rv (N:Nat):Env:=D5 [(89,cM)] [] 8 N
theorem zey (N:Nat) (s u00:BA):DZ (Rv N) yG [.tmp 4] [[.str]] [.str s,.str u00]=(some ((.str (GT s u00)),[])):=by kernel_rfl
open Go Go.Proofs
theorem zcb (l:List BA) (h:∀ w∈l,w.size≤100):(GI l G2).size≤101*l.length:=by
 have hs:(GI l G2).size=(Lib.join (l.map (·.data.toList)) [32]).length:=by
  show (Array.size (List.toArray _))=_;rw [C8]
 rw [hs];cases l with
 | nil=>simp [Lib.join_nil]
 | cons x r=>
  rw [A0,Lib.join_length]
  have:∀ (r:List BA),(∀ w∈r,w.size≤100)→Lib.lens (r.map (·.data.toList))≤100*r.length:=fun r=>by
   induction r with
   | nil=>intro _; simp [Lib.lens]
   | cons y r ih=>
    intro h;have h1:=h y (AO ..);rw [S8] at h1;have h2:=ih (fun w hw=>h w (AY _ hw));rw [A0,AM];simp only [Lib.lens,A0,va3] at h2 ⊢;omega
  have:=this (x :: r) h
  rw [A0] at this;simp only [AM,BG,A6] at this ⊢;omega
theorem fA (ws:List BA) (hl:ws.length≤8) (h:∀ w∈ws,w.size≤100):(FO ws).size≤809:=by
 unfold FO
 have:=zcb ws h
 rw [AU];have e:AG PL=1:=rfl;rw [e];omega
theorem tO:∀ (a b:List (List BA)),F5 (a++b)=F5 a++F5 b
 | [],b=>by
  show F5 b=CK++F5 b;rw [ByteArray.empty_append]
 | l :: a,b=>by
  rw [CT,F5,F5,tO a b,C7]
theorem tQ:∀ (L:List (List BA)),(∀ l∈L,l.length≤8∧∀ w∈l,w.size≤100)→(F5 L).size≤809*L.length
 | [],_=>by
  have:AG (F5 [])=0:=rfl
  omega
 | l :: L,h=>by
  have h1:=fA l (h l (AO ..)).1 (h l (AO ..)).2;have h2:=tQ L fun x hx=>h x (AY _ hx)
  rw [F5,AU,AM];omega
theorem XC {n:Int} (h:ED n):(DP n).size≤100:=by
 have:=ZI h.1 h.2
 omega
theorem fS {n:Int} (h:ED n):(DU n).size≤100:=by
 have:=(XP n h).2
 omega
theorem oK {n:Int} (h:E2 n=true) : -2147483648≤n∧n≤2147483647:=by
 unfold E2 at h
 rwa [AI,AQ,AQ] at h
structure Nd.In (x:Nd):Prop where
 v : -2147483648≤x.v∧x.v≤2147483647
 f:0≤x.f∧x.f < 4
 a : -2147483648≤x.a∧x.a≤2147483647
 l:0≤x.l∧x.l < 31
 r:0≤x.r∧x.r < 31
 lf:x.lf=true→x.f=0∧x.a=0∧x.l=0∧x.r=0
 fk:x.lf=false→x.v=0
theorem zgl {x:Nd} (h:MW x=true):x.In:=by
 obtain ⟨lf,v,f,a,l,r⟩:=x;unfold MW at h;cases lf with
 | true=>
  simp only [BJ,AI,Nd.eq,B8] at h;obtain ⟨⟨_,_,h1,h2,h3,h4,_⟩,hv⟩:=h;subst h1 h2 h3 h4;have z4:(0:Int)≤0∧(0:Int) < 4:=by decide
  have z31:(0:Int)≤0∧(0:Int) < 31:=by decide
  have zf:(-2147483648:Int)≤0∧(0:Int)≤2147483647:=by decide
  exact ⟨oK hv,z4,zf,z31,z31,fun _=>⟨rfl,rfl,rfl,rfl⟩,fun h=>Bool.noConfusion h⟩
 | false=>
  simp only [A9,AI,B8,AQ,Q4] at h;obtain ⟨hv,hf0,hf1,ha,⟨hl0,hl1⟩,hr0,hr1⟩:=h;subst hv;have zf:(-2147483648:Int)≤0∧(0:Int)≤2147483647:=by decide
  have l0:(0:Int)≤l:=by omega
  have r0:(0:Int)≤r:=by omega
  exact ⟨zf,⟨hf0,hf1⟩,oK ha,⟨l0,hl1⟩,⟨r0,hr1⟩,fun h=>Bool.noConfusion h,fun _=>rfl⟩
theorem Du {x:Nd} (h:x.In):(L6 x).length≤8∧∀ w∈L6 x,w.size≤100:=by
 have hv:ED x.v:=by have:=h.v; unfold ED; omega
 have hf:ED x.f:=by have:=h.f; unfold ED; omega
 have ha:ED x.a:=by have:=h.a; unfold ED; omega
 have hl:ED x.l:=by have:=h.l; unfold ED; omega
 have hr:ED x.r:=by have:=h.r; unfold ED; omega
 unfold L6;cases x.lf with
 | true=>
  refine ⟨by simp,fun w hw=>?_⟩;simp only [BJ,AP,BX,CP] at hw;rcases hw with rfl | rfl
  ·decide
  ·exact fS hv
 | false=>
  refine ⟨by simp,fun w hw=>?_⟩;simp only [A9,AP,BX,CP] at hw;rcases hw with rfl | rfl | rfl | rfl | rfl | rfl | rfl | rfl
  ·decide
  ·exact XC hf
  ·decide
  ·exact fS ha
  ·decide
  ·exact XC hl
  ·decide
  ·exact XC hr
theorem Dy {dim n:Int}:∀ {l:LI} {i:Nat},KF dim n i l=true→∀ w∈l,GC w.toInt=true
 | [],_,_,w,hw=>by cases hw
 | x :: l,i,h,w,hw=>by
  unfold KF at h;rw [AI,AI] at h;rcases AP.1 hw with rfl | hw
  ·exact h.1.1
  ·exact Dy h.2 w hw
theorem Dt {w:Int} (h:GC w=true):(DL w).In:=by
 have hn:DL w=XQ w:=by unfold DL; rw [h]; rfl
 unfold GC at h;simp only [AI,B3,B8,A4] at h;rw [hn];apply zgl;cases hr:MW (XQ w) with
 | true=>rfl
 | false=>
  have:=h.2
  unfold IY at this;rw [hr] at this;exact absurd this.symm h.1
theorem zib:DX PR B0 54 dI:=by
 refine D6 [(97,YN),(60,T3),(45,YP)] [] dI [] Tryz.func54 zbK ⟨Jy,sV,Ka,trivial⟩ ?_;intro vs r hwf h;unfold dI at h;split at h
 ·rename_i s ws;cases hc:(B6 ws.length 1000&&decide (s.size+(FO (ws.map IV.toStr)).size≤1000000000)) with
  | false=>rw [hc] at h; simp [R.get] at h
  | true=>
   rw [hc,R.get_br,DI,R.get_ok] at h;rw [AI,AQ] at hc;have h1:=AN hc.1;have h2:=hc.2;have m:strMax=140737488355327:=rfl;refine ⟨0,?_⟩;rw [← h];refine (zeC 0 s ws).trans ?_;have e:ByteArray.push (s++GI (ws.map IV.toStr) G2) (M6 10)=s++FO (ws.map IV.toStr):=by
    apply T9;unfold FO;simp;rfl
   have e2:(FO (ws.map IV.toStr)).size=(GI (ws.map IV.toStr) G2).size+1:=by
    unfold FO;rw [AU];rfl
   rw [e2] at h2;rw [AD (show ws.length≤strMax by omega),AD (show (GI (ws.map IV.toStr) G2).size≤strMax by omega),AD (show s.size+(GI (ws.map IV.toStr) G2).size≤strMax by omega),
    AD (show AG (s++GI (ws.map IV.toStr) G2)+1≤strMax by rw [AU]; omega),B4,DI,DI,DI,e]
 ·simp [R.get] at h
theorem zcv (s:BA) (hs:s.size < 4294967281):∀ i,(DW (HH s) i).size < 4294967281:=by
 intro i;unfold DW;rw [BV];cases h:(HH s)[i]? with
 | none=>decide
 | some x=>
  have hx:x∈HH s:=vah h;unfold HH at hx;obtain ⟨w,hw,rfl⟩:=CI.1 hx
  have:=(Z9 G2 _ s).2 w hw
  exact Nat.lt_of_le_of_lt this hs
theorem pV {ls:LI} (h:KH ls=true) (i:Nat):(DW (EX ls) i).size < 4294967281:=by
 unfold KH at h;cases ls with
 | nil=>
  show AG (IV.toStr (AH [] i default)) < _;rw [List.getD_nil];decide
 | cons l r=>
  rw [vaA,AI,AQ] at h;exact zcv _ h.1 i
theorem XM {ls:LI} (h:KH ls=true) (k:Nat):KH (ls.drop k)=true:=by
 unfold KH at h ⊢;rw [CR] at h ⊢;exact fun x hx=>h x (va8 hx)
theorem Ke:DX PR B0 48 WM:=by
 refine D6 [(46,M5)] [] WM [[.list false [.str]]] Tryz.func48 zbL ⟨Z8,trivial⟩ ?_;intro vs r hwf h;unfold WM at h;split at h
 ·rename_i ls;cases hc:KH ls with
  | false=>rw [hc] at h; simp [R.get] at h
  | true=>
   rw [hc,R.get_br,DI,R.get_ok] at h;refine ⟨0,?_⟩;rw [← h];refine (zeD 0 ls).trans ?_;cases ls with
   | nil=>rfl
   | cons l r=>
    unfold KH at hc;rw [vaA,AI] at hc;have e0:(ic (AF (l :: r))==0)=false:=by
     rw [T7];exact AL (by simp only [ic,AM]; omega)
    have e1:IV.toStr (AH (l :: r) (AE 0) default)=l.toStr:=rfl;have e2:AS (AE 1) (AK (AF (l :: r)) (l :: r))=AS 1 (l :: r):=by rw [BO]; rfl
    have e3:decide (1≤AG G2)=true:=rfl;rw [e0,e1,e2,e3,hc.1,DJ];simp only [AD (show (0:Int) < ic (AF (l :: r)) by simp only [ic,AM]; omega),AD (show (1:Int)≤ic (AF (l :: r)) by simp only [ic,AM]; omega)];rfl
 ·simp [R.get] at h
theorem Kg:DX PR B0 50 WO:=by
 refine D6 [] [] WO [[.str]] Tryz.func50 zbO trivial ?_;intro vs r hwf h;unfold WO at h;split at h
 ·rename_i l i;cases hc:decide (0≤i) with
  | false=>rw [hc] at h; simp [R.get] at h
  | true=>
   rw [hc,R.get_br,DI,R.get_ok] at h;have h0:=A1 hc;refine ⟨0,?_⟩;rw [← h];refine (zeG 0 l i).trans ?_;cases hi:decide (i≥ic l.length) with
   | true=>
    have hi:=A1 hi;simp only [ic] at hi;have e:DW l i.toNat=CK:=by
     unfold DW;rw [BV,B1 (by omega)];rfl
    rw [e,DI];rfl
   | false=>
    have hi:=BH hi;rw [DJ,AD h0,AD (show i < ic l.length by omega),B4,DI];rfl
 ·simp [R.get] at h
theorem Kc:DX PR B0 49 WL:=by
 refine D6 [(90,Q0)] [] WL [[.z]] Tryz.func49 zbJ ⟨lG,trivial⟩ ?_;intro vs r hwf h;unfold WL at h;split at h
 ·rename_i s most;refine ⟨0,?_⟩;rw [R.get_ok] at h;rw [← h];refine (zeB 0 s most).trans ?_;unfold FK;cases KM s <;> cases decide (FF s < 0) <;> cases decide (FF s > most) <;> rfl
 ·simp [R.get] at h
theorem Kf:DX PR B0 51 WN:=by
 refine D6 [(91,V8)] [] WN [[.z]] Tryz.func51 zbN ⟨Ji,trivial⟩ ?_;intro vs r hwf h;unfold WN at h;split at h
 ·rename_i s;cases hc:decide (s.size < 4294967281) with
  | false=>rw [hc] at h; simp [R.get] at h
  | true=>
   rw [hc,R.get_br,DI,R.get_ok] at h;refine ⟨0,?_⟩;rw [← h];refine (zeF 0 s).trans ?_;rw [hc,DI]
 ·simp [R.get] at h
theorem zic:DX PR B0 52 dJ:=by
 refine D6 [(92,WD),(49,WL),(48,WM),(51,WN),(50,WO)] [] dJ [[.int .u64]] Tryz.func52 zbM ⟨Jq,Kc,Ke,Kf,Kg,trivial⟩ ?_;intro vs r hwf h;unfold dJ at h;split at h
 ·rename_i ls;cases hc:KH ls with
  | false=>rw [hc] at h; simp [R.get] at h
  | true=>
   rw [hc,R.get_br,DI,R.get_ok] at h;refine ⟨0,?_⟩;rw [← h];refine (zeE 0 ls).trans ?_;rw [hc,DI,AD (pV hc (AE 1)),AD (pV hc (AE 3)),DI,DI];unfold NJ;have e:(AW (DW (EX ls) (AE 0))==AW { data:=#[108,101,97,102] })=((DW (EX ls) 0).toList==TH.toList):=rfl;rw [e];cases ((DW (EX ls) 0).toList==TH.toList) <;> rfl
 ·simp [R.get] at h
theorem zhD:DX PR B0 141 cL:=by
 refine D6 [] [] cL [[.bool]] Tryz.func141 za6 trivial ?_;intro vs r hwf h;unfold cL at h;split at h
 ·rename_i s t;refine ⟨0,?_⟩;rw [R.get_ok] at h;rw [← h];refine (zdV 0 s t).trans ?_;have hb:=hwf (by simp [LB]);have hs:s.size≤strMax:=hb.1;have m:strMax=140737488355327:=rfl;unfold SW;by_cases hl:t.size≤s.size
  ·have e:AA AB (ic s.size - ic t.size)=((s.size - t.size:Nat):Int):=by
    rw [EH (by simp only [ic]; omega) (by simp only [ic]; omega)];simp only [ic];omega
   rw [e,AD (show ic s.size≥ic t.size by simp only [ic]; omega),DI,AD (show (0:Int)≤((s.size - t.size:Nat):Int) by omega),AD (show ((s.size - t.size:Nat):Int)≤ic s.size by simp only [ic]; omega),B4,DI,AD hl,BC,BF]
  ·rw [AL (show ¬ ic s.size≥ic t.size by simp only [ic]; omega),DJ,AL hl,BL]
 ·simp [R.get] at h
theorem zhE:DX PR B0 89 cM:=by
 refine D6 [(141,cL)] [] cM [[.str]] Tryz.func89 za7 ⟨zhD,trivial⟩ ?_;intro vs r hwf h;unfold cM at h;split at h
 ·rename_i s t;refine ⟨0,?_⟩;rw [R.get_ok] at h;rw [← h];refine (zdW 0 s t).trans ?_;have hb:=hwf (by simp [LB]);have hs:s.size≤strMax:=hb.1;have m:strMax=140737488355327:=rfl;unfold GT;cases hh:SW s t with
  | false=>rfl
  | true=>
   have hl:t.size≤s.size:=by
    unfold SW at hh;rw [AI,AQ] at hh;exact hh.1
   have e:AA AB (ic s.size - ic t.size)=((s.size - t.size:Nat):Int):=by
    rw [EH (by simp only [ic]; omega) (by simp only [ic]; omega)];simp only [ic];omega
   rw [e,DI,DI,AD (show (0:Int)≤((s.size - t.size:Nat):Int) by omega),AD (show ((s.size - t.size:Nat):Int)≤ic s.size by simp only [ic]; omega),B4,DI,BF]
 ·simp [R.get] at h
theorem sX:DX PR B0 47 SF:=by
 refine D6 [(89,cM)] [] SF [[.str]] Tryz.func47 zbG ⟨zhE,trivial⟩ ?_;intro vs r hwf h;unfold SF at h;split at h
 ·rename_i s t;refine ⟨0,?_⟩;rw [R.get_ok] at h;rw [← h];exact zey 0 s t
 ·simp [R.get] at h
abbrev Oz (ts:LI) (i:Int) (l:LI) (j:Int) (so:BA):St:=
 ⟨[(2,(.str { data:=#[] })),(3,(.ptr 3 0 0)),(43,(.list true [.z,(.list false [(.int .u64)])] ts)),(44,(.int .i64 (ic ts.length))),(45,(.int .i64 i)),(59,(.list false [(.int .u64)] l)),(60,(.int .i64 (ic l.length))),(61,(.int .i64 j))],[(3,(some (.bld so)))]⟩
theorem Ed (N:Nat) (ts:LI) (i:Int) (l:LI) (hl:l.length≤31) (hn:∀ w∈l,GC w.toInt=true) (K:Out→St→DO):∀ (d j n:Nat) (so:BA),j+d=l.length→d < n→so.size+809*d≤1000000000 →
  DY (IK N) (DK KO [1,1,1,1,1,1,1,0,1,0,0,1,1,0,0,1,1,1,0,0]) ⟨[2,3,43,44,45,59,60,61],[3],[]⟩ n (Oz ts i l (j:Int) so) K =
   K (.exit 4) (Oz ts i l (ic l.length) (so++F5 (HY (l.drop j))))
 | d,j,0,_,_,h,_=>absurd h (by omega)
 | 0,j,n+1,so,hd,_,_=>by
  have hj:j=l.length:=by omega
  subst hj;rw [D4,Ml,AL (show ¬ ((l.length:Nat):Int) < ic l.length by simp only [ic]; omega),DJ,vaD];have e:so++F5 (HY [])=so:=by
   show so++CK=so;rw [ByteArray.append_empty]
  rw [e]
 | d+1,j,n+1,so,hd,hn',hz=>by
  have hjl:j < l.length:=by omega
  have ej:AA AB ((j:Int)+1)=((j+1:Nat):Int):=by
   rw [EH (by omega) (by omega)];omega
  have hg:l.getD (AE (j:Int)) default=l[j]:=by
   rw [BF,BV,A8 hjl];rfl
  have hin:=Dt (hn l[j] (CX hjl));have hw:=Du hin;have hls:=fA _ hw.1 hw.2;rw [D4,Ml,ej,hg,AD (show (j:Int) < ic l.length by simp only [ic]; omega),DI,AD (show (0:Int)≤(j:Int) by omega),B4,DI,BE hjl];have hr:F5 (HY (l[j] :: l.drop (j+1)))=FO (L6 (DL l[j].toInt))++F5 (HY (l.drop (j+1))):=rfl;rw [hr,← C7];have ih:=Ed N ts i l hl hn K d (j+1) n (so++FO (L6 (DL l[j].toInt))) (by omega) (by omega) (by rw [AU]; omega);rw [← ih];have hsz:decide (so.size+(FO (L6 (DL l[j].toInt))).size≤1000000000)=true:=AD (by omega);revert hsz;unfold L6;cases (DL l[j].toInt).lf with
  | true=>
   intro hsz;have hsz:decide (AG so+AG (FO [TH,DU (DL l[j].toInt).v])≤1000000000)=true:=hsz;have e:A2 IV.toStr (AS 0 (AK 2 [IV.str { data:=#[108,101,97,102] },IV.str (DU (Nd.v (DL (IV.toInt l[j]))))]))=[TH,DU (DL l[j].toInt).v]:=rfl;rw [DI,e,hsz];rfl
  | false=>
   intro hsz;have hsz:decide (AG so+AG (FO [lZ,DP (DL l[j].toInt).f,uE,DU (DL l[j].toInt).a,uF,DP (DL l[j].toInt).l,uD,DP (DL l[j].toInt).r])≤1000000000)=true:=hsz;have e:A2 IV.toStr (AS 0 (AK 8 [IV.str { data:=#[105,102] },IV.str (DP (Nd.f (DL (IV.toInt l[j])))),IV.str { data:=#[60,61] },IV.str (DU (Nd.a (DL (IV.toInt l[j])))),IV.str { data:=#[116,104,101,110] },IV.str (DP (Nd.l (DL (IV.toInt l[j])))),IV.str { data:=#[101,108,115,101] },IV.str (DP (Nd.r (DL (IV.toInt l[j]))))]))=[lZ,DP (DL l[j].toInt).f,uE,DU (DL l[j].toInt).a,uF,DP (DL l[j].toInt).l,uD,DP (DL l[j].toInt).r]:=rfl;rw [DJ,e,hsz];rfl
theorem Nk {d c:Int} {t:IV} (h:HM d c t=true):0≤(t.cell 0).toInt∧(t.cell 0).toInt < c∧1≤(t.cell 1).toList.length∧(t.cell 1).toList.length≤31∧∀ w∈(t.cell 1).toList,GC w.toInt=true:=by
 unfold HM GV at h;simp only [AI,B3,BW] at h;obtain ⟨h1,h2,⟨h3,h4⟩,h5,_⟩:=h;exact ⟨by omega,by omega,AN h3,AN h4,Dy h5⟩
theorem Nm {d c:Int} {t:IV} (hc:c≤3) (h:HM d c t=true):(∀ l∈TE t,l.length≤8∧∀ w∈l,w.size≤100)∧(TE t).length≤32:=by
 obtain ⟨h1,h2,h3,h4,h5⟩:=Nk h;constructor
 ·intro l hl;unfold TE at hl;rcases AP.1 hl with rfl | hl
  ·refine ⟨by simp,fun w hw=>?_⟩;simp only [AP,BX,CP] at hw;rcases hw with rfl | rfl | rfl
   ·decide
   ·exact XC (by unfold ED; omega)
   ·exact XC (by unfold ED; simp only [ic]; omega)
  ·unfold HY at hl;obtain ⟨w,hw,rfl⟩:=CI.1 hl;exact Du (Dt (h5 w hw))
 ·unfold TE HY;rw [AM,BG];omega
abbrev Pa (ts:LI) (i:Int) (so:BA):St:=
 ⟨[(2,(.str { data:=#[] })),(3,(.ptr 3 0 0)),(43,(.list true [.z,(.list false [(.int .u64)])] ts)),(44,(.int .i64 (ic ts.length))),(45,(.int .i64 i))],[(3,(some (.bld so)))]⟩
theorem Nq (N:Nat) (hN:40≤N) (d c:Int) (hc:c≤3) (ts:LI) (hl:ts.length≤8) (ht:ts.all (HM d c)=true) (K:Out→St→DO):∀ (m i n:Nat) (so:BA),i+m=ts.length→m < n→so.size+30000*m≤1000000000 →
  DY (IK N) (DK KO [1,1,1,1,1,1,1,0,1,0,0]) ⟨[2,3,43,44,45],[3],[]⟩ n (Pa ts (i:Int) so) K =
   K (.exit 2) (Pa ts (ic ts.length) (so++F5 (GP (ts.drop i))))
 | m,i,0,_,_,h,_=>absurd h (by omega)
 | 0,i,n+1,so,hd,_,_=>by
  have hi:i=ts.length:=by omega
  subst hi;rw [D4,Mk,AL (show ¬ ((ts.length:Nat):Int) < ic ts.length by simp only [ic]; omega),DJ,vaD];have e:so++F5 (GP [])=so:=by
   show so++CK=so;rw [ByteArray.append_empty]
  rw [e]
 | m+1,i,n+1,so,hd,hn,hz=>by
  have hil:i < ts.length:=by omega
  have ei:AA AB ((i:Int)+1)=((i+1:Nat):Int):=by
   rw [EH (by omega) (by omega)];omega
  have hg:ts.getD (AE (i:Int)) default=ts[i]:=by
   rw [BF,BV,A8 hil];rfl
  have hok:=CR.1 ht ts[i] (CX hil);have hw:=Nm hc hok;have hts:=tQ _ hw.1;obtain ⟨h1,h2,h3,h4,h5⟩:=Nk hok;have hh:∀ w∈[OH,DP (ts[i].cell 0).toInt,DP (ic (ts[i].cell 1).toList.length)],w.size≤100:=(hw.1 _ (by unfold TE; exact AO ..)).2;have hls:=fA _ (by simp) hh;have e:A2 IV.toStr (AS 0 (AK 3 [IV.str { data:=#[116,114,101,101] },IV.str (DP (IV.toInt (IV.cell ts[i] 0))),IV.str (DP (ic (AF (IV.toList (IV.cell ts[i] 1)))))]))=[OH,DP (ts[i].cell 0).toInt,DP (ic (ts[i].cell 1).toList.length)]:=rfl;have el:B6 (AF (AS 0 (AK 3 [IV.str { data:=#[116,114,101,101] },IV.str (DP (IV.toInt (IV.cell ts[i] 0))),IV.str (DP (ic (AF (IV.toList (IV.cell ts[i] 1)))))]))) 1000=true:=rfl;rw [D4,Mk,hg,e,el,AD (show (i:Int) < ic ts.length by simp only [ic]; omega),DI,AD (show (0:Int)≤(i:Int) by omega),B4,DI,
   AD (show so.size+(FO [OH,DP (ts[i].cell 0).toInt,DP (ic (ts[i].cell 1).toList.length)]).size≤1000000000 by omega),B4,DI]
  refine (Ed N ts (i:Int) (ts[i].cell 1).toList h4 h5 _ (ts[i].cell 1).toList.length 0 N (so++FO [OH,DP (ts[i].cell 0).toInt,DP (ic (ts[i].cell 1).toList.length)]) (by omega) (by omega) (by rw [AU]; omega)).trans ?_;rw [Yq,ei,BY,BE hil];have hr:F5 (GP (ts[i] :: ts.drop (i+1)))=(FO [OH,DP (ts[i].cell 0).toInt,DP (ic (ts[i].cell 1).toList.length)]++F5 (HY (ts[i].cell 1).toList))++F5 (GP (ts.drop (i+1))):=by
   rw [GP,tO];rfl
  rw [hr,← C7 (a:=so),← C7 (a:=so)];have hsz:(FO [OH,DP (ts[i].cell 0).toInt,DP (ic (ts[i].cell 1).toList.length)]++F5 (HY (ts[i].cell 1).toList)).size≤26000:=by
   have:F5 (TE ts[i])=FO [OH,DP (ts[i].cell 0).toInt,DP (ic (ts[i].cell 1).toList.length)]++F5 (HY (ts[i].cell 1).toList):=rfl
   rw [← this]
   have:=hw.2
   omega
  exact Nq N hN d c hc ts hl ht K m (i+1) n _ (by omega) (by omega) (by rw [C7,AU]; omega)
abbrev aJ (d c b0 b1 b2:Int) (ts:LI) (C:Nat) (so:BA) (ws:LI) (n:Nat) (i:Int):St:=
 ⟨[(1,(.ptr 1 0 0)),(2,(.str { data:=#[] })),(3,(.ptr 3 0 0)),(4,(.row 500 0 n)),(28,(.bview 1 2 3 1 C)),(29,(.int .i64 (ic C))),(30,(.int .i64 i))],[(1,(some (.box [(.int .i64 d),(.int .i64 c),(.int .i64 b0),(.int .i64 b1),(.int .i64 b2),(.list true [.z,(.list false [(.int .u64)])] ts)]))),(3,(some (.bld so))),(500,(some (.row true 9 false [.str] ws)))]⟩
theorem mC (N:Nat) (d c b0 b1 b2:Int) (ts:LI) (C:Nat) (so:BA) (ws:LI) (n i:Nat) (b:Int) (hi:i < C) (hn:n≤10) (h:(i=0∧b=b0)∨(i=1∧b=b1)∨(i=2∧b=b2)) (again:St→DO) (k:Out→St→DO) :
  EZ (IK N) (DK KO [1,1,1,1,1,0,1,0,0]) (aJ d c b0 b1 b2 ts C so ws n (i:Int)) (EN again ⟨[1,2,3,4,28,29,30],[1,3,500],[⟨.tmp 4,500,9,false,[.str]⟩]⟩ k) =
   again (aJ d c b0 b1 b2 ts C so (ws.take n++[.str (DU b)]) (n+1) ((i+1:Nat):Int)):=by
 rw [lM];have ei:AA AB ((i:Int)+1)=((i+1:Nat):Int):=by
  rw [EH (by omega) (by omega)];omega
 have eb:TI.bytes (Env.tyd (IK N) 9)=16:=rfl;have e1:∀ x:IV,AF (AS 0 (AK 1 [x]))=1:=fun x=>rfl
 rw [ei,eb,e1,e1,e1,AD (show (i:Int) < ic C by simp only [ic]; omega),DI,DI,AD (show (n+1)*16≤EE by unfold EE; omega)];rcases h with ⟨rfl,rfl⟩ | ⟨rfl,rfl⟩ | ⟨rfl,rfl⟩ <;> rfl
theorem zjt (N:Nat) (hN:10≤N) (d b0 b1 b2:Int) (ts:LI) (C:Nat) (h1:1≤C) (h3:C≤3) (so:BA) (K:Out→St→DO) :
  DY (IK N) (DK KO [1,1,1,1,1,0,1,0,0]) ⟨[1,2,3,4,28,29,30],[1,3,500],[⟨.tmp 4,500,9,false,[.str]⟩]⟩ N (aJ d (C:Int) b0 b1 b2 ts C so [.str I7] 1 0) K =
   K (.exit 0) (aJ d (C:Int) b0 b1 b2 ts C so ((I7 :: (([b0,b1,b2].take C).map DU)).map IV.str) (1+C) (C:Int)):=by
 obtain ⟨M,rfl⟩:∃ M,N=M+4:=⟨N - 4,by omega⟩;have e0:aJ d (C:Int) b0 b1 b2 ts C so [.str I7] 1 0=aJ d (C:Int) b0 b1 b2 ts C so [.str I7] 1 ((0:Nat):Int):=rfl;rw [e0,D4,mC (M+4) d (C:Int) b0 b1 b2 ts C so _ 1 0 b0 (by omega) (by omega) (by simp)]
 match C,h1,h3 with
 | 1,_,_=>
  rw [D4,lM,AL (show ¬ ((0+1:Nat):Int) < ic 1 by decide),DJ];rfl
 | 2,_,_=>
  rw [D4,mC (M+4) d _ b0 b1 b2 ts 2 so _ _ 1 b1 (by omega) (by omega) (by simp),D4,lM,AL (show ¬ ((1+1:Nat):Int) < ic 2 by decide),DJ];rfl
 | 3,_,_=>
  rw [D4,mC (M+4) d _ b0 b1 b2 ts 3 so _ _ 1 b1 (by omega) (by omega) (by simp),D4,mC (M+4) d _ b0 b1 b2 ts 3 so _ _ 2 b2 (by omega) (by omega) (by simp),D4,lM,AL (show ¬ ((2+1:Nat):Int) < ic 3 by decide),DJ];rfl
theorem pT {m:Md} (h:EW m=true):(1≤m.d∧m.d≤4)∧(1≤m.c∧m.c≤3)∧m.ts.length≤8∧(HV m.c 0 m.b0=true∧HV m.c 1 m.b1=true∧HV m.c 2 m.b2=true)∧m.ts.all (HM m.d m.c)=true:=by
 unfold EW at h;simp only [AI,B3,BW] at h;obtain ⟨⟨h1,h2,h3,h4,h5⟩,⟨h6,h7,h8⟩,h9⟩:=h;exact ⟨⟨by omega,by omega⟩,⟨by omega,by omega⟩,AN h5,⟨h6,h7,h8⟩,h9⟩
theorem mU {c j b:Int} (h:HV c j b=true):(-2147483648≤b∧b≤2147483647)∧(c≤j→b=0):=by
 unfold HV at h;rw [AI] at h;refine ⟨oK h.1,fun hj=>?_⟩
 have:=h.2
 rw [AD (show j≥c from hj)] at this;simpa using this
theorem Ba {m:Md} (h:EW m=true):∀ l∈SX m,l.length≤8∧∀ w∈l,w.size≤100:=by
 obtain ⟨hd,hc,_,⟨g0,g1,g2⟩,_⟩:=pT h;have i0:=(mU g0).1;have i1:=(mU g1).1;have i2:=(mU g2).1;intro l hl;unfold SX at hl;simp only [AP,BX,CP] at hl;rcases hl with rfl | rfl
 ·refine ⟨by simp,fun w hw=>?_⟩;simp only [AP,BX,CP] at hw;rcases hw with rfl | rfl | rfl
  ·decide
  ·exact XC (by unfold ED; omega)
  ·exact XC (by unfold ED; omega)
 ·refine ⟨by simp only [AM,BG,BB,A6]; omega,fun w hw=>?_⟩;rcases AP.1 hw with rfl | hw
  ·decide
  ·obtain ⟨b,hb,rfl⟩:=CI.1 hw;have hb:=vaK hb;simp only [AP,BX,CP] at hb;rcases hb with rfl | rfl | rfl
   ·exact fS (by unfold ED; omega)
   ·exact fS (by unfold ED; omega)
   ·exact fS (by unfold ED; omega)
set_option maxHeartbeats 1000000 in
theorem gH:DX PR B0 20 NW:=by
 refine D6 [(44,SE),(53,MH),(55,MI),(43,OO),(56,T2),(54,dI)] [(7,⟨[1,2,3,4,28,29,30],[1,3,500],[⟨.tmp 4,500,9,false,[.str]⟩]⟩),(13,⟨[2,3,43,44,45],[3],[]⟩),(17,⟨[2,3,43,44,45,59,60,61],[3],[]⟩)] NW [[.str]] Tryz.func20 zbI ⟨sT,Z6,Z7,gG,sU,zib,trivial⟩ ?_;intro vs r hwf h;unfold NW at h;split at h
 ·rename_i d c b0 b1 b2 ts;refine ⟨40,?_⟩;rw [R.get_ok] at h;rw [← h];refine (zeA 40 d c b0 b1 b2 ts).trans ?_;unfold FH;cases hm:EW ⟨d,c,b0,b1,b2,ts⟩ with
  | false=>rfl
  | true=>
   obtain ⟨hd,hc,hl,_,ht⟩:=pT hm;simp only at hd hc hl ht;have hh:=Ba hm;have hh1:=hh _ (List.mem_cons_self ..);have hh2:=hh _ (List.mem_cons_of_mem _ (List.mem_cons_self ..));have z1:=fA _ hh1.1 hh1.2;have z2:=fA _ hh2.1 hh2.2;obtain ⟨C,rfl⟩:∃ C:Nat,c=(C:Int):=⟨c.toNat,by omega⟩;have e1:List.map IV.toStr (List.drop 0 (List.take 3 [IV.str { data:=#[102,111,114,101,115,116] },IV.str (DP d),IV.str (DP (C:Int))]))=[NP,DP d,DP (C:Int)]:=rfl;have e2:Nat.ble (List.length (List.drop 0 (List.take 3 [IV.str { data:=#[102,111,114,101,115,116] },IV.str (DP d),IV.str (DP (C:Int))]))) 1000=true:=rfl;have e3:ByteArray.size ByteArray.empty=0:=rfl;have z1:(FO [NP,DP d,DP (C:Int)]).size≤809:=z1;rw [Bool.not_true,DJ,DI,e1,e2,e3,decide_eq_true (show 0+(FO [NP,DP d,DP (C:Int)]).size≤1000000000 by omega),Bool.and_self,DI,decide_eq_true (show (0:Int)≤(C:Int) by omega),decide_eq_true (show (C:Int)≤ic 3 by simp only [ic]; omega),Bool.and_self,DI,Int.toNat_natCast,ByteArray.empty_append];refine (zjt 40 (by omega) d b0 b1 b2 ts C (by omega) (by omega) (FO [NP,DP d,DP (C:Int)]) _).trans ?_;rw [Yo];have e4:List.map IV.toStr (List.drop 0 (List.take (1+C) ((I7 :: (([b0,b1,b2].take C).map DU)).map IV.str)))=I7 :: (([b0,b1,b2].take C).map DU):=by
    match C,hc with
    | 0,hc=>exact absurd hc.1 (by decide)
    | 1,_=>rfl
    | 2,_=>rfl
    | 3,_=>rfl
    | C+4,hc=>exact absurd hc.2 (by omega)
   have e5:Nat.ble (List.length (List.drop 0 (List.take (1+C) ((I7 :: (([b0,b1,b2].take C).map DU)).map IV.str)))) 1000=true:=by
    apply Nat.ble_eq_true_of_le;rw [List.length_drop,List.length_take];omega
   have z2:(FO (I7 :: (([b0,b1,b2].take C).map DU))).size≤809:=by
    have:(([b0,b1,b2].take (C:Int).toNat).map DU)=(([b0,b1,b2].take C).map DU):=by rw [Int.toNat_natCast]
    rw [← this];exact z2
   rw [e4,e5,decide_eq_true (show (FO [NP,DP d,DP (C:Int)]).size+(FO (I7 :: (([b0,b1,b2].take C).map DU))).size≤1000000000 by omega),Bool.and_self,DI];refine (Nq 40 (by omega) d (C:Int) (by omega) ts hl ht _ ts.length 0 40 _ (by omega) (by omega) (by rw [ByteArray.size_append]; omega)).trans ?_;rw [Yp,List.drop_zero];have e6:F5 (L3 ⟨d,(C:Int),b0,b1,b2,ts⟩)=FO [NP,DP d,DP (C:Int)]++FO (I7 :: (([b0,b1,b2].take C).map DU))++F5 (GP ts):=by
    show F5 (SX ⟨d,(C:Int),b0,b1,b2,ts⟩++GP ts)=_;rw [tO];show FO [NP,DP d,DP (C:Int)]++(FO (I7 :: (([b0,b1,b2].take (C:Int).toNat).map DU))++ByteArray.empty)++F5 (GP ts)=_;rw [ByteArray.append_empty,Int.toNat_natCast]
   rw [e6]
 ·simp [R.get] at h
open Go Go.Proofs
def HN (N:Nat):Env:=D5 [(46,M5),(47,SF),(20,NW),(49,WL),(48,WM),(52,dJ),(51,WN),(50,WO)] [(6,⟨[0,2,3,4,6,7,28,29],[2,6,15],[]⟩),(10,⟨[0,2,3,4,6],[2,6,15,500],[⟨.cell 6 5,500,88,true,[.z,.list false [.int .u64]]⟩]⟩),(14,⟨[0,2,3,4,6,10,61,62],[2,6,10,15,500,501],[⟨.cell 6 5,500,88,true,[.z,.list false [.int .u64]]⟩,⟨.cell 10 1,501,103,false,[.int .u64]⟩]⟩)] 88 N
abbrev VY (s0:BA) (b3:Bool) (l7:LI) (x28 x29 u01 u02 u03 u04 u05 u06 u07 u08 u09 u0a:Int) (u00:LI):St:=⟨[(0,(.str s0)),(2,(.ptr 2 0 0)),(3,(.bool b3)),(4,(.ptr 15 0 0)),(6,(.ptr 6 0 0)),(7,(.list false [.str] l7)),(28,(.i x28)),(29,(.i x29))],[(2,(some (.box [.i u01,.i u02,.i u03,.i u04,.i u05,.zs]))),(6,(some (.box [.i u06,.i u07,.i u08,.i u09,.i u0a,.zs]))),(15,(some (.box [.list false [.str] u00])))]⟩
abbrev YI (s0:BA) (b3:Bool) (u03 u04 u05 u06 u07 u08 u09 u0a u0b u0c:Int) (u02:Nat) (u00 u01:LI):St:=⟨[(0,(.str s0)),(2,(.ptr 2 0 0)),(3,(.bool b3)),(4,(.ptr 15 0 0)),(6,(.ptr 6 0 0))],[(2,(some (.box [.i u03,.i u04,.i u05,.i u06,.i u07,.zs]))),(6,(some (.box [.i u08,.i u09,.i u0a,.i u0b,.i u0c,.row 500 0 u02]))),(15,(some (.box [.list false [.str] u00]))),(500,(some (.row true 88 true [.z,.list false [.int .u64]] u01)))]⟩
abbrev aP (s0:BA) (b3:Bool) (x61 x62 u06 u07 u08 u09 u0a u0b u0c u0d u0e u0f:Int) (u04:Nat) (u05:Int) (u03:Nat) (u00 u01 u02:LI):St:=⟨[(0,(.str s0)),(2,(.ptr 2 0 0)),(3,(.bool b3)),(4,(.ptr 15 0 0)),(6,(.ptr 6 0 0)),(10,(.ptr 10 0 0)),(61,(.i x61)),(62,(.i x62))],[(2,(some (.box [.i u06,.i u07,.i u08,.i u09,.i u0a,.zs]))),(6,(some (.box [.i u0b,.i u0c,.i u0d,.i u0e,.i u0f,.row 500 0 u04]))),(10,(some (.box [.i u05,.row 501 0 u03]))),(15,(some (.box [.list false [.str] u00]))),(500,(some (.row true 88 true [.z,.list false [.int .u64]] u01))),(501,(some (.row true 103 false [.int .u64] u02)))]⟩
theorem zez (N:Nat) (s:BA):DZ (HN N) JI [.cell 2 30,.tmp 3] [[.z,.z,.z,.z,.z,.list true [.z,.list false [.int .u64]]],[.bool]] [.str s]=(cond (decide (AG (GT s {data:=#[10]}) < 4294967281)&&decide (1≤AG {data:=#[10]})) (cond (KH (A2 IV.str (D2 (GT s {data:=#[10]}) {data:=#[10]}))) (cond (KH (AS 1 (A2 IV.str (D2 (GT s {data:=#[10]}) {data:=#[10]})))) (DY (HN N) (DK JI [1,1,1,1,1,0,1,0,0]) ⟨[0,2,3,4,6,7,28,29],[2,6,15],[]⟩ N (VY s false (EX (AS 1 (A2 IV.str (D2 (GT s {data:=#[10]}) {data:=#[10]})))) (FK (DW (EX (A2 IV.str (D2 (GT s {data:=#[10]}) {data:=#[10]}))) (AE 2)) 3) 0 0 0 0 0 0 (FK (DW (EX (A2 IV.str (D2 (GT s {data:=#[10]}) {data:=#[10]}))) (AE 1)) 4) (FK (DW (EX (A2 IV.str (D2 (GT s {data:=#[10]}) {data:=#[10]}))) (AE 2)) 3) 0 0 0 (AS 1 (AS 1 (A2 IV.str (D2 (GT s {data:=#[10]}) {data:=#[10]}))))) (DQ 0 (DS (HN N) (DK JI [1,1,1,1,1,1]) (DT (HN N) none [.cell 2 30,.tmp 3] [[.z,.z,.z,.z,.z,.list true [.z,.list false [.int .u64]]],[.bool]])))) none) none) none):=by kernel_rfl
theorem gL (N:Nat) (s0:BA) (b3:Bool) (l7:LI) (x28 x29 u01 u02 u03 u04 u05 u06 u07 u08 u09 u0a:Int) (u00:LI) (again:St→DO) (k:Out→St→DO):EZ (HN N) (DK JI [1,1,1,1,1,0,1,0,0]) (VY s0 b3 l7 x28 x29 u01 u02 u03 u04 u05 u06 u07 u08 u09 u0a u00) (EN again ⟨[0,2,3,4,6,7,28,29],[2,6,15],[]⟩ k)=(cond (decide (x29 < x28)) (cond (decide (0≤AA AB (1+x29))) (cond (decide (AG (DW l7 (AE (AA AB (1+x29)))) < 4294967281)) (cond (decide (x29=ic 0)) (again (VY s0 b3 l7 x28 (AA AB (x29+1)) u01 u02 u03 u04 u05 u06 u07 (F7 (DW l7 (AE (AA AB (1+x29))))) u09 u0a u00)) (cond (decide (x29=ic 1)) (again (VY s0 b3 l7 x28 (AA AB (x29+1)) u01 u02 u03 u04 u05 u06 u07 u08 (F7 (DW l7 (AE (AA AB (1+x29))))) u0a u00)) (cond (decide (x29=ic 2)) (again (VY s0 b3 l7 x28 (AA AB (x29+1)) u01 u02 u03 u04 u05 u06 u07 u08 u09 (F7 (DW l7 (AE (AA AB (1+x29))))) u00)) none))) none) none) (k (.exit 0) (VY s0 b3 l7 x28 x29 u01 u02 u03 u04 u05 u06 u07 u08 u09 u0a u00))):=by kernel_rfl
theorem Yl (N:Nat) (s0:BA) (b3:Bool) (l7:LI) (x28 x29 u01 u02 u03 u04 u05 u06 u07 u08 u09 u0a:Int) (u00:LI):(DQ 0 (DS (HN N) (DK JI [1,1,1,1,1,1]) (DT (HN N) none [.cell 2 30,.tmp 3] [[.z,.z,.z,.z,.z,.list true [.z,.list false [.int .u64]]],[.bool]]))) (.exit 0) (VY s0 b3 l7 x28 x29 u01 u02 u03 u04 u05 u06 u07 u08 u09 u0a u00)=(DY (HN N) (DK JI [1,1,1,1,1,1,0,0,0]) ⟨[0,2,3,4,6],[2,6,15,500],[⟨(.cell 6 5),500,88,true,[.z,.list false [.int .u64]]⟩]⟩ N (YI s0 b3 u01 u02 u03 u04 u05 u06 u07 u08 u09 u0a 0 u00 []) (DQ 2 (DS (HN N) (DK JI [1,1,1,1,1,1,1]) (DT (HN N) none [.cell 2 30,.tmp 3] [[.z,.z,.z,.z,.z,.list true [.z,.list false [.int .u64]]],[.bool]])))):=by kernel_rfl
theorem tF (N:Nat) (s0:BA) (b3:Bool) (u03 u04 u05 u06 u07 u08 u09 u0a u0b u0c:Int) (u02:Nat) (u00 u01:LI) (again:St→DO) (k:Out→St→DO):EZ (HN N) (DK JI [1,1,1,1,1,1,0,0,0]) (YI s0 b3 u03 u04 u05 u06 u07 u08 u09 u0a u0b u0c u02 u00 u01) (EN again ⟨[0,2,3,4,6],[2,6,15,500],[⟨(.cell 6 5),500,88,true,[.z,.list false [.int .u64]]⟩]⟩ k)=(cond (decide (ic (AF u00) > 0)) (cond (decide (ic (u02 - 0)≤8)) (cond (KH u00) (DY (HN N) (DK JI [1,1,1,1,1,1,0,0,0,1,0,1,1,0,1,0,0]) ⟨[0,2,3,4,6,10,61,62],[2,6,10,15,500,501],[⟨(.cell 6 5),500,88,true,[.z,.list false [.int .u64]]⟩,⟨(.cell 10 1),501,103,false,[.int .u64]⟩]⟩ N (aP s0 b3 (FK (DW (EX u00) (AE 2)) 31) 0 u03 u04 u05 u06 u07 u08 u09 u0a u0b u0c u02 (FK (DW (EX u00) (AE 1)) 3) 0 (AS 1 u00) u01 []) (DQ 4 (DS (HN N) (DK JI [1,1,1,1,1,1,0,0,0,1,0,1,1,1]) (DQ 3 (EN again ⟨[0,2,3,4,6],[2,6,15,500],[⟨(.cell 6 5),500,88,true,[.z,.list false [.int .u64]]⟩]⟩ k))))) none) (k (.exit 2) (YI s0 b3 u03 u04 u05 u06 u07 u08 u09 u0a u0b u0c u02 u00 u01))) (k (.exit 2) (YI s0 b3 u03 u04 u05 u06 u07 u08 u09 u0a u0b u0c u02 u00 u01))):=by kernel_rfl
theorem Mj (N:Nat) (s0:BA) (b3:Bool) (x61 x62 u06 u07 u08 u09 u0a u0b u0c u0d u0e u0f:Int) (u04:Nat) (u05:Int) (u03:Nat) (u00 u01 u02:LI) (again:St→DO) (k:Out→St→DO):EZ (HN N) (DK JI [1,1,1,1,1,1,0,0,0,1,0,1,1,0,1,0,0]) (aP s0 b3 x61 x62 u06 u07 u08 u09 u0a u0b u0c u0d u0e u0f u04 u05 u03 u00 u01 u02) (EN again ⟨[0,2,3,4,6,10,61,62],[2,6,10,15,500,501],[⟨(.cell 6 5),500,88,true,[.z,.list false [.int .u64]]⟩,⟨(.cell 10 1),501,103,false,[.int .u64]⟩]⟩ k)=(cond (decide (x62 < x61)) (cond (KH u00) (cond (decide ((u03+AF (AS 0 (AK 1 [IV.int (IY (NJ (EX u00)))])))*TI.bytes (Env.tyd (HN N) 103)≤EE)) (again (aP s0 b3 x61 (AA AB (x62+1)) u06 u07 u08 u09 u0a u0b u0c u0d u0e u0f u04 u05 (u03+AF (AS 0 (AK 1 [IV.int (IY (NJ (EX u00)))]))) (AS 1 u00) u01 (AK u03 u02++AS 0 (AK 1 [IV.int (IY (NJ (EX u00)))])))) none) none) (k (.exit 4) (aP s0 b3 x61 x62 u06 u07 u08 u09 u0a u0b u0c u0d u0e u0f u04 u05 u03 u00 u01 u02))):=by kernel_rfl
theorem Ym (N:Nat) (s0:BA) (b3:Bool) (u03 u04 u05 u06 u07 u08 u09 u0a u0b u0c:Int) (u02:Nat) (u00 u01:LI):(DQ 2 (DS (HN N) (DK JI [1,1,1,1,1,1,1]) (DT (HN N) none [.cell 2 30,.tmp 3] [[.z,.z,.z,.z,.z,.list true [.z,.list false [.int .u64]]],[.bool]]))) (.exit 2) (YI s0 b3 u03 u04 u05 u06 u07 u08 u09 u0a u0b u0c u02 u00 u01)=(cond (AW s0==AW {data:=#[]}) (some ((.tup [.agg [.i 0,.i 0,.i 0,.i 0,.i 0,.list true [.z,.list false [.int .u64]] []],.bool false]),[])) (cond (!AW (FH {d:=u08,c:=u09,b0:=u0a,b1:=u0b,b2:=u0c,ts:=AS 0 (AK u02 u01)})==AW s0) (some ((.tup [.agg [.i 0,.i 0,.i 0,.i 0,.i 0,.list true [.z,.list false [.int .u64]] []],.bool false]),[])) (some ((.tup [.agg [.i u08,.i u09,.i u0a,.i u0b,.i u0c,.list true [.z,.list false [.int .u64]] (AS 0 (AK u02 u01))],.bool true]),[])))):=by kernel_rfl
theorem Yn (N:Nat) (again:St→DO) (k:Out→St→DO) (s0:BA) (b3:Bool) (x61 x62 u06 u07 u08 u09 u0a u0b u0c u0d u0e u0f:Int) (u04:Nat) (u05:Int) (u03:Nat) (u00 u01 u02:LI):(DQ 4 (DS (HN N) (DK JI [1,1,1,1,1,1,0,0,0,1,0,1,1,1]) (DQ 3 (EN again ⟨[0,2,3,4,6],[2,6,15,500],[⟨(.cell 6 5),500,88,true,[.z,.list false [.int .u64]]⟩]⟩ k)))) (.exit 4) (aP s0 b3 x61 x62 u06 u07 u08 u09 u0a u0b u0c u0d u0e u0f u04 u05 u03 u00 u01 u02)=(cond (decide ((u04+AF (AS 0 (AK 1 [IV.agg [IV.int u05,IV.list (AS 0 (AK u03 u02))]])))*TI.bytes (Env.tyd (HN N) 88)≤EE)) (again (YI s0 b3 u06 u07 u08 u09 u0a u0b u0c u0d u0e u0f (u04+AF (AS 0 (AK 1 [IV.agg [IV.int u05,IV.list (AS 0 (AK u03 u02))]]))) u00 (AK u04 u01++AS 0 (AK 1 [IV.agg [IV.int u05,IV.list (AS 0 (AK u03 u02))]])))) none):=by kernel_rfl
open Go Go.Proofs
theorem y4 (s:BA) {most:Int} (h:0≤most):0≤FK s most∧FK s most≤most:=by
 unfold FK;cases ha:KM s <;> cases h1:decide (FF s < 0) <;> cases h2:decide (FF s > most)
 all_goals simp only [A3,A7,B4,B2,vaf,BJ,A9]
 all_goals first
  | exact ⟨by omega,by omega⟩
  | (have h1:=BH h1; have h2:=BH h2; omega)
theorem gP (s t:BA):(GT s t).size≤s.size:=by
 unfold GT;cases SW s t with
 | true=>
  rw [DI,vbf];omega
 | false=>exact AZ _
theorem zcB {s:BA} (h:s.size < 4294967281):KH (UT s)=true:=by
 unfold KH UT;rw [CR];intro x hx;obtain ⟨w,hw,rfl⟩:=CI.1 hx
 have:=(Z9 PL _ (aD s)).2 w hw
 have h2:(aD s).size≤s.size:=gP s PL;refine AD ?_;show w.size < 4294967281;omega
abbrev pA:KP:=⟨[0,2,3,4,6,7,28,29],[2,6,15],[]⟩
abbrev j5:KP:=⟨[0,2,3,4,6],[2,6,15,500],[⟨.cell 6 5,500,88,true,[.z,.list false [.int .u64]]⟩]⟩
abbrev Bu:KP:=⟨[0,2,3,4,6,10,61,62],[2,6,10,15,500,501],[⟨.cell 6 5,500,88,true,[.z,.list false [.int .u64]]⟩,⟨.cell 10 1,501,103,false,[.int .u64]⟩]⟩
abbrev aH (s:BA) (W:LI) (C i d c b0 b1 b2:Int) (L:LI):St:=
 ⟨[(0,(.str s)),(2,(.ptr 2 0 0)),(3,(.bool false)),(4,(.ptr 15 0 0)),(6,(.ptr 6 0 0)),(7,(.list false [.str] W)),(28,(.int .i64 C)),(29,(.int .i64 i))],[(2,(some (.box [(.int .i64 0),(.int .i64 0),(.int .i64 0),(.int .i64 0),(.int .i64 0),.zs]))),(6,(some (.box [(.int .i64 d),(.int .i64 c),(.int .i64 b0),(.int .i64 b1),(.int .i64 b2),.zs]))),(15,(some (.box [(.list false [.str] L)])))]⟩
theorem YV (N:Nat) (s:BA) (W:LI) (hW:∀ i,(DW W i).size < 4294967281) (C:Int) (i:Nat) (hi:(i:Int) < C) (h3:i < 3) (d c b0 b1 b2:Int) (L:LI) (again:St→DO) (k:Out→St→DO) :
  EZ (HN N) (DK JI [1,1,1,1,1,0,1,0,0]) (aH s W C (i:Int) d c b0 b1 b2 L) (EN again pA k) =
   again (aH s W C ((i+1:Nat):Int) d c (cond (BQ i 0) (F7 (DW W (1+i))) b0) (cond (BQ i 1) (F7 (DW W (1+i))) b1) (cond (BQ i 2) (F7 (DW W (1+i))) b2) L):=by
 rw [gL];have ei:AA AB ((i:Int)+1)=((i+1:Nat):Int):=by
  rw [EH (by omega) (by omega)];omega
 have ei':AA AB (1+(i:Int))=((1+i:Nat):Int):=by
  rw [EH (by omega) (by omega)];omega
 rw [ei,ei',BF,AD hi,DI,AD (show (0:Int)≤((1+i:Nat):Int) by omega),DI,AD (hW (1+i)),DI]
 match i,h3 with
 | 0,_=>rfl
 | 1,_=>rfl
 | 2,_=>rfl
theorem Ti (N:Nat) (s:BA) (LS W:LI) (hWe:W=EX (LS.drop 1)) (hW:∀ i,(DW W i).size < 4294967281) (C:Int) (h0:0≤C) (h3:C≤3) (hN:10≤N) (d c:Int) (L:LI) (K:Out→St→DO) :
  DY (HN N) (DK JI [1,1,1,1,1,0,1,0,0]) pA N (aH s W C 0 d c 0 0 0 L) K=K (.exit 0) (aH s W C C d c (LF LS C 0) (LF LS C 1) (LF LS C 2) L):=by
 obtain ⟨M,rfl⟩:∃ M,N=M+4:=⟨N - 4,by omega⟩;obtain ⟨n,rfl⟩:∃ n:Nat,C=(n:Int):=⟨C.toNat,by omega⟩;subst hWe;have e0:aH s (EX (LS.drop 1)) (n:Int) 0 d c 0 0 0 L=aH s (EX (LS.drop 1)) (n:Int) ((0:Nat):Int) d c 0 0 0 L:=rfl;rw [e0]
 match n,h3 with
 | 0,_=>
  rw [D4,gL,AL (show ¬ ((0:Nat):Int) < ((0:Nat):Int) by omega),DJ];rfl
 | 1,_=>
  rw [D4,YV (M+4) s _ hW _ 0 (by omega) (by omega),D4,gL,AL (show ¬ ((0+1:Nat):Int) < ((1:Nat):Int) by omega),DJ];rfl
 | 2,_=>
  rw [D4,YV (M+4) s _ hW _ 0 (by omega) (by omega),D4,YV (M+4) s _ hW _ 1 (by omega) (by omega),D4,gL,AL (show ¬ ((1+1:Nat):Int) < ((2:Nat):Int) by omega),DJ];rfl
 | 3,_=>
  rw [D4,YV (M+4) s _ hW _ 0 (by omega) (by omega),D4,YV (M+4) s _ hW _ 1 (by omega) (by omega),D4,YV (M+4) s _ hW _ 2 (by omega) (by omega),D4,gL,AL (show ¬ ((2+1:Nat):Int) < ((3:Nat):Int) by omega),DJ];rfl
 | n+4,h3=>exact absurd h3 (by omega)
abbrev uK (s:BA) (d c b0 b1 b2:Int) (L T:LI) (cl k j:Int) (NL:LI):St:=
 ⟨[(0,(.str s)),(2,(.ptr 2 0 0)),(3,(.bool false)),(4,(.ptr 15 0 0)),(6,(.ptr 6 0 0)),(10,(.ptr 10 0 0)),(61,(.int .i64 k)),(62,(.int .i64 j))],[(2,(some (.box [(.int .i64 0),(.int .i64 0),(.int .i64 0),(.int .i64 0),(.int .i64 0),.zs]))),(6,(some (.box [(.int .i64 d),(.int .i64 c),(.int .i64 b0),(.int .i64 b1),(.int .i64 b2),(.row 500 0 T.length)]))),(10,(some (.box [(.int .i64 cl),(.row 501 0 NL.length)]))),(15,(some (.box [(.list false [.str] L)]))),(500,(some (.row true 88 true [.z,(.list false [(.int .u64)])] T))),(501,(some (.row true 103 false [(.int .u64)] NL)))]⟩
theorem zf1 (L:LI) (j:Nat):MT L (j+1)=MT L j++[.int (IY (NJ (EX (L.drop j))))]:=by
 unfold MT;rw [List.range_succ,List.map_append];rfl
theorem fY (L:LI) (j:Nat):(MT L j).length=j:=by
 unfold MT;rw [BG,List.length_range]
theorem Ee (N:Nat) (s:BA) (d c b0 b1 b2:Int) (T L:LI) (hL:KH L=true) (cl:Int) (k:Nat) (hk:k≤31) (K:Out→St→DO):∀ (m j n:Nat),j+m=k→m < n →
  DY (HN N) (DK JI [1,1,1,1,1,1,0,0,0,1,0,1,1,0,1,0,0]) Bu n (uK s d c b0 b1 b2 (L.drop j) T cl (k:Int) (j:Int) (MT L j)) K =
   K (.exit 4) (uK s d c b0 b1 b2 (L.drop k) T cl (k:Int) (k:Int) (MT L k))
 | m,j,0,_,h=>absurd h (by omega)
 | 0,j,n+1,hd,_=>by
  have hj:j=k:=by omega
  subst hj;rw [D4,Mj,AL (show ¬ (j:Int) < (j:Int) by omega),DJ]
 | m+1,j,n+1,hd,hn=>by
  have ej:AA AB ((j:Int)+1)=((j+1:Nat):Int):=by
   rw [EH (by omega) (by omega)];omega
  have eb:TI.bytes (Env.tyd (HN N) 103)=8:=rfl;have e1:∀ x:IV,AF (AS 0 (AK 1 [x]))=1:=fun x=>rfl
  have e2:∀ x:IV,AS 0 (AK 1 [x])=[x]:=fun x=>rfl
  rw [D4,Mj,ej,eb,e1,e2,AD (show (j:Int) < (k:Int) by omega),DI,XM hL j,DI,fY,AD (show (j+1)*8≤EE by unfold EE; omega),DI];have e3:AK j (MT L j)=MT L j:=CV (by rw [fY]; omega);rw [e3,← zf1,List.drop_drop];have ih:=Ee N s d c b0 b1 b2 T L hL cl k hk K m (j+1) n (by omega) (by omega);unfold uK at ih ⊢;rw [fY] at ih;exact ih
abbrev mE (s:BA) (d c b0 b1 b2:Int) (L T:LI):St:=
 ⟨[(0,(.str s)),(2,(.ptr 2 0 0)),(3,(.bool false)),(4,(.ptr 15 0 0)),(6,(.ptr 6 0 0))],[(2,(some (.box [(.int .i64 0),(.int .i64 0),(.int .i64 0),(.int .i64 0),(.int .i64 0),.zs]))),(6,(some (.box [(.int .i64 d),(.int .i64 c),(.int .i64 b0),(.int .i64 b1),(.int .i64 b2),(.row 500 0 T.length)]))),(15,(some (.box [(.list false [.str] L)]))),(500,(some (.row true 88 true [.z,(.list false [(.int .u64)])] T)))]⟩
theorem Nr (N:Nat) (hN:40≤N) (s:BA) (d c b0 b1 b2:Int) (K:Out→St→DO):∀ (m n:Nat) (L T:LI),KH L=true→T.length+m=9→m < n →
  ∃ L',DY (HN N) (DK JI [1,1,1,1,1,1,0,0,0]) j5 n (mE s d c b0 b1 b2 L T) K=K (.exit 2) (mE s d c b0 b1 b2 L' (T++LG m L))
 | m,0,L,T,_,_,h=>absurd h (by omega)
 | m,n+1,[],T,hL,hT,hn=>by
  refine ⟨[],?_⟩;have e:LG m []=[]:=by cases m <;> rfl
  rw [D4,tF,AL (show ¬ ic (AF ([]:LI)) > 0 by decide),DJ,e,DB]
 | 0,n+1,l :: L,T,hL,hT,hn=>by
  refine ⟨l :: L,?_⟩;rw [D4,tF,AD (show ic (AF (l :: L)) > 0 by simp only [ic,AM]; omega),DI,AL (show ¬ ic (T.length - 0)≤8 by simp only [ic]; omega),DJ];show K (.exit 2) _=K (.exit 2) (mE s d c b0 b1 b2 (l :: L) (T++[]));rw [DB]
 | m+1,n+1,l :: L,T,hL,hT,hn=>by
  obtain ⟨k0,k1⟩:=y4 (DW (EX (l :: L)) 2) (most:=31) (by omega);have hk:FK (DW (EX (l :: L)) 2) 31=((MS (l :: L):Nat):Int):=by unfold MS; omega
  have hLd:=XM hL 1;have hk31:MS (l :: L)≤31:=by unfold MS; omega
  have e2:AE 2=2:=rfl;have e1:AE 1=1:=rfl;rw [D4,tF,AD (show ic (AF (l :: L)) > 0 by simp only [ic,AM]; omega),DI,AD (show ic (T.length - 0)≤8 by simp only [ic]; omega),DI,hL,DI,e2,e1,hk];have run:=Ee N s d c b0 b1 b2 T (AS 1 (l :: L)) hLd (FK (DW (EX (l :: L)) 1) 3) (MS (l :: L)) hk31
   (DQ 4 (DS (HN N) (DK JI [1,1,1,1,1,1,0,0,0,1,0,1,1,1]) (DQ 3 (EN (fun s'=>DY (HN N) (DK JI [1,1,1,1,1,1,0,0,0]) j5 n s' K) j5 K)))) (MS (l :: L)) 0 N (by omega) (by omega)
  have eb:TI.bytes (Env.tyd (HN N) 88)=32:=rfl;have e3:∀ x:IV,AF (AS 0 (AK 1 [x]))=1:=fun x=>rfl
  have e4:∀ x:IV,AS 0 (AK 1 [x])=[x]:=fun x=>rfl
  rw [Yn,eb,e3,e4,AD (show (T.length+1)*32≤EE by unfold EE; omega),DI,fY] at run;have e5:AK T.length T=T:=CV (AZ _);have e6:AS 0 (AK (MS (l :: L)) (MT (AS 1 (l :: L)) (MS (l :: L))))=MT (AS 1 (l :: L)) (MS (l :: L)):=by
   rw [BY,CV (by rw [fY]; omega)]
  rw [e5,e6] at run;obtain ⟨L',hL'⟩:=Nr N hN s d c b0 b1 b2 K m n (AS (MS (l :: L)) (AS 1 (l :: L))) (T++[ZX (l :: L)]) (XM hLd _) (by rw [AT,AM,A6]; omega) (by omega);refine ⟨L',?_⟩;have e7:T++LG (m+1) (l :: L)=T++[ZX (l :: L)]++LG m (AS (MS (l :: L)) (AS 1 (l :: L))):=by
   rw [vaI];rfl
  rw [e7,← hL'];refine Eq.trans ?_ (run.trans ?_)
  ·rfl
  ·have e8:(T++[ZX (l :: L)]).length=T.length+1:=by rw [AT]; rfl
   unfold mE;rw [e8];rfl
set_option maxHeartbeats 1000000 in
theorem zia:DX PR B0 19 dH:=by
 refine D6 [(46,M5),(47,SF),(20,NW),(49,WL),(48,WM),(52,dJ),(51,WN),(50,WO)] [(6,pA),(10,j5),(14,Bu)] dH [[.z,.z,.z,.z,.z,.list true [.z,.list false [.int .u64]]],[.bool]] Tryz.func19 zbH ⟨Z8,sX,gH,Kc,Ke,zic,Kf,Kg,trivial⟩ ?_;intro vs r hwf h;unfold dH at h;split at h
 ·rename_i s;cases hc:decide (s.size < 4294967281) with
  | false=>rw [hc] at h; simp [R.get] at h
  | true=>
   rw [hc,R.get_br,DI,R.get_ok] at h;have hs:=of_decide_eq_true hc;refine ⟨40,?_⟩;rw [← h];refine (zez 40 s).trans ?_;have hok:=zcB hs;have e0:List.map IV.str (D2 (GT s { data:=#[10] }) { data:=#[10] })=UT s:=rfl;have e1:decide (1≤ByteArray.size { data:=#[10] })=true:=rfl;have ts:=gP s PL;have e2:Int.toNat 2=2:=rfl;have e3:Int.toNat 1=1:=rfl;rw [e0,e1,e2,e3,decide_eq_true (show ByteArray.size (GT s { data:=#[10] }) < 4294967281 from Nat.lt_of_le_of_lt ts hs),Bool.and_self,DI,hok,DI,XM hok 1,DI];generalize hLS:UT s=LS at hok ⊢;obtain ⟨c0,c3⟩:=y4 (DW (EX LS) 2) (most:=3) (by omega);refine (Ti 40 s LS (EX (LS.drop 1)) rfl (pV (XM hok 1)) (FK (DW (EX LS) 2) 3) c0 c3 (by omega) (FK (DW (EX LS) 1) 4) (FK (DW (EX LS) 2) 3) (List.drop 1 (List.drop 1 LS)) _).trans ?_;rw [Yl];obtain ⟨L',hL'⟩:=Nr 40 (by omega) s (FK (DW (EX LS) 1) 4) (FK (DW (EX LS) 2) 3) (LF LS (FK (DW (EX LS) 2) 3) 0) (LF LS (FK (DW (EX LS) 2) 3) 1) (LF LS (FK (DW (EX LS) 2) 3) 2)
    (DQ 2 (DS (HN 40) (DK JI [1,1,1,1,1,1,1]) (DT (HN 40) none [(ResultVar.cell 2 30),(ResultVar.tmp 3)] [[.z,.z,.z,.z,.z,(.list true [.z,(.list false [(.int .u64)])])],[.bool]])))
    9 40 (List.drop 1 (List.drop 1 LS)) [] (XM (XM hok 1) 1) rfl (by omega)
   refine hL'.trans ?_;rw [Ym];have e4:([]:LI)++LG 9 (List.drop 1 (List.drop 1 LS))=LG 9 (LS.drop 2):=by
    rw [List.nil_append,List.drop_drop]
   have e5:List.drop 0 (List.take (([]:LI)++LG 9 (List.drop 1 (List.drop 1 LS))).length (([]:LI)++LG 9 (List.drop 1 (List.drop 1 LS))))=LG 9 (LS.drop 2):=by
    rw [List.drop_zero,List.take_of_length_le (Nat.le_refl _),e4]
   rw [e5];have e6:(⟨FK (DW (EX LS) 1) 4,FK (DW (EX LS) 2) 3,LF LS (FK (DW (EX LS) 2) 3) 0,LF LS (FK (DW (EX LS) 2) 3) 1,LF LS (FK (DW (EX LS) 2) 3) 2,LG 9 (LS.drop 2)⟩:Md)=Y2 s:=by
    unfold Y2;rw [hLS];rfl
   unfold IJ PI;rw [← e6];cases (ByteArray.toList s==ByteArray.toList YA) with
   | true=>rfl
   | false=>
    rw [DJ,Bool.not_false,Bool.true_and];cases (ByteArray.toList (FH ⟨FK (DW (EX LS) 1) 4,FK (DW (EX LS) 2) 3,LF LS (FK (DW (EX LS) 2) 3) 0,LF LS (FK (DW (EX LS) 2) 3) 1,LF LS (FK (DW (EX LS) 2) 3) 2,LG 9 (LS.drop 2)⟩)==ByteArray.toList s) <;> rfl
 ·simp [R.get] at h
open Go Go.Proofs
def Pg (N:Nat):Env:=D5 [] [] 39 N
theorem zcY (N:Nat) (u04 u01 u06 u05 u08 u07 u0a u09 u0c u0b u0e u0d q_Lo q_Hi u03:Int) (u02:Bool) (u00 dim:Int):DZ (Pg N) v6 [.cell 4 38] [[.z,.z,.z,.z,.z,.z,.z,.z,.z,.z,.z,.z,.z,.z,.z,.bool,.z]] [.agg [.i u04,.i u01,.i u06,.i u05,.i u08,.i u07,.i u0a,.i u09,.i u0c,.i u0b,.i u0e,.i u0d,.i q_Lo,.i q_Hi,.i u03,.bool u02,.i u00],.i dim]=(cond (decide (0≤dim)&&decide (dim≤ic 5)) (cond (decide (0≤dim)&&decide (dim≤ic 5)) (cond (decide (ic (min (AE dim) (AE dim))=ic 0)) (cond (u04==1) (some ((.agg [.i u04,.i u01,.i 0,.i 0,.i 0,.i 0,.i 0,.i 0,.i 0,.i 0,.i 0,.i 0,.i q_Lo,.i q_Hi,.i 0,.bool false,.i u00]),[])) (cond (u04==3) (some ((.agg [.i u04,.i u01,.i 0,.i 0,.i 0,.i 0,.i 0,.i 0,.i 0,.i 0,.i 0,.i 0,.i 0,.i 0,.i u03,.bool u02,.i u00]),[])) (some ((.agg [.i u04,.i u01,.i 0,.i 0,.i 0,.i 0,.i 0,.i 0,.i 0,.i 0,.i 0,.i 0,.i 0,.i 0,.i 0,.bool false,.i u00]),[])))) (cond (decide (ic (min (AE dim) (AE dim))=ic 1)) (cond (u04==1) (some ((.agg [.i u04,.i u01,.i u06,.i u05,.i 0,.i 0,.i 0,.i 0,.i 0,.i 0,.i 0,.i 0,.i q_Lo,.i q_Hi,.i 0,.bool false,.i u00]),[])) (cond (u04==3) (some ((.agg [.i u04,.i u01,.i u06,.i u05,.i 0,.i 0,.i 0,.i 0,.i 0,.i 0,.i 0,.i 0,.i 0,.i 0,.i u03,.bool u02,.i u00]),[])) (some ((.agg [.i u04,.i u01,.i u06,.i u05,.i 0,.i 0,.i 0,.i 0,.i 0,.i 0,.i 0,.i 0,.i 0,.i 0,.i 0,.bool false,.i u00]),[])))) (cond (decide (ic (min (AE dim) (AE dim))=ic 2)) (cond (u04==1) (some ((.agg [.i u04,.i u01,.i u06,.i u05,.i u08,.i u07,.i 0,.i 0,.i 0,.i 0,.i 0,.i 0,.i q_Lo,.i q_Hi,.i 0,.bool false,.i u00]),[])) (cond (u04==3) (some ((.agg [.i u04,.i u01,.i u06,.i u05,.i u08,.i u07,.i 0,.i 0,.i 0,.i 0,.i 0,.i 0,.i 0,.i 0,.i u03,.bool u02,.i u00]),[])) (some ((.agg [.i u04,.i u01,.i u06,.i u05,.i u08,.i u07,.i 0,.i 0,.i 0,.i 0,.i 0,.i 0,.i 0,.i 0,.i 0,.bool false,.i u00]),[])))) (cond (decide (ic (min (AE dim) (AE dim))=ic 3)) (cond (u04==1) (some ((.agg [.i u04,.i u01,.i u06,.i u05,.i u08,.i u07,.i u0a,.i u09,.i 0,.i 0,.i 0,.i 0,.i q_Lo,.i q_Hi,.i 0,.bool false,.i u00]),[])) (cond (u04==3) (some ((.agg [.i u04,.i u01,.i u06,.i u05,.i u08,.i u07,.i u0a,.i u09,.i 0,.i 0,.i 0,.i 0,.i 0,.i 0,.i u03,.bool u02,.i u00]),[])) (some ((.agg [.i u04,.i u01,.i u06,.i u05,.i u08,.i u07,.i u0a,.i u09,.i 0,.i 0,.i 0,.i 0,.i 0,.i 0,.i 0,.bool false,.i u00]),[])))) (cond (decide (ic (min (AE dim) (AE dim))=ic 4)) (cond (u04==1) (some ((.agg [.i u04,.i u01,.i u06,.i u05,.i u08,.i u07,.i u0a,.i u09,.i u0c,.i u0b,.i 0,.i 0,.i q_Lo,.i q_Hi,.i 0,.bool false,.i u00]),[])) (cond (u04==3) (some ((.agg [.i u04,.i u01,.i u06,.i u05,.i u08,.i u07,.i u0a,.i u09,.i u0c,.i u0b,.i 0,.i 0,.i 0,.i 0,.i u03,.bool u02,.i u00]),[])) (some ((.agg [.i u04,.i u01,.i u06,.i u05,.i u08,.i u07,.i u0a,.i u09,.i u0c,.i u0b,.i 0,.i 0,.i 0,.i 0,.i 0,.bool false,.i u00]),[])))) (cond (decide (ic (min (AE dim) (AE dim))=ic 5)) (cond (u04==1) (some ((.agg [.i u04,.i u01,.i u06,.i u05,.i u08,.i u07,.i u0a,.i u09,.i u0c,.i u0b,.i u0e,.i u0d,.i q_Lo,.i q_Hi,.i 0,.bool false,.i u00]),[])) (cond (u04==3) (some ((.agg [.i u04,.i u01,.i u06,.i u05,.i u08,.i u07,.i u0a,.i u09,.i u0c,.i u0b,.i u0e,.i u0d,.i 0,.i 0,.i u03,.bool u02,.i u00]),[])) (some ((.agg [.i u04,.i u01,.i u06,.i u05,.i u08,.i u07,.i u0a,.i u09,.i u0c,.i u0b,.i u0e,.i u0d,.i 0,.i 0,.i 0,.bool false,.i u00]),[])))) none)))))) none) none):=by kernel_rfl
def Pf (N:Nat):Env:=D5 [] [] 9 N
theorem zcX (N:Nat) (n:Int):DZ (Pf N) vZ [.tmp 2] [[.bool]] [.i n]=(cond (decide (n≥0)) (some ((.bool (decide (n≤1073741824))),[])) (some ((.bool false),[]))):=by kernel_rfl
def Pd (N:Nat):Env:=D5 [(90,Q0)] [] 11 N
theorem zcU (N:Nat) (s:BA):DZ (Pd N) vW [.tmp 2] [[.z]] [.str s]=(some ((.i (FF s)),[])):=by kernel_rfl
def Pe (N:Nat):Env:=D5 [(91,V8)] [] 11 N
theorem zcW (N:Nat) (s:BA):DZ (Pe N) vY [.tmp 2] [[.z]] [.str s]=(cond (decide (AG s < 4294967281)) (some ((.i (F7 s)),[])) none):=by kernel_rfl
def QZ (N:Nat):Env:=D5 [] [(2,⟨[0,1,4,7,8],[],[]⟩)] 19 N
abbrev VX (l0:LI) (s1:BA) (x4 x7 x8:Int):St:=⟨[(0,(.list false [.str] l0)),(1,(.str s1)),(4,(.i x4)),(7,(.i x7)),(8,(.i x8))],[]⟩
theorem zes (N:Nat) (s:LI) (v:BA):DZ (QZ N) UL [.tmp 4] [[.z]] [.list false [.str] s,.str v]=(DY (QZ N) (DK UL [1,0,1,0,0]) ⟨[0,1,4,7,8],[],[]⟩ N (VX s v 0 (ic (AF s)) 0) (DQ 0 (DS (QZ N) (DK UL [1,1]) (DT (QZ N) none [.tmp 4] [[.z]])))):=by kernel_rfl
theorem Mi (N:Nat) (l0:LI) (s1:BA) (x4 x7 x8:Int) (again:St→DO) (k:Out→St→DO):EZ (QZ N) (DK UL [1,0,1,0,0]) (VX l0 s1 x4 x7 x8) (EN again ⟨[0,1,4,7,8],[],[]⟩ k)=(cond (decide (x8 < x7)) (cond (decide (0≤x8)&&decide (x8 < ic (AF l0))) (cond (AW s1==AW (IV.toStr (AH l0 (AE x8) default))) (k .ret (VX l0 s1 x8 x7 x8)) (again (VX l0 s1 x4 x7 (AA AB (x8+1))))) none) (k (.exit 0) (VX l0 s1 x4 x7 x8))):=by kernel_rfl
theorem Yj (N:Nat) (l0:LI) (s1:BA) (x4 x7 x8:Int):(DQ 0 (DS (QZ N) (DK UL [1,1]) (DT (QZ N) none [.tmp 4] [[.z]]))) (.exit 0) (VX l0 s1 x4 x7 x8)=(some ((.i (-1)),[])):=by kernel_rfl
theorem Yk (N:Nat) (l0:LI) (s1:BA) (x4 x7 x8:Int):(DQ 0 (DS (QZ N) (DK UL [1,1]) (DT (QZ N) none [.tmp 4] [[.z]]))) .ret (VX l0 s1 x4 x7 x8)=(some ((.i x4),[])):=by kernel_rfl
def mI (N:Nat):Env:=D5 [(121,V1),(120,V2),(161,hU)] [] 46 N
theorem zcV (N:Nat) (l:LI):DZ (mI N) vX [.cell 2 38] [[.z,.z,.z,.z,.z,.z,.z,.z,.z,.z,.z,.z,.z,.z,.z,.bool,.z]] [.list false [.str] l]=(cond (decide (AF l≤4294967296)) (cond (decide ((AF l+AF (BN (AE 6) (IV.str {data:=#[]})))*TI.bytes (Env.tyd (mI N) 9)≤EE)) (cond (decide (0≤1)&&decide (1 < ic (AF l+AF (BN (AE 6) (IV.str {data:=#[]})) - 0))) (cond (decide (0≤0)&&decide (0 < ic (AF l+AF (BN (AE 6) (IV.str {data:=#[]})) - 0))) (cond (AW (IV.toStr (AH (AK (AF l) l++BN (AE 6) (IV.str {data:=#[]})) 0 default))==AW {data:=#[114,97,110,103,101]}) (cond (decide (0≤3)&&decide (3 < ic (AF l+AF (BN (AE 6) (IV.str {data:=#[]})) - 0))) (cond (decide (AG (IV.toStr (AH (AK (AF l) l++BN (AE 6) (IV.str {data:=#[]})) 3 default)) < 4294967281)) (cond (decide (0≤5)&&decide (5 < ic (AF l+AF (BN (AE 6) (IV.str {data:=#[]})) - 0))) (cond (decide (AG (IV.toStr (AH (AK (AF l) l++BN (AE 6) (IV.str {data:=#[]})) 5 default)) < 4294967281)) (some ((.agg [.i 1,(.i (FF (IV.toStr (AH (AK (AF l) l++BN (AE 6) (IV.str {data:=#[]})) 1 default)))),.i 0,.i 0,.i 0,.i 0,.i 0,.i 0,.i 0,.i 0,.i 0,.i 0,(.i (F7 (IV.toStr (AH (AK (AF l) l++BN (AE 6) (IV.str {data:=#[]})) 3 default)))),(.i (F7 (IV.toStr (AH (AK (AF l) l++BN (AE 6) (IV.str {data:=#[]})) 5 default)))),.i 0,.bool false,.i 0]),[])) none) none) none) none) (cond (AW (IV.toStr (AH (AK (AF l) l++BN (AE 6) (IV.str {data:=#[]})) 0 default))==AW {data:=#[98,101,115,116]}) (some ((.agg [.i 2,(.i (FF (IV.toStr (AH (AK (AF l) l++BN (AE 6) (IV.str {data:=#[]})) 1 default)))),.i 0,.i 0,.i 0,.i 0,.i 0,.i 0,.i 0,.i 0,.i 0,.i 0,.i 0,.i 0,.i 0,.bool false,.i 0]),[])) (cond (AW (IV.toStr (AH (AK (AF l) l++BN (AE 6) (IV.str {data:=#[]})) 0 default))==AW {data:=#[114,105,115,101,115]}) (cond (decide (0≤3)&&decide (3 < ic (AF l+AF (BN (AE 6) (IV.str {data:=#[]})) - 0))) (cond (decide (0≤0)&&decide (0 < ic (AF l+AF (BN (AE 6) (IV.str {data:=#[]})) - 0))) (some ((.agg [.i 3,(.i (FF (IV.toStr (AH (AK (AF l) l++BN (AE 6) (IV.str {data:=#[]})) 1 default)))),.i 0,.i 0,.i 0,.i 0,.i 0,.i 0,.i 0,.i 0,.i 0,.i 0,.i 0,.i 0,(.i (FF (IV.toStr (AH (AK (AF l) l++BN (AE 6) (IV.str {data:=#[]})) 3 default)))),(.bool (AW (IV.toStr (AH (AK (AF l) l++BN (AE 6) (IV.str {data:=#[]})) 0 default))==AW {data:=#[102,97,108,108,115]})),.i 0]),[])) none) none) (cond (AW (IV.toStr (AH (AK (AF l) l++BN (AE 6) (IV.str {data:=#[]})) 0 default))==AW {data:=#[102,97,108,108,115]}) (cond (decide (0≤3)&&decide (3 < ic (AF l+AF (BN (AE 6) (IV.str {data:=#[]})) - 0))) (cond (decide (0≤0)&&decide (0 < ic (AF l+AF (BN (AE 6) (IV.str {data:=#[]})) - 0))) (some ((.agg [.i 3,(.i (FF (IV.toStr (AH (AK (AF l) l++BN (AE 6) (IV.str {data:=#[]})) 1 default)))),.i 0,.i 0,.i 0,.i 0,.i 0,.i 0,.i 0,.i 0,.i 0,.i 0,.i 0,.i 0,(.i (FF (IV.toStr (AH (AK (AF l) l++BN (AE 6) (IV.str {data:=#[]})) 3 default)))),(.bool (AW (IV.toStr (AH (AK (AF l) l++BN (AE 6) (IV.str {data:=#[]})) 0 default))==AW {data:=#[102,97,108,108,115]})),.i 0]),[])) none) none) (some ((.agg [.i 0,(.i (FF (IV.toStr (AH (AK (AF l) l++BN (AE 6) (IV.str {data:=#[]})) 1 default)))),.i 0,.i 0,.i 0,.i 0,.i 0,.i 0,.i 0,.i 0,.i 0,.i 0,.i 0,.i 0,.i 0,.bool false,.i 0]),[])))))) none) none) none) none):=by kernel_rfl
open Go Go.Proofs
theorem zgU:DX PR B0 42 aV:=by
 refine D6 [] [] aV [[.bool]] Tryz.func42 Zt trivial ?_;intro vs r hwf h;unfold aV at h;split at h
 ·rename_i n;refine ⟨0,?_⟩;rw [← h];refine (zcX 0 n).trans ?_;simp only [R.get_ok];unfold J5
  have:decide (n≥0)=decide (0≤n):=rfl
  rw [this];cases decide (0≤n) <;> rfl
 ·simp [R.get] at h
theorem Jb:DX PR B0 121 V1:=by
 refine D6 [(90,Q0)] [] V1 [[.z]] Tryz.func121 Zq ⟨lG,trivial⟩ ?_;intro vs r hwf h;unfold V1 at h;split at h
 ·rename_i s;refine ⟨0,?_⟩;rw [← h];exact zcU 0 s
 ·simp [R.get] at h
theorem Jc:DX PR B0 120 V2:=by
 refine D6 [(91,V8)] [] V2 [[.z]] Tryz.func120 Zs ⟨Ji,trivial⟩ ?_;intro vs r hwf h;unfold V2 at h;split at h
 ·rename_i s;refine ⟨0,?_⟩;rw [← h];refine (zcW 0 s).trans ?_;simp only [R.get_br,R.get_ok,R.get_no]
 ·simp [R.get] at h
theorem zgV:DX PR B0 41 aW:=by
 refine D6 [] [] aW [[.z,.z,.z,.z,.z,.z,.z,.z,.z,.z,.z,.z,.z,.z,.z,.bool,.z]] Tryz.func41 Zu trivial ?_;intro vs r hwf h;unfold aW at h;split at h
 ·rename_i k c a0 b0 a1 b1 a2 b2 a3 b3 a4 b4 lo hi ft fl bu d;refine ⟨0,?_⟩;cases hc:(decide (0≤d)&&decide (d≤5)) with
  | false=>rw [hc] at h; simp [R.get] at h
  | true=>
   rw [hc,R.get_br,DI,R.get_ok] at h;rw [← h];refine (zcY 0 k c a0 b0 a1 b1 a2 b2 a3 b3 a4 b4 lo hi ft fl bu d).trans ?_;have e5:(decide (0≤d)&&decide (d≤ic 5))=true:=hc;rw [e5,DI,DI];simp only [AI,AQ] at hc;obtain ⟨n,rfl⟩:∃ n:Nat,d=n:=⟨d.toNat,by omega⟩;simp only [BF,Nat.min_self];unfold FU;have hn:n=0∨n=1∨n=2∨n=3∨n=4∨n=5:=by omega
   have h13:(k==1)=true→(k==3)=false:=fun h1=>by
    rw [T7] at h1 ⊢
    have:=A1 h1
    exact AL (by omega)
   generalize (k==1)=e1 at h13 ⊢;generalize (k==3)=e3 at h13 ⊢;rcases hn with rfl | rfl | rfl | rfl | rfl | rfl <;> cases e1 <;> cases e3 <;> first | rfl | exact absurd (h13 rfl) (by decide)
 ·simp [R.get] at h
theorem Bj (N:Nat) (l:LI) (s:BA) (hl:l.length≤strMax) (K:Out→St→DO)
  (hx:∀ l0 s1 x4 x7 x8,K (.exit 0) ⟨[(0,(.list false [.str] l0)),(1,(.str s1)),(4,(.int .i64 x4)),(7,(.int .i64 x7)),(8,(.int .i64 x8))],[]⟩=some (.int .i64 (-1),[]))
  (hr:∀ l0 s1 x4 x7 x8,K .ret ⟨[(0,(.list false [.str] l0)),(1,(.str s1)),(4,(.int .i64 x4)),(7,(.int .i64 x7)),(8,(.int .i64 x8))],[]⟩=some (.int .i64 x4,[])) :
  ∀ (d i n:Nat) (x4:Int),i+d=l.length→d < n →
   DY (QZ N) (DK UL [1,0,1,0,0]) ⟨[0,1,4,7,8],[],[]⟩ n ⟨[(0,(.list false [.str] l)),(1,(.str s)),(4,(.int .i64 x4)),(7,(.int .i64 (ic l.length))),(8,(.int .i64 (i:Int)))],[]⟩ K=some (.int .i64 (FY (l.drop i) s (i:Int)),[])
 | 0,i,n+1,x4,hd,hn=>by
  rw [D4,Mi,I2 (by omega),DJ,hx,CD (by omega)];rfl
 | d+1,i,n+1,x4,hd,hn=>by
  have hi:i < l.length:=by omega
  unfold strMax at hl;have ih:=Bj N l s (by unfold strMax; omega) K hx hr d (i+1) n x4 (by omega) (by omega);rw [D4,Mi,G8 hi,H7,B2,DI,DI,H6 hi,HC (by omega),BE hi];unfold FY;cases (AW s==AW (IV.toStr l[i])) with
  | true=>rw [DI,DI,hr]
  | false=>
   rw [DJ,DJ,ih];rfl
 | _,_,0,_,_,h=>by omega
theorem zh3:DX PR B0 118 dF:=by
 refine D6 [] [(2,⟨[0,1,4,7,8],[],[]⟩)] dF [[.z]] Tryz.func118 zbA trivial ?_;intro vs r hwf h;unfold dF at h;split at h
 ·rename_i l s;refine ⟨l.length+1,?_⟩;rw [← h];refine (zes (l.length+1) l s).trans ?_;simp only [R.get_ok];have hl:=(hwf (by simp [LB])).1;simp only [QN,wfL] at hl
  have:=Bj (l.length+1) l s hl.1 _ (fun l0 s1 x4 x7 x8=>Yj (l.length+1) l0 s1 x4 x7 x8) (fun l0 s1 x4 x7 x8=>Yk (l.length+1) l0 s1 x4 x7 x8) l.length 0 (l.length+1) 0 (by omega) (by omega)
  rw [BY] at this;exact this
 ·simp [R.get] at h
theorem zfs (l:LI) (i m:Nat) (x:IV) (hx:x.toStr=CK):IV.toStr (AH (l++BN m x) i default)=DW l i:=by
 unfold DW;by_cases h:i < l.length
 ·simp [AH,vag,h]
 ·have e0:(AH l i default).toStr=CK:=by simp [AH,h]; rfl
  rw [e0];by_cases h6:i - l.length < m
  ·have e:AH (l++BN m x) i default=x:=by simp [AH,vag,h,h6]
   rw [e,hx]
  ·have e:AH (l++BN m x) i default=default:=by simp [AH,vag,h,h6]
   rw [e];rfl
theorem zft (l:LI) (i:Nat):IV.toStr (AH (AK (AF l) l++BN (AE 6) (IV.str { data:=#[] })) i default)=DW l i:=by
 rw [BO];exact zfs l i _ _ rfl
theorem zgT:DX PR B0 119 aU:=by
 refine D6 [(121,V1),(120,V2),(161,hU)] [] aU [[.z,.z,.z,.z,.z,.z,.z,.z,.z,.z,.z,.z,.z,.z,.z,.bool,.z]] Tryz.func119 Zr
  ⟨Jb,Jc,zh0,trivial⟩ ?_
 intro vs r hwf h;unfold aU at h;split at h
 ·rename_i l;refine ⟨0,?_⟩;cases hc:(decide (l.length≤4294967290)&&l.all (fun x=>decide (x.toStr.size < 4294967281))) with
  | false=>rw [hc] at h; simp [R.get] at h
  | true=>
   rw [hc,R.get_br,DI,R.get_ok] at h;rw [← h];refine (zcV 0 l).trans ?_;simp only [AI,AQ,CR] at hc;obtain ⟨hl,hz⟩:=hc;have hw:∀ i,(DW l i).size < 4294967281:=fun i=>by
    unfold DW;by_cases hi:i < l.length
    ·have:AH l i default=l[i]:=by simp [hi]
     rw [this];exact hz _ (CX hi)
    ·have:AH l i default=default:=by simp [AH,hi]
     rw [this];decide
   have hb:TI.bytes (Env.tyd (mI 0) 9)=16:=by rfl
   have hr6:(BN (AE 6) (IV.str { data:=#[] })).length=6:=rfl;simp only [zft];rw [hb,hr6];have ge:∀ k:Nat,k < 6→decide ((k:Int) < ic (AF l+6 - 0))=true:=fun k hk=>AD (by simp only [ic]; omega)
   have g0:=ge 0 (by omega);have g1:=ge 1 (by omega);have g3:=ge 3 (by omega);have g5:=ge 5 (by omega);rw [AD (show AF l≤4294967296 by omega),DI,AD (show (AF l+6)*16≤EE by unfold EE; omega),DI];have n0:decide ((0:Nat)≤0)=true:=rfl;have d1:(decide (0≤1)&&decide (1 < ic (AF l+6 - 0)))=true:=by simpa using g1
   have d0:(decide (0≤0)&&decide (0 < ic (AF l+6 - 0)))=true:=by simpa using g0
   have d3:(decide (0≤3)&&decide (3 < ic (AF l+6 - 0)))=true:=by simpa using g3
   have d5:(decide (0≤5)&&decide (5 < ic (AF l+6 - 0)))=true:=by simpa using g5
   rw [d1,d0,d3,d5,AD (hw 3),AD (hw 5)];simp only [DI];unfold EK;cases ((DW l 0).toList==M0.toList) with
   | true=>rfl
   | false=>
    cases ((DW l 0).toList==OF.toList) with
    | true=>rfl
    | false=>
     cases ((DW l 0).toList==M1.toList) <;> cases ((DW l 0).toList==MB.toList) <;> rfl
 ·simp [R.get] at h
open Go Go.Proofs
def HI (N:Nat):Env:=D5 [(42,aV),(41,aW),(44,SE),(43,OO),(45,YP)] [(18,⟨[2,4,6,75,76,77],[2,500],[⟨.tmp 6,500,9,false,[.str]⟩]⟩)] 100 N
abbrev OI (s4:BA) (n6 n75:Nat) (x76 x77 u02 u03 u0a u0b u0c u0d u0e u0f u0g u0h u04 u05 u06 u07 u08:Int) (u00:Bool) (u09:Int) (u01:LI):St:=⟨[(2,(.ptr 2 0 0)),(4,(.str s4)),(6,(.row 500 0 n6)),(75,(.bview 2 2 5 2 n75)),(76,(.i x76)),(77,(.i x77))],[(2,(some (.box [.i u02,.i u03,.i u0a,.i u0b,.i u0c,.i u0d,.i u0e,.i u0f,.i u0g,.i u0h,.i u04,.i u05,.i u06,.i u07,.i u08,.bool u00,.i u09]))),(500,(some (.row true 9 false [.str] u01)))]⟩
theorem zcT (N:Nat) (u04 u01 u06 u05 u08 u07 u0a u09 u0c u0b u0e u0d q_Lo q_Hi u03:Int) (u02:Bool) (u00 a1:Int):DZ (HI N) LT [.tmp 4] [[.str]] [.agg [.i u04,.i u01,.i u06,.i u05,.i u08,.i u07,.i u0a,.i u09,.i u0c,.i u0b,.i u0e,.i u0d,.i q_Lo,.i q_Hi,.i u03,.bool u02,.i u00],.i a1]=(cond (decide (a1 < 1)) (some ((.str ({data:=#[]})),[])) (cond (decide (a1 > 4)) (some ((.str ({data:=#[]})),[])) (cond (decide (0≤a1)&&decide (a1≤5)) (cond (! (u04==Qy.k (FU {k:=u04,c:=u01,a0:=u06,b0:=u05,a1:=u08,b1:=u07,a2:=u0a,b2:=u09,a3:=u0c,b3:=u0b,a4:=u0e,b4:=u0d,lo:=q_Lo,hi:=q_Hi,ft:=u03,fl:=u02,bu:=u00} a1)&&(u01==Qy.c (FU {k:=u04,c:=u01,a0:=u06,b0:=u05,a1:=u08,b1:=u07,a2:=u0a,b2:=u09,a3:=u0c,b3:=u0b,a4:=u0e,b4:=u0d,lo:=q_Lo,hi:=q_Hi,ft:=u03,fl:=u02,bu:=u00} a1)&&(u06==Qy.a0 (FU {k:=u04,c:=u01,a0:=u06,b0:=u05,a1:=u08,b1:=u07,a2:=u0a,b2:=u09,a3:=u0c,b3:=u0b,a4:=u0e,b4:=u0d,lo:=q_Lo,hi:=q_Hi,ft:=u03,fl:=u02,bu:=u00} a1)&&(u05==Qy.b0 (FU {k:=u04,c:=u01,a0:=u06,b0:=u05,a1:=u08,b1:=u07,a2:=u0a,b2:=u09,a3:=u0c,b3:=u0b,a4:=u0e,b4:=u0d,lo:=q_Lo,hi:=q_Hi,ft:=u03,fl:=u02,bu:=u00} a1)&&(u08==Qy.a1 (FU {k:=u04,c:=u01,a0:=u06,b0:=u05,a1:=u08,b1:=u07,a2:=u0a,b2:=u09,a3:=u0c,b3:=u0b,a4:=u0e,b4:=u0d,lo:=q_Lo,hi:=q_Hi,ft:=u03,fl:=u02,bu:=u00} a1)&&(u07==Qy.b1 (FU {k:=u04,c:=u01,a0:=u06,b0:=u05,a1:=u08,b1:=u07,a2:=u0a,b2:=u09,a3:=u0c,b3:=u0b,a4:=u0e,b4:=u0d,lo:=q_Lo,hi:=q_Hi,ft:=u03,fl:=u02,bu:=u00} a1)&&(u0a==Qy.a2 (FU {k:=u04,c:=u01,a0:=u06,b0:=u05,a1:=u08,b1:=u07,a2:=u0a,b2:=u09,a3:=u0c,b3:=u0b,a4:=u0e,b4:=u0d,lo:=q_Lo,hi:=q_Hi,ft:=u03,fl:=u02,bu:=u00} a1)&&(u09==Qy.b2 (FU {k:=u04,c:=u01,a0:=u06,b0:=u05,a1:=u08,b1:=u07,a2:=u0a,b2:=u09,a3:=u0c,b3:=u0b,a4:=u0e,b4:=u0d,lo:=q_Lo,hi:=q_Hi,ft:=u03,fl:=u02,bu:=u00} a1)&&(u0c==Qy.a3 (FU {k:=u04,c:=u01,a0:=u06,b0:=u05,a1:=u08,b1:=u07,a2:=u0a,b2:=u09,a3:=u0c,b3:=u0b,a4:=u0e,b4:=u0d,lo:=q_Lo,hi:=q_Hi,ft:=u03,fl:=u02,bu:=u00} a1)&&(u0b==Qy.b3 (FU {k:=u04,c:=u01,a0:=u06,b0:=u05,a1:=u08,b1:=u07,a2:=u0a,b2:=u09,a3:=u0c,b3:=u0b,a4:=u0e,b4:=u0d,lo:=q_Lo,hi:=q_Hi,ft:=u03,fl:=u02,bu:=u00} a1)&&(u0e==Qy.a4 (FU {k:=u04,c:=u01,a0:=u06,b0:=u05,a1:=u08,b1:=u07,a2:=u0a,b2:=u09,a3:=u0c,b3:=u0b,a4:=u0e,b4:=u0d,lo:=q_Lo,hi:=q_Hi,ft:=u03,fl:=u02,bu:=u00} a1)&&(u0d==Qy.b4 (FU {k:=u04,c:=u01,a0:=u06,b0:=u05,a1:=u08,b1:=u07,a2:=u0a,b2:=u09,a3:=u0c,b3:=u0b,a4:=u0e,b4:=u0d,lo:=q_Lo,hi:=q_Hi,ft:=u03,fl:=u02,bu:=u00} a1)&&(q_Lo==Qy.lo (FU {k:=u04,c:=u01,a0:=u06,b0:=u05,a1:=u08,b1:=u07,a2:=u0a,b2:=u09,a3:=u0c,b3:=u0b,a4:=u0e,b4:=u0d,lo:=q_Lo,hi:=q_Hi,ft:=u03,fl:=u02,bu:=u00} a1)&&(q_Hi==Qy.hi (FU {k:=u04,c:=u01,a0:=u06,b0:=u05,a1:=u08,b1:=u07,a2:=u0a,b2:=u09,a3:=u0c,b3:=u0b,a4:=u0e,b4:=u0d,lo:=q_Lo,hi:=q_Hi,ft:=u03,fl:=u02,bu:=u00} a1)&&(u03==Qy.ft (FU {k:=u04,c:=u01,a0:=u06,b0:=u05,a1:=u08,b1:=u07,a2:=u0a,b2:=u09,a3:=u0c,b3:=u0b,a4:=u0e,b4:=u0d,lo:=q_Lo,hi:=q_Hi,ft:=u03,fl:=u02,bu:=u00} a1)&&(u02==Qy.fl (FU {k:=u04,c:=u01,a0:=u06,b0:=u05,a1:=u08,b1:=u07,a2:=u0a,b2:=u09,a3:=u0c,b3:=u0b,a4:=u0e,b4:=u0d,lo:=q_Lo,hi:=q_Hi,ft:=u03,fl:=u02,bu:=u00} a1)&&(u00==Qy.bu (FU {k:=u04,c:=u01,a0:=u06,b0:=u05,a1:=u08,b1:=u07,a2:=u0a,b2:=u09,a3:=u0c,b3:=u0b,a4:=u0e,b4:=u0d,lo:=q_Lo,hi:=q_Hi,ft:=u03,fl:=u02,bu:=u00} a1)&&true)))))))))))))))))) (some ((.str ({data:=#[]})),[])) (cond (!J5 u01) (some ((.str ({data:=#[]})),[])) (cond (!J5 u03) (some ((.str ({data:=#[]})),[])) (cond (!J5 u00) (some ((.str ({data:=#[]})),[])) (cond (u04==1) (cond (decide (0≤a1)&&decide (a1≤ic 5)) (DY (HI N) (DK LT [1,1,1,1,1,1,0,1,0,0]) ⟨[2,4,6,75,76,77],[2,500],[⟨(.tmp 6),500,9,false,[.str]⟩]⟩ N (OI ({data:=#[]}) 7 (AE a1) (ic (AE a1)) 0 u04 u01 u06 u05 u08 u07 u0a u09 u0c u0b u0e u0d q_Lo q_Hi u03 u02 u00 [(IV.str {data:=#[114,97,110,103,101]}),(IV.str (DP u01)),(IV.str {data:=#[102,114,111,109]}),(IV.str (DU q_Lo)),(IV.str {data:=#[116,111]}),(IV.str (DU q_Hi)),(IV.str {data:=#[105,110]})]) (DQ 1 (DS (HI N) (DK LT [1,1,1,1,1,1,1]) (DT (HI N) none [.tmp 4] [[.str]])))) none) (cond (u04==2) (cond (decide (0≤a1)&&decide (a1≤ic 5)) (DY (HI N) (DK LT [1,1,1,1,1,1,0,1,0,0]) ⟨[2,4,6,75,76,77],[2,500],[⟨(.tmp 6),500,9,false,[.str]⟩]⟩ N (OI ({data:=#[]}) 3 (AE a1) (ic (AE a1)) 0 u04 u01 u06 u05 u08 u07 u0a u09 u0c u0b u0e u0d q_Lo q_Hi u03 u02 u00 [(IV.str {data:=#[98,101,115,116]}),(IV.str (DP u01)),(IV.str {data:=#[105,110]})]) (DQ 1 (DS (HI N) (DK LT [1,1,1,1,1,1,1]) (DT (HI N) none [.tmp 4] [[.str]])))) none) (cond (u04==3) (cond u02 (cond (decide (0≤a1)&&decide (a1≤ic 5)) (DY (HI N) (DK LT [1,1,1,1,1,1,0,1,0,0]) ⟨[2,4,6,75,76,77],[2,500],[⟨(.tmp 6),500,9,false,[.str]⟩]⟩ N (OI ({data:=#[]}) 5 (AE a1) (ic (AE a1)) 0 u04 u01 u06 u05 u08 u07 u0a u09 u0c u0b u0e u0d q_Lo q_Hi u03 u02 u00 [(IV.str {data:=#[102,97,108,108,115]}),(IV.str (DP u01)),(IV.str {data:=#[98,121]}),(IV.str (DP u03)),(IV.str {data:=#[105,110]})]) (DQ 1 (DS (HI N) (DK LT [1,1,1,1,1,1,1]) (DT (HI N) none [.tmp 4] [[.str]])))) none) (cond (decide (0≤a1)&&decide (a1≤ic 5)) (DY (HI N) (DK LT [1,1,1,1,1,1,0,1,0,0]) ⟨[2,4,6,75,76,77],[2,500],[⟨(.tmp 6),500,9,false,[.str]⟩]⟩ N (OI ({data:=#[]}) 5 (AE a1) (ic (AE a1)) 0 u04 u01 u06 u05 u08 u07 u0a u09 u0c u0b u0e u0d q_Lo q_Hi u03 u02 u00 [(IV.str {data:=#[114,105,115,101,115]}),(IV.str (DP u01)),(IV.str {data:=#[98,121]}),(IV.str (DP u03)),(IV.str {data:=#[105,110]})]) (DQ 1 (DS (HI N) (DK LT [1,1,1,1,1,1,1]) (DT (HI N) none [.tmp 4] [[.str]])))) none)) (some ((.str ({data:=#[]})),[]))))))))) none))):=by kernel_rfl
theorem Lc (N:Nat) (s4:BA) (n6 n75:Nat) (x76 x77 u02 u03 u0a u0b u0c u0d u0e u0f u0g u0h u04 u05 u06 u07 u08:Int) (u00:Bool) (u09:Int) (u01:LI) (again:St→DO) (k:Out→St→DO):EZ (HI N) (DK LT [1,1,1,1,1,1,0,1,0,0]) (OI s4 n6 n75 x76 x77 u02 u03 u0a u0b u0c u0d u0e u0f u0g u0h u04 u05 u06 u07 u08 u00 u09 u01) (EN again ⟨[2,4,6,75,76,77],[2,500],[⟨(.tmp 6),500,9,false,[.str]⟩]⟩ k)=(cond (decide (x77 < x76)) (cond (decide (x77 < ic n75)) (cond (decide (x77=ic 0)) (cond (decide (AG (DU u0a)+AG {data:=#[46,46]}≤strMax)) (cond (decide (AG (DU u0a++{data:=#[46,46]})+AG (DU u0b)≤strMax)) (cond (decide ((n6+AF (AS 0 (AK 1 [IV.str (DU u0a++{data:=#[46,46]}++DU u0b)])))*TI.bytes (Env.tyd (HI N) 9)≤EE)) (again (OI s4 (n6+AF (AS 0 (AK 1 [IV.str (DU u0a++{data:=#[46,46]}++DU u0b)]))) n75 x76 (AA AB (x77+1)) u02 u03 u0a u0b u0c u0d u0e u0f u0g u0h u04 u05 u06 u07 u08 u00 u09 (AK n6 u01++AS 0 (AK 1 [IV.str (DU u0a++{data:=#[46,46]}++DU u0b)])))) none) none) none) (cond (decide (x77=ic 1)) (cond (decide (AG (DU u0c)+AG {data:=#[46,46]}≤strMax)) (cond (decide (AG (DU u0c++{data:=#[46,46]})+AG (DU u0d)≤strMax)) (cond (decide ((n6+AF (AS 0 (AK 1 [IV.str (DU u0c++{data:=#[46,46]}++DU u0d)])))*TI.bytes (Env.tyd (HI N) 9)≤EE)) (again (OI s4 (n6+AF (AS 0 (AK 1 [IV.str (DU u0c++{data:=#[46,46]}++DU u0d)]))) n75 x76 (AA AB (x77+1)) u02 u03 u0a u0b u0c u0d u0e u0f u0g u0h u04 u05 u06 u07 u08 u00 u09 (AK n6 u01++AS 0 (AK 1 [IV.str (DU u0c++{data:=#[46,46]}++DU u0d)])))) none) none) none) (cond (decide (x77=ic 2)) (cond (decide (AG (DU u0e)+AG {data:=#[46,46]}≤strMax)) (cond (decide (AG (DU u0e++{data:=#[46,46]})+AG (DU u0f)≤strMax)) (cond (decide ((n6+AF (AS 0 (AK 1 [IV.str (DU u0e++{data:=#[46,46]}++DU u0f)])))*TI.bytes (Env.tyd (HI N) 9)≤EE)) (again (OI s4 (n6+AF (AS 0 (AK 1 [IV.str (DU u0e++{data:=#[46,46]}++DU u0f)]))) n75 x76 (AA AB (x77+1)) u02 u03 u0a u0b u0c u0d u0e u0f u0g u0h u04 u05 u06 u07 u08 u00 u09 (AK n6 u01++AS 0 (AK 1 [IV.str (DU u0e++{data:=#[46,46]}++DU u0f)])))) none) none) none) (cond (decide (x77=ic 3)) (cond (decide (AG (DU u0g)+AG {data:=#[46,46]}≤strMax)) (cond (decide (AG (DU u0g++{data:=#[46,46]})+AG (DU u0h)≤strMax)) (cond (decide ((n6+AF (AS 0 (AK 1 [IV.str (DU u0g++{data:=#[46,46]}++DU u0h)])))*TI.bytes (Env.tyd (HI N) 9)≤EE)) (again (OI s4 (n6+AF (AS 0 (AK 1 [IV.str (DU u0g++{data:=#[46,46]}++DU u0h)]))) n75 x76 (AA AB (x77+1)) u02 u03 u0a u0b u0c u0d u0e u0f u0g u0h u04 u05 u06 u07 u08 u00 u09 (AK n6 u01++AS 0 (AK 1 [IV.str (DU u0g++{data:=#[46,46]}++DU u0h)])))) none) none) none) (cond (decide (x77=ic 4)) (cond (decide (AG (DU u04)+AG {data:=#[46,46]}≤strMax)) (cond (decide (AG (DU u04++{data:=#[46,46]})+AG (DU u05)≤strMax)) (cond (decide ((n6+AF (AS 0 (AK 1 [IV.str (DU u04++{data:=#[46,46]}++DU u05)])))*TI.bytes (Env.tyd (HI N) 9)≤EE)) (again (OI s4 (n6+AF (AS 0 (AK 1 [IV.str (DU u04++{data:=#[46,46]}++DU u05)]))) n75 x76 (AA AB (x77+1)) u02 u03 u0a u0b u0c u0d u0e u0f u0g u0h u04 u05 u06 u07 u08 u00 u09 (AK n6 u01++AS 0 (AK 1 [IV.str (DU u04++{data:=#[46,46]}++DU u05)])))) none) none) none) none))))) none) (k (.exit 1) (OI s4 n6 n75 x76 x77 u02 u03 u0a u0b u0c u0d u0e u0f u0g u0h u04 u05 u06 u07 u08 u00 u09 u01))):=by kernel_rfl
theorem Wk (N:Nat) (s4:BA) (n6 n75:Nat) (x76 x77 u02 u03 u0a u0b u0c u0d u0e u0f u0g u0h u04 u05 u06 u07 u08:Int) (u00:Bool) (u09:Int) (u01:LI):(DQ 1 (DS (HI N) (DK LT [1,1,1,1,1,1,1]) (DT (HI N) none [.tmp 4] [[.str]]))) (.exit 1) (OI s4 n6 n75 x76 x77 u02 u03 u0a u0b u0c u0d u0e u0f u0g u0h u04 u05 u06 u07 u08 u00 u09 u01)=(cond (decide ((n6+AF (AS 0 (AK 2 [IV.str {data:=#[98,117,100,103,101,116]},IV.str (DP u09)])))*TI.bytes (Env.tyd (HI N) 9)≤EE)) (cond (decide (AF (AS 0 (AK (n6+AF (AS 0 (AK 2 [IV.str {data:=#[98,117,100,103,101,116]},IV.str (DP u09)]))) (AK n6 u01++AS 0 (AK 2 [IV.str {data:=#[98,117,100,103,101,116]},IV.str (DP u09)]))))≤strMax)&&decide (AG (GI (A2 IV.toStr (AS 0 (AK (n6+AF (AS 0 (AK 2 [IV.str {data:=#[98,117,100,103,101,116]},IV.str (DP u09)]))) (AK n6 u01++AS 0 (AK 2 [IV.str {data:=#[98,117,100,103,101,116]},IV.str (DP u09)]))))) {data:=#[32]})≤strMax)) (some ((.str (GI (A2 IV.toStr (AS 0 (AK (n6+AF (AS 0 (AK 2 [IV.str {data:=#[98,117,100,103,101,116]},IV.str (DP u09)]))) (AK n6 u01++AS 0 (AK 2 [IV.str {data:=#[98,117,100,103,101,116]},IV.str (DP u09)]))))) {data:=#[32]})),[])) none) none):=by kernel_rfl
open Go
theorem Bp (l:List BA) (h:∀ w∈l,w.size≤100):(GI l G2).size≤101*l.length:=by
 have hs:(GI l G2).size=(Lib.join (l.map (·.data.toList)) [32]).length:=by
  show (Array.size (List.toArray _))=_;rw [C8]
 rw [hs];cases l with
 | nil=>simp [Lib.join_nil]
 | cons x r=>
  rw [A0,Lib.join_length]
  have:∀ (r:List BA),(∀ w∈r,w.size≤100)→Lib.lens (r.map (·.data.toList))≤100*r.length:=fun r=>by
   induction r with
   | nil=>intro _; simp [Lib.lens]
   | cons y r ih=>
    intro h;have h1:=h y (AO ..);rw [S8] at h1;have h2:=ih (fun w hw=>h w (AY _ hw));rw [A0,AM];simp only [Lib.lens,A0,va3] at h2 ⊢;omega
  have:=this (x :: r) h
  rw [A0] at this;simp only [AM,BG,A6] at this ⊢;omega
theorem Kr {a b:Int} (ha:ED a) (hb:ED b):(MZ a b).size≤82:=by
 unfold MZ;have h1:=(XP a ha).2;have h2:=(XP b hb).2;have h3:AG aG=2:=rfl;rw [AU,AU,h3];omega
theorem o7 {n:Int} (h:ED n):(DP n).size≤21:=ZI h.1 h.2
structure Qy.In (q:Qy):Prop where
 k:ED q.k
 c:ED q.c
 a0:ED q.a0
 b0:ED q.b0
 a1:ED q.a1
 b1:ED q.b1
 a2:ED q.a2
 b2:ED q.b2
 a3:ED q.a3
 b3:ED q.b3
 a4:ED q.a4
 b4:ED q.b4
 lo:ED q.lo
 hi:ED q.hi
 ft:ED q.ft
 bu:ED q.bu
open Go Go.Proofs
abbrev m6 (q:Qy):Ob:=.box [.int .i64 q.k,.int .i64 q.c,.int .i64 q.a0,.int .i64 q.b0,.int .i64 q.a1,.int .i64 q.b1,.int .i64 q.a2,.int .i64 q.b2,.int .i64 q.a3,.int .i64 q.b3,.int .i64 q.a4,.int .i64 q.b4,.int .i64 q.lo,.int .i64 q.hi,.int .i64 q.ft,.bool q.fl,.int .i64 q.bu]
abbrev lK (q:Qy) (s4:BA) (W:LI) (D:Nat) (i:Int):St:=⟨[(2,(.ptr 2 0 0)),(4,(.str s4)),(6,(.row 500 0 W.length)),(75,(.bview 2 2 5 2 D)),(76,(.int .i64 (ic D))),(77,(.int .i64 i))],[(2,(some (m6 q))),(500,(some (.row true 9 false [.str] W)))]⟩
theorem Mv (N:Nat):TI.bytes (Env.tyd (HI N) 9)=16:=by rfl
theorem zfK (N:Nat) (q:Qy) (hq:q.In) (s4:BA) (W:LI) (hW:W.length≤20) (hs:∀ w∈W,w.toStr.size≤100) (D:Nat) (i:Int) :
  (DQ 1 (DS (HI N) (DK LT [1,1,1,1,1,1,1]) (DT (HI N) none [(CF 4)] [[.str]]))) (.exit 1) (lK q s4 W D i)=some (.str (GI (W.map IV.toStr++[VG,DP q.bu]) G2),[]):=by
 refine (Wk N s4 W.length D (ic D) i q.k q.c q.a0 q.b0 q.a1 q.b1 q.a2 q.b2 q.a3 q.b3 q.a4 q.b4 q.lo q.hi q.ft q.fl q.bu W).trans ?_;have e2:(AS 0 (AK 2 [IV.str { data:=#[98,117,100,103,101,116] },IV.str (DP q.bu)]))=[IV.str { data:=#[98,117,100,103,101,116] },IV.str (DP q.bu)]:=rfl;rw [Mv,e2,BO];have e3:AS 0 (AK (W.length+AF [IV.str { data:=#[98,117,100,103,101,116] },IV.str (DP q.bu)]) (W++[IV.str { data:=#[98,117,100,103,101,116] },IV.str (DP q.bu)]))=W++[IV.str { data:=#[98,117,100,103,101,116] },IV.str (DP q.bu)]:=by
  rw [BY,CV (by simp)]
 rw [e3];have e4:A2 IV.toStr (W++[IV.str { data:=#[98,117,100,103,101,116] },IV.str (DP q.bu)])=W.map IV.toStr++[VG,DP q.bu]:=by simp [IV.toStr]
 rw [e4];have hz:=Bp (W.map IV.toStr++[VG,DP q.bu]) (fun w hw=>by
  rcases AX.1 hw with h | h
  ·obtain ⟨x,hx,rfl⟩:=CI.1 h;exact hs x hx
  ·simp only [AP,BX,CP] at h;rcases h with rfl | rfl
   ·decide
   ·have:=o7 hq.bu
    omega)
 simp only [AT,BG,AM,A6] at hz ⊢;rw [AD (show (W.length+(0+1+1))*16≤EE by unfold EE; omega),DI,AD (show W.length+(0+1+1)≤strMax by unfold strMax; omega),
  AD (show AG (GI (W.map IV.toStr++[VG,DP q.bu]) { data:=#[32] })≤strMax from C1 hz (by unfold strMax; omega)),B2,DI]
def lH (a b:Int):IV:=.str (MZ a b)
theorem zfM (N:Nat) (q:Qy) (s4:BA) (W:LI) (hW:W.length≤20) (D i:Nat) (hiD:i < D) (a b:Int) (again:St→DO) (k:Out→St→DO) (ha:ED a) (hb:ED b)
  (hab:(i=0∧a=q.a0∧b=q.b0)∨(i=1∧a=q.a1∧b=q.b1)∨(i=2∧a=q.a2∧b=q.b2)∨(i=3∧a=q.a3∧b=q.b3)) :
  EZ (HI N) (DK LT [1,1,1,1,1,1,0,1,0,0]) (lK q s4 W D (i:Int)) (EN again ⟨[2,4,6,75,76,77],[2,500],[⟨.tmp 6,500,9,false,[.str]⟩]⟩ k)=again (lK q s4 (W++[lH a b]) D ((i+1:Nat):Int)):=by
 refine (Lc N s4 W.length D (ic D) i q.k q.c q.a0 q.b0 q.a1 q.b1 q.a2 q.b2 q.a3 q.b3 q.a4 q.b4 q.lo q.hi q.ft q.fl q.bu W again k).trans ?_;have d1:decide ((i:Int) < ic D)=true:=AD (by simp only [ic]; omega);rw [d1,DI,DI];have h3:AG { data:=#[46,46] }=2:=rfl;have sz:∀ x y:Int,ED x→ED y→decide (AG (DU x)+AG { data:=#[46,46] }≤strMax)=true∧decide (AG (DU x++{ data:=#[46,46] })+AG (DU y)≤strMax)=true:=fun x y hx hy=>by
  have h1:=(XP x hx).2;have h2:=(XP y hy).2;refine ⟨AD (by rw [h3]; unfold strMax; omega),AD (by rw [AU,h3]; unfold strMax; omega)⟩
 have e1:∀ x:IV,(AS 0 (AK 1 [x]))=[x]:=fun _=>rfl
 have g16:∀ x:IV,decide ((W.length+AF [x])*TI.bytes (Env.tyd (HI N) 9)≤EE)=true:=fun x=>AD (by rw [Mv]; simp only [AM,A6]; unfold EE; omega)
 have hl:∀ x:IV,W.length+AF [x]=(W++[x]).length:=fun x=>by simp
 obtain ⟨s1,s2⟩:=sz a b ha hb;simp only [e1,g16,DI,BO];rcases hab with ⟨rfl,rfl,rfl⟩ | ⟨rfl,rfl,rfl⟩ | ⟨rfl,rfl,rfl⟩ | ⟨rfl,rfl,rfl⟩
 ·rw [s1,s2,show decide (((0:Nat):Int)=ic 0)=true from rfl,DI,DI,DI,hl];rfl
 ·rw [s1,s2,show decide (((1:Nat):Int)=ic 0)=false from rfl,show decide (((1:Nat):Int)=ic 1)=true from rfl,DJ,DI,DI,DI,hl];rfl
 ·rw [s1,s2,show decide (((2:Nat):Int)=ic 0)=false from rfl,show decide (((2:Nat):Int)=ic 1)=false from rfl,show decide (((2:Nat):Int)=ic 2)=true from rfl,DJ,DJ,DI,DI,DI,hl];rfl
 ·rw [s1,s2,show decide (((3:Nat):Int)=ic 0)=false from rfl,show decide (((3:Nat):Int)=ic 1)=false from rfl,show decide (((3:Nat):Int)=ic 2)=false from rfl,show decide (((3:Nat):Int)=ic 3)=true from rfl,DJ,DJ,DJ,DI,DI,DI,hl];rfl
theorem Gc (N:Nat) (q:Qy) (hq:q.In) (s4:BA) (D:Nat) (hD:D≤4) :
  ∀ (d i n:Nat) (W:LI),i+d=D→d < n→W.length+d≤20→(∀ w∈W,w.toStr.size≤100) →
   DY (HI N) (DK LT [1,1,1,1,1,1,0,1,0,0]) ⟨[2,4,6,75,76,77],[2,500],[⟨.tmp 6,500,9,false,[.str]⟩]⟩ n (lK q s4 W D (i:Int)) (DQ 1 (DS (HI N) (DK LT [1,1,1,1,1,1,1]) (DT (HI N) none [(CF 4)] [[.str]]))) =
    some (.str (GI (W.map IV.toStr++(((q.spans.take D).drop i).map fun s=>MZ s.1 s.2)++[VG,DP q.bu]) G2),[])
 | 0,i,n+1,W,hd,hn,hW,hs=>by
  have hi:i=D:=by omega
  rw [D4];refine (Lc N s4 W.length D (ic D) i q.k q.c q.a0 q.b0 q.a1 q.b1 q.a2 q.b2 q.a3 q.b3 q.a4 q.b4 q.lo q.hi q.ft q.fl q.bu W _ _).trans ?_;rw [AL (show ¬ (i:Int) < ic D by simp only [ic]; omega),DJ];refine (zfK N q hq s4 W (by omega) hs D i).trans ?_;rw [CD (by rw [BB]; omega)];simp
 | d+1,i,n+1,W,hd,hn,hW,hs=>by
  obtain ⟨a,b,ha,hb,hab,hsp⟩:∃ a b,ED a∧ED b∧((i=0∧a=q.a0∧b=q.b0)∨(i=1∧a=q.a1∧b=q.b1)∨(i=2∧a=q.a2∧b=q.b2)∨(i=3∧a=q.a3∧b=q.b3))∧(q.spans.take D).drop i=(a,b) :: (q.spans.take D).drop (i+1):=by
   have hi:i=0∨i=1∨i=2∨i=3:=by omega
   have hDD:D=0∨D=1∨D=2∨D=3∨D=4:=by omega
   rcases hi with rfl | rfl | rfl | rfl
   ·exact ⟨q.a0,q.b0,hq.a0,hq.b0,.inl ⟨rfl,rfl,rfl⟩,by rcases hDD with rfl | rfl | rfl | rfl | rfl <;> first | rfl | omega⟩
   ·exact ⟨q.a1,q.b1,hq.a1,hq.b1,.inr (.inl ⟨rfl,rfl,rfl⟩),by rcases hDD with rfl | rfl | rfl | rfl | rfl <;> first | rfl | omega⟩
   ·exact ⟨q.a2,q.b2,hq.a2,hq.b2,.inr (.inr (.inl ⟨rfl,rfl,rfl⟩)),by rcases hDD with rfl | rfl | rfl | rfl | rfl <;> first | rfl | omega⟩
   ·exact ⟨q.a3,q.b3,hq.a3,hq.b3,.inr (.inr (.inr ⟨rfl,rfl,rfl⟩)),by rcases hDD with rfl | rfl | rfl | rfl | rfl <;> first | rfl | omega⟩
  rw [D4,zfM N q s4 W (by omega) D i (by omega) a b _ _ ha hb hab,hsp];have ih:=Gc N q hq s4 D hD d (i+1) n (W++[lH a b]) (by omega) (by omega) (by simp only [AT,AM,A6]; omega) (fun w hw=>by
   rcases AX.1 hw with h | h
   ·exact hs w h
   ·rw [BM] at h;subst h
    have:=Kr ha hb
    simp only [lH,IV.toStr];omega)
  refine ih.trans ?_;simp [lH,IV.toStr]
 | _,_,0,_,_,h,_,_=>by omega
theorem sM:DX PR B0 18 R8:=by
 refine D6 [(42,aV),(41,aW),(44,SE),(43,OO),(45,YP)] [(18,⟨[2,4,6,75,76,77],[2,500],[⟨.tmp 6,500,9,false,[.str]⟩]⟩)] R8 [[.str]] Tryz.func18 Zp
  ⟨zgU,zgV,sT,gG,Ka,trivial⟩ ?_
 intro vs r hwf h;unfold R8 at h;split at h
 ·rename_i k c a0 b0 a1 b1 a2 b2 a3 b3 a4 b4 lo hi ft fl bu d;refine ⟨20,?_⟩;rw [R.get_ok] at h;rw [← h];refine (zcT 20 k c a0 b0 a1 b1 a2 b2 a3 b3 a4 b4 lo hi ft fl bu d).trans ?_;have hb:=hwf (by simp [LB]);have hq:Qy.In ⟨k,c,a0,b0,a1,b1,a2,b2,a3,b3,a4,b4,lo,hi,ft,fl,bu⟩:=by
   have:=hb.1
   simp only [QN,wfLs,wfL,B7,vaC] at this;obtain ⟨h1,h2,h3,h4,h5,h6,h7,h8,h9,h10,h11,h12,h13,h14,h15,h16⟩:=this;exact ⟨h1,h2,h3,h4,h5,h6,h7,h8,h9,h10,h11,h12,h13,h14,h15,h16⟩
  show cond (decide (d < 1)) _ (cond (decide (d > 4)) _ (cond _ (cond (!(Qy.eq ⟨k,c,a0,b0,a1,b1,a2,b2,a3,b3,a4,b4,lo,hi,ft,fl,bu⟩ (FU ⟨k,c,a0,b0,a1,b1,a2,b2,a3,b3,a4,b4,lo,hi,ft,fl,bu⟩ d))) _ _) _))=_;generalize hQ:(⟨k,c,a0,b0,a1,b1,a2,b2,a3,b3,a4,b4,lo,hi,ft,fl,bu⟩:Qy)=q at hq ⊢;unfold D9 N9;cases h1:decide (d < 1) with
  | true=>simp only [DI,DJ,A3,BL]
  | false=>
   cases h4:decide (d > 4) with
   | true=>simp only [DI,DJ,A3,A7,BL,vaf]
   | false=>
    have h1:=BH h1;have h4:=BH h4;rw [AD (show 0≤d by omega),AD (show d≤5 by omega),AD (show d≤ic 5 by simp only [ic]; omega)];simp only [B2,DI,DJ,A7,BC];cases he:q.eq (FU q d) with
    | false=>simp only [A7,DI,DJ,BL]
    | true=>
     have ec:q.c=c:=by rw [← hQ]
     have ef:q.ft=ft:=by rw [← hQ]
     have eb:q.bu=bu:=by rw [← hQ]
     have ek:q.k=k:=by rw [← hQ]
     rw [ec,ef,eb,ek];cases hc:J5 c with
     | false=>simp only [A3,A7,DI,DJ,BL,BC]
     | true=>
      cases hf:J5 ft with
      | false=>simp only [A3,A7,DI,DJ,BL,BC]
      | true=>
       cases hbu:J5 bu with
       | false=>simp only [A3,A7,DI,DJ,BL,BC]
       | true=>
        simp only [A3,DJ,BC];have hDn:d.toNat≤4:=by omega
        have run:=fun (W:LI) (hW:W.length≤16) (hs:∀ w∈W,w.toStr.size≤100)=>Gc 20 q hq ⟨#[]⟩ d.toNat hDn d.toNat 0 20 W (by omega) (by omega) (by omega) hs
        have zi:∀ {n:Int},ED n→(DP n).size≤100:=fun h=>by have:=o7 h; omega
        have zp:∀ {n:Int},ED n→(DU n).size≤100:=fun h=>by have:=(XP _ h).2; omega
        have fin:∀ (W:LI) (l:List BA),W.map IV.toStr=l++[NQ]→HW q=l→GI (W.map IV.toStr++(((q.spans.take d.toNat).drop 0).map fun s=>MZ s.1 s.2)++[VG,DP q.bu]) G2=GI (JG q d.toNat) G2:=fun W l hWl hl=>by
         unfold JG;rw [hWl,hl,BY];simp
        subst hQ;cases k1:(k==1) with
        | true=>
         simp only [DI,Bool.true_or];refine (run [IV.str M0,IV.str (DP c),IV.str VH,IV.str (DU lo),IV.str VK,IV.str (DU hi),IV.str NQ] (by simp) (fun w hw=>?_)).trans ?_
         ·simp only [AP,BX,CP] at hw;rcases hw with rfl | rfl | rfl | rfl | rfl | rfl | rfl
          ·decide
          ·exact zi hq.c
          ·decide
          ·exact zp hq.lo
          ·decide
          ·exact zp hq.hi
          ·decide
         ·rw [fin _ [M0,DP c,VH,DU lo,VK,DU hi] rfl (by unfold HW; simp only [k1,DI])]
        | false=>
         simp only [DJ,vaz];cases k2:(k==2) with
         | true=>
          simp only [DI,Bool.true_or];refine (run [IV.str OF,IV.str (DP c),IV.str NQ] (by simp) (fun w hw=>?_)).trans ?_
          ·simp only [AP,BX,CP] at hw;rcases hw with rfl | rfl | rfl
           ·decide
           ·exact zi hq.c
           ·decide
          ·rw [fin _ [OF,DP c] rfl (by unfold HW; simp only [k1,k2,DI,DJ])]
         | false=>
          simp only [DJ,vaz];cases k3:(k==3) with
          | false=>simp only [DJ]
          | true=>
           simp only [DI];cases fl with
           | true=>
            simp only [DI];refine (run [IV.str MB,IV.str (DP c),IV.str OG,IV.str (DP ft),IV.str NQ] (by simp) (fun w hw=>?_)).trans ?_
            ·simp only [AP,BX,CP] at hw;rcases hw with rfl | rfl | rfl | rfl | rfl
             ·decide
             ·exact zi hq.c
             ·decide
             ·exact zi hq.ft
             ·decide
            ·rw [fin _ [MB,DP c,OG,DP ft] rfl (by unfold HW; simp only [k1,k2,DI,DJ])]
           | false=>
            simp only [DJ];refine (run [IV.str M1,IV.str (DP c),IV.str OG,IV.str (DP ft),IV.str NQ] (by simp) (fun w hw=>?_)).trans ?_
            ·simp only [AP,BX,CP] at hw;rcases hw with rfl | rfl | rfl | rfl | rfl
             ·decide
             ·exact zi hq.c
             ·decide
             ·exact zi hq.ft
             ·decide
            ·rw [fin _ [M1,DP c,OG,DP ft] rfl (by unfold HW; simp only [k1,k2,DJ])]
 ·simp [R.get] at h
open Go Go.Proofs
def PN (N:Nat):Env:=D5 [(18,R8),(121,V1),(119,aU),(120,V2),(118,dF),(104,T4),(46,M5)] [(9,⟨[0,2,3,4,5,7,8,9,45,46,47],[2,9],[]⟩)] 82 N
abbrev R0 (s0:BA) (x3:Int) (b4:Bool) (l5:LI) (x7 x8:Int) (l45:LI) (x46 x47 u02 u03 u0a u0b u0c u0d u0e u0f u0g u0h u04 u05 u06 u07 u08:Int) (u00:Bool) (u09 u0i u0j u0q u0r u0s u0t u0u u0v u0w u0x u0k u0l u0m u0n u0o:Int) (u01:Bool) (u0p:Int):St:=⟨[(0,(.str s0)),(2,(.ptr 2 0 0)),(3,(.i x3)),(4,(.bool b4)),(5,(.list false [.str] l5)),(7,(.i x7)),(8,(.i x8)),(9,(.ptr 9 0 0)),(45,(.list false [.str] l45)),(46,(.i x46)),(47,(.i x47))],[(2,(some (.box [.i u02,.i u03,.i u0a,.i u0b,.i u0c,.i u0d,.i u0e,.i u0f,.i u0g,.i u0h,.i u04,.i u05,.i u06,.i u07,.i u08,.bool u00,.i u09]))),(9,(some (.box [.i u0i,.i u0j,.i u0q,.i u0r,.i u0s,.i u0t,.i u0u,.i u0v,.i u0w,.i u0x,.i u0k,.i u0l,.i u0m,.i u0n,.i u0o,.bool u01,.i u0p])))]⟩
theorem zcS (N:Nat) (s:BA):DZ (PN N) SK [.cell 2 38,.tmp 3,.tmp 4] [[.z,.z,.z,.z,.z,.z,.z,.z,.z,.z,.z,.z,.z,.z,.z,.bool,.z],[.z],[.bool]] [.str s]=(cond (decide (AG s < 4294967281)&&decide (1≤AG {data:=#[32]})) (cond (decide (FY (A2 IV.str (D2 s {data:=#[32]})) {data:=#[105,110]} 0 < 0)) (some ((.tup [.agg [.i 0,.i 0,.i 0,.i 0,.i 0,.i 0,.i 0,.i 0,.i 0,.i 0,.i 0,.i 0,.i 0,.i 0,.i 0,.bool false,.i 0],.i 0,.bool false]),[])) (cond (decide (AA AB (AA AB (AA AB (ic (AF (A2 IV.str (D2 s {data:=#[32]}))) - 2) - FY (A2 IV.str (D2 s {data:=#[32]})) {data:=#[105,110]} 0) - 1) < 1)) (some ((.tup [.agg [.i 0,.i 0,.i 0,.i 0,.i 0,.i 0,.i 0,.i 0,.i 0,.i 0,.i 0,.i 0,.i 0,.i 0,.i 0,.bool false,.i 0],.i 0,.bool false]),[])) (cond (decide (AA AB (AA AB (AA AB (ic (AF (A2 IV.str (D2 s {data:=#[32]}))) - 2) - FY (A2 IV.str (D2 s {data:=#[32]})) {data:=#[105,110]} 0) - 1) > 4)) (some ((.tup [.agg [.i 0,.i 0,.i 0,.i 0,.i 0,.i 0,.i 0,.i 0,.i 0,.i 0,.i 0,.i 0,.i 0,.i 0,.i 0,.bool false,.i 0],.i 0,.bool false]),[])) (cond (decide (0≤FY (A2 IV.str (D2 s {data:=#[32]})) {data:=#[105,110]} 0)&&decide (FY (A2 IV.str (D2 s {data:=#[32]})) {data:=#[105,110]} 0≤ic (AF (A2 IV.str (D2 s {data:=#[32]}))))) (cond (decide (AF (AS 0 (AK (AE (FY (A2 IV.str (D2 s {data:=#[32]})) {data:=#[105,110]} 0)) (A2 IV.str (D2 s {data:=#[32]}))))≤4294967290)&&List.all (AS 0 (AK (AE (FY (A2 IV.str (D2 s {data:=#[32]})) {data:=#[105,110]} 0)) (A2 IV.str (D2 s {data:=#[32]})))) fun x=>decide (AG (IV.toStr x) < 4294967281)) (cond (decide (0≤AA AB (FY (A2 IV.str (D2 s {data:=#[32]})) {data:=#[105,110]} 0+1))&&(decide (AA AB (FY (A2 IV.str (D2 s {data:=#[32]})) {data:=#[105,110]} 0+1)≤AA AB (ic (AF (A2 IV.str (D2 s {data:=#[32]}))) - 2))&&decide (AA AB (ic (AF (A2 IV.str (D2 s {data:=#[32]}))) - 2)≤ic (AF (A2 IV.str (D2 s {data:=#[32]})))))) (DY (PN N) (DK SK [1,1,1,1,1,1,1,0,1,0,0]) ⟨[0,2,3,4,5,7,8,9,45,46,47],[2,9],[]⟩ N (R0 s 0 false (A2 IV.str (D2 s {data:=#[32]})) (AA AB (ic (AF (A2 IV.str (D2 s {data:=#[32]}))) - 2)) (AA AB (AA AB (AA AB (ic (AF (A2 IV.str (D2 s {data:=#[32]}))) - 2) - FY (A2 IV.str (D2 s {data:=#[32]})) {data:=#[105,110]} 0) - 1)) (AS (AE (AA AB (FY (A2 IV.str (D2 s {data:=#[32]})) {data:=#[105,110]} 0+1))) (AK (AE (AA AB (ic (AF (A2 IV.str (D2 s {data:=#[32]}))) - 2))) (A2 IV.str (D2 s {data:=#[32]})))) (ic (AF (AS (AE (AA AB (FY (A2 IV.str (D2 s {data:=#[32]})) {data:=#[105,110]} 0+1))) (AK (AE (AA AB (ic (AF (A2 IV.str (D2 s {data:=#[32]}))) - 2))) (A2 IV.str (D2 s {data:=#[32]})))))) 0 0 0 0 0 0 0 0 0 0 0 0 0 0 0 0 false 0 (Qy.k (EK (AS 0 (AK (AE (FY (A2 IV.str (D2 s {data:=#[32]})) {data:=#[105,110]} 0)) (A2 IV.str (D2 s {data:=#[32]})))))) (Qy.c (EK (AS 0 (AK (AE (FY (A2 IV.str (D2 s {data:=#[32]})) {data:=#[105,110]} 0)) (A2 IV.str (D2 s {data:=#[32]})))))) (Qy.a0 (EK (AS 0 (AK (AE (FY (A2 IV.str (D2 s {data:=#[32]})) {data:=#[105,110]} 0)) (A2 IV.str (D2 s {data:=#[32]})))))) (Qy.b0 (EK (AS 0 (AK (AE (FY (A2 IV.str (D2 s {data:=#[32]})) {data:=#[105,110]} 0)) (A2 IV.str (D2 s {data:=#[32]})))))) (Qy.a1 (EK (AS 0 (AK (AE (FY (A2 IV.str (D2 s {data:=#[32]})) {data:=#[105,110]} 0)) (A2 IV.str (D2 s {data:=#[32]})))))) (Qy.b1 (EK (AS 0 (AK (AE (FY (A2 IV.str (D2 s {data:=#[32]})) {data:=#[105,110]} 0)) (A2 IV.str (D2 s {data:=#[32]})))))) (Qy.a2 (EK (AS 0 (AK (AE (FY (A2 IV.str (D2 s {data:=#[32]})) {data:=#[105,110]} 0)) (A2 IV.str (D2 s {data:=#[32]})))))) (Qy.b2 (EK (AS 0 (AK (AE (FY (A2 IV.str (D2 s {data:=#[32]})) {data:=#[105,110]} 0)) (A2 IV.str (D2 s {data:=#[32]})))))) (Qy.a3 (EK (AS 0 (AK (AE (FY (A2 IV.str (D2 s {data:=#[32]})) {data:=#[105,110]} 0)) (A2 IV.str (D2 s {data:=#[32]})))))) (Qy.b3 (EK (AS 0 (AK (AE (FY (A2 IV.str (D2 s {data:=#[32]})) {data:=#[105,110]} 0)) (A2 IV.str (D2 s {data:=#[32]})))))) (Qy.a4 (EK (AS 0 (AK (AE (FY (A2 IV.str (D2 s {data:=#[32]})) {data:=#[105,110]} 0)) (A2 IV.str (D2 s {data:=#[32]})))))) (Qy.b4 (EK (AS 0 (AK (AE (FY (A2 IV.str (D2 s {data:=#[32]})) {data:=#[105,110]} 0)) (A2 IV.str (D2 s {data:=#[32]})))))) (Qy.lo (EK (AS 0 (AK (AE (FY (A2 IV.str (D2 s {data:=#[32]})) {data:=#[105,110]} 0)) (A2 IV.str (D2 s {data:=#[32]})))))) (Qy.hi (EK (AS 0 (AK (AE (FY (A2 IV.str (D2 s {data:=#[32]})) {data:=#[105,110]} 0)) (A2 IV.str (D2 s {data:=#[32]})))))) (Qy.ft (EK (AS 0 (AK (AE (FY (A2 IV.str (D2 s {data:=#[32]})) {data:=#[105,110]} 0)) (A2 IV.str (D2 s {data:=#[32]})))))) (Qy.fl (EK (AS 0 (AK (AE (FY (A2 IV.str (D2 s {data:=#[32]})) {data:=#[105,110]} 0)) (A2 IV.str (D2 s {data:=#[32]})))))) (Qy.bu (EK (AS 0 (AK (AE (FY (A2 IV.str (D2 s {data:=#[32]})) {data:=#[105,110]} 0)) (A2 IV.str (D2 s {data:=#[32]}))))))) (DQ 0 (DS (PN N) (DK SK [1,1,1,1,1,1,1,1]) (DT (PN N) none [.cell 2 38,.tmp 3,.tmp 4] [[.z,.z,.z,.z,.z,.z,.z,.z,.z,.z,.z,.z,.z,.z,.z,.bool,.z],[.z],[.bool]])))) none) none) none)))) none):=by kernel_rfl
theorem Lb (N:Nat) (s0:BA) (x3:Int) (b4:Bool) (l5:LI) (x7 x8:Int) (l45:LI) (x46 x47 u02 u03 u0a u0b u0c u0d u0e u0f u0g u0h u04 u05 u06 u07 u08:Int) (u00:Bool) (u09 u0i u0j u0q u0r u0s u0t u0u u0v u0w u0x u0k u0l u0m u0n u0o:Int) (u01:Bool) (u0p:Int) (again:St→DO) (k:Out→St→DO):EZ (PN N) (DK SK [1,1,1,1,1,1,1,0,1,0,0]) (R0 s0 x3 b4 l5 x7 x8 l45 x46 x47 u02 u03 u0a u0b u0c u0d u0e u0f u0g u0h u04 u05 u06 u07 u08 u00 u09 u0i u0j u0q u0r u0s u0t u0u u0v u0w u0x u0k u0l u0m u0n u0o u01 u0p) (EN again ⟨[0,2,3,4,5,7,8,9,45,46,47],[2,9],[]⟩ k)=(cond (decide (x47 < x46)) (cond (decide (0≤x47)&&decide (x47 < ic (AF l45))) (cond (decide (AG (IV.toStr (AH l45 (AE x47) default)) < 4294967281)) (cond (decide (AG (cutL (IV.toStr (AH l45 (AE x47) default)) {data:=#[46,46]}) < 4294967281)) (cond (decide (AG (FQ (IV.toStr (AH l45 (AE x47) default)) {data:=#[46,46]}) < 4294967281)) (cond (decide (x47=ic 0)) (again (R0 s0 x3 b4 l5 x7 x8 l45 x46 (AA AB (x47+1)) u02 u03 u0a u0b u0c u0d u0e u0f u0g u0h u04 u05 u06 u07 u08 u00 u09 u0i u0j (F7 (cutL (IV.toStr (AH l45 (AE x47) default)) {data:=#[46,46]})) (F7 (FQ (IV.toStr (AH l45 (AE x47) default)) {data:=#[46,46]})) u0s u0t u0u u0v u0w u0x u0k u0l u0m u0n u0o u01 u0p)) (cond (decide (x47=ic 1)) (again (R0 s0 x3 b4 l5 x7 x8 l45 x46 (AA AB (x47+1)) u02 u03 u0a u0b u0c u0d u0e u0f u0g u0h u04 u05 u06 u07 u08 u00 u09 u0i u0j u0q u0r (F7 (cutL (IV.toStr (AH l45 (AE x47) default)) {data:=#[46,46]})) (F7 (FQ (IV.toStr (AH l45 (AE x47) default)) {data:=#[46,46]})) u0u u0v u0w u0x u0k u0l u0m u0n u0o u01 u0p)) (cond (decide (x47=ic 2)) (again (R0 s0 x3 b4 l5 x7 x8 l45 x46 (AA AB (x47+1)) u02 u03 u0a u0b u0c u0d u0e u0f u0g u0h u04 u05 u06 u07 u08 u00 u09 u0i u0j u0q u0r u0s u0t (F7 (cutL (IV.toStr (AH l45 (AE x47) default)) {data:=#[46,46]})) (F7 (FQ (IV.toStr (AH l45 (AE x47) default)) {data:=#[46,46]})) u0w u0x u0k u0l u0m u0n u0o u01 u0p)) (cond (decide (x47=ic 3)) (again (R0 s0 x3 b4 l5 x7 x8 l45 x46 (AA AB (x47+1)) u02 u03 u0a u0b u0c u0d u0e u0f u0g u0h u04 u05 u06 u07 u08 u00 u09 u0i u0j u0q u0r u0s u0t u0u u0v (F7 (cutL (IV.toStr (AH l45 (AE x47) default)) {data:=#[46,46]})) (F7 (FQ (IV.toStr (AH l45 (AE x47) default)) {data:=#[46,46]})) u0k u0l u0m u0n u0o u01 u0p)) (cond (decide (x47=ic 4)) (again (R0 s0 x3 b4 l5 x7 x8 l45 x46 (AA AB (x47+1)) u02 u03 u0a u0b u0c u0d u0e u0f u0g u0h u04 u05 u06 u07 u08 u00 u09 u0i u0j u0q u0r u0s u0t u0u u0v u0w u0x (F7 (cutL (IV.toStr (AH l45 (AE x47) default)) {data:=#[46,46]})) (F7 (FQ (IV.toStr (AH l45 (AE x47) default)) {data:=#[46,46]})) u0m u0n u0o u01 u0p)) none))))) none) none) none) none) (k (.exit 0) (R0 s0 x3 b4 l5 x7 x8 l45 x46 x47 u02 u03 u0a u0b u0c u0d u0e u0f u0g u0h u04 u05 u06 u07 u08 u00 u09 u0i u0j u0q u0r u0s u0t u0u u0v u0w u0x u0k u0l u0m u0n u0o u01 u0p))):=by kernel_rfl
theorem Wj (N:Nat) (s0:BA) (x3:Int) (b4:Bool) (l5:LI) (x7 x8:Int) (l45:LI) (x46 x47 u02 u03 u0a u0b u0c u0d u0e u0f u0g u0h u04 u05 u06 u07 u08:Int) (u00:Bool) (u09 u0i u0j u0q u0r u0s u0t u0u u0v u0w u0x u0k u0l u0m u0n u0o:Int) (u01:Bool) (u0p:Int):(DQ 0 (DS (PN N) (DK SK [1,1,1,1,1,1,1,1]) (DT (PN N) none [.cell 2 38,.tmp 3,.tmp 4] [[.z,.z,.z,.z,.z,.z,.z,.z,.z,.z,.z,.z,.z,.z,.z,.bool,.z],[.z],[.bool]]))) (.exit 0) (R0 s0 x3 b4 l5 x7 x8 l45 x46 x47 u02 u03 u0a u0b u0c u0d u0e u0f u0g u0h u04 u05 u06 u07 u08 u00 u09 u0i u0j u0q u0r u0s u0t u0u u0v u0w u0x u0k u0l u0m u0n u0o u01 u0p)=(cond (decide (0≤AA AB (x7+1))&&decide (AA AB (x7+1) < ic (AF l5))) (cond (!AW (D9 {k:=u0i,c:=u0j,a0:=u0q,b0:=u0r,a1:=u0s,b1:=u0t,a2:=u0u,b2:=u0v,a3:=u0w,b3:=u0x,a4:=u0k,b4:=u0l,lo:=u0m,hi:=u0n,ft:=u0o,fl:=u01,bu:=FF (IV.toStr (AH l5 (AE (AA AB (x7+1))) default))} x8)==AW s0) (some ((.tup [.agg [.i 0,.i 0,.i 0,.i 0,.i 0,.i 0,.i 0,.i 0,.i 0,.i 0,.i 0,.i 0,.i 0,.i 0,.i 0,.bool false,.i 0],.i 0,.bool false]),[])) (some ((.tup [.agg [.i u0i,.i u0j,.i u0q,.i u0r,.i u0s,.i u0t,.i u0u,.i u0v,.i u0w,.i u0x,.i u0k,.i u0l,.i u0m,.i u0n,.i u0o,.bool u01,.i (FF (IV.toStr (AH l5 (AE (AA AB (x7+1))) default)))],.i x8,.bool true]),[]))) none):=by kernel_rfl
open Go Go.Proofs
theorem zbT (l:LI):(EK l).a0=0∧(EK l).b0=0∧(EK l).a1=0∧(EK l).b1=0∧(EK l).a2=0∧(EK l).b2=0∧(EK l).a3=0∧(EK l).b3=0∧(EK l).a4=0∧(EK l).b4=0∧(EK l).bu=0:=by
 unfold EK;cases ((DW l 0).toList==M0.toList) <;> cases ((DW l 0).toList==OF.toList) <;> cases ((DW l 0).toList==M1.toList||(DW l 0).toList==MB.toList) <;> exact ⟨rfl,rfl,rfl,rfl,rfl,rfl,rfl,rfl,rfl,rfl,rfl⟩
def rq (l:LI) (i d:Nat):Qy:=
 ⟨(
  EK (l.take i)).k,(EK (l.take i)).c,
  cond (BS 0 d) (RT l (i+1)) 0,cond (BS 0 d) (RU l (i+1)) 0,cond (BS 1 d) (RT l (i+2)) 0,cond (BS 1 d) (RU l (i+2)) 0,cond (BS 2 d) (RT l (i+3)) 0,cond (BS 2 d) (RU l (i+3)) 0,cond (BS 3 d) (RT l (i+4)) 0,cond (BS 3 d) (RU l (i+4)) 0,0,0,
  (EK (l.take i)).lo,(EK (l.take i)).hi,(EK (l.take i)).ft,(EK (l.take i)).fl,0⟩
theorem zgw (l:LI) (i:Nat):EK (l.take i)=rq l i 0:=by
 obtain ⟨h1,h2,h3,h4,h5,h6,h7,h8,h9,h10,h11⟩:=zbT (l.take i);unfold rq;generalize EK (l.take i)=q at *;cases q;simp only at *;subst h1 h2 h3 h4 h5 h6 h7 h8 h9 h10 h11;rfl
abbrev lL (s:BA) (W:LI) (x7 x8:Int) (L:LI) (q:Qy) (i:Int):St:=
 ⟨[(0,(.str s)),(2,(.ptr 2 0 0)),(3,(.int .i64 0)),(4,(.bool false)),(5,(.list false [.str] W)),(7,(.int .i64 x7)),(8,(.int .i64 x8)),(9,(.ptr 9 0 0)),(45,(.list false [.str] L)),(46,(.int .i64 (ic L.length))),(47,(.int .i64 i))],[(2,(some (m6 Qy.none))),(9,(some (m6 q)))]⟩
theorem Ve (w sep:BA) (h:w.size < 4294967281):decide (AG w < 4294967281)=true∧decide (AG (cutL w sep) < 4294967281)=true∧decide (AG (FQ w sep) < 4294967281)=true:=by
 obtain ⟨h1,h2⟩:=i6 w sep;exact ⟨AD h,AD (by omega),AD (by omega)⟩
theorem zfx (N:Nat) (s:BA) (W:LI) (x7 x8:Int) (L:LI) (I i:Nat) (hi:i < L.length) (h4:i < 4) (hL:IV.toStr (L.getD i default)=DW W (I+1+i)) (hw:(DW W (I+1+i)).size < 4294967281) (again:St→DO) (k:Out→St→DO) :
  EZ (PN N) (DK SK [1,1,1,1,1,1,1,0,1,0,0]) (lL s W x7 x8 L (rq W I i) (i:Int)) (EN again ⟨[0,2,3,4,5,7,8,9,45,46,47],[2,9],[]⟩ k)=again (lL s W x7 x8 L (rq W I (i+1)) ((i+1:Nat):Int)):=by
 refine (Lb N s 0 false W x7 x8 L (ic L.length) i 0 0 0 0 0 0 0 0 0 0 0 0 0 0 0 false 0 (rq W I i).k (rq W I i).c (rq W I i).a0 (rq W I i).b0 (rq W I i).a1 (rq W I i).b1 (rq W I i).a2 (rq W I i).b2 (rq W I i).a3 (rq W I i).b3 (rq W I i).a4 (rq W I i).b4 (rq W I i).lo (rq W I i).hi (rq W I i).ft (rq W I i).fl (rq W I i).bu again k).trans ?_;rw [G8 hi,H7,B2,DI,DI,BF,hL];obtain ⟨c1,c2,c3⟩:=Ve (DW W (I+1+i)) { data:=#[46,46] } hw;rw [c1,c2,c3,DI,DI,DI];have hi4:i=0∨i=1∨i=2∨i=3:=by omega
 rcases hi4 with rfl | rfl | rfl | rfl
 ·rw [show decide (((0:Nat):Int)=ic 0)=true from rfl,DI];rfl
 ·rw [show decide (((1:Nat):Int)=ic 0)=false from rfl,show decide (((1:Nat):Int)=ic 1)=true from rfl,DJ,DI];rfl
 ·rw [show decide (((2:Nat):Int)=ic 0)=false from rfl,show decide (((2:Nat):Int)=ic 1)=false from rfl,show decide (((2:Nat):Int)=ic 2)=true from rfl,DJ,DJ,DI];rfl
 ·rw [show decide (((3:Nat):Int)=ic 0)=false from rfl,show decide (((3:Nat):Int)=ic 1)=false from rfl,show decide (((3:Nat):Int)=ic 2)=false from rfl,show decide (((3:Nat):Int)=ic 3)=true from rfl,DJ,DJ,DJ,DI];rfl
theorem Fl (N:Nat) (s:BA) (W:LI) (x7 x8:Int) (L:LI) (I:Nat) (h4:L.length≤4) (hL:∀ i,i < L.length→IV.toStr (L.getD i default)=DW W (I+1+i)) (hw:∀ i,(DW W i).size < 4294967281) (K:Out→St→DO) :
  ∀ (d i n:Nat),i+d=L.length→d < n →
   DY (PN N) (DK SK [1,1,1,1,1,1,1,0,1,0,0]) ⟨[0,2,3,4,5,7,8,9,45,46,47],[2,9],[]⟩ n (lL s W x7 x8 L (rq W I i) (i:Int)) K=K (.exit 0) (lL s W x7 x8 L (rq W I L.length) (ic L.length))
 | 0,i,n+1,hd,hn=>by
  have hi:i=L.length:=by omega
  subst hi;rw [D4];refine (Lb N s 0 false W x7 x8 L (ic L.length) _ 0 0 0 0 0 0 0 0 0 0 0 0 0 0 0 false 0 (rq W I L.length).k (rq W I L.length).c (rq W I L.length).a0 (rq W I L.length).b0 (rq W I L.length).a1 (rq W I L.length).b1 (rq W I L.length).a2 (rq W I L.length).b2 (rq W I L.length).a3 (rq W I L.length).b3 (rq W I L.length).a4 (rq W I L.length).b4 (rq W I L.length).lo (rq W I L.length).hi (rq W I L.length).ft (rq W I L.length).fl (rq W I L.length).bu _ _).trans ?_;rw [I2 (AZ _),DJ];rfl
 | d+1,i,n+1,hd,hn=>by
  rw [D4,zfx N s W x7 x8 L I i (by omega) (by omega) (hL i (by omega)) (hw _)];exact Fl N s W x7 x8 L I h4 hL hw K d (i+1) n (by omega) (by omega)
 | _,_,0,_,h=>by omega
theorem Be (w:BA):∀ (l:LI) (k:Int),0≤k→FY l w k = -1∨(k≤FY l w k∧FY l w k < k+(l.length:Int))
 | [],_,_=>.inl rfl
 | x :: l,k,hk=>by
  unfold FY;cases (w.toList==x.toStr.toList) with
  | true=>rw [DI]; exact .inr ⟨vac _,by simp only [AM]; omega⟩
  | false=>
   rw [DJ];rcases Be w l (k+1) (by omega) with h | ⟨h1,h2⟩
   ·exact .inl h
   ·exact .inr ⟨by omega,by simp only [AM]; omega⟩
theorem zcu (s:BA) (hs:s.size < 4294967281):(HH s).length≤4294967282∧∀ i,(DW (HH s) i).size < 4294967281:=by
 have h1:=Lib.splitB_all G2 (by decide) 0 _ s rfl;have h2:=Lib.countB_le G2 (by decide) s.size s (AZ _);refine ⟨?_,fun i=>?_⟩
 ·have e:(HH s).length=Lib.countB s G2+1:=by
   unfold HH D2;rw [BG];exact h1
  omega
 ·unfold DW;by_cases hi:i < (HH s).length
  ·have:AH (HH s) i default=(HH s)[i]:=by simp [hi]
   rw [this];have hm:=CX hi;unfold HH at hm;obtain ⟨p,hp,hpe⟩:=CI.1 hm;have hz:=(Z9 G2 _ s).2 p hp
   have:((HH s)[i]).toStr=p:=by
    show (A2 IV.str (D2 s G2))[i].toStr=p;rw [← hpe];rfl
   rw [this];omega
  ·have:AH (HH s) i default=default:=by simp [AH,hi]
   rw [this];decide
theorem zgS:DX PR B0 73 aT:=by
 refine D6 [(18,R8),(121,V1),(119,aU),(120,V2),(118,dF),(104,T4),(46,M5)] [(9,⟨[0,2,3,4,5,7,8,9,45,46,47],[2,9],[]⟩)] aT
  [[.z,.z,.z,.z,.z,.z,.z,.z,.z,.z,.z,.z,.z,.z,.z,.bool,.z],[.z],[.bool]] Tryz.func73 Zo
  ⟨sM,Jb,zgT,Jc,zh3,sW,Z8,trivial⟩ ?_
 intro vs r hwf h;unfold aT at h;split at h
 ·rename_i s;refine ⟨20,?_⟩;cases hs:decide (s.size < 4294967281) with
  | false=>rw [hs] at h; simp [R.get] at h
  | true=>
   rw [hs,R.get_br,DI,R.get_ok] at h;rw [← h];refine (zcS 20 s).trans ?_;have hs':=A1 hs;rw [hs];obtain ⟨hl,hw⟩:=zcu s hs';have eW:A2 IV.str (D2 s { data:=#[32] })=HH s:=rfl;have eI:FY (HH s) { data:=#[105,110] } 0=ND s:=rfl;rw [eW,eI,show decide (1≤AG { data:=#[32] })=true from rfl,B2,DI];have hr:=Be NQ (HH s) 0 (vac _)
   change ND s = -1∨(0≤ND s∧ND s < 0+((HH s).length:Int)) at hr
   have w2:AA AB (ic (AF (HH s)) - 2)=ic (AF (HH s)) - 2:=EH (by simp only [ic]; omega) (by simp only [ic]; omega);rw [w2];have wd:AA AB (AA AB (ic (AF (HH s)) - 2 - ND s) - 1)=N7 s:=by
    unfold N7;rw [EH (n:=ic (AF (HH s)) - 2 - ND s) (by simp only [ic]; omega) (by simp only [ic]; omega),EH (by simp only [ic]; omega) (by simp only [ic]; omega)]
   rw [wd];unfold GU PU OR;cases h1:decide (ND s < 0) with
   | true=>simp only [DI,DJ,A3,BL]; rfl
   | false=>
    cases h2:decide (N7 s < 1) with
    | true=>simp only [DI,DJ,A3,A7,BL,vaf]; rfl
    | false=>
     cases h3:decide (N7 s > 4) with
     | true=>simp only [DI,DJ,A3,A7,BL,vaf]; rfl
     | false=>
      simp only [DJ,A7,BC];have h1:=BH h1;have h2:=BH h2;have h3:=BH h3;obtain ⟨I,hI⟩:∃ I:Nat,ND s=I:=⟨(ND s).toNat,by omega⟩;obtain ⟨D,hD⟩:∃ D:Nat,N7 s=D:=⟨(N7 s).toNat,by omega⟩;have hD1:1≤D:=by omega
      have hD4:D≤4:=by omega
      unfold e9;have hDd:(D:Int)=((HH s).length:Int) - 2 - I - 1:=by
       rw [← hD,← hI];rfl
      rw [hI,hD] at *;generalize HH s=W at *;have wi:AA AB ((I:Int)+1)=((I+1:Nat):Int):=by rw [EH (by omega) (by omega)]; rfl
      have eb:ic (AF W) - 2=((W.length - 2:Nat):Int):=by simp only [ic]; omega
      rw [wi,eb];simp only [BF,BY];have hall:List.all (AK I W) (fun x=>decide (AG (IV.toStr x) < 4294967281))=true:=by
       rw [CR];intro x hx;obtain ⟨j,hj,rfl⟩:=List.mem_iff_getElem.1 (vaK hx)
       have:=hw j
       unfold DW at this;have e:AH W j default=W[j]:=by simp [hj]
       rw [e] at this;exact AD this
      rw [hall,AD (show (0:Int)≤(I:Int) by omega),AD (show (I:Int)≤ic (AF W) by simp only [ic]; omega),AD (show AF (AK I W)≤4294967290 by rw [BB]; omega),
       AD (show (0:Int)≤((I+1:Nat):Int) by omega),AD (show ((I+1:Nat):Int)≤((W.length - 2:Nat):Int) by omega),AD (show ((W.length - 2:Nat):Int)≤ic (AF W) by simp only [ic]; omega)]
      simp only [B2,DI];have hLl:(AS (I+1) (AK (W.length - 2) W)).length=D:=by rw [CY,BB]; omega
      have hLg:∀ i,i < (AS (I+1) (AK (W.length - 2) W)).length→IV.toStr ((AS (I+1) (AK (W.length - 2) W)).getD i default)=DW W (I+1+i):=fun i hi=>by
       rw [hLl] at hi;unfold DW;congr 1;simp only [AH,var,CM];rw [BP (by omega)]
      rw [zgw W I];have run:=Fl 20 s W ((W.length - 2:Nat):Int) (D:Int) (AS (I+1) (AK (W.length - 2) W)) I (by rw [hLl]; exact hD4) hLg hw (DQ 0 (DS (PN 20) (DK SK [1,1,1,1,1,1,1,1]) (DT (PN 20) none [(va7 2 38),(CF 3),(CF 4)] [[.z,.z,.z,.z,.z,.z,.z,.z,.z,.z,.z,.z,.z,.z,.z,.bool,.z],[.z],[.bool]]))) D 0 20 (by rw [hLl]; omega) (by omega);refine run.trans ?_;rw [hLl];refine (Wj 20 s 0 false W ((W.length - 2:Nat):Int) (D:Int) (AS (I+1) (AK (W.length - 2) W)) (ic (AS (I+1) (AK (W.length - 2) W)).length) _ 0 0 0 0 0 0 0 0 0 0 0 0 0 0 0 false 0 (rq W I D).k (rq W I D).c (rq W I D).a0 (rq W I D).b0 (rq W I D).a1 (rq W I D).b1 (rq W I D).a2 (rq W I D).b2 (rq W I D).a3 (rq W I D).b3 (rq W I D).a4 (rq W I D).b4 (rq W I D).lo (rq W I D).hi (rq W I D).ft (rq W I D).fl (rq W I D).bu).trans ?_;have e7:AA AB (((W.length - 2:Nat):Int)+1)=((W.length - 1:Nat):Int):=by rw [EH (by omega) (by omega)]; omega
      rw [e7,BF,AD (show (0:Int)≤((W.length - 1:Nat):Int) by omega),AD (show ((W.length - 1:Nat):Int) < ic (AF W) by simp only [ic]; omega),B2,DI];have eq:(⟨(rq W I D).k,(rq W I D).c,(rq W I D).a0,(rq W I D).b0,(rq W I D).a1,(rq W I D).b1,(rq W I D).a2,(rq W I D).b2,(rq W I D).a3,(rq W I D).b3,(rq W I D).a4,(rq W I D).b4,(rq W I D).lo,(rq W I D).hi,(rq W I D).ft,(rq W I D).fl,FF (IV.toStr (AH W (W.length - 1) default))⟩:Qy)=fX W I D:=rfl;rw [eq];cases ((D9 (fX W I D) (D:Int)).toList==s.toList) with
      | false=>rfl
      | true=>rfl
 ·simp [R.get] at h
open Go
def Q8 (x:IV):Prop:=∃ v,-3000≤v∧v≤3000∧x=L0 v
def UR (dim n:Int) (i:Nat) (x:IV):Prop:=∃ f a l,0≤f∧f < dim∧0≤a∧a≤9∧(i:Int) < l∧l+1 < n∧x=S0 false 0 f a l (l+1)
def nm (x:IV) (j:Nat):Nat:=cond (x.cell 0).toBool 0 ((if (x.cell 4).toInt=(j:Int) then 1 else 0)+(if (x.cell 5).toInt=(j:Int) then 1 else 0))
def NH (l:LI) (j:Nat):Nat:=(l.map (nm · j)).sum
theorem kJ {x:IV} (h:Q8 x) (j:Nat):nm x j=0:=by
 obtain ⟨v,_,_,rfl⟩:=h;rfl
theorem zeL (f a:Int) (n j:Nat):nm (S0 false 0 f a (n:Int) ((n:Int)+1)) j=(if j=n then 1 else 0)+(if j=n+1 then 1 else 0):=by
 show (if (n:Int)=(j:Int) then 1 else 0)+(if (n:Int)+1=(j:Int) then 1 else 0)=_;have e1:((n:Int)=(j:Int))↔(j=n):=by omega
 have e2:((n:Int)+1=(j:Int))↔(j=n+1):=by omega
 simp only [e1,e2]
theorem zeK (l m:LI) (j:Nat):NH (l++m) j=NH l j+NH m j:=by simp [NH]
theorem Dq:∀ {l:LI} {p:Nat} {x:IV} (y:IV) (j:Nat),l[p]?=some x→NH (l.set p y) j+nm x j=NH l j+nm y j
 | [],p,x,y,j,h=>by simp at h
 | z :: l,0,x,y,j,h=>by
  simp only [BZ,AC] at h;subst h;simp only [List.set_cons_zero,NH,A0,va3];omega
 | z :: l,p+1,x,y,j,h=>by
  have:=Dq (l:=l) y j (by simpa using h)
  simp only [List.set_cons_succ,NH,A0,va3] at this ⊢;omega
structure NsOK (dim:Int) (i:Nat) (s:Ns):Prop where
 len:s.nodes.length=2*i+1
 ll:s.leaves.length=i+1
 node:∀ (k:Nat) x,s.nodes[k]?=some x→Q8 x∨UR dim (2*(i:Int)+1) k x
 leaf:∀ y∈s.leaves,∃ p:Nat,y = .int (p:Int)∧∃ x,s.nodes[p]?=some x∧Q8 x
 dist:s.leaves.Nodup
 cnt:∀ j,NH s.nodes j=if 1≤j∧j < 2*i+1 then 1 else 0
theorem kT (l:LI) (i lo hi:Int) (h:lo≤hi) (h0 : -2000000000000000000≤lo) (h1:hi≤2000000000000000000):lo≤DM (EI l i) lo hi∧DM (EI l i) lo hi≤hi:=
 (HE h h0 h1).2
theorem eV (l:LI) (i:Int):Q8 (L0 (DM (EI l i) (-3000) 3000)):=
 ⟨_,(kT l i (-3000) 3000 (by omega) (by omega) (by omega)).1,(kT l i (-3000) 3000 (by omega) (by omega) (by omega)).2,rfl⟩
theorem zeU (val:LI) (dim:Int):NsOK dim 0 ⟨[L0 (DM (EI val 0) (-3000) 3000)],[.int 0]⟩ where
 len:=rfl
 ll:=rfl
 node k x h:=by
  cases k with
  | zero=>
   simp only [BZ,AC] at h;subst h;exact .inl (eV val 0)
  | succ k=>simp at h
 leaf y hy:=by
  simp only [AP,BX,CP] at hy;exact ⟨0,hy,_,rfl,eV val 0⟩
 dist:=by simp
 cnt j:=by
  have:¬ (1≤j∧j < 2*0+1):=by omega
  rw [BD this];show nm _ j+0=0;rw [kJ (eV val 0)]
theorem zeQ {l:LI} (h:l.Nodup) {k:Nat} {y:IV} (hk:l[k]?=some y):y ∉ l.take k++l.drop (k+1):=by
 intro hy;rw [← vbN,List.mem_eraseIdx_iff_getElem?] at hy;obtain ⟨i,hne,hi⟩:=hy;have h1:i < l.length:=(BR.1 hi).1;have h2:k < l.length:=(BR.1 hk).1
 have:l[i]=l[k]:=by
  rw [(BR.1 hi).2,(BR.1 hk).2]
 have hp:=List.pairwise_iff_getElem.1 h;rcases Nat.lt_trichotomy i k with hlt | heq | hlt
 ·exact hp i k h1 h2 hlt this
 ·exact hne heq
 ·exact hp k i h2 h1 hlt this.symm
theorem zeT {part byl atl val:LI} {dim:Int} (hd:1≤dim∧dim≤4) {i:Nat} (hi:i < 7) {s:Ns} (h:NsOK dim i s):NsOK dim (i+1) (KG part byl atl val dim i s):=by
 obtain ⟨k0,k1⟩:=(HE (n:=(part.getD i default).toInt) (lo:=0) (hi:=ic s.leaves.length - 1) (by simp only [ic]; have:=h.ll; omega) (by omega) (by simp only [ic]; have:=h.ll; omega)).2;have hk0:0≤H9 part i s:=k0;have hk1:H9 part i s≤ic s.leaves.length - 1:=k1;obtain ⟨k,hk⟩:∃ k:Nat,H9 part i s=k:=⟨(H9 part i s).toNat,by omega⟩;have hkl:k < s.leaves.length:=by simp only [ic] at hk1; omega
 have hky:s.leaves[k]?=some s.leaves[k]:=A8 hkl;obtain ⟨p,hp,x,hx,hlf⟩:=h.leaf _ (CX hkl);have hat:(RJ part i s).toNat=p:=by
  unfold RJ;rw [hk,BF,BV,hky,hp];show ((p:Int)).toNat=p;omega
 have hpl:p < 2*i+1:=by rw [← h.len]; exact (BR.1 hx).1
 have f1:=kT byl (i:Int) 0 (dim - 1) (by omega) (by omega) (by omega);have a1:=kT atl (i:Int) 0 9 (by omega) (by omega) (by omega);generalize hf:DM (EI byl (i:Int)) 0 (dim - 1)=f at f1;generalize ha:DM (EI atl (i:Int)) 0 9=a at a1;have el:ic s.nodes.length=2*(i:Int)+1:=by simp only [ic]; have:=h.len; omega
 have hs:KG part byl atl val dim i s=⟨s.nodes.set p (S0 false 0 f a (2*(i:Int)+1) (2*(i:Int)+1+1))++[L0 (DM (EI val (2*(i:Int)+1)) (-3000) 3000),L0 (DM (EI val (2*(i:Int)+2)) (-3000) 3000)],
   s.leaves.take k++s.leaves.drop (k+1)++[.int (2*(i:Int)+1),.int (2*(i:Int)+1+1)]⟩:=by
  unfold KG;rw [hat,hk,BF,hf,ha,el]
 rw [hs];have L1:=eV val (2*(i:Int)+1);have L2:=eV val (2*(i:Int)+2);have hgrow:∀ (q:Nat) z,UR dim (2*(i:Int)+1) q z→UR dim (2*((i+1:Nat):Int)+1) q z:=fun q z hz=>by
  obtain ⟨f,a,l,h1,h2,h3,h4,h5,h6,h7⟩:=hz;exact ⟨f,a,l,h1,h2,h3,h4,h5,by omega,h7⟩
 have hlen:(s.nodes.set p (S0 false 0 f a (2*(i:Int)+1) (2*(i:Int)+1+1))).length=2*i+1:=by rw [vaG,h.len]
 have hnew:∀ (q:Nat) z,(s.nodes.set p (S0 false 0 f a (2*(i:Int)+1) (2*(i:Int)+1+1))++[L0 (DM (EI val (2*(i:Int)+1)) (-3000) 3000),L0 (DM (EI val (2*(i:Int)+2)) (-3000) 3000)])[q]?=some z →
   (q≠p∧s.nodes[q]?=some z)∨(q=p∧z=S0 false 0 f a (2*(i:Int)+1) (2*(i:Int)+1+1))∨Q8 z:=fun q z hz=>by
  by_cases hq:q < 2*i+1
  ·rw [vbx (by rw [hlen]; exact hq)] at hz;by_cases e:p=q
   ·subst e;rw [List.getElem?_set_self (by rw [h.len]; exact hpl)] at hz;exact .inr (.inl ⟨rfl,(CS hz).symm⟩)
   ·rw [vbb e] at hz;exact .inl ⟨fun e'=>e e'.symm,hz⟩
  ·rw [vbu (by rw [hlen]; omega),hlen] at hz;obtain ⟨r,hr⟩:∃ r,q - (2*i+1)=r:=⟨_,rfl⟩;rw [hr] at hz
   match r,hz with
   | 0,hz=>exact .inr (.inr (by simp at hz; subst hz; exact L1))
   | 1,hz=>exact .inr (.inr (by simp at hz; subst hz; exact L2))
   | r+2,hz=>simp at hz
 refine ⟨?_,?_,?_,?_,?_,?_⟩
 ·show (s.nodes.set p _++[_,_]).length=_;rw [AT,hlen];simp only [AM,A6];omega
 ·show (s.leaves.take k++s.leaves.drop (k+1)++[_,_]).length=_;simp only [AT,BB,CY,AM,A6]
  have:=h.ll
  omega
 ·intro q z hz;rcases hnew q z hz with ⟨_,hz⟩ | ⟨rfl,rfl⟩ | hz
  ·rcases h.node q z hz with h1 | h1
   ·exact .inl h1
   ·exact .inr (hgrow q z h1)
  ·exact .inr ⟨f,a,2*(i:Int)+1,f1.1,by omega,a1.1,a1.2,by omega,by omega,rfl⟩
  ·exact .inl hz
 ·intro y hy;rcases AX.1 hy with hy | hy
  ·have hne:y≠.int (p:Int):=fun e=>by
    have:=zeQ h.dist hky
    rw [hp] at this;exact this (e ▸ hy)
   have hyl:y∈s.leaves:=by
    rcases AX.1 hy with hy | hy
    ·exact vaK hy
    ·exact va8 hy
   obtain ⟨q,hq,x',hx',hl'⟩:=h.leaf y hyl;have hqp:p≠q:=fun e=>by subst e; exact hne hq
   refine ⟨q,hq,x',?_,hl'⟩;have hql:q < 2*i+1:=by rw [← h.len]; exact (BR.1 hx').1
   show (s.nodes.set p _++[_,_])[q]?=_;rw [vbx (by rw [hlen]; exact hql),vbb hqp,hx']
  ·simp only [AP,BX,CP] at hy;rcases hy with rfl | rfl
   ·refine ⟨2*i+1,by simp,L0 (DM (EI val (2*(i:Int)+1)) (-3000) 3000),?_,L1⟩;show (s.nodes.set p _++[_,_])[2*i+1]?=_;rw [vbu (by rw [hlen]; omega),hlen]
    have:2*i+1 - (2*i+1)=0:=by omega
    rw [this];rfl
   ·refine ⟨2*i+1+1,by simp,L0 (DM (EI val (2*(i:Int)+2)) (-3000) 3000),?_,L2⟩;show (s.nodes.set p _++[_,_])[2*i+1+1]?=_;rw [vbu (by rw [hlen]; omega),hlen]
    have:2*i+1+1 - (2*i+1)=1:=by omega
    rw [this];rfl
 ·show (s.leaves.take k++s.leaves.drop (k+1)++[_,_]).Nodup;have big:∀ y∈s.leaves,∀ n:Int,2*(i:Int)+1≤n→y≠.int n:=fun y hy n hn e=>by
   obtain ⟨q,hq,x',hx',_⟩:=h.leaf y hy;have hql:q < 2*i+1:=by rw [← h.len]; exact (BR.1 hx').1
   rw [hq] at e;injection e with e
   omega
  have hsub:∀ y∈s.leaves.take k++s.leaves.drop (k+1),y∈s.leaves:=fun y hy=>by
   rcases AX.1 hy with hy | hy
   ·exact vaK hy
   ·exact va8 hy
  rw [List.nodup_append];refine ⟨?_,?_,?_⟩
  ·rw [← vbN];exact List.Nodup.sublist (List.eraseIdx_sublist ..) h.dist
  ·rw [List.nodup_cons];refine ⟨fun hm=>?_,by simp⟩;simp only [AP,BX,CP] at hm;injection hm with hm
   omega
  ·intro y hy z hz e;subst e;simp only [AP,BX,CP] at hz;rcases hz with hz | hz
   ·exact big y (hsub y hy) _ (by omega) hz
   ·exact big y (hsub y hy) _ (by omega) hz
 ·intro j;show NH (s.nodes.set p _++[_,_]) j=_;rw [zeK];have h1:=Dq (S0 false 0 f a (2*(i:Int)+1) (2*(i:Int)+1+1)) j hx;rw [kJ hlf,h.cnt j] at h1;have h2:NH [L0 (DM (EI val (2*(i:Int)+1)) (-3000) 3000),L0 (DM (EI val (2*(i:Int)+2)) (-3000) 3000)] j=0:=by
   show nm _ j+(nm _ j+0)=0;rw [kJ L1,kJ L2]
  have h3:=zeL f a (2*i+1) j;have e:((2*i+1:Nat):Int)=2*(i:Int)+1:=by omega
  rw [e] at h3;rw [h3] at h1;rw [h2];by_cases c1:1≤j∧j < 2*i+1
  ·rw [BP c1,BD (by omega),BD (by omega)] at h1;rw [BP (by omega)];omega
  ·rw [BD c1] at h1;by_cases c2:j=2*i+1
   ·rw [BP c2,BD (by omega)] at h1;rw [BP (by omega)];omega
   ·by_cases c3:j=2*i+1+1
    ·rw [BD c2,BP c3] at h1;rw [BP (by omega)];omega
    ·rw [BD c2,BD c3] at h1;rw [BD (by omega)];omega
theorem Eh {part byl atl val:LI} {dim:Int} (hd:1≤dim∧dim≤4):∀ (d i:Nat) (s:Ns),i+d≤7→NsOK dim i s→NsOK dim (i+d) (ZO part byl atl val dim d i s)
 | 0,i,s,_,h=>h
 | d+1,i,s,hi,h=>by
  have:=Eh (part:=part) (byl:=byl) (atl:=atl) (val:=val) hd d (i+1) _ (by omega) (zeT (part:=part) (byl:=byl) (atl:=atl) (val:=val) hd (by omega) h)
  rw [vaV,Nat.add_comm 1 d] at this;exact this
theorem Ei (part byl atl val:LI) {dim:Int} (hd:1≤dim∧dim≤4):∃ i,i≤7∧NsOK dim i (O7 part byl atl val dim):=by
 refine ⟨min part.length 7,by omega,?_⟩
 have:=Eh (part:=part) (byl:=byl) (atl:=atl) (val:=val) hd (min part.length 7) 0 _ (by omega) (zeU val dim)
 rw [BI] at this;exact this
open Go
theorem Nd.eq_of {x y:Nd} (h:x.eq y=true):x=y:=by
 obtain ⟨a1,a2,a3,a4,a5,a6⟩:=x;obtain ⟨b1,b2,b3,b4,b5,b6⟩:=y;simp only [Nd.eq,AI,B8,B7] at h;obtain ⟨rfl,rfl,rfl,rfl,rfl,rfl⟩:=h;rfl
theorem kK {w:Int} (h:GC w=true):IY (DL w)=w∧MW (DL w)=true:=by
 have hn:DL w=XQ w:=by unfold DL; rw [h]; rfl
 unfold GC at h;simp only [AI,B3,B8,A4] at h;rw [hn];refine ⟨h.2,?_⟩;cases hr:MW (XQ w) with
 | true=>rfl
 | false=>
  have:=h.2
  unfold IY at this;rw [hr] at this;exact absurd this.symm h.1
def pI (i:Nat):Bool:=GC (IH true ((i:Int) - 3000) 0 0 0 0)&&(DL (IH true ((i:Int) - 3000) 0 0 0 0)).eq ⟨true,(i:Int) - 3000,0,0,0,0⟩
def kA:Nat→Bool
 | 0=>true
 | n+1=>pI n&&kA n
theorem Ck:∀ {n i:Nat},kA n=true→i < n→pI i=true
 | n+1,i,h,hi=>by
  rw [kA,AI] at h;by_cases e:i=n
  ·subst e; exact h.1
  ·exact Ck h.2 (by omega)
def oM (i:Nat):Bool:=GC (IH false 0 ((i % 4:Nat):Int) ((i / 4 % 10:Nat):Int) ((i / 40:Nat):Int) (((i / 40:Nat):Int)+1)) &&
 (DL (IH false 0 ((i % 4:Nat):Int) ((i / 4 % 10:Nat):Int) ((i / 40:Nat):Int) (((i / 40:Nat):Int)+1))).eq ⟨false,0,((i % 4:Nat):Int),((i / 4 % 10:Nat):Int),((i / 40:Nat):Int),((i / 40:Nat):Int)+1⟩
def jL:Nat→Bool
 | 0=>true
 | n+1=>(BS n 40||oM n)&&jL n
theorem Am:∀ {n i:Nat},jL n=true→i < n→40≤i→oM i=true
 | n+1,i,h,hi,h40=>by
  rw [jL,AI] at h;by_cases e:i=n
  ·subst e
   have:=h.1
   rw [vap] at this;rcases this with h1 | h1
   ·have:i < 40:=AN h1
    omega
   ·exact h1
  ·exact Am h.2 (by omega) h40
theorem zct:kA 6001=true:=by kernel_rfl
theorem Ze:jL 1200=true:=by kernel_rfl
theorem pF {v:Int} (h0 : -3000≤v) (h1:v≤3000):GC (IH true v 0 0 0 0)=true∧DL (IH true v 0 0 0 0)=⟨true,v,0,0,0,0⟩:=by
 have h:=Ck zct (show (v+3000).toNat < 6001 by omega);have e:(((v+3000).toNat:Nat):Int) - 3000=v:=by omega
 unfold pI at h;rw [e,AI] at h;exact ⟨h.1,Nd.eq_of h.2⟩
theorem Ap {f a l:Int} (hf:0≤f∧f < 4) (ha:0≤a∧a≤9) (hl:1≤l∧l≤28):GC (IH false 0 f a l (l+1))=true∧DL (IH false 0 f a l (l+1))=⟨false,0,f,a,l,l+1⟩:=by
 have h:=Am Ze (show l.toNat*40+a.toNat*4+f.toNat < 1200 by omega) (by omega);have e1:(((l.toNat*40+a.toNat*4+f.toNat) % 4:Nat):Int)=f:=by omega
 have e2:(((l.toNat*40+a.toNat*4+f.toNat) / 4 % 10:Nat):Int)=a:=by omega
 have e3:(((l.toNat*40+a.toNat*4+f.toNat) / 40:Nat):Int)=l:=by omega
 unfold oM at h;rw [e1,e2,e3,AI] at h;exact ⟨h.1,Nd.eq_of h.2⟩
theorem zjo {dim n:Int} (hd:dim≤4) (hn:n≤29) {i:Nat} {x:IV} (h:Q8 x∨UR dim n i x) (j:Nat):K8 (DL (S4 x).toInt) j=nm x j:=by
 rcases h with ⟨v,h0,h1,rfl⟩ | ⟨f,a,l,h0,h1,h2,h3,h4,h5,rfl⟩
 ·show K8 (DL (IH true v 0 0 0 0)) j=_;rw [(pF h0 h1).2];rfl
 ·show K8 (DL (IH false 0 f a l (l+1))) j=_;rw [(Ap ⟨h0,by omega⟩ ⟨h2,h3⟩ ⟨by omega,by omega⟩).2];rfl
theorem zjp {dim n:Int} (hd:dim≤4) (hn:n≤29) {i:Nat} {x:IV} (h:Q8 x∨UR dim n i x):(GC (S4 x).toInt&&N4 dim n i (DL (S4 x).toInt))=true:=by
 rcases h with ⟨v,h0,h1,rfl⟩ | ⟨f,a,l,h0,h1,h2,h3,h4,h5,rfl⟩
 ·show (GC (IH true v 0 0 0 0)&&N4 dim n i (DL (IH true v 0 0 0 0)))=true;rw [(pF h0 h1).1,(pF h0 h1).2];rfl
 ·show (GC (IH false 0 f a l (l+1))&&N4 dim n i (DL (IH false 0 f a l (l+1))))=true;have hw:=Ap ⟨h0,by omega⟩ ⟨h2,h3⟩ (show 1≤l∧l≤28 by omega);rw [hw.1,hw.2];unfold N4;simp only [A9,AL (show ¬ f≥dim by omega),A4.2 (show l≠l+1 by omega),AL (show ¬ min l (l+1)≤(i:Int) by omega),AL (show ¬ max l (l+1)≥n by omega)];rfl
theorem Eb {dim n:Int} (hd:dim≤4) (hn:n≤29):∀ {l:LI} {i:Nat},(∀ (k:Nat) x,l[k]?=some x→Q8 x∨UR dim n (i+k) x)→KF dim n i (l.map S4)=true
 | [],_,_=>rfl
 | x :: l,i,h=>by
  rw [A0,KF,AI];refine ⟨zjp hd hn (h 0 x rfl),Eb hd hn (i:=i+1) fun k y hk=>?_⟩
  have:=h (k+1) y (by simpa using hk)
  rwa [show i+(k+1)=i+1+k by omega] at this
theorem Dj {dim n:Int} (hd:dim≤4) (hn:n≤29) (j:Nat):∀ {l:LI} {i:Nat},(∀ (k:Nat) x,l[k]?=some x→Q8 x∨UR dim n (i+k) x)→IW (l.map S4) j=NH l j
 | [],_,_=>rfl
 | x :: l,i,h=>by
  have ih:=Dj hd hn j (l:=l) (i:=i+1) fun k y hk=>by
   have:=h (k+1) y (by simpa using hk)
   rwa [show i+(k+1)=i+1+k by omega] at this
  have h0:=zjo hd hn (h 0 x rfl) j;unfold IW NH at ih ⊢;simp only [A0,va3];rw [h0,ih]
theorem zeP (part byl atl val:LI) {dim:Int} (hd:1≤dim∧dim≤4):GV (MP part byl atl val dim) dim=true:=by
 obtain ⟨i,hi,h⟩:=Ei part byl atl val hd;have hlen:(MP part byl atl val dim).length=2*i+1:=by
  unfold MP;rw [BG,h.len]
 have hn:∀ (k:Nat) x,(O7 part byl atl val dim).nodes[k]?=some x→Q8 x∨UR dim (ic (MP part byl atl val dim).length) (0+k) x:=fun k x hk=>by
  have e:ic (MP part byl atl val dim).length=2*(i:Int)+1:=by simp only [ic]; omega
  rw [e,BI];exact h.node k x hk
 have hb:ic (MP part byl atl val dim).length≤29:=by simp only [ic]; omega
 unfold GV;rw [AI,AI,AI];refine ⟨⟨C6 (by omega),C6 (by omega)⟩,Eb hd.2 hb hn,?_⟩;unfold ZR;rw [CR];intro j hj;have hj:=vaR.1 hj;rw [B8]
 have:=Dj hd.2 hb (j+1) hn
 have e:IW (MP part byl atl val dim) (j+1)=NH (O7 part byl atl val dim).nodes (j+1):=this;rw [e,h.cnt,BP (by omega)]
theorem Y8 (d:Int):1≤N2 d∧N2 d≤3:=(HE (n:=d) (lo:=1) (hi:=3) (by omega) (by omega) (by omega)).2
theorem dY (d:Int):1≤KQ d∧KQ d≤3:=(HE (n:=d) (lo:=1) (hi:=3) (by omega) (by omega) (by omega)).2
def kH (d c:Int) (bias ts:LI):Md:=⟨N2 d,KQ c,SJ c bias 0,SJ c bias 1,SJ c bias 2,RW d c ts⟩
theorem mW (c:Int) (bias:LI) (j:Int):HV (KQ c) j (SJ c bias j)=true:=by
 unfold HV SJ
 have:=(HE (n:=EI bias j) (lo := -500) (hi:=500) (by omega) (by omega) (by omega)).2
 rcases Int.lt_or_le j (KQ c) with h | h
 ·rw [AD h,AL (show ¬ j≥KQ c by omega)];simp only [BJ,BL,A7,B2];unfold E2;rw [AD (by omega),AD (by omega)];rfl
 ·rw [AL (show ¬ j < KQ c by omega),AD (show j≥KQ c from h)];rfl
theorem zi4 (d c:Int) (t:IV):HM (N2 d) (KQ c) (aB d c t)=true:=by
 have hd:=Y8 d;have hc:=dY c;have hk:=(HE (n:=(t.cell 0).toInt) (lo:=0) (hi:=KQ c - 1) (by omega) (by omega) (by omega)).2;show (!(decide (DM (t.cell 0).toInt 0 (KQ c - 1) < 0))&&(!(decide (DM (t.cell 0).toInt 0 (KQ c - 1)≥KQ c))&&GV (MP (t.cell 1).toList (t.cell 2).toList (t.cell 3).toList (t.cell 4).toList (N2 d)) (N2 d)))=true;rw [AL (by omega),AL (by omega),zeP _ _ _ _ ⟨hd.1,by omega⟩];rfl
theorem zi6 (d c:Int) (ts:LI):(RW d c ts).all (HM (N2 d) (KQ c))=true:=by
 rw [CR];intro t ht;unfold RW at ht;obtain ⟨u,_,rfl⟩:=CI.1 ht;exact zi4 d c u
theorem zi5 (d c:Int) (ts:LI):(RW d c ts).length≤4:=by
 unfold RW;rw [BG,BB];omega
theorem zcN {m:Md} (hd:1≤m.d∧m.d≤4) (hc:1≤m.c∧m.c≤3) (hl:m.ts.length≤8) (h0:HV m.c 0 m.b0=true) (h1:HV m.c 1 m.b1=true) (h2:HV m.c 2 m.b2=true) (ht:m.ts.all (HM m.d m.c)=true):EW m=true:=by
 unfold EW;rw [AL (show ¬ m.d < 1 by omega),AL (show ¬ m.d > 4 by omega),AL (show ¬ m.c < 1 by omega),AL (show ¬ m.c > 3 by omega),C6 hl,h0,h1,h2,ht];rfl
theorem zcO (d c:Int) (bias ts:LI):EW (kH d c bias ts)=true:=by
 have hd:=Y8 d;have hc:=dY c;exact zcN (m:=kH d c bias ts) ⟨hd.1,by show N2 d≤4; omega⟩ hc (by have:=zi5 d c ts; show (RW d c ts).length≤8; omega) (mW c bias 0) (mW c bias 1) (mW c bias 2) (zi6 d c ts)
open Go
abbrev EC:List Kd:=[.bool,.z,.z]
def GS (x:IV):Bool:=(x.cell 0).toBool
def E9 (x:IV):Int:=(x.cell 1).toInt
def FP (x:IV):Int:=(x.cell 2).toInt
def VB (x y:IV):Bool:=GS x==GS y&&(E9 x==E9 y&&FP x==FP y)
def PG (x:IV):Bool:=!(GS x&&!(E9 x==0&&FP x==0))&&(decide (0≤E9 x)&&decide (E9 x≤4))
def PH (l:LI):Bool:=decide (1≤l.length)&&(decide (l.length≤65536)&&l.all PG)
def bM:DV
 | [.list true [.bool,.z,.z] l]=>.ok (.bool (PH l)) []
 | _=>.no
def FR:LI→LI→Bool
 | [],[]=>true
 | x :: l,y :: m=>VB x y&&FR l m
 | _,_=>false
def bQ:DV
 | [.list true [.bool,.z,.z] l,.list true [.bool,.z,.z] m]=>.ok (.bool (FR l m)) []
 | _=>.no
structure Vd where
 kind:Int
 proof:LI
 w0:Int
 w1:Int
 w2:Int
 w3:Int
 twin:Int
 spent:Int
def Vd.none:Vd:=⟨0,[],0,0,0,0,0,0⟩
def Vd.V (v:Vd):V:=.agg [.int .i64 v.kind,.list true EC v.proof,.int .i64 v.w0,.int .i64 v.w1,.int .i64 v.w2,.int .i64 v.w3,.int .i64 v.twin,.int .i64 v.spent]
def Vd.bare (v:Vd):Bool:=v.w0==0&&(v.w1==0&&(v.w2==0&&(v.w3==0&&v.twin==0)))
def Vd.right (v:Vd):Bool:=
 decide (0≤v.spent)&&(decide (v.spent≤65536) &&
  (v.kind==1&&(v.bare&&PH v.proof)||(v.kind==2&&v.proof.isEmpty||(v.kind==3||v.kind==4)&&(v.bare&&v.proof.isEmpty))))
def bI:DV
 | [.agg [.int .i64 k,.list true [.bool,.z,.z] p,.int .i64 a,.int .i64 b,.int .i64 c,.int .i64 d,.int .i64 t,.int .i64 s]]=>.ok (.bool (Vd.right ⟨k,p,a,b,c,d,t,s⟩)) []
 | _=>.no
def MR:BA→LI→BA
 | s,[]=>s
 | s,x :: l=>MR (s.push 32++DP x.toInt) l
def GH (s w:BA) (l:LI):BA:=(MR (s++w) l).push 10
def bJ:DV
 | [.bor [.bld s],.str w,.list false [.z] l]=>.br (decide ((GH s w l).size≤strMax)) (.ok (.tup []) [[.bld (GH s w l)]]) .no
 | _=>.no
def GD (l:LI) (i:Int):Int:=cond (decide (ic l.length≤i)) 0 (FF (l.getD i.toNat default).toStr)
def bK:DV
 | [.list false [.str] l,.int .i64 i]=>.br (decide (0≤i)) (.ok (.int .i64 (GD l i)) []) .no
 | _=>.no
def RG (b:Bool) (p a:Int):IV:=.agg [.bool b,.int p,.int a]
abbrev I0:BA:=⟨#[104,111,108,100,115]⟩
abbrev QK:BA:=⟨#[102,97,105,108,115]⟩
abbrev QL:BA:=⟨#[117,110,107,110,111,119,110]⟩
abbrev QM:BA:=⟨#[119,114,111,110,103]⟩
abbrev RX:BA:=⟨#[115,117,109]⟩
abbrev X8:BA:=⟨#[99,117,116]⟩
abbrev EP:BA:=⟨#[10]⟩
abbrev VJ:BA:=⟨#[32]⟩
abbrev EB:BA:=⟨#[]⟩
def IE (s:BA):LI:=(D2 (cutL s EP) VJ).map IV.str
def MD (l:LI):BA:=(l.getD 0 default).toStr
def ZY (s:BA):IV:=
 cond ((MD (IE s)).toList==RX.toList) (RG true 0 0) (RG false (GD (IE s) 1) (GD (IE s) 2))
def S5:Nat→BA→LI→LI
 | 0,_,p=>p
 | n+1,s,p=>cond (!(s.toList==EB.toList)&&decide (p.length≤65536)) (S5 n (FQ s EP) (p++[ZY s])) p
def II (s:BA):Vd:=
 cond ((MD (IE s)).toList==I0.toList) ⟨1,S5 ((FQ s EP).size+1) (FQ s EP) [],0,0,0,0,0,GD (IE s) 1⟩
 (cond ((MD (IE s)).toList==QK.toList) ⟨2,[],GD (IE s) 2,GD (IE s) 3,GD (IE s) 4,GD (IE s) 5,GD (IE s) 6,GD (IE s) 1⟩
 (cond ((MD (IE s)).toList==QL.toList) ⟨3,[],0,0,0,0,0,GD (IE s) 1⟩
 (cond ((MD (IE s)).toList==QM.toList) ⟨4,[],0,0,0,0,0,GD (IE s) 1⟩
 ⟨0,[],0,0,0,0,0,GD (IE s) 1⟩)))
def bL:DV
 | [.str s]=>.br (decide (s.size < 4294967281)) (.ok (.agg [.int .i64 (II s).kind,.list true [.bool,.z,.z] (II s).proof,.int .i64 (II s).w0,.int .i64 (II s).w1,.int .i64 (II s).w2,.int .i64 (II s).w3,.int .i64 (II s).twin,.int .i64 (II s).spent]) []) .no
 | _=>.no
def KV:BA→LI→BA
 | s,[]=>s
 | s,x :: l=>KV (cond (GS x) (GH s RX []) (GH s X8 [.int (E9 x),.int (FP x)])) l
def EL (v:Vd):BA:=
 cond v.right
  (cond (v.kind==1) (KV (GH EB I0 [.int v.spent,.int (ic v.proof.length)]) v.proof)
  (cond (v.kind==2) (GH EB QK [.int v.spent,.int v.w0,.int v.w1,.int v.w2,.int v.w3,.int v.twin])
  (cond (v.kind==3) (GH EB QL [.int v.spent])
  (GH EB QM [.int v.spent]))))
  EB
def SC:DV
 | [.agg [.int .i64 k,.list true [.bool,.z,.z] p,.int .i64 a,.int .i64 b,.int .i64 c,.int .i64 d,.int .i64 t,.int .i64 s]]=>
  .br (decide ((EL ⟨k,p,a,b,c,d,t,s⟩).size≤strMax)) (.ok (.str (EL ⟨k,p,a,b,c,d,t,s⟩)) []) .no
 | _=>.no
def U1 (s:BA):Bool:=!(s.toList==EB.toList)&&(EL (II s)).toList==s.toList
def J1 (s:BA):Vd:=cond (U1 s) (II s) Vd.none
def bH:DV
 | [.str s]=>.br (decide (s.size < 4294967281)) (.br (decide ((EL (II s)).size≤strMax)) (.ok (.tup [.agg [.int .i64 (J1 s).kind,.list true [.bool,.z,.z] (J1 s).proof,.int .i64 (J1 s).w0,.int .i64 (J1 s).w1,.int .i64 (J1 s).w2,.int .i64 (J1 s).w3,.int .i64 (J1 s).twin,.int .i64 (J1 s).spent],.bool (U1 s)]) []) .no) .no
 | _=>.no
def gS (a b:Vd):Bool:=a.kind==b.kind&&(FR a.proof b.proof&&(a.w0==b.w0&&(a.w1==b.w1&&(a.w2==b.w2&&(a.w3==b.w3&&(a.twin==b.twin&&a.spent==b.spent))))))
def bU:DV
 | [.agg [.int .i64 k,.list true [.bool,.z,.z] p,.int .i64 a,.int .i64 b,.int .i64 c,.int .i64 d,.int .i64 t,.int .i64 s],
  .agg [.int .i64 k',.list true [.bool,.z,.z] p',.int .i64 a',.int .i64 b',.int .i64 c',.int .i64 d',.int .i64 t',.int .i64 s']]=>.ok (.bool (gS ⟨k,p,a,b,c,d,t,s⟩ ⟨k',p',a',b',c',d',t',s'⟩)) []
 | _=>.no
end Go.FM
