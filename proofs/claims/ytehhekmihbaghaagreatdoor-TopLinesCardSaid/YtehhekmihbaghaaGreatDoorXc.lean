/-
  A small machine that reckons what a call comes to; the functions of the program, one by one. (THE LIBRARY's strconv.FormatUint AT BASE 10: the number's de, WHAT THE LIBRARY's FUNCTIONS OVER SLICES OF STRINGS COME TO,, THE LIBRARY's FUNCTIONS AS THE SMALL MACHINE SEES THEM: stri, and so on.)
-/
import Derived.Test.YtehhekmihbaghaaGreatDoorXb
import Derived.Lib.AppendIntMem
set_option linter.all false
set_option maxRecDepth 100000
open Array renaming length_toList→CK,toList_append→vah
open BitVec renaming ofInt→A4,toNat→CG
open Bool renaming and_eq_true→AH,not_true→A2,true_and→A6,not_false→A8,false_and→BM,and_true→B1,and_self→B3,not_eq_true'→B4,and_false→vae,or_eq_true→van,false_or→vaw,eq_iff_iff→va1
open ByteArray renaming size→AG,size_append→AV,toList→AW,empty→CI,append_assoc→C8,extract→vaM,size_push→va2,size_extract→vbf
open Go.Addr.mk renaming injEq→DH
open Go.IntKind renaming wrap→AA,i64→AB,u64→AJ,bits→AR,signed→vai,wrap_u64→vbi
open Go.Lib renaming decDigits→BU,strCells→DC,indexByte→DG,itoa→vaj,strCells_length→var,split→vav,bytesWorld→vaN,cut→vaO,parseUint10→vaP,atoiAll→vbj,count_one→vbv,parseUintB_64→vbK
open Go.ResultVar renaming tmp→CE,cell→va4
open Go.World renaming cell?→vaL
open Int renaming toNat→AE,toNat_natCast→BF,le_refl→vab,fdiv→vaZ
open List renaming length→AF,getD→AI,take→AK,length_cons→AM,mem_cons_self→AN,mem_cons→AO,drop→AS,length_append→AT,mem_append→AX,mem_cons_of_mem→AY,map_cons→A0,map→A3,length_nil→A7,getElem?_eq_getElem→A9,length_take→BB,length_map→BE,drop_eq_getElem_cons→BG,mem_singleton→BL,replicate→BN,take_length→BO,getElem?_eq_some_iff→BR,getD_eq_getElem?_getD→BV,not_mem_nil→BX,getElem?_cons_zero→BY,getElem?_eq_none→BZ,drop_zero→B2,getElem?_map→B9,map_nil→CA,mem_map→CJ,getElem?_take→CL,all_eq_true→CQ,drop_of_length_le→CS,cons_append→CT,take_of_length_le→CV,length_drop→CX,getElem_mem→C1,length_singleton→C3,size_toArray→C9,append_nil→DB,getElem?_append→vaf,mem_of_getElem?→vag,getElem?_drop→vap,all_cons→vax,drop_length→vaA,range→vaC,length_set→vaF,append_assoc→vaH,mem_of_mem_take→vaI,mem_of_mem_drop→va5,mem_range→va6,count_eq_zero_of_not_mem→va8,getElem?_set_ne→va9,sum_cons→vbc,getElem?_append_right→vbu,getElem?_append_left→vbx,isPrefixOf→vbA,eraseIdx_eq_take_drop_succ→vbM
open Nat renaming le_of_ble_eq_true→AP,le_refl→AZ,zero_add→BI,beq→BQ,blt→BS,ble→B6,le_trans→C2,ble_eq_true_of_le→C7,add_zero→DA,eq_of_beq_eq_true→vam,add_assoc→vaT,strongRecOn→vbr
open Option renaming map_eq_some_iff→DE
open Option.some renaming injEq→AC,inj→CR
open Prod.mk renaming injEq→AU
open UInt8 renaming toNat_ofNat_of_lt'→vaa,size→vbo
namespace Go.FM
open Go Go.Proofs Go.RowKit Go.Sort Go.Lib
set_option maxHeartbeats 12800000 in
theorem zap (u:Nat) (hu64:u < 18446744073709551616) (w:World) (htab:Lib.TabIs Tryz.prog w "internal/strconv.uint64pow10" .u64 Lib.pow10Tab) :
  Calls Tryz.prog 129 #[.int .u64 u,.int .i64 10] w fun e w'=>e = .returned (.string ⟨(Lib.decDigits u).toArray⟩)∧∃ k os,w'=grow (w.drewN k) os:=by
 by_cases hs:u < 100
 ·have hwr:IntKind.i64.wrap (u:Int)=(u:Int):=by rw [IntKind.wrap_i64]; omega
  have iu:(u:Int) < 100:=by omega
  go_enter Tryz.func129,Tryz.ntmps129
  go_wp2_with (go_at_call 170; refine (Tryz.internal_strconv_small u hs _).mono ?_; rintro e w' ⟨rfl,rfl⟩)
  go_ret
  exact ⟨rfl,0,#[],by simp [World.drewN_zero]⟩
 ·have hu1:1≤u:=by omega
  have hnd20:Lib.nDigits u≤20:=by have:=Lib.numDigits_eq u hu1 hu64; split at this <;> omega
  have hal:Tryz.prog.arrayLen 225=24:=by simp [Program.arrayLen,Tryz.underlying225]
  have hsl:∀ W,(Instr.sliceAt 225 (.pointer (some ⟨w.heap.size,0,none⟩)) none (some (.int .i64 (Lib.nDigits u:Int))) none).run Tryz.prog W = .ok (.slice (some ⟨w.heap.size,0,none⟩) (Lib.nDigits u) 24) W:=fun W=>by
   rw [run_sliceAt_array_h W 225 ⟨w.heap.size,0,none⟩ (by simp [Program.arrayLen,Program.elem,Tryz.underlying225]) .i64 (Lib.nDigits u:Int) (by omega) (by rw [hal]; omega)]
   go_simp
  have hH0:=Lib.holds_zero0 w 225 (Lib.nDigits u) (by omega);have hfmt:=Tryz.internal_strconv_formatBase10 w.heap.size 0 24 u (Array.replicate (Lib.nDigits u) 0) (w.alloc (.cells Lib.zeros24 225)) hH0 (by rw [Array.size_replicate]; exact Lib.lt_pow_nDigits u) hu64 (by rw [Array.size_replicate]; omega);rw [Array.size_replicate] at hfmt;have HH0:=Lib.hid hH0;have iu:¬ (u:Int) < 100:=by omega
  clear hH0 hal hs
  go_enter Tryz.func129,Tryz.ntmps129
  go_wp2_with (first
   | (go_at_call 171; refine (Tryz.internal_strconv_numDigits u hu1 hu64 _ (Lib.tabIs_alloc htab _)).mono ?_; rintro e w' ⟨rfl,rfl⟩))
  go_at_call 172
  refine hfmt.mono ?_;rintro e w' ⟨rfl,k,v',dk,rfl,hF⟩;have hcv:(convert 69 9 (.slice (some ⟨w.heap.size,0,none⟩) (Lib.nDigits u) 24)).run Tryz.prog ((putRow (fun (b:UInt8)=>Value.int .u8 (b.toNat:Int)) (w.alloc (.cells Lib.zeros24 225)) w.heap.size 0 dk).drewN k) = .ok (.string ⟨(Lib.decDigits u).toArray⟩) ((putRow (fun (b:UInt8)=>Value.int .u8 (b.toNat:Int)) (w.alloc (.cells Lib.zeros24 225)) w.heap.size 0 dk).drewN k):=by
   have h:=run_convert_bytes_back (P:=Tryz.prog) ((putRow (fun (b:UInt8)=>Value.int .u8 (b.toNat:Int)) (w.alloc (.cells Lib.zeros24 225)) w.heap.size 0 dk).drewN k) 69 9 5 ⟨w.heap.size,0,none⟩ 24 (Lib.decDigits u) Tryz.underlying69 Tryz.underlying5 Tryz.underlying9 (fun j hj=>by
    rw [Lib.row_is_numeral hF j hj,Lib.add_plain,World.cell?_drewN];exact cell?_putRow (fun (b:UInt8)=>Value.int .u8 (b.toNat:Int)) _ w.heap.size 0 _ dk HH0.out (by rw [hF.size,Array.size_replicate]) j (by rw [hF.size]; rw [Lib.decDigits_length] at hj; exact hj))
   rw [Lib.decDigits_length] at h;exact h
  go_wp2
  go_ret
  obtain ⟨os,eo⟩:=Lib.fin_at w (.cells Lib.zeros24 225) dk k 0;exact ⟨rfl,k,os,eo⟩
set_option maxHeartbeats 1600000 in
theorem zao (u:Nat) (hu64:u < 18446744073709551616) (w:World) (htab:Lib.TabIs Tryz.prog w "internal/strconv.uint64pow10" .u64 Lib.pow10Tab) :
  Calls Tryz.prog 83 #[.int .u64 u,.int .i64 10] w fun e w'=>e = .returned (.string ⟨(Lib.decDigits u).toArray⟩)∧∃ k os,w'=grow (w.drewN k) os:=by
 go_enter Tryz.func83,Tryz.ntmps83
 go_wp2_with (go_at_call 129; refine (zap u hu64 _ htab).mono ?_; rintro e w' ⟨rfl,hw⟩)
 go_ret
 exact ⟨rfl,hw⟩
theorem zi5:(PR.info? 9).map (fun i=>(i.zero,i.size,i.bytes))=some (some (.string .empty),1,16):=by kernel_rfl
set_option maxHeartbeats 4000000 in
theorem Wc (b:Addr) (n c:Nat) (news:List Value) (w:World) (hl:news.length=n) (hn:n≤maxLen) (hbig:n*16≤140737488355328)
  (hc:∀ j u,news[j]?=some u→w.cell? (b.add j)=some u) (h1:∀ u∈news,u.oneCell'=true) :
  Calls Tryz.prog 161 #[.slice (some b) n c] w fun e w'=>∃ v',e = .returned v'∧w'.ownsRow w.heap.size 9 1 v' n news∧Below w.heap.size w w':=by
 obtain ⟨i0,hi,hz0,hz1,hz2⟩:=info_parts zi5;have qS:∀ (w:World) (a:Option Addr) (n c n' c':Nat),(binOp .eql 66 (.slice a n c) (.slice none n' c')).run Tryz.prog w = .ok (.bool a.isNone) w:=fun w a n c n' c'=>Lib.run_eql_slice_nil w _ _ a n c n' c' Tryz.underlying66
 have A:Aside (∀ j u,news[j]?=some u→w.cell? (b.add j)=some u):=hc;clear hc
 go_enter Tryz.func161,Tryz.ntmps161
 go_wp2_with (at_builtin; refine wpList_append_own _ rfl _ _ 66 rfl w.heap.size 9 i0 (.string .empty) 1 16 Tryz.underlying66 hi hz0 hz1 hz2 rfl (by decide) _ _ _ rfl (World.ownsRow_made w #[] 0 (Nat.le_refl _) (Nat.zero_le _) (by simp)) b n c news rfl ?qc1 ?qc2 ?qc3 ?qc4 ?qc5 ?qc6 ?_)
 case qc1=>rw [Nat.mul_one]; exact hl
 case qc2=>
  intro j u hj;exact Lib.cell?_alloc_some _ (A.out j u hj)
 case qc3=>exact h1
 case qc4=>rw [Nat.zero_add]; exact hn
 case qc5=>rw [Nat.zero_add]; exact hbig
 case qc6=>simp
 intro v' w1 hown hgrow hnil
 go_wp2
 go_ret
 refine ⟨v',rfl,by simpa using hown,?_⟩;exact ((Below.refl _ w).alloc (Nat.le_refl _) _).grown hgrow (by simp) (by intro k hk; simp [Value.ownBlock] at hk; omega)
set_option maxHeartbeats 1000000 in
theorem Vz (n c:Nat) (w:World):Calls Tryz.prog 161 #[.slice none n c] w fun e w'=>e = .returned (.slice none 0 0)∧w'=w:=by
 have qS:∀ (w:World) (a:Option Addr) (n c n' c':Nat),(binOp .eql 66 (.slice a n c) (.slice none n' c')).run Tryz.prog w = .ok (.bool a.isNone) w:=fun w a n c n' c'=>Lib.run_eql_slice_nil w _ _ a n c n' c' Tryz.underlying66
 go_enter Tryz.func161,Tryz.ntmps161
 go_wp2
 go_ret
 exact ⟨rfl,rfl⟩
open Go Go.RowKit
def iI:DV
 | [.list false [.str] l]=>.br (decide (l.length≤4294967296)) (.ok (.vec 9 false [.str] l) []) .no
 | _=>.no
def dS:DV
 | [.list false [.str] l,.str s]=>.ok (.int .i64 (F2 l s 0)) []
 | _=>.no
open Go Go.Proofs Go.RowKit
structure GF (h:Nat→Option Obj):Prop where
 unit:True
 gm:∃ c T fr m,h 1=some (.cells c T fr)∧c[0]?=some (.int .i64 m)
 gp:∃ T fr,h 0=some (.cells (Lib.pow10Tab.map fun z=>Value.int .u64 z).toArray T fr)
 gs:∃ c T fr te pe,h 2=some (.cells c T fr)∧c[0]?=some (.iface te pe)
 gr:∃ c T fr te pe,h 3=some (.cells c T fr)∧c[0]?=some (.iface te pe)
def B0:BT:={ T:=108,e:=5,ng:=4,F:=GF }
theorem jY {w:World} {h:Nat→Option Obj} (hh:h=fun b=>if b < B0.ng then w.heap[b]? else none) {g:Nat} (hg:g < 4) {o:Obj} (ho:h g=some o):w.heap[g]?=some o:=by
 rw [hh] at ho;simp only at ho;rw [BP (show g < B0.ng from hg)] at ho;exact ho
theorem Bz {w:World} (h:Glob B0 w):∃ m,w.cell? ⟨1,0,none⟩=some (.int .i64 m):=by
 obtain ⟨c,T,fr,m,h1,h2⟩:=h.2.gm;exact ⟨m,by simp only [vaL,jY rfl (by decide) h1]; exact h2⟩
theorem Ca {w:World} (h:Glob B0 w):Lib.TabIs Tryz.prog w "internal/strconv.uint64pow10" .u64 Lib.pow10Tab:=by
 obtain ⟨T,fr,h1⟩:=h.2.gp;have hn:Tryz.prog.globalNamed "internal/strconv.uint64pow10" = some 0:=by kernel_rfl
 unfold Lib.TabIs World.var?;rw [hn];simp only [Option.bind_some,jY rfl (by decide) h1]
theorem Cc {w:World} (h:Glob B0 w):∃ ev,w.cell? ⟨2,0,none⟩=some ev∧(ev = .nilIface∨∃ te pe,ev = .iface te pe):=by
 obtain ⟨c,T,fr,te,pe,h1,h2⟩:=h.2.gs;exact ⟨_,by simp only [vaL,jY rfl (by decide) h1]; exact h2,.inr ⟨te,pe,rfl⟩⟩
theorem Cb {w:World} (h:Glob B0 w):∃ ev,w.cell? ⟨3,0,none⟩=some ev∧(ev = .nilIface∨∃ te pe,ev = .iface te pe):=by
 obtain ⟨c,T,fr,te,pe,h1,h2⟩:=h.2.gr;exact ⟨_,by simp only [vaL,jY rfl (by decide) h1]; exact h2,.inr ⟨te,pe,rfl⟩⟩
theorem Keep.below {w w':World} (h:Below w.heap.size w w'):Keep (fun _=>False) w w':=⟨h.os,h.tape,h.output,h.size,fun b hb _=>h.block b hb⟩
theorem Keep.drewN {O:Nat→Prop} (w:World):∀ n,Keep O w (w.drewN n):=fun _=>⟨rfl,rfl,rfl,AZ _,fun _ _ _=>rfl⟩
theorem Keep.grow (w:World) (os:Array Obj):Keep (fun _=>False) w (Go.Sort.grow w os):=⟨rfl,rfl,rfl,by simp [Go.Sort.grow],fun b hb _=>by simp [Go.Sort.grow,Array.getElem?_append_left hb]⟩
theorem tV:DX PR B0 60 UH:=by
 intro w X γ vs xs r out hsp hg hx hR hV;unfold UH at hsp;simp only at hsp;split at hsp
 ·rename_i s t;cases hc:decide (s.size+t.size≤strMax) with
  | false=>rw [hc] at hsp; simp [R.get] at hsp
  | true=>
   rw [hc] at hsp;simp only [R.get,AC,AU] at hsp;obtain ⟨rfl,rfl⟩:=hsp;have hle:s.size+t.size≤strMax:=A1 hc;refine tO hR rfl rfl (fun γ' o w' O x h=>by
    simp only [VRel] at h ⊢;obtain ⟨cs,rfl,h⟩:=h;refine ⟨cs,rfl,?_⟩
    match cs,h with
    | ⟨[a,b]⟩,h=>simp only [VRels,VRel] at h ⊢; exact h) (fun b v p hgm hB=>?_)
   obtain ⟨x0,x1,rfl⟩:∃ x0 x1,xs=[x0,x1]:=by
    have:=hV.length
    simp at this
    match xs,this with
    | [a,b],_=>exact ⟨a,b,rfl⟩
   simp only [A0,CA,ER,VRels] at hV;have h0:=nO hgm hV.1;have h1:=hV.2.1;simp only [VRel] at h1;obtain ⟨rfl,ht⟩:=h1;subst h0;refine Does.of_calls Tryz.func60 (by kernel_rfl) (by kernel_rfl) ((Vg b p v (DC s) t w hB.self hB.heap (by rw [var]; exact hB.own) hB.ne (by rw [var]; unfold strMax at hle; omega)).mono ?_);rintro e w' ⟨rfl,v',q1,q2,q3,q4,q5⟩;refine ⟨_,rfl,⟨_,v',⟨.inr rfl,q1,?_,q3,?_⟩,q4,q5⟩,fun O=>?_⟩
   ·have e1:DC (s++t)=DC s++DC t:=by simp [DC]
    have e2:(s++t).size=(DC s++DC t).length:=by simp [var]
    rw [e1,e2];exact q2
   ·simp only [AV]; exact hle
   ·simp only [VRel];refine ⟨_,rfl,?_⟩;simp only [VRels,VRel,ic,B7];refine ⟨trivial,?_,?_⟩
    ·have:AB.min = -9223372036854775808:=rfl
     omega
    ·have:AB.max=9223372036854775807:=rfl
     unfold strMax at hle;omega
 ·simp [R.get] at hsp
theorem Vj {c:Int} (h0:IntKind.u8.min≤c) (h1:c≤IntKind.u8.max):(Value.int .u8 ((NI c).toNat:Int)) = .int .u8 c:=by
 have e1:IntKind.u8.min=0:=rfl;have e2:IntKind.u8.max=255:=rfl
 have:((NI c).toNat:Int)=c:=by
  unfold NI;rw [vaa (by simp [vbo]; omega)];omega
 rw [this]
theorem Lc:DX PR B0 97 Y1:=by
 intro w X γ vs xs r out hsp hg hx hR hV;unfold Y1 at hsp;simp only at hsp;split at hsp
 ·rename_i s c;cases hc:decide (s.size+1≤strMax) with
  | false=>rw [hc] at hsp; simp [R.get] at hsp
  | true=>
   rw [hc] at hsp;simp only [R.get,AC,AU] at hsp;obtain ⟨rfl,rfl⟩:=hsp;have hle:s.size+1≤strMax:=A1 hc;refine tO hR rfl rfl (fun γ' o w' O x h=>by simp only [VRel] at h ⊢; exact h) (fun b v p hgm hB=>?_);obtain ⟨x0,x1,rfl⟩:∃ x0 x1,xs=[x0,x1]:=by
    have:=hV.length
    simp at this
    match xs,this with
    | [a,b],_=>exact ⟨a,b,rfl⟩
   simp only [A0,CA,ER,VRels] at hV;have h0:=nO hgm hV.1;have h1:=hV.2.1;simp only [VRel] at h1;obtain ⟨rfl,hc0,hc1⟩:=h1;subst h0;refine Does.of_calls Tryz.func97 (by kernel_rfl) (by kernel_rfl) ((Vf b p v (DC s) c w hB.self hB.heap (by rw [var]; exact hB.own) hB.ne (by rw [var]; unfold strMax at hle; omega)).mono ?_);rintro e w' ⟨rfl,v',q1,q2,q3,q4,q5⟩;refine ⟨_,rfl,⟨_,v',⟨.inr rfl,q1,?_,q3,?_⟩,q4,q5⟩,fun O=>by simp only [VRel]⟩
   ·have e1:DC (s.push (NI c))=DC s++[.int .u8 c]:=by
     rw [← Vj hc0 hc1];simp [DC]
    have e2:(s.push (NI c)).size=(DC s++[Value.int .u8 c]).length:=by simp [var]
    rw [e1,e2];exact q2
   ·simp only [va2]; exact hle
 ·simp [R.get] at hsp
theorem tU:DX PR B0 56 UG:=by
 intro w X γ vs xs r out hsp hg hx hR hV;unfold UG at hsp;simp only at hsp;split at hsp
 ·rename_i s;simp only [R.get,AC,AU] at hsp;obtain ⟨rfl,rfl⟩:=hsp;refine tO hR rfl rfl (fun γ' o w' O x h=>by simp only [VRel] at h ⊢; exact h) (fun b v p hgm hB=>?_);obtain ⟨x0,rfl⟩:∃ x0,xs=[x0]:=by
   have:=hV.length
   simp at this
   match xs,this with
   | [a],_=>exact ⟨a,rfl⟩
  simp only [A0,CA,ER,VRels] at hV;have h0:=nO hgm hV.1;subst h0;refine Does.of_calls Tryz.func56 (by kernel_rfl) (by kernel_rfl) ((Uz b p v s w hB.heap hB.own hB.ne).mono ?_);rintro e w' ⟨rfl,q1,q2,q3⟩;exact ⟨_,rfl,⟨p,v,⟨hB.self,q1,q2,hB.ne,hB.size⟩,q3,fun k hk=>.inl hk⟩,fun O=>by simp only [VRel]; exact ⟨trivial,hB.size⟩⟩
 ·simp [R.get] at hsp
theorem gS:DX PR B0 43 O3:=by
 intro w X γ vs xs r out hsp hg hx hR hV;unfold O3 at hsp;simp only at hsp;split at hsp
 ·rename_i n;simp only [R.get,AC,AU] at hsp;obtain ⟨rfl,rfl⟩:=hsp;obtain ⟨x0,rfl⟩:∃ x0,xs=[x0]:=by
   have:=hV.length
   simp at this
   match xs,this with
   | [a],_=>exact ⟨a,rfl⟩
  simp only [A0,CA,ER,VRels,VRel,B7] at hV;obtain ⟨rfl,h0,h1⟩:=hV;refine QQ hR rfl rfl (Does.of_calls Tryz.func43 (by kernel_rfl) (by kernel_rfl) ((Tryz.strconv_Itoa n h0 h1 w (Ca hg)).mono ?_));rintro e w' ⟨rfl,k,os,rfl⟩;exact ⟨_,rfl,((Keep.drewN w k).trans (Keep.grow _ os) (fun _ _ h=>h)),fun O _=>by
   simp only [VRel];exact ⟨rfl,by have:=ZW h0 h1; unfold strMax; omega⟩⟩
 ·simp [R.get] at hsp
theorem lZ:DX PR B0 90 RC:=by
 intro w X γ vs xs r out hsp hg hx hR hV;unfold RC at hsp;simp only at hsp;split at hsp
 ·rename_i s;simp only [R.get,AC,AU] at hsp;obtain ⟨rfl,rfl⟩:=hsp;obtain ⟨x0,rfl⟩:∃ x0,xs=[x0]:=by
   have:=hV.length
   simp at this
   match xs,this with
   | [a],_=>exact ⟨a,rfl⟩
  simp only [A0,CA,ER,VRels,VRel,B7] at hV;obtain ⟨rfl,hs⟩:=hV;unfold strMax at hs;have hb:=wB s;refine QQ hR rfl rfl (Does.of_calls Tryz.func90 (by kernel_rfl) (by kernel_rfl) ?_);cases ha:vbj s.data.toList
  ·rename_i v;refine (Tryz.strconv_Atoi_ok s (by omega) v ha w).mono ?_;rintro e w' ⟨rfl,hw⟩;have e1:FJ s=v:=by unfold FJ; rw [ha]
   have e2:KU s=true:=by unfold KU; rw [ha]
   rw [e1] at hb ⊢;rw [e2];refine ⟨_,rfl,?_,fun O _=>?_⟩
   ·rcases hw with rfl | ⟨t,rfl⟩
    ·exact Keep.refl _ _
    ·unfold vaN;have h1:=Keep.alloc (fun _=>False) w.drew (.cells (Lib.bytesCells w 5 t) 5);refine ((Keep.drew (fun _=>False) w).trans h1 (fun _ _ h=>h)).trans (Keep.freeze (O:=fun k=>k=w.heap.size) _ ⟨w.heap.size,_,none⟩ 1 rfl) (fun b hb h=>?_);subst h;exact absurd hb (Nat.lt_irrefl _)
   ·simp only [VRel];exact ⟨_,rfl,by simp only [VRels,VRel,B7,vaz]; exact hb⟩
  ·skip
   obtain ⟨ev,h1,h2⟩:=Cc hg;refine (Tryz.strconv_Atoi_syntax s (by omega) ha ev w h1 h2).mono ?_;rintro e w' ⟨N,rfl,_,_,hw⟩;have e1:FJ s=0:=by unfold FJ; rw [ha]
   have e2:KU s=false:=by unfold KU; rw [ha]
   rw [e1] at hb ⊢;rw [e2];refine ⟨_,rfl,Keep.below hw,fun O _=>?_⟩;simp only [VRel];exact ⟨_,rfl,by simp only [VRels,VRel,B7]; exact ⟨⟨trivial,hb⟩,_,_,rfl⟩⟩
  ·skip
   obtain ⟨ev,h1,h2⟩:=Cb hg;refine (Tryz.strconv_Atoi_range s (by omega) ha ev w h1 h2).mono ?_;rintro e w' ⟨N,rfl,_,_,hw⟩;have e1:FJ s=Lib.atoiSat s.data.toList:=by unfold FJ; rw [ha]
   have e2:KU s=false:=by unfold KU; rw [ha]
   rw [e1] at hb ⊢;rw [e2];refine ⟨_,rfl,Keep.below hw,fun O _=>?_⟩;simp only [VRel];exact ⟨_,rfl,by simp only [VRels,VRel,B7]; exact ⟨⟨trivial,hb⟩,_,_,rfl⟩⟩
 ·simp [R.get] at hsp
theorem zix:DX PR B0 83 iK:=by
 intro w X γ vs xs r out hsp hg hx hR hV;unfold iK at hsp;simp only at hsp;split at hsp
 ·rename_i n b;cases hc:decide (b=10) with
  | false=>rw [hc] at hsp; simp [R.get] at hsp
  | true=>
   rw [hc] at hsp;have hb:=A1 hc;subst hb;simp only [R.get,AC,AU] at hsp;obtain ⟨rfl,rfl⟩:=hsp;obtain ⟨x0,x1,rfl⟩:∃ x0 x1,xs=[x0,x1]:=by
    have:=hV.length
    simp at this
    match xs,this with
    | [a,b],_=>exact ⟨a,b,rfl⟩
   simp only [A0,CA,ER,VRels,VRel,B7] at hV;obtain ⟨⟨rfl,h0,h1⟩,rfl,_⟩:=hV;have e0:AJ.min=0:=rfl;have e1:AJ.max=18446744073709551615:=rfl;rw [e0] at h0;rw [e1] at h1;obtain ⟨u,rfl⟩:∃ u:Nat,n=u:=⟨n.toNat,by omega⟩;refine QQ hR rfl rfl (Does.of_calls Tryz.func83 (by kernel_rfl) (by kernel_rfl) ((zao u (by omega) w (Ca hg)).mono ?_));rintro e w' ⟨rfl,k,os,rfl⟩;refine ⟨_,rfl,((Keep.drewN w k).trans (Keep.grow _ os) (fun _ _ h=>h)),fun O _=>?_⟩;simp only [VRel];have hz:=qY h0 h1;exact ⟨by simp [FA],by unfold strMax; omega⟩
 ·simp [R.get] at hsp
theorem ziy:DX PR B0 189 iL:=by
 intro w X γ vs xs r out hsp hg hx hR hV;unfold iL at hsp;simp only at hsp;split at hsp
 ·rename_i s b c;cases hc:(decide (b=10)&&decide (c=64)) with
  | false=>rw [hc] at hsp; simp [R.get] at hsp
  | true=>
   rw [hc] at hsp;simp only [AH,AQ] at hc;obtain ⟨rfl,rfl⟩:=hc;simp only [R.get,AC,AU] at hsp;obtain ⟨rfl,rfl⟩:=hsp;obtain ⟨x0,x1,x2,rfl⟩:∃ x0 x1 x2,xs=[x0,x1,x2]:=by
    have:=hV.length
    simp at this
    match xs,this with
    | [a,b,c],_=>exact ⟨a,b,c,rfl⟩
   simp only [A0,CA,ER,VRels,VRel,B7] at hV;obtain ⟨⟨rfl,hs⟩,⟨rfl,_⟩,rfl,_⟩:=hV;unfold strMax at hs;have hb:=sB s;refine QQ hR rfl rfl (Does.of_calls Tryz.func189 (by kernel_rfl) (by kernel_rfl) ?_);cases ha:Lib.parseMag s.data.toList
   ·rename_i v;refine (Tryz.strconv_ParseUint_10_at64_ok s (by omega) v (by rw [vbK]; exact ha) w).mono ?_;rintro e w' ⟨rfl,hw⟩;have e1:GU s=v:=by unfold GU; rw [ha]
    have e2:JH s=true:=by unfold JH; rw [ha]
    rw [e1] at hb ⊢;rw [e2];refine ⟨_,rfl,?_,fun O _=>?_⟩
    ·rcases hw with rfl | rfl
     ·exact Keep.refl _ _
     ·unfold vaN;have h1:=Keep.alloc (fun _=>False) w.drew (.cells (Lib.bytesCells w 5 s) 5);refine ((Keep.drew (fun _=>False) w).trans h1 (fun _ _ h=>h)).trans (Keep.freeze (O:=fun k=>k=w.heap.size) _ ⟨w.heap.size,_,none⟩ 1 rfl) (fun b hb h=>?_);subst h;exact absurd hb (Nat.lt_irrefl _)
    ·simp only [VRel];exact ⟨_,rfl,by simp only [VRels,VRel,B7,vaz]; exact hb⟩
   ·skip
    obtain ⟨ev,h1,h2⟩:=Cc hg;refine (Tryz.strconv_ParseUint_10_at64_syntax s (by omega) (by rw [vbK]; exact ha) ev w h1 h2).mono ?_;rintro e w' ⟨N,rfl,_,_,hw⟩;have e1:GU s=0:=by unfold GU; rw [ha]
    have e2:JH s=false:=by unfold JH; rw [ha]
    rw [e1] at hb ⊢;rw [e2];refine ⟨_,rfl,Keep.below hw,fun O _=>?_⟩;simp only [VRel];exact ⟨_,rfl,by simp only [VRels,VRel,B7]; exact ⟨⟨trivial,hb⟩,_,_,rfl⟩⟩
   ·skip
    obtain ⟨ev,h1,h2⟩:=Cb hg;refine (Tryz.strconv_ParseUint_10_at64_range s (by omega) (by rw [vbK]; exact ha) ev w h1 h2).mono ?_;rintro e w' ⟨N,rfl,_,_,hw⟩;have e1:GU s=18446744073709551615:=by unfold GU; rw [ha]
    have e2:JH s=false:=by unfold JH; rw [ha]
    rw [e1] at hb ⊢;rw [e2];refine ⟨_,rfl,Keep.below hw,fun O _=>?_⟩;simp only [VRel];exact ⟨_,rfl,by simp only [VRels,VRel,B7]; exact ⟨⟨trivial,hb⟩,_,_,rfl⟩⟩
 ·simp [R.get] at hsp
theorem ziA:DX PR B0 85 iN:=by
 intro w X γ vs xs r out hsp hg hx hR hV;unfold iN at hsp;simp only at hsp;split at hsp
 ·rename_i s cs;cases hc:(decide (cs.size=1)&&decide ((cs.data.toList.headD 0).toNat < 128)) with
  | false=>rw [hc] at hsp; simp [R.get] at hsp
  | true=>
   rw [hc] at hsp;simp only [AH,AQ] at hc;simp only [R.get,AC,AU] at hsp;obtain ⟨rfl,rfl⟩:=hsp;obtain ⟨c,rfl⟩:∃ c,cs=⟨#[c]⟩:=by
    obtain ⟨⟨l⟩⟩:=cs;have h1:l.length=1:=hc.1
    match l,h1 with
    | [c],_=>exact ⟨c,rfl⟩
   obtain ⟨x0,x1,rfl⟩:∃ x0 x1,xs=[x0,x1]:=by
    have:=hV.length
    simp at this
    match xs,this with
    | [a,b],_=>exact ⟨a,b,rfl⟩
   simp only [A0,CA,ER,VRels,VRel,B7] at hV;obtain ⟨⟨rfl,hs⟩,rfl,_⟩:=hV;have hz:=Ph s ⟨#[c]⟩;unfold strMax at hs;refine QQ hR rfl rfl (Does.of_calls Tryz.func85 (by kernel_rfl) (by kernel_rfl) ((Tryz.strings_TrimRight_one s c hc.2 w (by omega)).mono ?_));rintro e w' ⟨rfl,rfl⟩;refine ⟨_,rfl,Keep.refl _ _,fun O _=>?_⟩;simp only [VRel];exact ⟨rfl,by unfold strMax; omega⟩
 ·simp [R.get] at hsp
theorem Lf:DX PR B0 86 Y4:=by
 intro w X γ vs xs r out hsp hg hx hR hV;unfold Y4 at hsp;simp only at hsp;split at hsp
 ·rename_i s n;cases hc:(decide (0≤n)&&decide (s.size*n.toNat≤strMax)) with
  | false=>rw [hc] at hsp; simp [R.get] at hsp
  | true=>
   rw [hc] at hsp;simp only [AH,AQ] at hc;simp only [R.get,AC,AU] at hsp;obtain ⟨rfl,rfl⟩:=hsp;obtain ⟨x0,x1,rfl⟩:∃ x0 x1,xs=[x0,x1]:=by
    have:=hV.length
    simp at this
    match xs,this with
    | [a,b],_=>exact ⟨a,b,rfl⟩
   simp only [A0,CA,ER,VRels,VRel,B7] at hV;obtain ⟨⟨rfl,hs⟩,rfl,_,hn1⟩:=hV;have e1:AB.max=9223372036854775807:=rfl;rw [e1] at hn1;obtain ⟨c,rfl⟩:∃ c:Nat,n=c:=⟨n.toNat,by omega⟩;have hz:=sM s c;have hle:=hc.2;simp only [BF] at hle ⊢;unfold strMax at hle;refine QQ hR rfl rfl (Does.of_calls Tryz.func86 (by kernel_rfl) (by kernel_rfl) ((Tryz.strings_Repeat s c w (by omega) (by omega)).mono ?_));rintro e w' ⟨rfl,hw⟩;refine ⟨_,rfl,Keep.below hw,fun O _=>?_⟩;simp only [VRel];exact ⟨rfl,by rw [hz]; unfold strMax; omega⟩
 ·simp [R.get] at hsp
theorem Ld:DX PR B0 57 Y2:=by
 intro w X γ vs xs r out hsp hg hx hR hV;unfold Y2 at hsp;simp only at hsp;split at hsp
 ·rename_i s p;simp only [R.get,AC,AU] at hsp;obtain ⟨rfl,rfl⟩:=hsp;obtain ⟨x0,x1,rfl⟩:∃ x0 x1,xs=[x0,x1]:=by
   have:=hV.length
   simp at this
   match xs,this with
   | [a,b],_=>exact ⟨a,b,rfl⟩
  simp only [A0,CA,ER,VRels,VRel,B7] at hV;obtain ⟨⟨rfl,hs⟩,rfl,_⟩:=hV;have hz:=Pg s p;refine QQ hR rfl rfl (Does.of_calls Tryz.func57 (by kernel_rfl) (by kernel_rfl) ((Tryz.strings_CutPrefix s p w).mono ?_));rintro e w' ⟨rfl,rfl⟩;refine ⟨_,rfl,Keep.refl _ _,fun O _=>?_⟩;simp only [VRel];exact ⟨_,rfl,by simp only [VRels,VRel,B7]; exact ⟨⟨rfl,by omega⟩,rfl⟩⟩
 ·simp [R.get] at hsp
theorem tW:DX PR B0 104 UI:=by
 intro w X γ vs xs r out hsp hg hx hR hV;unfold UI at hsp;simp only at hsp;split at hsp
 ·rename_i s sep;cases hc:decide (s.size < 4294967281) with
  | false=>rw [hc] at hsp; simp [R.get] at hsp
  | true=>
   rw [hc] at hsp;simp only [R.get,AC,AU] at hsp;obtain ⟨rfl,rfl⟩:=hsp;obtain ⟨x0,x1,rfl⟩:∃ x0 x1,xs=[x0,x1]:=by
    have:=hV.length
    simp at this
    match xs,this with
    | [a,b],_=>exact ⟨a,b,rfl⟩
   simp only [A0,CA,ER,VRels,VRel,B7] at hV;obtain ⟨⟨rfl,hs⟩,rfl,hsep⟩:=hV;obtain ⟨m,hm⟩:=Bz hg;refine QQ hR rfl rfl (Does.of_calls Tryz.func104 (by kernel_rfl) (by kernel_rfl) ((Tryz.strings_Cut s sep m w (A1 hc) hm).mono ?_));rintro e w' ⟨rfl,n,rfl⟩;have hsz:=jI s sep;refine ⟨_,rfl,Keep.drewN w n,fun O _=>?_⟩;simp only [VRel];exact ⟨_,rfl,by simp only [VRels,VRel,B7]; exact ⟨⟨rfl,by omega⟩,⟨rfl,by omega⟩,rfl⟩⟩
 ·simp [R.get] at hsp
theorem aP:DX PR B0 46 NF:=by
 intro w X γ vs xs r out hsp hg hx hR hV;unfold NF at hsp;simp only at hsp;split at hsp
 ·rename_i s sep;cases hc:(decide (s.size < 4294967281)&&decide (1≤sep.size)) with
  | false=>rw [hc] at hsp; simp [R.get] at hsp
  | true=>
   rw [hc] at hsp;simp only [AH,AQ] at hc;simp only [R.get,AC,AU] at hsp;obtain ⟨rfl,rfl⟩:=hsp;obtain ⟨x0,x1,rfl⟩:∃ x0 x1,xs=[x0,x1]:=by
    have:=hV.length
    simp at this
    match xs,this with
    | [a,b],_=>exact ⟨a,b,rfl⟩
   simp only [A0,CA,ER,VRels,VRel,B7] at hV;obtain ⟨⟨rfl,hs⟩,rfl,hsep⟩:=hV;obtain ⟨m,hm⟩:=Bz hg;have hlen:=Lib.splitB_all sep hc.2 0 _ s rfl;have hcnt:=Lib.countB_le sep hc.2 s.size s (AZ _);refine QQ hR rfl rfl (Does.of_calls Tryz.func46 (by kernel_rfl) (by kernel_rfl) ((Tryz.strings_Split s sep m w hc.1 hm hc.2).mono ?_));rintro e w' ⟨rfl,rfl⟩;refine ⟨_,rfl,Keep.alloc _ w _,fun O hO=>?_⟩;simp only [VRel]
   have:=zi6 (w:=w) (w':=w.alloc (.cells ((D2 s sep).map Value.string).toArray 9)) hO (g:=w.heap.size) (AZ _) (vaE w _) (l:=D2 s sep) (c:=Lib.countB s sep+1) (by unfold D2; omega) (by unfold maxLen; omega) (by unfold D2 strMax; omega) (fun p hp=>C2 ((YC sep _ s).2 p hp) hs)
   unfold D2 at this ⊢;rw [hlen] at this;exact this
 ·simp [R.get] at hsp
theorem Oc {w:World} {O:Nat→Prop} {l:LI} {x:Value} (h:Kd.Rel w O (.list false [.str]) (.list l) x):∃ p c,x = .slice p l.length c∧l.length≤c∧c≤maxLen∧l.length≤strMax∧∀ j y,l[j]?=some y→∃ b o,p=some ⟨b,o,none⟩∧b < w.heap.size∧w.cell? ⟨b,o+j,none⟩=some (.string y.toStr)∧y.toStr.size≤strMax:=by
 simp only [Kd.Rel,IV.toList] at h;obtain ⟨p,c,rfl,hc,hm,hl,hi⟩:=h;refine ⟨p,c,rfl,hc,hm,hl,fun j y hy=>?_⟩;obtain ⟨b,o,rfl,_,hb,hr⟩:=hi j y hy;simp only [Kd.RelAll,AM,A7,BI,Nat.mul_one,DA,B7] at hr;obtain ⟨u,hu,hs⟩:=hr;simp only [Kd.Rel,GB] at hs;obtain ⟨rfl,hs⟩:=hs;exact ⟨b,o,rfl,hb,hu,hs⟩
theorem Le:DX PR B0 45 Y3:=by
 intro w X γ vs xs r out hsp hg hx hR hV;unfold Y3 at hsp;simp only at hsp;split at hsp
 ·rename_i l sep;cases hc:(decide (l.length≤strMax)&&decide ((GP (l.map IV.toStr) sep).size≤strMax)) with
  | false=>rw [hc] at hsp; simp [R.get] at hsp
  | true=>
   rw [hc] at hsp;simp only [AH,AQ] at hc;simp only [R.get,AC,AU] at hsp;obtain ⟨rfl,rfl⟩:=hsp;obtain ⟨x0,x1,rfl⟩:∃ x0 x1,xs=[x0,x1]:=by
    have:=hV.length
    simp at this
    match xs,this with
    | [a,b],_=>exact ⟨a,b,rfl⟩
   simp only [A0,CA,ER,VRels,VRel,B7] at hV;obtain ⟨h0,rfl,_⟩:=hV;obtain ⟨p,c,rfl,hc1,hc2,hc3,hcell⟩:=Oc h0;have hz:(GP (l.map IV.toStr) sep).size=(Lib.join ((l.map IV.toStr).map (·.data.toList)) sep.data.toList).length:=by
    show (Array.size (List.toArray _))=_;rw [C9]
   have hle:=hc.2;rw [hz] at hle;unfold strMax at hle hc3;refine QQ hR rfl rfl (Does.of_calls Tryz.func45 (by kernel_rfl) (by kernel_rfl) (Calls.mono (R:=fun e w'=>e = .returned (.string (GP (l.map IV.toStr) sep))∧Below w.heap.size w w') ?_ ?_))
   ·cases l with
    | nil=>
     refine (Tryz.strings_Join_none p c sep w).mono ?_;rintro e w' ⟨rfl,rfl⟩;exact ⟨rfl,Below.refl _ _⟩
    | cons y r=>
     obtain ⟨b,o,rfl,hb,_⟩:=hcell 0 y rfl
     have:=Tryz.strings_Join b o c ((y :: r).map IV.toStr) sep w (fun j x hj=>by
      rw [B9,DE] at hj;obtain ⟨y',hj,rfl⟩:=hj;obtain ⟨b',o',hp,_,hu,_⟩:=hcell j y' hj;simp only [AC,DH,B7] at hp;obtain ⟨rfl,rfl⟩:=hp;exact hu) hb (by rw [BE]; omega) (by rw [BE]; omega) (by omega)
     rw [BE] at this;exact this
   ·rintro e w' ⟨rfl,hw⟩;refine ⟨_,rfl,Keep.below hw,fun O _=>?_⟩;simp only [VRel];exact ⟨trivial,by rw [hz]; unfold strMax; omega⟩
 ·simp [R.get] at hsp
theorem zir:DX PR B0 161 iI:=by
 intro w X γ vs xs r out hsp hg hx hR hV;unfold iI at hsp;simp only at hsp;split at hsp
 ·rename_i l;cases hc:decide (l.length≤4294967296) with
  | false=>rw [hc] at hsp; simp [R.get] at hsp
  | true=>
   rw [hc] at hsp;have hc:=A1 hc;simp only [R.get,AC,AU] at hsp;obtain ⟨rfl,rfl⟩:=hsp;obtain ⟨x0,rfl⟩:∃ x0,xs=[x0]:=by
    have:=hV.length
    simp at this
    match xs,this with
    | [a],_=>exact ⟨a,rfl⟩
   simp only [A0,CA,ER,VRels,VRel,B7] at hV;obtain ⟨p,c,rfl,hc1,hc2,hc3,hcell⟩:=Oc hV;have hel:∀ (w':World) (O:Nat→Prop) i y,l[i]?=some y→Kd.RelAll w' O [.str] (GB false y) 0 (fun j u=>(l.map fun y=>Value.string y.toStr)[i*[Kd.str].length+j]?=some u):=fun w' O i y hy=>by
    obtain ⟨b,o,_,_,_,hs⟩:=hcell i y hy;simp only [Kd.RelAll,AM,A7,BI,Nat.mul_one,DA,B7];refine ⟨.string y.toStr,by rw [B9,hy]; rfl,?_⟩;simp only [Kd.Rel,GB];exact ⟨trivial,hs⟩
   refine Kr hR rfl (by decide) (by decide) hc3 (Does.of_calls Tryz.func161 (by kernel_rfl) (by kernel_rfl) ?_);cases p with
   | none=>
    have h0:l=[]:=by
     cases l with
     | nil=>rfl
     | cons y r=>
      obtain ⟨b,o,hp,_⟩:=hcell 0 y rfl;cases hp
    subst h0;refine (Vz _ c w).mono ?_;rintro e w' ⟨rfl,rfl⟩;exact ⟨_,[],rfl,Keep.refl _ _,⟨rfl,.inl ⟨rfl,rfl⟩⟩,hel _⟩
   | some a=>
    refine (Wc a l.length c (l.map fun y=>Value.string y.toStr) w (by rw [BE]) (by unfold maxLen; omega) (by omega) (fun j u hj=>?_) (fun u hu=>?_)).mono ?_
    ·rw [B9,DE] at hj;obtain ⟨y,hj,rfl⟩:=hj;obtain ⟨b,o,hp,_,hu,_⟩:=hcell j y hj;simp only [AC] at hp;subst hp;rw [Addr.add_lit];exact hu
    ·rw [CJ] at hu;obtain ⟨y,_,rfl⟩:=hu;rfl
    ·rintro e w' ⟨v',rfl,hown,hw⟩;exact ⟨v',_,rfl,Keep.below hw,hown,hel _⟩
 ·simp [R.get] at hsp
def SpsOK:List (Nat × DV)→Prop
 | []=>True
 | (f,sp) :: r=>DX PR B0 f sp∧SpsOK r
theorem SpsOK.get:∀ {l:List (Nat × DV)},SpsOK l→∀ f sp,lk l f=some sp→DX PR B0 f sp
 | [],_,f,sp,h=>by simp [lk] at h
 | (g,sg) :: r,hs,f,sp,h=>by
  simp only [lk] at h;split at h
  ·rename_i hb;simp only [AC] at h;subst h;rw [← F6.1 hb];exact hs.1
  ·exact SpsOK.get hs.2 f sp h
theorem D6 {f:Nat} {fn:Func} {code:Code} {rs:List ResultVar} {nt:Nat} (sps:List (Nat × DV)) (lp:List (Nat × KP)) (sp:DV) (rks:List (List Kd)) (hf:PR.funcs[f]?=some fn)
  (hc:(fn.name == "runtime.NumGoroutine")=false∧fn.body=some code∧fn.ntmps=nt∧B6 nt 900000=true∧fn.results.toList=rs) (hs:SpsOK sps)
  (h:∀ vs r,(MD vs (GN vs)→TZ vs)→(sp vs).get=some r→∃ N,DZ (D4 sps lp nt N) code rs rks vs=some r):DX PR B0 f sp:=
 Ks (D4 sps lp nt) sp rks hf hc (fun _=>rfl) Eo (fun _=>Om rfl Ol) (fun _=>Bc rfl Bb) (fun _=>hs.get) (fun _ f p hp=>by cases hp) (fun _ h=>wN h) h
def IpsOK:List (Nat × Ip)→Prop
 | []=>True
 | (f,p) :: r=>SJ PR f p∧IpsOK r
theorem IpsOK.get:∀ {l:List (Nat × Ip)},IpsOK l→∀ f p,lk l f=some p→SJ PR f p
 | [],_,f,p,h=>by simp [lk] at h
 | (g,pg) :: r,hs,f,p,h=>by
  simp only [lk] at h;split at h
  ·rename_i hb;simp only [AC] at h;subst h;rw [← F6.1 hb];exact hs.1
  ·exact IpsOK.get hs.2 f p h
theorem Kt {f:Nat} {fn:Func} {code:Code} {rs:List ResultVar} {nt:Nat} (sps:List (Nat × DV)) (ips:List (Nat × Ip)) (lp:List (Nat × KP)) (sp:DV) (rks:List (List Kd)) (hf:PR.funcs[f]?=some fn)
  (hc:(fn.name == "runtime.NumGoroutine")=false∧fn.body=some code∧fn.ntmps=nt∧B6 nt 900000=true∧fn.results.toList=rs) (hs:SpsOK sps) (hi:IpsOK ips)
  (h:∀ vs r,(MD vs (GN vs)→TZ vs)→(sp vs).get=some r→∃ N,DZ (kS sps ips lp nt N) code rs rks vs=some r):DX PR B0 f sp:=
 Ks (kS sps ips lp nt) sp rks hf hc (fun _=>rfl) Eo (fun _=>Om rfl Ol) (fun _=>Bc rfl Bb) (fun _=>hs.get) (fun _=>hi.get) (fun _ h=>wN h) h
open Go Go.RowKit
theorem EL {n:Int} (h0 : -9223372036854775808≤n) (h1:n≤9223372036854775807):AA .i64 n=n:=by
 have e:AA .i64 n=(n+9223372036854775808) % 18446744073709551616 - 9223372036854775808:=by
  simp [AA,AR,vai];omega
 rw [e];omega
theorem HA {α:Type} {l:List α} {i:Nat} (h:i < l.length):decide ((i:Int) < ic l.length)=true:=by simp [ic]; omega
theorem I5 {α:Type} {l:List α} {i:Nat} (h:l.length≤i):decide ((i:Int) < ic l.length)=false:=by simp [ic]; omega
theorem IL {i:Nat}:decide (0≤(i:Int))=true:=by simp
theorem HD {i:Nat} (h:i < 9223372036854775807):AA .i64 ((i:Int)+1)=((i+1:Nat):Int):=by rw [EL (by omega) (by omega)]; rfl
theorem H8 {α:Type} [Inhabited α] {l:List α} {i:Nat} (h:i < l.length):l.getD (i:Int).toNat default=l[i]:=by simp [h]
theorem oM (a b:Int):decide (a≤b)=!decide (b < a):=by rw [va1]; simp
theorem oL (a b:Int):decide (a > b)=decide (b < a):=rfl
theorem UN (a b:Int):(a==b)=decide (a=b):=rfl
theorem wR (a b:Int):(a != b)=!decide (a=b):=rfl
theorem DI {α:Type _} (a b:α):cond true a b=a:=Eq.trans (Eq.refl a) (Eq.refl a)
theorem DJ {α:Type _} (a b:α):cond false a b=b:=Eq.trans (Eq.refl b) (Eq.refl b)
open Go
def FO (n:Int):Int:=AA .i64 n
def JW (n:Int):Int:=AA .u64 n
def N4 (lo hi:Int):Int:=FO (FO (hi - lo)+1)
def DO (n lo hi:Int):Int:=cond (decide (n.tmod (N4 lo hi) < 0)) (FO (lo+FO (FO (FO (n.tmod (N4 lo hi)+hi) - lo)+1))) (FO (lo+n.tmod (N4 lo hi)))
def LA:DV
 | [.int .i64 n,.int .i64 lo,.int .i64 hi]=>.br (decide (N4 lo hi=0)) .no (.ok (.int .i64 (DO n lo hi)) [])
 | _=>.no
abbrev YN:BA:=⟨#[45]⟩
abbrev Px:BA:=⟨#[46]⟩
abbrev zjJ:BA:=⟨#[48]⟩
abbrev YO:BA:=⟨#[]⟩
def WP:DV
 | []=>.ok (.int .u64 390625) []
 | _=>.no
def KI (r:Nat):List UInt8:=Lib.trimRightB (Lib.repeatL [48] (8 - (BU (r*390625)).length)++BU (r*390625)) 48
def IP (u:Nat):List UInt8:=BU (u / 256)++(if u % 256=0 then [] else 46 :: KI (u % 256))
def K0 (n:Int):List UInt8:=if n < 0 then 45 :: IP n.natAbs else IP n.natAbs
def DU (n:Int):BA:=⟨(K0 n).toArray⟩
def SQ:DV
 | [.int .i64 n]=>.ok (.str (DU n)) []
 | _=>.no
def cR:DV
 | [.str s]=>.ok (.tup [.int .u64 (GU s),.bool (JH s)]) []
 | _=>.no
def P8 (s:BA):BA:=cutL (GG s YN) Px
def JP (s:BA):BA:=FU (GG s YN) Px
def NO (s:BA):BA:=JP s++H3 zjJ (8 - (JP s).size)
def P7 (s:BA):Int:=JW (JW (GU (P8 s)*256)+GU (NO s) / 390625)
def eT (s:BA):Int:=FO (cond (OH s YN) (JW (0 - P7 s)) (P7 s))
def XG (s:BA):Bool:=
 decide ((JP s).size≤8)&&(JH (P8 s)&&(JH (NO s)&&(decide (GU (P8 s)≤36028797018963968)&&(decide (GU (NO s) % 390625=0)&&decide (DU (eT s)=s)))))
def GC (s:BA):Int:=cond (XG s) (eT s) 0
def WO:DV
 | [.str s]=>.br (decide (s.size < 4294967281)) (.ok (.tup [.int .i64 (GC s),.bool (XG s)]) []) .no
 | _=>.no
open Go Go.Proofs
def Re (N:Nat):Env:=D4 [] [] 24 N
theorem zdU (N:Nat) (n lo hi:Int):DZ (Re N) xO [.tmp 6] [[.z]] [.i n,.i lo,.i hi] =
 (cond (decide (AA AB (AA AB (hi - lo)+1)=0))
 none
 (cond (decide (Int.tmod n (AA AB (AA AB (hi - lo)+1)) < 0))
 (some ((.i (AA AB (lo+AA AB (AA AB (AA AB (Int.tmod n (AA AB (AA AB (hi - lo)+1))+hi) - lo)+1)))),[]))
 (some ((.i (AA AB (lo+Int.tmod n (AA AB (AA AB (hi - lo)+1))))),[])))):=by kernel_rfl
def Rx (N:Nat):Env:=D4 [] [(3,⟨[0,1,2],[],[]⟩)] 8 N
def Rw (N:Nat):Env:=D4 [(189,iL)] [] 19 N
theorem zeg (N:Nat) (s:BA):DZ (Rw N) yE [.tmp 2,.tmp 3] [[.int .u64],[.bool]] [.str s] =
 (cond (JH s)
 (cond (decide (0≤0)&&decide (0 < ic (AG s)))
 (some ((.tup [.int .u64 (GU s),.bool (ic (UInt8.toNat (AI (Array.toList (ByteArray.data s)) (AE 0) 0)) != 43)]),[]))
 none)
 (some ((.tup [.int .u64 (GU s),.bool false]),[]))):=by kernel_rfl
def Ru (N:Nat):Env:=D4 [(84,WP),(83,iK),(86,Y4),(85,iN)] [] 38 N
theorem zee (N:Nat) (n:Int):DZ (Ru N) yC [.tmp 2] [[.str]] [.i n] =
 (cond (decide (n < 0))
 (cond (decide (AG { data:=#[45] }+AG (FA (vaZ (AA AJ (0 - AA AJ n)) (2 ^ min (AE 8) (AR AJ))))≤strMax))
 (cond (AA AJ (ic (CG (A4 (AR AJ) (AA AJ (0 - AA AJ n)) &&& A4 (AR AJ) 255)))==0)
 (some ((.str ({ data:=#[45] }++FA (vaZ (AA AJ (0 - AA AJ n)) (2 ^ min (AE 8) (AR AJ))))),[]))
 (cond (decide (AG ({ data:=#[45] }++FA (vaZ (AA AJ (0 - AA AJ n)) (2 ^ min (AE 8) (AR AJ))))+AG { data:=#[46] }≤strMax))
 (cond (decide (0≤AA AB (8 - ic (AG (FA (AA AJ (AA AJ (ic (CG (A4 (AR AJ) (AA AJ (0 - AA AJ n)) &&& A4 (AR AJ) 255)))*390625))))))&&decide (AG { data:=#[48] }*AE (AA AB (8 - ic (AG (FA (AA AJ (AA AJ (ic (CG (A4 (AR AJ) (AA AJ (0 - AA AJ n)) &&& A4 (AR AJ) 255)))*390625))))))≤strMax))
 (cond (decide (AG (H3 { data:=#[48] } (AE (AA AB (8 - ic (AG (FA (AA AJ (AA AJ (ic (CG (A4 (AR AJ) (AA AJ (0 - AA AJ n)) &&& A4 (AR AJ) 255)))*390625))))))))+AG (FA (AA AJ (AA AJ (ic (CG (A4 (AR AJ) (AA AJ (0 - AA AJ n)) &&& A4 (AR AJ) 255)))*390625)))≤strMax))
 (cond (decide (AG ({ data:=#[45] }++FA (vaZ (AA AJ (0 - AA AJ n)) (2 ^ min (AE 8) (AR AJ)))++{ data:=#[46] })+AG (PV (H3 { data:=#[48] } (AE (AA AB (8 - ic (AG (FA (AA AJ (AA AJ (ic (CG (A4 (AR AJ) (AA AJ (0 - AA AJ n)) &&& A4 (AR AJ) 255)))*390625)))))))++FA (AA AJ (AA AJ (ic (CG (A4 (AR AJ) (AA AJ (0 - AA AJ n)) &&& A4 (AR AJ) 255)))*390625))) { data:=#[48] })≤strMax))
 (some ((.str ({ data:=#[45] }++FA (vaZ (AA AJ (0 - AA AJ n)) (2 ^ min (AE 8) (AR AJ)))++{ data:=#[46] }++PV (H3 { data:=#[48] } (AE (AA AB (8 - ic (AG (FA (AA AJ (AA AJ (ic (CG (A4 (AR AJ) (AA AJ (0 - AA AJ n)) &&& A4 (AR AJ) 255)))*390625)))))))++FA (AA AJ (AA AJ (ic (CG (A4 (AR AJ) (AA AJ (0 - AA AJ n)) &&& A4 (AR AJ) 255)))*390625))) { data:=#[48] })),[]))
 none)
 none)
 none)
 none))
 none)
 (cond (decide (AG { data:=#[] }+AG (FA (vaZ (AA AJ n) (2 ^ min (AE 8) (AR AJ))))≤strMax))
 (cond (AA AJ (ic (CG (A4 (AR AJ) (AA AJ n) &&& A4 (AR AJ) 255)))==0)
 (some ((.str ({ data:=#[] }++FA (vaZ (AA AJ n) (2 ^ min (AE 8) (AR AJ))))),[]))
 (cond (decide (AG ({ data:=#[] }++FA (vaZ (AA AJ n) (2 ^ min (AE 8) (AR AJ))))+AG { data:=#[46] }≤strMax))
 (cond (decide (0≤AA AB (8 - ic (AG (FA (AA AJ (AA AJ (ic (CG (A4 (AR AJ) (AA AJ n) &&& A4 (AR AJ) 255)))*390625))))))&&decide (AG { data:=#[48] }*AE (AA AB (8 - ic (AG (FA (AA AJ (AA AJ (ic (CG (A4 (AR AJ) (AA AJ n) &&& A4 (AR AJ) 255)))*390625))))))≤strMax))
 (cond (decide (AG (H3 { data:=#[48] } (AE (AA AB (8 - ic (AG (FA (AA AJ (AA AJ (ic (CG (A4 (AR AJ) (AA AJ n) &&& A4 (AR AJ) 255)))*390625))))))))+AG (FA (AA AJ (AA AJ (ic (CG (A4 (AR AJ) (AA AJ n) &&& A4 (AR AJ) 255)))*390625)))≤strMax))
 (cond (decide (AG ({ data:=#[] }++FA (vaZ (AA AJ n) (2 ^ min (AE 8) (AR AJ)))++{ data:=#[46] })+AG (PV (H3 { data:=#[48] } (AE (AA AB (8 - ic (AG (FA (AA AJ (AA AJ (ic (CG (A4 (AR AJ) (AA AJ n) &&& A4 (AR AJ) 255)))*390625)))))))++FA (AA AJ (AA AJ (ic (CG (A4 (AR AJ) (AA AJ n) &&& A4 (AR AJ) 255)))*390625))) { data:=#[48] })≤strMax))
 (some ((.str ({ data:=#[] }++FA (vaZ (AA AJ n) (2 ^ min (AE 8) (AR AJ)))++{ data:=#[46] }++PV (H3 { data:=#[48] } (AE (AA AB (8 - ic (AG (FA (AA AJ (AA AJ (ic (CG (A4 (AR AJ) (AA AJ n) &&& A4 (AR AJ) 255)))*390625)))))))++FA (AA AJ (AA AJ (ic (CG (A4 (AR AJ) (AA AJ n) &&& A4 (AR AJ) 255)))*390625))) { data:=#[48] })),[]))
 none)
 none)
 none)
 none))
 none)):=by kernel_rfl
open Go Go.Proofs
theorem YB:DX PR B0 17 LA:=by
 refine D6 [] [] LA [[.z]] Tryz.func17 za7 trivial ?_;intro vs r hwf h;unfold LA at h;split at h
 ·rename_i n lo hi;refine ⟨0,?_⟩;rw [← h];refine (zdU 0 n lo hi).trans ?_;simp only [R.get_br,R.get_ok,R.get_no];unfold DO N4 FO;cases decide (AA AB (AA AB (hi - lo)+1)=0) <;> cases decide (Int.tmod n (AA AB (AA AB (hi - lo)+1)) < 0) <;> rfl
 ·simp [R.get] at h
open Go
theorem UP {s t:BA} (h:s.data.toList=t.data.toList):s=t:=ByteArray.ext (Array.ext' h)
theorem i8 (s t:BA):(s.toList==t.toList)=decide (s=t):=by
 rw [Lib.toList_data,Lib.toList_data];by_cases h:s=t
 ·subst h; simp
 ·rw [AL h,A5];exact fun e=>h (UP e)
theorem TP (s:BA):s.size=s.data.toList.length:=by rw [CK]; rfl
theorem XF (u:Nat):∀ c∈BU u,48≤c.toNat∧c.toNat≤57:=by
 induction u using vbr with
 | _ u ih=>
  intro c hc;rw [BU] at hc;split at hc
  ·rename_i h;simp only [BL] at hc;subst hc;rw [vaa (by simp [vbo]; omega)];omega
  ·rename_i h;rw [AX,BL] at hc;rcases hc with hc | hc
   ·exact ih (u / 10) (by omega) c hc
   ·subst hc;rw [vaa (by simp [vbo]; omega)];omega
theorem jJ (u:Nat):BU u≠[]:=by
 rw [BU];split <;> simp
theorem zcB (n:Int):∀ c∈vaj n,c.toNat=45∨(48≤c.toNat∧c.toNat≤57):=by
 intro c hc;unfold vaj at hc;split at hc
 ·rcases AO.1 hc with h | h
  ·subst h; exact .inl rfl
  ·exact .inr (XF _ c h)
 ·exact .inr (XF _ c hc)
theorem zfZ (u:Nat):∀ (acc:Nat) (r:List UInt8),acc*10 ^ (BU u).length+u < 18446744073709551616 →
  vaP acc (BU u++r)=vaP (acc*10 ^ (BU u).length+u) r:=by
 induction u using vbr with
 | _ u ih=>
  intro acc r hlt;rw [BU] at hlt ⊢;split at hlt
  ·rename_i h;rw [dif_pos h];simp only [C3,Nat.pow_one,List.singleton_append] at hlt ⊢;have hc:(UInt8.ofNat (48+u)).toNat=48+u:=vaa (by simp [vbo]; omega);rw [vaP,hc,BP (by omega),BD (by omega),BD (by omega)];congr 1;omega
  ·rename_i h;rw [dif_neg h];simp only [AT,C3,Nat.pow_succ,vaH,List.singleton_append] at hlt ⊢;have ea:acc*(10 ^ (BU (u / 10)).length*10)=acc*10 ^ (BU (u / 10)).length*10:=by rw [Nat.mul_assoc]
   rw [ea] at hlt ⊢;rw [ih (u / 10) (by omega) acc _ (by omega)];have hc:(UInt8.ofNat (48+u % 10)).toNat=48+u % 10:=vaa (by simp [vbo]; omega);rw [vaP,hc,BP (by omega),BD (by omega),BD (by omega)];congr 1;omega
theorem rO (u:Nat) (h:u < 18446744073709551616):Lib.parseMag (BU u) = .ok u:=by
 unfold Lib.parseMag;rw [BD (jJ u)]
 have:=zfZ u 0 [] (by omega)
 rw [DB] at this;rw [this,Nat.zero_mul,BI];rfl
theorem wE (n:Int) (h0 : -9223372036854775808≤n) (h1:n≤9223372036854775807):vbj (vaj n) = .ok n:=by
 unfold vaj;split
 ·rename_i hn;unfold vbj;have e:(45:UInt8).toNat=45:=rfl;simp only [e,or_true,CP,rO n.natAbs (by omega),vba,false_and,if_false,vaz];rw [BD (by omega)];congr 1;omega
 ·rename_i hn;obtain ⟨c,r,hl⟩:∃ c r,BU n.toNat=c :: r:=by
   cases h:BU n.toNat with
   | nil=>exact absurd h (jJ _)
   | cons c r=>exact ⟨c,r,rfl⟩
  have hc:=XF n.toNat c (by rw [hl]; exact AN ..);have hm:=rO n.toNat (by omega);rw [hl] at hm ⊢;unfold vbj;have e1:¬ c.toNat=43:=by omega
  have e2:¬ c.toNat=45:=by omega
  simp only [e1,e2,or_self,if_false,hm,false_and,not_false_eq_true,vaz];rw [BD (by omega)];congr 1;omega
theorem wC {s:BA} {n:Int} (h:s.data.toList=vaj n) (h0 : -9223372036854775808≤n) (h1:n≤9223372036854775807):FJ s=n:=by
 unfold FJ;rw [h,wE n h0 h1]
theorem pL:∀ (w r:List UInt8) (c:UInt8),c ∉ w→DG (w++c :: r) c=w.length
 | [],r,c,_=>by simp [DG]
 | b :: w,r,c,h=>by
  simp only [AO,not_or] at h;have e:(b==c)=false:=A5.2 (fun e=>h.1 e.symm);have e2:((w.length:Int) == -1)=false:=by rw [A5]; omega
  simp only [CT,DG,e,pL w r c h.2,e2,AM];simp
theorem Co:∀ (w:List UInt8) (c:UInt8),c ∉ w→DG w c = -1
 | [],c,_=>rfl
 | b :: w,c,h=>by
  simp only [AO,not_or] at h;have e:(b==c)=false:=A5.2 (fun e=>h.1 e.symm);simp [DG,e,Co w c h.2]
theorem Wo (w r:List UInt8) (c:UInt8) (h:c ∉ w):vaO (w++c :: r) [c]=(w,r,true):=by
 unfold vaO;rw [Lib.index_one,pL w r c h,BP (by omega)];simp
theorem Ly (w r:List UInt8) (c:UInt8) (h:c ∉ w):vav (w++c :: r) [c]=w :: vav r [c]:=by
 unfold vav;have ec:Lib.count (w++c :: r) [c]=Lib.count r [c]+1:=by
  rw [vbv,vbv,List.count_append,va8 h,List.count_cons_self,BI]
 rw [ec,Lib.splitK,Lib.index_one,pL w r c h];have e2:((w.length:Int) == -1)=false:=by rw [A5]; omega
 rw [e2];simp
theorem Mb (w:List UInt8) (c:UInt8) (h:c ∉ w):vav w [c]=[w]:=by
 unfold vav;rw [vbv,va8 h];rfl
theorem Lx (s sep:BA):(D2 s sep).map (·.data.toList)=vav s.data.toList sep.data.toList:=by
 unfold D2 vav;rw [Lib.splitB_data]
open Go
theorem zjn {n m:Int} (h:0 < m) : -m < n.tmod m∧n.tmod m < m:=by
 constructor
 ·rcases Int.lt_or_le n 0 with hn | hn
  ·have e:n.tmod m = -((-n).tmod m):=by rw [Int.neg_tmod,Int.neg_neg]
   have:=Int.tmod_lt_of_pos (-n) h
   omega
  ·have:=Int.tmod_nonneg m hn
   omega
 ·exact Int.tmod_lt_of_pos n h
theorem HG {n lo hi:Int} (h:lo≤hi) (h0 : -2000000000000000000≤lo) (h1:hi≤2000000000000000000):N4 lo hi=hi - lo+1∧lo≤DO n lo hi∧DO n lo hi≤hi:=by
 have e1:FO (hi - lo)=hi - lo:=EL (by omega) (by omega);have e2:N4 lo hi=hi - lo+1:=by
  unfold N4;rw [e1];exact EL (by omega) (by omega)
 refine ⟨e2,?_⟩;unfold DO;rw [e2];obtain ⟨t0,t1⟩:=zjn (n:=n) (m:=hi - lo+1) (by omega);generalize n.tmod (hi - lo+1)=q at t0 t1 ⊢;cases hq:decide (q < 0) with
 | true=>
  have hq:=A1 hq;simp only [BJ];have a1:FO (q+hi)=q+hi:=EL (by omega) (by omega);have a2:FO (q+hi - lo)=q+hi - lo:=EL (by omega) (by omega);have a3:FO (q+hi - lo+1)=q+hi - lo+1:=EL (by omega) (by omega);have a4:FO (lo+(q+hi - lo+1))=lo+(q+hi - lo+1):=EL (by omega) (by omega);rw [a1,a2,a3,a4];omega
 | false=>
  have hq:=BH hq;simp only [BC];have a1:FO (lo+q)=lo+q:=EL (by omega) (by omega);rw [a1];omega
theorem mP (n:Int):AA .u64 n=n % 18446744073709551616:=by simp [AA,AR,vai]
abbrev ED (n:Int):Prop := -9223372036854775808≤n∧n≤9223372036854775807
theorem vR {f:Nat→Bool} (h:(vaC 256).all f=true) {r:Nat} (hr:r < 256):f r=true:=CQ.1 h r (va6.2 hr)
def Fx (r:Nat):Bool:=match Lib.parseMag ((if r=0 then [] else KI r)++Lib.repeatL [48] (8 - (if r=0 then [] else KI r).length)) with | .ok v=>BQ v (r*390625) | _=>false
theorem zf3:(vaC 256).all Fx=true:=by kernel_rfl
theorem zf2 {r:Nat} (h:r < 256):Lib.parseMag ((if r=0 then [] else KI r)++Lib.repeatL [48] (8 - (if r=0 then [] else KI r).length)) = .ok (r*390625):=by
 have:=vR zf3 h
 unfold Fx at this;split at this
 ·rename_i v hv;rw [hv,vam this]
 ·cases this
def Fu (r:Nat):Bool:=BQ r 0||(B6 (KI r).length 8&&((KI r).all (fun c=>B6 48 c.toNat&&B6 c.toNat 57)&&(match (KI r).reverse with | []=>false | c :: _=>!(BQ c.toNat 48))))
theorem Wz:(vaC 256).all Fu=true:=by kernel_rfl
theorem jK {r:Nat} (h0:r≠0) (h:r < 256):(KI r).length≤8∧(∀ c∈KI r,48≤c.toNat∧c.toNat≤57)∧∃ l c,KI r=l++[c]∧c.toNat≠48:=by
 have:=vR Wz h
 unfold Fu at this;simp only [van,AH,CQ] at this;rcases this with h1 | ⟨h1,h2,h3⟩
 ·exact absurd (vam h1) h0
 ·refine ⟨AP h1,fun c hc=>⟨AP (h2 c hc).1,AP (h2 c hc).2⟩,?_⟩;cases hr:(KI r).reverse with
  | nil=>rw [hr] at h3; cases h3
  | cons c l=>
   rw [hr] at h3;refine ⟨l.reverse,c,?_,?_⟩
   ·have:=congrArg List.reverse hr
    simpa using this
   ·intro e;have h3:(!c.toNat.beq 48)=true:=h3;rw [e] at h3;cases h3
theorem gR (u:Nat):IP u=BU (u / 256)++(if u % 256=0 then [] else 46 :: KI (u % 256)):=rfl
theorem Wv (v:Nat):∃ c r,BU v=c :: r∧48≤c.toNat∧c.toNat≤57:=by
 cases h:BU v with
 | nil=>exact absurd h (jJ v)
 | cons c r=>exact ⟨c,r,rfl,XF v c (by rw [h]; exact AN ..)⟩
theorem tH (u:Nat):∃ c r,IP u=c :: r∧48≤c.toNat∧c.toNat≤57:=by
 obtain ⟨c,r,h,h1⟩:=Wv (u / 256);exact ⟨c,r++_,by rw [gR,h]; rfl,h1⟩
theorem Ww (v:Nat) {c:UInt8} (h:c.toNat < 48):c ∉ BU v:=fun hc=>by
 have:=XF v c hc
 omega
theorem Wr (w:List UInt8) (c:UInt8) (h:c ∉ w):vaO w [c]=(w,[],false):=by
 unfold vaO;rw [Lib.index_one,Co w c h,BD (by omega)]
theorem zhk (u:Nat):(vaO (IP u) [46]).1=BU (u / 256)∧(vaO (IP u) [46]).2.1=(if u % 256=0 then [] else KI (u % 256)):=by
 have hno:(46:UInt8) ∉ BU (u / 256):=Ww _ (by decide);rw [gR];by_cases h:u % 256=0
 ·rw [BP h,BP h,DB,Wr _ _ hno];exact ⟨rfl,rfl⟩
 ·rw [BD h,BD h,Wo _ _ _ hno];exact ⟨rfl,rfl⟩
theorem zgf (n:Int):OH (DU n) YN=decide (n < 0)∧GG (DU n) YN=⟨(IP n.natAbs).toArray⟩:=by
 unfold OH GG Lib.trimPrefix Lib.hasPrefix DU K0;show [(45:UInt8)].isPrefixOf (if n < 0 then 45 :: IP n.natAbs else IP n.natAbs)=_∧(⟨(if [(45:UInt8)].isPrefixOf (if n < 0 then 45 :: IP n.natAbs else IP n.natAbs)=true then _ else (if n < 0 then 45 :: IP n.natAbs else IP n.natAbs)).toArray⟩:BA)=_;by_cases h:n < 0
 ·rw [BP h,AD h];have e:[(45:UInt8)].isPrefixOf (45 :: IP n.natAbs)=true:=by simp [vbA]
  rw [e,BP rfl];exact ⟨rfl,rfl⟩
 ·rw [BD h,AL h];obtain ⟨c,r,hc,hc1,_⟩:=tH n.natAbs;have e:[(45:UInt8)].isPrefixOf (IP n.natAbs)=false:=by
   rw [hc];simp only [vbA,B1,A5];intro e;rw [← e] at hc1;revert hc1;decide
  rw [e];simp
theorem Hp {s:BA} {v:Nat} (h:Lib.parseMag s.data.toList = .ok v):GU s=v∧JH s=true:=by
 unfold GU JH;rw [h];exact ⟨rfl,rfl⟩
theorem zgh {n:Int} (hn:ED n):XG (DU n)=true∧GC (DU n)=n:=by
 obtain ⟨hn0,hn1⟩:=hn;obtain ⟨hm,hb⟩:=zgf n;have hu:n.natAbs≤9223372036854775808:=by omega
 obtain ⟨c1,c2⟩:=zhk n.natAbs;have hW:P8 (DU n)=⟨(BU (n.natAbs / 256)).toArray⟩:=by
  unfold P8 cutL;rw [hb];show (⟨(vaO (IP n.natAbs) [46]).1.toArray⟩:BA)=_;rw [c1]
 have hP:JP (DU n)=⟨(if n.natAbs % 256=0 then [] else KI (n.natAbs % 256)).toArray⟩:=by
  unfold JP FU;rw [hb];show (⟨(vaO (IP n.natAbs) [46]).2.1.toArray⟩:BA)=_;rw [c2]
 have hr:n.natAbs % 256 < 256:=by omega
 obtain ⟨v1,n1⟩:=Hp (s:=P8 (DU n)) (v:=n.natAbs / 256) (by rw [hW]; exact rO _ (by omega));have hz:(JP (DU n)).size=(if n.natAbs % 256=0 then ([]:List UInt8) else KI (n.natAbs % 256)).length:=by rw [hP,TP]
 have h8:(JP (DU n)).size≤8:=by
  rw [hz];split
  ·simp
  ·rename_i h0;exact (jK h0 hr).1
 obtain ⟨v2,n2⟩:=Hp (s:=NO (DU n)) (v:=n.natAbs % 256*390625) (by
  have:=zf2 hr
  unfold NO;rw [hz,hP];simp only [ByteArray.data_append,vah];exact this)
 have hS:P7 (DU n)=(n.natAbs:Int):=by
  unfold P7 JW;rw [v1,v2];rw [mP,mP];omega
 have hN:eT (DU n)=n:=by
  unfold eT;rw [hm,hS];unfold FO JW;cases hd:decide (n < 0) with
  | true=>
   have:=A1 hd
   simp only [BJ];rw [IntKind.wrap_i64,mP];omega
  | false=>
   have:=BH hd
   simp only [BC];rw [EL (by omega) (by omega)];omega
 have hI:XG (DU n)=true:=by
  unfold XG;rw [AD h8,n1,n2,v1,v2,hN,AD (show ((n.natAbs / 256:Nat):Int)≤36028797018963968 by omega),AD (show ((n.natAbs % 256*390625:Nat):Int) % 390625=0 by omega),AD rfl];rfl
 refine ⟨hI,?_⟩;unfold GC;rw [hI,hN];rfl
theorem He (n:Int):∃ c r,(DU n).data.toList=c :: r∧c.toNat≠43:=by
 show ∃ c r,K0 n=c :: r∧c.toNat≠43;unfold K0;split
 ·exact ⟨45,_,rfl,by decide⟩
 ·obtain ⟨c,r,h,h1,_⟩:=tH n.natAbs;exact ⟨c,r,h,by omega⟩
theorem X3 (n:Int) (hn:ED n):1≤(DU n).size∧(DU n).size≤40:=by
 obtain ⟨c,r,h,_⟩:=He n;refine ⟨by rw [TP,h]; simp,?_⟩;rw [TP];show (K0 n).length≤40;have hs:(IP n.natAbs).length≤30:=by
  rw [gR,AT];have h1:(BU (n.natAbs / 256)).length≤20:=by
   have:=qY (n:=((n.natAbs / 256:Nat):Int)) (by omega) (by obtain ⟨_,_⟩:=hn; omega)
   rw [TP] at this;exact this
  split
  ·simp; omega
  ·rename_i h0
   have:=(jK h0 (by omega:n.natAbs % 256 < 256)).1
   simp only [AM];omega
 unfold K0;split
 ·simp only [AM]; omega
 ·omega
open Go
structure Qy where
 k:Int
 c:Int
 a0:Int
 b0:Int
 a1:Int
 b1:Int
 a2:Int
 b2:Int
 a3:Int
 b3:Int
 a4:Int
 b4:Int
 lo:Int
 hi:Int
 ft:Int
 fl:Bool
 bu:Int
def Qy.V (q:Qy):V:=.agg [.int .i64 q.k,.int .i64 q.c,.int .i64 q.a0,.int .i64 q.b0,.int .i64 q.a1,.int .i64 q.b1,.int .i64 q.a2,.int .i64 q.b2,.int .i64 q.a3,.int .i64 q.b3,.int .i64 q.a4,.int .i64 q.b4,.int .i64 q.lo,.int .i64 q.hi,.int .i64 q.ft,.bool q.fl,.int .i64 q.bu]
def Qy.none:Qy:=⟨0,0,0,0,0,0,0,0,0,0,0,0,0,0,0,false,0⟩
def Qy.eq (p q:Qy):Bool:=
 (p.k==q.k)&&((p.c==q.c)&&((p.a0==q.a0)&&((p.b0==q.b0)&&((p.a1==q.a1)&&((p.b1==q.b1)&&((p.a2==q.a2)&&((p.b2==q.b2)&&((p.a3==q.a3)&&((p.b3==q.b3)&&((p.a4==q.a4)&&((p.b4==q.b4)&&((p.lo==q.lo)&&((p.hi==q.hi)&&((p.ft==q.ft)&&((p.fl==q.fl)&&((p.bu==q.bu)&&true))))))))))))))))
def FX (q:Qy) (d:Int):Qy:=
 ⟨q.k,q.c,cond (decide (0 < d)) q.a0 0,cond (decide (0 < d)) q.b0 0,cond (decide (1 < d)) q.a1 0,cond (decide (1 < d)) q.b1 0,cond (decide (2 < d)) q.a2 0,cond (decide (2 < d)) q.b2 0,cond (decide (3 < d)) q.a3 0,cond (decide (3 < d)) q.b3 0,cond (decide (4 < d)) q.a4 0,cond (decide (4 < d)) q.b4 0,
  cond (q.k==1) q.lo 0,cond (q.k==1) q.hi 0,cond (q.k==3) q.ft 0,cond (q.k==3) q.fl false,q.bu⟩
def bM:DV
 | [.agg [.int .i64 k,.int .i64 c,.int .i64 a0,.int .i64 b0,.int .i64 a1,.int .i64 b1,.int .i64 a2,.int .i64 b2,.int .i64 a3,.int .i64 b3,.int .i64 a4,.int .i64 b4,.int .i64 lo,.int .i64 hi,.int .i64 ft,.bool fl,.int .i64 bu],.int .i64 d]=>
  .br (decide (0≤d)&&decide (d≤5)) (.ok (.agg [.int .i64 (FX ⟨k,c,a0,b0,a1,b1,a2,b2,a3,b3,a4,b4,lo,hi,ft,fl,bu⟩ d).k,.int .i64 (FX ⟨k,c,a0,b0,a1,b1,a2,b2,a3,b3,a4,b4,lo,hi,ft,fl,bu⟩ d).c,
   .int .i64 (FX ⟨k,c,a0,b0,a1,b1,a2,b2,a3,b3,a4,b4,lo,hi,ft,fl,bu⟩ d).a0,.int .i64 (FX ⟨k,c,a0,b0,a1,b1,a2,b2,a3,b3,a4,b4,lo,hi,ft,fl,bu⟩ d).b0,
   .int .i64 (FX ⟨k,c,a0,b0,a1,b1,a2,b2,a3,b3,a4,b4,lo,hi,ft,fl,bu⟩ d).a1,.int .i64 (FX ⟨k,c,a0,b0,a1,b1,a2,b2,a3,b3,a4,b4,lo,hi,ft,fl,bu⟩ d).b1,
   .int .i64 (FX ⟨k,c,a0,b0,a1,b1,a2,b2,a3,b3,a4,b4,lo,hi,ft,fl,bu⟩ d).a2,.int .i64 (FX ⟨k,c,a0,b0,a1,b1,a2,b2,a3,b3,a4,b4,lo,hi,ft,fl,bu⟩ d).b2,
   .int .i64 (FX ⟨k,c,a0,b0,a1,b1,a2,b2,a3,b3,a4,b4,lo,hi,ft,fl,bu⟩ d).a3,.int .i64 (FX ⟨k,c,a0,b0,a1,b1,a2,b2,a3,b3,a4,b4,lo,hi,ft,fl,bu⟩ d).b3,
   .int .i64 (FX ⟨k,c,a0,b0,a1,b1,a2,b2,a3,b3,a4,b4,lo,hi,ft,fl,bu⟩ d).a4,.int .i64 (FX ⟨k,c,a0,b0,a1,b1,a2,b2,a3,b3,a4,b4,lo,hi,ft,fl,bu⟩ d).b4,
   .int .i64 (FX ⟨k,c,a0,b0,a1,b1,a2,b2,a3,b3,a4,b4,lo,hi,ft,fl,bu⟩ d).lo,.int .i64 (FX ⟨k,c,a0,b0,a1,b1,a2,b2,a3,b3,a4,b4,lo,hi,ft,fl,bu⟩ d).hi,
   .int .i64 (FX ⟨k,c,a0,b0,a1,b1,a2,b2,a3,b3,a4,b4,lo,hi,ft,fl,bu⟩ d).ft,.bool (FX ⟨k,c,a0,b0,a1,b1,a2,b2,a3,b3,a4,b4,lo,hi,ft,fl,bu⟩ d).fl,
   .int .i64 (FX ⟨k,c,a0,b0,a1,b1,a2,b2,a3,b3,a4,b4,lo,hi,ft,fl,bu⟩ d).bu]) []) .no
 | _=>.no
def KB (n:Int):Bool:=decide (0≤n)&&decide (n≤1073741824)
def bL:DV
 | [.int .i64 n]=>.ok (.bool (KB n)) []
 | _=>.no
def WH:DV
 | [.str s]=>.ok (.int .i64 (FJ s)) []
 | _=>.no
def WI:DV
 | [.str s]=>.br (decide (s.size < 4294967281)) (.ok (.int .i64 (GC s)) []) .no
 | _=>.no
abbrev NA:BA:=⟨#[114,97,110,103,101]⟩
abbrev OR:BA:=⟨#[98,101,115,116]⟩
abbrev NB:BA:=⟨#[114,105,115,101,115]⟩
abbrev MJ:BA:=⟨#[102,97,108,108,115]⟩
abbrev VX:BA:=⟨#[102,114,111,109]⟩
abbrev V0:BA:=⟨#[116,111]⟩
abbrev OS:BA:=⟨#[98,121]⟩
abbrev N3:BA:=⟨#[105,110]⟩
abbrev VW:BA:=⟨#[98,117,100,103,101,116]⟩
abbrev aW:BA:=⟨#[46,46]⟩
abbrev G5:BA:=⟨#[32]⟩
def M9 (a b:Int):BA:=DU a++aW++DU b
def HY (q:Qy):List BA:=
 cond (q.k==1) [NA,DP q.c,VX,DU q.lo,V0,DU q.hi]
 (cond (q.k==2) [OR,DP q.c] [cond q.fl MJ NB,DP q.c,OS,DP q.ft])
def Qy.spans (q:Qy):List (Int × Int):=[(q.a0,q.b0),(q.a1,q.b1),(q.a2,q.b2),(q.a3,q.b3),(q.a4,q.b4)]
def JM (q:Qy) (d:Nat):List BA:=HY q++N3 :: ((q.spans.take d).map fun s=>M9 s.1 s.2)++[VW,DP q.bu]
def OL (q:Qy) (d:Int):Bool:=
 (!(decide (d < 1))&&!(decide (d > 4)))&&(q.eq (FX q d)&&(KB q.c&&(KB q.ft&&(KB q.bu&&((q.k==1)||((q.k==2)||(q.k==3)))))))
def EG (q:Qy) (d:Int):BA:=cond (OL q d) (GP (JM q d.toNat) G5) YO
def PZ:DV
 | [.agg [.int .i64 k,.int .i64 c,.int .i64 a0,.int .i64 b0,.int .i64 a1,.int .i64 b1,.int .i64 a2,.int .i64 b2,.int .i64 a3,.int .i64 b3,.int .i64 a4,.int .i64 b4,.int .i64 lo,.int .i64 hi,.int .i64 ft,.bool fl,.int .i64 bu],.int .i64 d]=>
  .ok (.str (EG ⟨k,c,a0,b0,a1,b1,a2,b2,a3,b3,a4,b4,lo,hi,ft,fl,bu⟩ d)) []
 | _=>.no
def DW (l:LI) (i:Nat):BA:=(l.getD i default).toStr
def EO (l:LI):Qy:=
 cond ((DW l 0).toList==NA.toList) ⟨1,FJ (DW l 1),0,0,0,0,0,0,0,0,0,0,GC (DW l 3),GC (DW l 5),0,false,0⟩
 (cond ((DW l 0).toList==OR.toList) ⟨2,FJ (DW l 1),0,0,0,0,0,0,0,0,0,0,0,0,0,false,0⟩
 (cond ((DW l 0).toList==NB.toList||(DW l 0).toList==MJ.toList) ⟨3,FJ (DW l 1),0,0,0,0,0,0,0,0,0,0,0,0,FJ (DW l 3),(DW l 0).toList==MJ.toList,0⟩
 ⟨0,FJ (DW l 1),0,0,0,0,0,0,0,0,0,0,0,0,0,false,0⟩))
def bK:DV
 | [.list false [.str] l]=>.br (decide (l.length≤4294967290)&&l.all (fun x=>decide (x.toStr.size < 4294967281)))
  (.ok (.agg [.int .i64 (EO l).k,.int .i64 (EO l).c,.int .i64 (EO l).a0,.int .i64 (EO l).b0,.int .i64 (EO l).a1,.int .i64 (EO l).b1,.int .i64 (EO l).a2,.int .i64 (EO l).b2,.int .i64 (EO l).a3,.int .i64 (EO l).b3,.int .i64 (EO l).a4,.int .i64 (EO l).b4,
   .int .i64 (EO l).lo,.int .i64 (EO l).hi,.int .i64 (EO l).ft,.bool (EO l).fl,.int .i64 (EO l).bu]) []) .no
 | _=>.no
def R4 (l:LI) (i:Nat):Int:=GC (cutL (DW l i) aW)
def R5 (l:LI) (i:Nat):Int:=GC (FU (DW l i) aW)
def gG (l:LI) (i d:Nat):Qy:=
 ⟨(
  EO (l.take i)).k,(EO (l.take i)).c,
  cond (BS 0 d) (R4 l (i+1)) 0,cond (BS 0 d) (R5 l (i+1)) 0,cond (BS 1 d) (R4 l (i+2)) 0,cond (BS 1 d) (R5 l (i+2)) 0,cond (BS 2 d) (R4 l (i+3)) 0,cond (BS 2 d) (R5 l (i+3)) 0,cond (BS 3 d) (R4 l (i+4)) 0,cond (BS 3 d) (R5 l (i+4)) 0,0,0,
  (EO (l.take i)).lo,(EO (l.take i)).hi,(EO (l.take i)).ft,(EO (l.take i)).fl,FJ (DW l (l.length - 1))⟩
def HH (s:BA):LI:=(D2 s G5).map IV.str
def NR (s:BA):Int:=F2 (HH s) N3 0
def OJ (s:BA):Int:=ic (HH s).length - 2 - NR s - 1
def fL (s:BA):Qy:=gG (HH s) (NR s).toNat (OJ s).toNat
def NH (s:BA):Bool:=(!(decide (NR s < 0))&&(!(decide (OJ s < 1))&&!(decide (OJ s > 4))))&&(EG (fL s) (OJ s)).toList==s.toList
def EZ (s:BA):Qy:=cond (NH s) (fL s) Qy.none
def MS (s:BA):Int:=cond (NH s) (OJ s) 0
def WG:DV
 | [.str s]=>.br (decide (s.size < 4294967281))
  (.ok (.tup [.agg [.int .i64 (EZ s).k,.int .i64 (EZ s).c,.int .i64 (EZ s).a0,.int .i64 (EZ s).b0,.int .i64 (EZ s).a1,.int .i64 (EZ s).b1,.int .i64 (EZ s).a2,.int .i64 (EZ s).b2,.int .i64 (EZ s).a3,.int .i64 (EZ s).b3,.int .i64 (EZ s).a4,.int .i64 (EZ s).b4,
   .int .i64 (EZ s).lo,.int .i64 (EZ s).hi,.int .i64 (EZ s).ft,.bool (EZ s).fl,.int .i64 (EZ s).bu],.int .i64 (MS s),.bool (NH s)]) []) .no
 | _=>.no
open Go
def EM (l:LI) (i:Int):Int:=cond (ic l.length==0) 0 (l.getD (i.tmod (ic l.length)).toNat default).toInt
def SO:DV
 | [.list false [.z] l,.int .i64 i]=>.br (decide (0≤i)) (.ok (.int .i64 (EM l i)) []) .no
 | _=>.no
def E5 (n:Int):Bool:=decide (-2147483648≤n)&&decide (n≤2147483647)
def cL:DV
 | [.int .i64 n,.int .i64 w]=>.br (decide (w=32)) (.ok (.bool (E5 n)) []) .no
 | _=>.no
def gL (lf:Bool) (v f a l r:Int):Bool:=
 cond lf (E5 v&&((f==0)&&((a==0)&&((l==0)&&(r==0)))))
  ((v==0)&&(decide (0≤f)&&(decide (f < 4)&&(E5 a&&(decide (1≤l)&&(decide (l < 31)&&(decide (1≤r)&&decide (r < 31))))))))
def cM:DV
 | [.agg [.bool lf,.int .i64 v,.int .i64 f,.int .i64 a,.int .i64 l,.int .i64 r]]=>.ok (.bool (gL lf v f a l r)) []
 | _=>.no
def iQ (a b:Int):Int:=JW (ic (CG (A4 (AR AJ) a &&& A4 (AR AJ) b)))
def fX (a b:Int):Int:=JW (ic (CG (A4 (AR AJ) a ||| A4 (AR AJ) b)))
def aK (a:Int) (k:Nat):Int:=JW (a*2 ^ k)
def IM (lf:Bool) (v f a l r:Int):Int:=
 cond (gL lf v f a l r)
  (cond lf (fX 9223372036854775808 (iQ (JW v) 4294967295))
   (fX (fX (fX (iQ (JW a) 4294967295) (aK (JW f) 32)) (aK (JW l) 40)) (aK (JW r) 48)))
  0
def WN:DV
 | [.agg [.bool lf,.int .i64 v,.int .i64 f,.int .i64 a,.int .i64 l,.int .i64 r]]=>.ok (.int .u64 (IM lf v f a l r)) []
 | _=>.no
def TF (lf:Bool) (v f a l r:Int):IV:=.agg [.bool lf,.int v,.int f,.int a,.int l,.int r]
def L8 (v:Int):IV:=TF true v 0 0 0 0
def TK (x:IV):IV:=.int (IM (x.cell 0).toBool (x.cell 1).toInt (x.cell 2).toInt (x.cell 3).toInt (x.cell 4).toInt (x.cell 5).toInt)
structure Ns where
 nodes:LI
 leaves:LI
def IA (part:LI) (i:Nat) (s:Ns):Int:=DO (part.getD i default).toInt 0 (ic s.leaves.length - 1)
def RT (part:LI) (i:Nat) (s:Ns):Int:=(s.leaves.getD (IA part i s).toNat default).toInt
def KN (part byl atl val:LI) (dim:Int) (i:Nat) (s:Ns):Ns:=
 ⟨s.nodes.set (RT part i s).toNat (TF false 0 (DO (EM byl (i:Int)) 0 (dim - 1)) (DO (EM atl (i:Int)) 0 9) (ic s.nodes.length) (ic s.nodes.length+1)) ++
   [L8 (DO (EM val (2*(i:Int)+1)) (-3000) 3000),L8 (DO (EM val (2*(i:Int)+2)) (-3000) 3000)],
  s.leaves.take (IA part i s).toNat++s.leaves.drop ((IA part i s).toNat+1)++[.int (ic s.nodes.length),.int (ic s.nodes.length+1)]⟩
def Z4 (part byl atl val:LI) (dim:Int):Nat→Nat→Ns→Ns
 | 0,_,s=>s
 | d+1,i,s=>Z4 part byl atl val dim d (i+1) (KN part byl atl val dim i s)
def PL (part byl atl val:LI) (dim:Int):Ns:=Z4 part byl atl val dim (min part.length 7) 0 ⟨[L8 (DO (EM val 0) (-3000) 3000)],[.int 0]⟩
def MZ (part byl atl val:LI) (dim:Int):LI:=(PL part byl atl val dim).nodes.map TK
def cK:DV
 | [.agg [.int .i64 _,.list false [.z] part,.list false [.z] byl,.list false [.z] atl,.list false [.z] val],.int .i64 dim]=>
  .br (decide (1≤dim)&&decide (dim≤4)) (.ok (.list false [.int .u64] (MZ part byl atl val dim)) []) .no
 | _=>.no
def OF (d:Int):Int:=DO d 1 3
def KX (c:Int):Int:=DO c 1 3
def SX (c:Int) (bias:LI) (j:Int):Int:=cond (decide (j < KX c)) (DO (EM bias j) (-500) 500) 0
def aQ (d c:Int) (t:IV):IV:=.agg [.int (DO (t.cell 0).toInt 0 (KX c - 1)),.list (MZ (t.cell 1).toList (t.cell 2).toList (t.cell 3).toList (t.cell 4).toList (OF d))]
def R7 (d c:Int) (ts:LI):LI:=(ts.take 4).map (aQ d c)
def iG:DV
 | [.agg [.int .i64 d,.int .i64 c,.list false [.z] bias,.list true [.z,.list false [.z],.list false [.z],.list false [.z],.list false [.z]] ts]]=>
  .ok (.agg [.int .i64 (OF d),.int .i64 (KX c),.int .i64 (SX c bias 0),.int .i64 (SX c bias 1),.int .i64 (SX c bias 2),.list true [.z,.list false [.int .u64]] (R7 d c ts)]) []
 | _=>.no
def FY (d:Int) (l:LI) (i:Int):Int:=cond (decide (i < d)) (DO (EM l (2*i)) (-2) 9) 0
def FZ (d:Int) (l:LI) (i:Int):Int:=cond (decide (i < d)) (DO (EM l (2*i)) (-2) 9+DO (EM l (2*i+1)) 0 11) 0
def cH:DV
 | [.agg [.int .i64 d,.int .i64 _,.int .i64 _,.int .i64 _,.int .i64 _,.list true [.z,.list false [.int .u64]] _],.list false [.z] l]=>
  .br (decide (0≤d)&&decide (d≤4)) (.ok (.agg [.int .i64 (FY d l 0),.int .i64 (FZ d l 0),.int .i64 (FY d l 1),.int .i64 (FZ d l 1),.int .i64 (FY d l 2),.int .i64 (FZ d l 2),.int .i64 (FY d l 3),.int .i64 (FZ d l 3),.int .i64 0,.int .i64 0]) []) .no
 | _=>.no
structure Ak where
 k:Int
 c:Int
 lo:Int
 size:Int
 ft:Int
 bu:Int
 fl:Bool
 sp:LI
def FP (a:Ak) (cls:Int):Int:=cond (DO a.k 1 3==2&&decide (cls < 2)) 1 (DO a.k 1 3)
def KK (a:Ak):Int:=DO a.lo (-9000) 9000
def JI (a:Ak) (dim cls:Int):Qy:=
 ⟨FP a cls,DO a.c 0 (cls - 1),FY dim a.sp 0,FZ dim a.sp 0,FY dim a.sp 1,FZ dim a.sp 1,FY dim a.sp 2,FZ dim a.sp 2,FY dim a.sp 3,FZ dim a.sp 3,0,0,
  cond (FP a cls==1) (KK a) 0,cond (FP a cls==1) (KK a+DO a.size 0 18000) 0,cond (FP a cls==3) (DO a.ft 0 (dim - 1)) 0,cond (FP a cls==3) a.fl false,DO a.bu 0 65536⟩
def iF:DV
 | [.agg [.int .i64 k,.int .i64 c,.int .i64 lo,.int .i64 size,.int .i64 ft,.int .i64 bu,.bool fl,.list false [.z] sp],.agg [.int .i64 dim,.int .i64 cls,.int .i64 _,.int .i64 _,.int .i64 _,.list true [.z,.list false [.int .u64]] _]]=>
  .br ((decide (1≤dim)&&decide (dim≤4))&&(decide (1≤cls)&&decide (cls≤3)))
   (.ok (.agg [.int .i64 (JI ⟨k,c,lo,size,ft,bu,fl,sp⟩ dim cls).k,.int .i64 (JI ⟨k,c,lo,size,ft,bu,fl,sp⟩ dim cls).c,
    .int .i64 (JI ⟨k,c,lo,size,ft,bu,fl,sp⟩ dim cls).a0,.int .i64 (JI ⟨k,c,lo,size,ft,bu,fl,sp⟩ dim cls).b0,.int .i64 (JI ⟨k,c,lo,size,ft,bu,fl,sp⟩ dim cls).a1,.int .i64 (JI ⟨k,c,lo,size,ft,bu,fl,sp⟩ dim cls).b1,
    .int .i64 (JI ⟨k,c,lo,size,ft,bu,fl,sp⟩ dim cls).a2,.int .i64 (JI ⟨k,c,lo,size,ft,bu,fl,sp⟩ dim cls).b2,.int .i64 (JI ⟨k,c,lo,size,ft,bu,fl,sp⟩ dim cls).a3,.int .i64 (JI ⟨k,c,lo,size,ft,bu,fl,sp⟩ dim cls).b3,
    .int .i64 (JI ⟨k,c,lo,size,ft,bu,fl,sp⟩ dim cls).a4,.int .i64 (JI ⟨k,c,lo,size,ft,bu,fl,sp⟩ dim cls).b4,.int .i64 (JI ⟨k,c,lo,size,ft,bu,fl,sp⟩ dim cls).lo,.int .i64 (JI ⟨k,c,lo,size,ft,bu,fl,sp⟩ dim cls).hi,
    .int .i64 (JI ⟨k,c,lo,size,ft,bu,fl,sp⟩ dim cls).ft,.bool (JI ⟨k,c,lo,size,ft,bu,fl,sp⟩ dim cls).fl,.int .i64 (JI ⟨k,c,lo,size,ft,bu,fl,sp⟩ dim cls).bu]) []) .no
 | _=>.no
open Go Go.Proofs
def Rj (N:Nat):Env:=D4 [] [] 15 N
theorem zd1 (N:Nat) (l:LI) (i:Int):DZ (Rj N) xS [.tmp 4] [[.z]] [.list false [.z] l,.i i]=(cond (ic (AF l)==0) (some ((.i 0),[])) (cond (decide (ic (AF l)=0)) none (cond (decide (0≤Int.tmod i (ic (AF l)))&&decide (Int.tmod i (ic (AF l)) < ic (AF l))) (some ((.i (IV.toInt (AI l (AE (Int.tmod i (ic (AF l)))) default))),[])) none))):=by kernel_rfl
def Rk (N:Nat):Env:=D4 [] [] 27 N
theorem zd2 (N:Nat) (n w:Int):DZ (Rk N) xT [.tmp 4] [[.bool]] [.i n,.i w]=(cond (decide (w < 1)) (some ((.bool false),[])) (cond (decide (w > 64)) (some ((.bool false),[])) (cond (w==64) (some ((.bool true),[])) (cond (decide (AA AB (w - 1) < 0)) none (cond (decide (n≥AA AB (0 - AA AB (1*2 ^ min (AE (AA AB (w - 1))) (AR AB))))) (some ((.bool (decide (n≤AA AB (AA AB (1*2 ^ min (AE (AA AB (w - 1))) (AR AB)) - 1)))),[])) (some ((.bool false),[]))))))):=by kernel_rfl
def Rm (N:Nat):Env:=D4 [(160,cL)] [] 66 N
theorem zd4 (N:Nat) (u01:Bool) (u04 u00 n_At u02 u03:Int):DZ (Rm N) xV [.tmp 2] [[.bool]] [.agg [.bool u01,.i u04,.i u00,.i n_At,.i u02,.i u03]]=(cond u01 (cond (E5 u04) (cond (u00==0) (cond (n_At==0) (cond (u02==0) (some ((.bool (u03==0)),[])) (some ((.bool false),[]))) (some ((.bool false),[]))) (some ((.bool false),[]))) (some ((.bool false),[]))) (cond (u04==0) (cond (decide (u00≥0)) (cond (decide (u00 < 4)) (cond (E5 n_At) (cond (decide (u02≥1)) (cond (decide (u02 < 31)) (cond (decide (u03≥1)) (some ((.bool (decide (u03 < 31))),[])) (some ((.bool false),[]))) (some ((.bool false),[]))) (some ((.bool false),[]))) (some ((.bool false),[]))) (some ((.bool false),[]))) (some ((.bool false),[]))) (some ((.bool false),[])))):=by kernel_rfl
def Rl (N:Nat):Env:=D4 [(117,cM)] [] 32 N
theorem zd3 (N:Nat) (u01:Bool) (u04 u00 n_At u02 u03:Int):DZ (Rl N) xU [.tmp 2] [[.int .u64]] [.agg [.bool u01,.i u04,.i u00,.i n_At,.i u02,.i u03]]=(cond (!gL u01 u04 u00 n_At u02 u03) (some ((.int .u64 0),[])) (cond u01 (some ((.int .u64 (AA AJ (ic (CG (A4 (AR AJ) 9223372036854775808 ||| A4 (AR AJ) (AA AJ (ic (CG (A4 (AR AJ) (AA AJ u04) &&& A4 (AR AJ) 4294967295))))))))),[])) (some ((.int .u64 (AA AJ (ic (CG (A4 (AR AJ) (AA AJ (ic (CG (A4 (AR AJ) (AA AJ (ic (CG (A4 (AR AJ) (AA AJ (ic (CG (A4 (AR AJ) (AA AJ n_At) &&& A4 (AR AJ) 4294967295)))) ||| A4 (AR AJ) (AA AJ (AA AJ u00*2 ^ min (AE 32) (AR AJ))))))) ||| A4 (AR AJ) (AA AJ (AA AJ u02*2 ^ min (AE 40) (AR AJ))))))) ||| A4 (AR AJ) (AA AJ (AA AJ u03*2 ^ min (AE 48) (AR AJ)))))))),[])))):=by kernel_rfl
def SI (N:Nat):Env:=D4 [(17,LA),(38,SO)] [(3,⟨[1,4,5,9,10],[4,5],[]⟩)] 32 N
abbrev SD (l1:LI) (x9 x10 u00 u01 u02 u03 u04 u05 u06 u07 u08 u09 u0a u0b u0c u0d u0e u0f u0g u0h u0i u0j:Int):St:=⟨[(1,(.list false [.z] l1)),(4,(.ptr 4 0 0)),(5,(.ptr 5 0 0)),(9,(.i x9)),(10,(.i x10))],[(4,(some (.box [.i u00,.i u01,.i u02,.i u03,.i u04,.i u05,.i u06,.i u07,.i u08,.i u09]))),(5,(some (.box [.i u0a,.i u0b,.i u0c,.i u0d,.i u0e,.i u0f,.i u0g,.i u0h,.i u0i,.i u0j])))]⟩
theorem zdX (N:Nat) (u04 u03 u00 u01 u02:Int) (u05 l:LI):DZ (SI N) UX [.cell 4 36] [[.z,.z,.z,.z,.z,.z,.z,.z,.z,.z]] [.agg [.i u04,.i u03,.i u00,.i u01,.i u02,.list true [.z,.list false [.int .u64]] u05],.list false [.z] l]=(DY (SI N) (DK UX [1,1,0,1,0,0]) ⟨[1,4,5,9,10],[4,5],[]⟩ N (SD l u04 0 0 0 0 0 0 0 0 0 0 0 0 0 0 0 0 0 0 0 0 0) (DQ 0 (DS (SI N) (DK UX [1,1,1]) (DT (SI N) none [.cell 4 36] [[.z,.z,.z,.z,.z,.z,.z,.z,.z,.z]])))):=by kernel_rfl
theorem Mu (N:Nat) (l1:LI) (x9 x10 u00 u01 u02 u03 u04 u05 u06 u07 u08 u09 u0a u0b u0c u0d u0e u0f u0g u0h u0i u0j:Int) (again:St→DN) (k:Out→St→DN):E2 (SI N) (DK UX [1,1,0,1,0,0]) (SD l1 x9 x10 u00 u01 u02 u03 u04 u05 u06 u07 u08 u09 u0a u0b u0c u0d u0e u0f u0g u0h u0i u0j) (EQ again ⟨[1,4,5,9,10],[4,5],[]⟩ k)=(cond (decide (x10 < x9)) (cond (decide (0≤AA AB (2*x10))) (cond (decide (0≤AA AB (AA AB (2*x10)+1))) (cond (decide (x10=ic 0)) (again (SD l1 x9 (AA AB (x10+1)) u00 u01 u02 u03 u04 u05 u06 u07 u08 u09 (DO (EM l1 (AA AB (2*x10))) (-2) 9) (AA AB (DO (EM l1 (AA AB (2*x10))) (-2) 9+DO (EM l1 (AA AB (AA AB (2*x10)+1))) 0 11)) u0c u0d u0e u0f u0g u0h u0i u0j)) (cond (decide (x10=ic 1)) (again (SD l1 x9 (AA AB (x10+1)) u00 u01 u02 u03 u04 u05 u06 u07 u08 u09 u0a u0b (DO (EM l1 (AA AB (2*x10))) (-2) 9) (AA AB (DO (EM l1 (AA AB (2*x10))) (-2) 9+DO (EM l1 (AA AB (AA AB (2*x10)+1))) 0 11)) u0e u0f u0g u0h u0i u0j)) (cond (decide (x10=ic 2)) (again (SD l1 x9 (AA AB (x10+1)) u00 u01 u02 u03 u04 u05 u06 u07 u08 u09 u0a u0b u0c u0d (DO (EM l1 (AA AB (2*x10))) (-2) 9) (AA AB (DO (EM l1 (AA AB (2*x10))) (-2) 9+DO (EM l1 (AA AB (AA AB (2*x10)+1))) 0 11)) u0g u0h u0i u0j)) (cond (decide (x10=ic 3)) (again (SD l1 x9 (AA AB (x10+1)) u00 u01 u02 u03 u04 u05 u06 u07 u08 u09 u0a u0b u0c u0d u0e u0f (DO (EM l1 (AA AB (2*x10))) (-2) 9) (AA AB (DO (EM l1 (AA AB (2*x10))) (-2) 9+DO (EM l1 (AA AB (AA AB (2*x10)+1))) 0 11)) u0i u0j)) (cond (decide (x10=ic 4)) (again (SD l1 x9 (AA AB (x10+1)) u00 u01 u02 u03 u04 u05 u06 u07 u08 u09 u0a u0b u0c u0d u0e u0f u0g u0h (DO (EM l1 (AA AB (2*x10))) (-2) 9) (AA AB (DO (EM l1 (AA AB (2*x10))) (-2) 9+DO (EM l1 (AA AB (AA AB (2*x10)+1))) 0 11)))) none))))) none) none) (k (.exit 0) (SD l1 x9 x10 u00 u01 u02 u03 u04 u05 u06 u07 u08 u09 u0a u0b u0c u0d u0e u0f u0g u0h u0i u0j))):=by kernel_rfl
theorem Yr (N:Nat) (l1:LI) (x9 x10 u00 u01 u02 u03 u04 u05 u06 u07 u08 u09 u0a u0b u0c u0d u0e u0f u0g u0h u0i u0j:Int):(DQ 0 (DS (SI N) (DK UX [1,1,1]) (DT (SI N) none [.cell 4 36] [[.z,.z,.z,.z,.z,.z,.z,.z,.z,.z]]))) (.exit 0) (SD l1 x9 x10 u00 u01 u02 u03 u04 u05 u06 u07 u08 u09 u0a u0b u0c u0d u0e u0f u0g u0h u0i u0j)=(some ((.agg [.i u0a,.i u0b,.i u0c,.i u0d,.i u0e,.i u0f,.i u0g,.i u0h,.i u0i,.i u0j]),[])):=by kernel_rfl
open Go Go.Proofs
def Rf (N:Nat):Env:=D4 [(17,LA),(40,cH)] [] 58 N
theorem zdV (N:Nat) (u04 u01 a_Lo u05 u03 u00:Int) (u02:Bool) (u06:LI) (u0b u0a u07 u08 u09:Int) (u0c:LI):DZ (Rf N) xP [.cell 4 38] [[.z,.z,.z,.z,.z,.z,.z,.z,.z,.z,.z,.z,.z,.z,.z,.bool,.z]] [.agg [.i u04,.i u01,.i a_Lo,.i u05,.i u03,.i u00,.bool u02,.list false [.z] u06],.agg [.i u0b,.i u0a,.i u07,.i u08,.i u09,.list true [.z,.list false [.int .u64]] u0c]]=(cond (decide (N4 0 (AA AB (u0a - 1))=0)) none (cond (decide (0≤u0b)&&decide (u0b≤4)) (cond (DO u04 1 3==2) (cond (decide (u0a < 2)) (some ((.agg [.i 1,.i (DO u01 0 (AA AB (u0a - 1))),.i (FY u0b u06 0),.i (FZ u0b u06 0),.i (FY u0b u06 1),.i (FZ u0b u06 1),.i (FY u0b u06 2),.i (FZ u0b u06 2),.i (FY u0b u06 3),.i (FZ u0b u06 3),.i 0,.i 0,.i (DO a_Lo (-9000) 9000),.i (AA AB (DO a_Lo (-9000) 9000+DO u05 0 18000)),.i 0,.bool false,.i (DO u00 0 65536)]),[])) (cond (DO u04 1 3==1) (some ((.agg [.i (DO u04 1 3),.i (DO u01 0 (AA AB (u0a - 1))),.i (FY u0b u06 0),.i (FZ u0b u06 0),.i (FY u0b u06 1),.i (FZ u0b u06 1),.i (FY u0b u06 2),.i (FZ u0b u06 2),.i (FY u0b u06 3),.i (FZ u0b u06 3),.i 0,.i 0,.i (DO a_Lo (-9000) 9000),.i (AA AB (DO a_Lo (-9000) 9000+DO u05 0 18000)),.i 0,.bool false,.i (DO u00 0 65536)]),[])) (some ((.agg [.i (DO u04 1 3),.i (DO u01 0 (AA AB (u0a - 1))),.i (FY u0b u06 0),.i (FZ u0b u06 0),.i (FY u0b u06 1),.i (FZ u0b u06 1),.i (FY u0b u06 2),.i (FZ u0b u06 2),.i (FY u0b u06 3),.i (FZ u0b u06 3),.i 0,.i 0,.i 0,.i 0,.i 0,.bool false,.i (DO u00 0 65536)]),[])))) (cond (DO u04 1 3==3) (cond (decide (N4 0 (AA AB (u0b - 1))=0)) none (cond (DO u04 1 3==1) (some ((.agg [.i (DO u04 1 3),.i (DO u01 0 (AA AB (u0a - 1))),.i (FY u0b u06 0),.i (FZ u0b u06 0),.i (FY u0b u06 1),.i (FZ u0b u06 1),.i (FY u0b u06 2),.i (FZ u0b u06 2),.i (FY u0b u06 3),.i (FZ u0b u06 3),.i 0,.i 0,.i (DO a_Lo (-9000) 9000),.i (AA AB (DO a_Lo (-9000) 9000+DO u05 0 18000)),.i (DO u03 0 (AA AB (u0b - 1))),.bool u02,.i (DO u00 0 65536)]),[])) (some ((.agg [.i (DO u04 1 3),.i (DO u01 0 (AA AB (u0a - 1))),.i (FY u0b u06 0),.i (FZ u0b u06 0),.i (FY u0b u06 1),.i (FZ u0b u06 1),.i (FY u0b u06 2),.i (FZ u0b u06 2),.i (FY u0b u06 3),.i (FZ u0b u06 3),.i 0,.i 0,.i 0,.i 0,.i (DO u03 0 (AA AB (u0b - 1))),.bool u02,.i (DO u00 0 65536)]),[])))) (cond (DO u04 1 3==1) (some ((.agg [.i (DO u04 1 3),.i (DO u01 0 (AA AB (u0a - 1))),.i (FY u0b u06 0),.i (FZ u0b u06 0),.i (FY u0b u06 1),.i (FZ u0b u06 1),.i (FY u0b u06 2),.i (FZ u0b u06 2),.i (FY u0b u06 3),.i (FZ u0b u06 3),.i 0,.i 0,.i (DO a_Lo (-9000) 9000),.i (AA AB (DO a_Lo (-9000) 9000+DO u05 0 18000)),.i 0,.bool false,.i (DO u00 0 65536)]),[])) (some ((.agg [.i (DO u04 1 3),.i (DO u01 0 (AA AB (u0a - 1))),.i (FY u0b u06 0),.i (FZ u0b u06 0),.i (FY u0b u06 1),.i (FZ u0b u06 1),.i (FY u0b u06 2),.i (FZ u0b u06 2),.i (FY u0b u06 3),.i (FZ u0b u06 3),.i 0,.i 0,.i 0,.i 0,.i 0,.bool false,.i (DO u00 0 65536)]),[]))))) none)):=by kernel_rfl
open Go Go.Proofs
theorem tQ:DX PR B0 38 SO:=by
 refine D6 [] [] SO [[.z]] Tryz.func38 zbe trivial ?_;intro vs r hwf h;unfold SO at h;split at h
 ·rename_i l i;cases hc:decide (0≤i) with
  | false=>rw [hc] at h; simp [R.get] at h
  | true=>
   rw [hc,R.get_br,DI,R.get_ok] at h;have hc:=A1 hc;refine ⟨0,?_⟩;rw [← h];refine (zd1 0 l i).trans ?_;unfold EM;cases h0:(ic (AF l)==0) with
   | true=>rfl
   | false=>
    rw [UN] at h0;have h0':=BH h0;have hl:0 < (l.length:Int):=by simp only [ic] at h0'; omega
    have t0:=Int.tmod_nonneg (l.length:Int) hc;have t1:=Int.tmod_lt_of_pos i hl;rw [DJ,h0,DJ,AD (show 0≤Int.tmod i (ic (AF l)) from t0),AD (show Int.tmod i (ic (AF l)) < ic (AF l) from t1),B1,DI,DJ]
 ·simp [R.get] at h
theorem zhO:DX PR B0 160 cL:=by
 refine D6 [] [] cL [[.bool]] Tryz.func160 zbf trivial ?_;intro vs r hwf h;unfold cL at h;split at h
 ·rename_i n w;cases hc:decide (w=32) with
  | false=>rw [hc] at h; simp [R.get] at h
  | true=>
   rw [hc,R.get_br,DI,R.get_ok] at h;have hc:=A1 hc;subst hc;refine ⟨0,?_⟩;rw [← h];refine (zd2 0 n 32).trans ?_;have e1:AA AB (0 - AA AB (1*2 ^ min (AE (AA AB ((32:Int) - 1))) (AR AB))) = -2147483648:=by kernel_rfl
   have e2:AA AB (AA AB (1*2 ^ min (AE (AA AB ((32:Int) - 1))) (AR AB)) - 1)=2147483647:=by kernel_rfl
   have e3:decide (AA AB ((32:Int) - 1) < 0)=false:=by kernel_rfl
   rw [e1,e2,e3];unfold E5;have e4:decide (n ≥ -2147483648)=decide (-2147483648≤n):=rfl;rw [e4];cases decide (-2147483648≤n) <;> rfl
 ·simp [R.get] at h
theorem z7 (a b:Bool):cond a (some (V.bool b,[])) (some (V.bool false,[]))=(some (V.bool (a&&b),[]):DN):=by cases a <;> rfl
theorem zhP:DX PR B0 117 cM:=by
 refine D6 [(160,cL)] [] cM [[.bool]] Tryz.func117 zbh ⟨zhO,trivial⟩ ?_;intro vs r hwf h;unfold cM at h;split at h
 ·rename_i lf v f a l r';refine ⟨0,?_⟩;rw [← h];refine (zd4 0 lf v f a l r').trans ?_;simp only [R.get_ok,z7];unfold gL;cases lf with
  | true=>rfl
  | false=>rfl
 ·simp [R.get] at h
theorem Kn:DX PR B0 71 WN:=by
 refine D6 [(117,cM)] [] WN [[.int .u64]] Tryz.func71 zbg ⟨zhP,trivial⟩ ?_;intro vs r hwf h;unfold WN at h;split at h
 ·rename_i lf v f a l r';refine ⟨0,?_⟩;rw [← h];refine (zd3 0 lf v f a l r').trans ?_;unfold IM;cases gL lf v f a l r' with
  | false=>rfl
  | true=>cases lf <;> rfl
 ·simp [R.get] at h
def MF (l:LI) (j:Int):Int:=DO (EM l (2*j)) (-2) 9
def LP (l:LI) (j:Int):Int:=DO (EM l (2*j)) (-2) 9+DO (EM l (2*j+1)) 0 11
def rgC (l:LI) (i:Nat):List V:=[.int .i64 (cond (BS 0 i) (MF l 0) 0),.int .i64 (cond (BS 0 i) (LP l 0) 0),.int .i64 (cond (BS 1 i) (MF l 1) 0),.int .i64 (cond (BS 1 i) (LP l 1) 0),.int .i64 (cond (BS 2 i) (MF l 2) 0),.int .i64 (cond (BS 2 i) (LP l 2) 0),.int .i64 (cond (BS 3 i) (MF l 3) 0),.int .i64 (cond (BS 3 i) (LP l 3) 0),.int .i64 0,.int .i64 0]
abbrev mA (l:LI) (D:Int) (i:Nat) (x:Int):St:=⟨[(1,(.list false [.z] l)),(4,(.ptr 4 0 0)),(5,(.ptr 5 0 0)),(9,(.int .i64 D)),(10,(.int .i64 x))],[(4,(some (.box [(.int .i64 0),(.int .i64 0),(.int .i64 0),(.int .i64 0),(.int .i64 0),(.int .i64 0),(.int .i64 0),(.int .i64 0),(.int .i64 0),(.int .i64 0)]))),(5,(some (.box (rgC l i))))]⟩
theorem zi9 (l:LI) (j:Int):AA AB (DO (EM l (2*j)) (-2) 9+DO (EM l (2*j+1)) 0 11)=LP l j:=by
 obtain ⟨_,a1,a2⟩:=HG (n:=EM l (2*j)) (lo := -2) (hi:=9) (by omega) (by omega) (by omega);obtain ⟨_,b1,b2⟩:=HG (n:=EM l (2*j+1)) (lo:=0) (hi:=11) (by omega) (by omega) (by omega);exact EL (by omega) (by omega)
theorem zgK (N:Nat) (l:LI) (D:Int) (i:Nat) (hi:(i:Int) < D) (h4:i < 4) (again:St→DN) (k:Out→St→DN) :
  E2 (SI N) (DK UX [1,1,0,1,0,0]) (mA l D i (i:Int)) (EQ again ⟨[1,4,5,9,10],[4,5],[]⟩ k)=again (mA l D (i+1) ((i+1:Nat):Int)):=by
 refine (Mu N l D i 0 0 0 0 0 0 0 0 0 0 (cond (BS 0 i) (MF l 0) 0) (cond (BS 0 i) (LP l 0) 0) (cond (BS 1 i) (MF l 1) 0) (cond (BS 1 i) (LP l 1) 0) (cond (BS 2 i) (MF l 2) 0) (cond (BS 2 i) (LP l 2) 0) (cond (BS 3 i) (MF l 3) 0) (cond (BS 3 i) (LP l 3) 0) 0 0 again k).trans ?_;have w2:AA AB (2*(i:Int))=2*(i:Int):=EL (by omega) (by omega);have w3:AA AB (2*(i:Int)+1)=2*(i:Int)+1:=EL (by omega) (by omega);rw [AD hi,DI,w2,w3,AD (show 0≤2*(i:Int) by omega),DI,AD (show 0≤2*(i:Int)+1 by omega),DI,zi9];have hi4:i=0∨i=1∨i=2∨i=3:=by omega
 rcases hi4 with rfl | rfl | rfl | rfl
 ·rw [show decide (((0:Nat):Int)=ic 0)=true from rfl,DI];rfl
 ·rw [show decide (((1:Nat):Int)=ic 0)=false from rfl,show decide (((1:Nat):Int)=ic 1)=true from rfl,DJ,DI];rfl
 ·rw [show decide (((2:Nat):Int)=ic 0)=false from rfl,show decide (((2:Nat):Int)=ic 1)=false from rfl,show decide (((2:Nat):Int)=ic 2)=true from rfl,DJ,DJ,DI];rfl
 ·rw [show decide (((3:Nat):Int)=ic 0)=false from rfl,show decide (((3:Nat):Int)=ic 1)=false from rfl,show decide (((3:Nat):Int)=ic 2)=false from rfl,show decide (((3:Nat):Int)=ic 3)=true from rfl,DJ,DJ,DJ,DI];rfl
theorem Ii (N:Nat) (l:LI) (D:Nat) (hD:D≤4) (K:Out→St→DN):∀ (d i n:Nat),i+d=D→d < n →
  DY (SI N) (DK UX [1,1,0,1,0,0]) ⟨[1,4,5,9,10],[4,5],[]⟩ n (mA l D i (i:Int)) K=K (.exit 0) (mA l D D (D:Int))
 | 0,i,n+1,hd,hn=>by
  have hi:i=D:=by omega
  subst hi;rw [D5];refine (Mu N l _ _ 0 0 0 0 0 0 0 0 0 0 (cond (BS 0 i) (MF l 0) 0) (cond (BS 0 i) (LP l 0) 0) (cond (BS 1 i) (MF l 1) 0) (cond (BS 1 i) (LP l 1) 0) (cond (BS 2 i) (MF l 2) 0) (cond (BS 2 i) (LP l 2) 0) (cond (BS 3 i) (MF l 3) 0) (cond (BS 3 i) (LP l 3) 0) 0 0 _ _).trans ?_;rw [AL (show ¬ (i:Int) < (i:Int) by omega),DJ];rfl
 | d+1,i,n+1,hd,hn=>by
  rw [D5,zgK N l D i (by omega) (by omega)];exact Ii N l D hD K d (i+1) n (by omega) (by omega)
 | _,_,0,_,h=>by omega
theorem zhL:DX PR B0 40 cH:=by
 refine D6 [(17,LA),(38,SO)] [(3,⟨[1,4,5,9,10],[4,5],[]⟩)] cH [[.z,.z,.z,.z,.z,.z,.z,.z,.z,.z]] Tryz.func40 zba
  ⟨YB,tQ,trivial⟩ ?_
 intro vs r hwf h;unfold cH at h;split at h
 ·rename_i d c b0 b1 b2 ts l;cases hc:(decide (0≤d)&&decide (d≤4)) with
  | false=>rw [hc] at h; simp [R.get] at h
  | true=>
   rw [hc,R.get_br,DI,R.get_ok] at h;simp only [AH,AQ] at hc;refine ⟨10,?_⟩;rw [← h];refine (zdX 10 d c b0 b1 b2 ts l).trans ?_;obtain ⟨D,rfl⟩:∃ D:Nat,d=D:=⟨d.toNat,by omega⟩;refine (Ii 10 l D (by omega) _ D 0 10 (by omega) (by omega)).trans ?_;refine (Yr 10 l D D 0 0 0 0 0 0 0 0 0 0 (cond (BS 0 D) (MF l 0) 0) (cond (BS 0 D) (LP l 0) 0) (cond (BS 1 D) (MF l 1) 0) (cond (BS 1 D) (LP l 1) 0) (cond (BS 2 D) (MF l 2) 0) (cond (BS 2 D) (LP l 2) 0) (cond (BS 3 D) (MF l 3) 0) (cond (BS 3 D) (LP l 3) 0) 0 0).trans ?_;have hD:D=0∨D=1∨D=2∨D=3∨D=4:=by omega
   rcases hD with rfl | rfl | rfl | rfl | rfl <;> rfl
 ·simp [R.get] at h
theorem zhJ:DX PR B0 16 iF:=by
 refine D6 [(17,LA),(40,cH)] [] iF [[.z,.z,.z,.z,.z,.z,.z,.z,.z,.z,.z,.z,.z,.z,.z,.bool,.z]] Tryz.func16 za8
  ⟨YB,zhL,trivial⟩ ?_
 intro vs r hwf h;unfold iF at h;split at h
 ·rename_i k c lo size ft bu fl sp dim cls b0 b1 b2 ts;cases hc:((decide (1≤dim)&&decide (dim≤4))&&(decide (1≤cls)&&decide (cls≤3))) with
  | false=>rw [hc] at h; simp [R.get] at h
  | true=>
   rw [hc,R.get_br,DI,R.get_ok] at h;simp only [AH,AQ] at hc;obtain ⟨⟨d1,d4⟩,c1,c3⟩:=hc;refine ⟨0,?_⟩;rw [← h];refine (zdV 0 k c lo size ft bu fl sp dim cls b0 b1 b2 ts).trans ?_;have w1:AA AB (cls - 1)=cls - 1:=EL (by omega) (by omega);have w2:AA AB (dim - 1)=dim - 1:=EL (by omega) (by omega);obtain ⟨m1,_,_⟩:=HG (n:=c) (lo:=0) (hi:=cls - 1) (by omega) (by omega) (by omega);obtain ⟨m2,_,_⟩:=HG (n:=ft) (lo:=0) (hi:=dim - 1) (by omega) (by omega) (by omega);obtain ⟨_,l1,l2⟩:=HG (n:=lo) (lo := -9000) (hi:=9000) (by omega) (by omega) (by omega);obtain ⟨_,s1,s2⟩:=HG (n:=size) (lo:=0) (hi:=18000) (by omega) (by omega) (by omega);have w3:AA AB (DO lo (-9000) 9000+DO size 0 18000)=DO lo (-9000) 9000+DO size 0 18000:=EL (by omega) (by omega);rw [w1,w2,w3,m1,m2,AL (show ¬ (cls - 1 - 0+1=0) by omega),AL (show ¬ (dim - 1 - 0+1=0) by omega),AD (show 0≤dim by omega),AD (show dim≤4 by omega)];unfold JI FP KK;obtain ⟨_,k1,k2⟩:=HG (n:=k) (lo:=1) (hi:=3) (by omega) (by omega) (by omega);generalize DO k 1 3=K at k1 k2;have hK:K=1∨K=2∨K=3:=by omega
   simp only;generalize decide (cls < 2)=cl;rcases hK with rfl | rfl | rfl <;> cases cl <;> rfl
 ·simp [R.get] at h
open Go
def SL:DV
 | [.int .i64 n,.int .i64 w]=>.br (decide (w=32)) (.ok (.bool (E5 n)) []) .no
 | _=>.no
def WJ:DV
 | [.int .i64 a,.int .i64 w]=>.br (decide (0≤a)&&decide (a < 64)) (.ok (.bool (decide (1≤w)&&decide (w≤64 - a))) []) .no
 | _=>.no
def XT (w:Int):Int:=(18446744073709551615:Int).fdiv (2 ^ (64 - w).toNat)
def WK:DV
 | [.int .i64 w]=>.br (decide (1≤w)&&decide (w≤64)) (.ok (.int .u64 (XT w)) []) .no
 | _=>.no
def Tu (a b:Int):Int:=JW (ic (CG (A4 (AR AJ) a &&& ~~~ (A4 (AR AJ) b))))
def QK (x a w y:Int):Int:=fX (Tu x (aK (XT w) a.toNat)) (iQ (aK y a.toNat) (aK (XT w) a.toNat))
def IJ (x a w:Int):Int:=iQ (x.fdiv (2 ^ a.toNat)) (XT w)
def bR:DV
 | [.int .u64 x,.int .i64 a,.int .i64 w,.int .u64 y]=>.br (decide (0≤a)&&(decide (a < 64)&&(decide (1≤w)&&decide (w≤64 - a)))) (.ok (.int .u64 (QK x a w y)) []) .no
 | _=>.no
def SM:DV
 | [.int .u64 x,.int .i64 a,.int .i64 w]=>.br (decide (0≤a)&&(decide (a < 64)&&(decide (1≤w)&&decide (w≤64 - a)))) (.ok (.int .u64 (IJ x a w)) []) .no
 | _=>.no
def vH (n:Int):Int:=(FO (n*2 ^ 32)).fdiv (2 ^ 32)
def bT:DV
 | [.int .i64 n,.int .i64 w]=>.br (decide (w=32)) (.ok (.int .i64 (vH n)) []) .no
 | _=>.no
def OO (x:Int):Int:=vH (FO (IJ x 0 32))
def bS:DV
 | [.int .u64 x,.int .i64 a,.int .i64 w]=>.br (decide (a=0)&&decide (w=32)) (.ok (.int .i64 (OO x)) []) .no
 | _=>.no
structure Nd where
 lf:Bool
 v:Int
 f:Int
 a:Int
 l:Int
 r:Int
def Nd.eq (x y:Nd):Bool:=(x.lf==y.lf)&&((x.v==y.v)&&((x.f==y.f)&&((x.a==y.a)&&((x.l==y.l)&&((x.r==y.r)&&true)))))
def Nd.zero:Nd:=⟨false,0,0,0,0,0⟩
def RF (n:Int):Bool:=decide (1≤n)&&decide (n < 31)
def dF:DV
 | [.int .i64 n]=>.ok (.bool (RF n)) []
 | _=>.no
def M6 (x:Nd):Bool:=
 cond x.lf (x.eq ⟨true,x.v,0,0,0,0⟩&&E5 x.v)
  ((x.v==0)&&(decide (0≤x.f)&&(decide (x.f < 4)&&(E5 x.a&&(RF x.l&&RF x.r)))))
def dD:DV
 | [.agg [.bool lf,.int .i64 v,.int .i64 f,.int .i64 a,.int .i64 l,.int .i64 r]]=>.ok (.bool (M6 ⟨lf,v,f,a,l,r⟩)) []
 | _=>.no
def I1 (x:Nd):Int:=
 cond (M6 x)
  (cond x.lf (QK 9223372036854775808 0 32 (JW x.v))
   (QK (QK (QK (QK 0 0 32 (JW x.a)) 32 4 (JW x.f)) 40 8 (JW x.l)) 48 8 (JW x.r)))
  0
def WS:DV
 | [.agg [.bool lf,.int .i64 v,.int .i64 f,.int .i64 a,.int .i64 l,.int .i64 r]]=>.ok (.int .u64 (I1 ⟨lf,v,f,a,l,r⟩)) []
 | _=>.no
def X4 (w:Int):Nd:=
 cond (IJ w 63 1==0) ⟨false,0,FO (IJ w 32 4),OO w,FO (IJ w 40 8),FO (IJ w 48 8)⟩ ⟨true,OO w,0,0,0,0⟩
def GJ (w:Int):Bool:=!(w==0)&&(I1 (X4 w)==w)
def DL (w:Int):Nd:=cond (GJ w) (X4 w) Nd.zero
def MP:DV
 | [.int .u64 w]=>.ok (.tup [.agg [.bool (DL w).lf,.int .i64 (DL w).v,.int .i64 (DL w).f,.int .i64 (DL w).a,.int .i64 (DL w).l,.int .i64 (DL w).r],.bool (GJ w)]) []
 | _=>.no
def dE:DV
 | [.int .i64 a,.int .i64 w,.bor [.int .u64 x]]=>.br (decide (0≤a)&&(decide (a < 64)&&(decide (1≤w)&&decide (w≤64 - a)))) (.ok (.int .i64 (FO (IJ x a w))) [[.int .u64 x]]) .no
 | _=>.no
def LH (x:Nd) (j:Nat):Nat:=cond x.lf 0 ((if x.l=(j:Int) then 1 else 0)+(if x.r=(j:Int) then 1 else 0))
def IZ (l:LI) (j:Nat):Nat:=(l.map fun w=>LH (DL w.toInt) j).sum
def OG (dim n:Int) (i:Nat) (x:Nd):Bool:=
 cond x.lf true (!(decide (x.f≥dim))&&(!(x.l==x.r)&&(!(decide (min x.l x.r≤(i:Int)))&&!(decide (max x.l x.r≥n)))))
def KM (dim n:Int):Nat→LI→Bool
 | _,[]=>true
 | i,w :: r=>(GJ w.toInt&&OG dim n i (DL w.toInt))&&KM dim n (i+1) r
def Z7 (l:LI):Bool:=(vaC (l.length - 1)).all fun j=>IZ l (j+1)==1
def G1 (l:LI) (dim:Int):Bool:=(B6 1 l.length&&B6 l.length 31)&&(KM dim (ic l.length) 0 l&&Z7 l)
def W3:DV
 | [.list false [.int .u64] l,.int .i64 dim]=>.ok (.bool (G1 l dim)) []
 | _=>.no
structure Md where
 d:Int
 c:Int
 b0:Int
 b1:Int
 b2:Int
 ts:LI
def HN (d c:Int) (t:IV):Bool:=!(decide ((t.cell 0).toInt < 0))&&(!(decide ((t.cell 0).toInt≥c))&&G1 (t.cell 1).toList d)
def HX (c j b:Int):Bool:=E5 b&&!(decide (j≥c)&&!(b==0))
def EX (m:Md):Bool:=
 (!(decide (m.d < 1))&&(!(decide (m.d > 4))&&(!(decide (m.c < 1))&&(!(decide (m.c > 3))&&B6 m.ts.length 8)))) &&
  ((HX m.c 0 m.b0&&(HX m.c 1 m.b1&&HX m.c 2 m.b2))&&m.ts.all (HN m.d m.c))
abbrev MY:List Kd:=[.z,.list false [.int .u64]]
def WR:DV
 | [.agg [.int .i64 k,.list false [.int .u64] l],.bor [.int .i64 d,.int .i64 c,.int .i64 b0,.int .i64 b1,.int .i64 b2,.list true [.z,.list false [.int .u64]] ts]]=>
  .ok (.bool (!(HN d c (.agg [.int k,.list l])))) [[.int .i64 d,.int .i64 c,.int .i64 b0,.int .i64 b1,.int .i64 b2,.list true MY ts]]
 | _=>.no
def XL (d c:Int):LI→Int→Int
 | [],_ => -1
 | t :: r,i=>cond (HN d c t) (XL d c r (i+1)) i
def dR:DV
 | [.list true [.z,.list false [.int .u64]] l,.clo 95 [.bor [.int .i64 d,.int .i64 c,.int .i64 b0,.int .i64 b1,.int .i64 b2,.list true [.z,.list false [.int .u64]] ts]]]=>
  .ok (.int .i64 (XL d c l 0)) [[.int .i64 d,.int .i64 c,.int .i64 b0,.int .i64 b1,.int .i64 b2,.list true MY ts]]
 | _=>.no
def dQ:DV
 | [.list true [.z,.list false [.int .u64]] l,.clo 95 [.bor [.int .i64 d,.int .i64 c,.int .i64 b0,.int .i64 b1,.int .i64 b2,.list true [.z,.list false [.int .u64]] ts]]]=>
  .ok (.bool (!(l.all (HN d c)))) [[.int .i64 d,.int .i64 c,.int .i64 b0,.int .i64 b1,.int .i64 b2,.list true MY ts]]
 | _=>.no
def MO:DV
 | [.agg [.int .i64 d,.int .i64 c,.int .i64 b0,.int .i64 b1,.int .i64 b2,.list true [.z,.list false [.int .u64]] ts]]=>.ok (.bool (EX ⟨d,c,b0,b1,b2,ts⟩)) []
 | _=>.no
abbrev N2:BA:=⟨#[102,111,114,101,115,116]⟩
abbrev JB:BA:=⟨#[98,105,97,115]⟩
abbrev OT:BA:=⟨#[116,114,101,101]⟩
abbrev TY:BA:=⟨#[108,101,97,102]⟩
abbrev mS:BA:=⟨#[105,102]⟩
abbrev vC:BA:=⟨#[60,61]⟩
abbrev vD:BA:=⟨#[116,104,101,110]⟩
abbrev vB:BA:=⟨#[101,108,115,101]⟩
abbrev PX:BA:=⟨#[10]⟩
def FQ (ws:List BA):BA:=GP ws G5++PX
def GA:List (List BA)→BA
 | []=>CI
 | l :: r=>FQ l++GA r
def MC (x:Nd):List BA:=
 cond x.lf [TY,DU x.v] [mS,DP x.f,vC,DU x.a,vD,DP x.l,vB,DP x.r]
def H0 (l:LI):List (List BA):=l.map fun w=>MC (DL w.toInt)
def TV (t:IV):List (List BA):=[OT,DP (t.cell 0).toInt,DP (ic (t.cell 1).toList.length)] :: H0 (t.cell 1).toList
def GV:LI→List (List BA)
 | []=>[]
 | t :: r=>TV t++GV r
def TB (m:Md):List (List BA):=[[N2,DP m.d,DP m.c],JB :: ([m.b0,m.b1,m.b2].take m.c.toNat).map DU]
def L9 (m:Md):List (List BA):=TB m++GV m.ts
def EK (m:Md):BA:=cond (EX m) (GA (L9 m)) YO
def FN (s:BA) (most:Int):Int:=cond (KU s&&(!(decide (FJ s < 0))&&!(decide (FJ s > most)))) (FJ s) 0
def E0 (ls:LI):LI:=match ls with | []=>[] | l :: _=>HH l.toStr
def NW (l:LI):Nd:=
 cond ((DW l 0).toList==TY.toList) ⟨true,GC (DW l 1),0,0,0,0⟩ ⟨false,0,FN (DW l 1) 4,GC (DW l 3),FN (DW l 5) 31,FN (DW l 7) 31⟩
def M3 (ls:LI) (k:Nat):LI:=(vaC k).map fun i=>.int (I1 (NW (E0 (ls.drop i))))
def M2 (ls:LI):Nat:=(FN (DW (E0 ls) 2) 31).toNat
def aD (ls:LI):IV:=.agg [.int (FN (DW (E0 ls) 1) 3),.list (M3 (ls.drop 1) (M2 ls))]
def LO:Nat→LI→LI
 | 0,_=>[]
 | n+1,ls=>match ls with
  | []=>[]
  | l :: r=>aD (l :: r) :: LO n (r.drop (M2 (l :: r)))
def LN (ls:LI) (c:Int) (j:Nat):Int:=cond (decide ((j:Int) < c)) (GC (DW (E0 (ls.drop 1)) (1+j))) 0
def aC (ls:LI):Int:=FN (DW (E0 ls) 2) 3
def sI (ls:LI):Md:=⟨FN (DW (E0 ls) 1) 4,aC ls,LN ls (aC ls) 0,LN ls (aC ls) 1,LN ls (aC ls) 2,LO 9 (ls.drop 2)⟩
def TA (s t:BA):Bool:=decide (t.size≤s.size)&&(s.extract (s.size - t.size) s.size).toList==t.toList
def GH (s t:BA):BA:=cond (TA s t) (s.extract 0 (s.size - t.size)) s
def aS (s:BA):BA:=GH s PX
def U9 (s:BA):LI:=(D2 (aS s) PX).map IV.str
def ZG (s:BA):Md:=sI (U9 s)
def Md.zero:Md:=⟨0,0,0,0,0,[]⟩
def K6 (s:BA):Bool:=!(s.toList==YO.toList)&&(EK (ZG s)).toList==s.toList
def FS (s:BA):Md:=cond (K6 s) (ZG s) Md.zero
def KO (l:LI):Bool:=l.all fun x=>decide (x.toStr.size < 4294967281)
def dU:DV
 | [.bor [.bld s],.list false [.str] ws]=>.br (B6 ws.length 1000&&decide (s.size+(FQ (ws.map IV.toStr)).size≤1000000000)) (.ok (.tup []) [[.bld (s++FQ (ws.map IV.toStr))]]) .no
 | _=>.no
def N9:DV
 | [.agg [.int .i64 d,.int .i64 c,.int .i64 b0,.int .i64 b1,.int .i64 b2,.list true [.z,.list false [.int .u64]] ts]]=>.ok (.str (EK ⟨d,c,b0,b1,b2,ts⟩)) []
 | _=>.no
def W0:DV
 | [.bor [.list false [.str] ls]]=>.br (KO ls) (.ok (.list false [.str] (E0 ls)) [[.list false [.str] (ls.drop 1)]]) .no
 | _=>.no
def W2:DV
 | [.list false [.str] l,.int .i64 i]=>.br (decide (0≤i)) (.ok (.str (DW l i.toNat)) []) .no
 | _=>.no
def WZ:DV
 | [.str s,.int .i64 most]=>.ok (.int .i64 (FN s most)) []
 | _=>.no
def W1:DV
 | [.str s]=>.br (decide (s.size < 4294967281)) (.ok (.int .i64 (GC s)) []) .no
 | _=>.no
def dV:DV
 | [.bor [.list false [.str] ls]]=>.br (KO ls) (.ok (.int .u64 (I1 (NW (E0 ls)))) [[.list false [.str] (ls.drop 1)]]) .no
 | _=>.no
def cY:DV
 | [.str s,.str t]=>.ok (.bool (TA s t)) []
 | _=>.no
def cZ:DV
 | [.str s,.str t]=>.ok (.str (GH s t)) []
 | _=>.no
def SS:DV
 | [.str s,.str t]=>.ok (.str (GH s t)) []
 | _=>.no
def ST:DV
 | [.str s]=>.br (decide (s.size < 4294967281)) (.ok (.tup [.agg [.int .i64 (FS s).d,.int .i64 (FS s).c,.int .i64 (FS s).b0,.int .i64 (FS s).b1,.int .i64 (FS s).b2,.list true MY (FS s).ts],.bool (K6 s)]) []) .no
 | _=>.no
open Go Go.Proofs
def Qq (N:Nat):Env:=D4 [] [] 25 N
theorem zdz (N:Nat) (n w:Int):DZ (Qq N) xB [.tmp 4] [[.bool]] [.i n,.i w]=(cond (decide (w < 1)) (some ((.bool false),[])) (cond (decide (w > 64)) (some ((.bool false),[])) (cond (decide (AA AJ (AA AB (w - 1)) < 0)) none (cond (vaZ n (2 ^ min (AE (AA AJ (AA AB (w - 1)))) (AR AB))==0) (some ((.bool true),[])) (cond (decide (AA AJ (AA AB (w - 1)) < 0)) none (some ((.bool (vaZ n (2 ^ min (AE (AA AJ (AA AB (w - 1)))) (AR AB)) == -1)),[]))))))):=by kernel_rfl
def Qu (N:Nat):Env:=D4 [] [] 21 N
theorem zdD (N:Nat) (n w:Int):DZ (Qu N) xF [.tmp 4] [[.z]] [.i n,.i w]=(cond (decide (w < 1)) (some ((.i n),[])) (cond (decide (w≥64)) (some ((.i n),[])) (cond (decide (AA AJ (AA AB (64 - w)) < 0)) none (cond (decide (AA AJ (AA AB (64 - w)) < 0)) none (some ((.i (vaZ (AA AB (n*2 ^ min (AE (AA AJ (AA AB (64 - w)))) (AR AB))) (2 ^ min (AE (AA AJ (AA AB (64 - w)))) (AR AB)))),[])))))):=by kernel_rfl
def Qv (N:Nat):Env:=D4 [] [] 21 N
theorem zdE (N:Nat) (atv w:Int):DZ (Qv N) xG [.tmp 4] [[.bool]] [.i atv,.i w]=(cond (decide (atv≥0)) (cond (decide (atv < 64)) (cond (decide (w≥1)) (some ((.bool (decide (w≤AA AB (64 - atv)))),[])) (some ((.bool false),[]))) (some ((.bool false),[]))) (some ((.bool false),[]))):=by kernel_rfl
def Qw (N:Nat):Env:=D4 [] [] 7 N
theorem zdF (N:Nat) (w:Int):DZ (Qw N) xH [.tmp 2] [[.int .u64]] [.i w]=(cond (decide (AA AJ (AA AB (64 - w)) < 0)) none (some ((.int .u64 (vaZ 18446744073709551615 (2 ^ min (AE (AA AJ (AA AB (64 - w)))) (AR AJ)))),[]))):=by kernel_rfl
def Qs (N:Nat):Env:=D4 [(149,WJ),(150,WK)] [] 30 N
theorem zdB (N:Nat) (x atv w y:Int):DZ (Qs N) xD [.tmp 8] [[.int .u64]] [.int .u64 x,.i atv,.i w,.int .u64 y]=(cond (decide (0≤atv)&&decide (atv < 64)) (cond (! (decide (1≤w)&&decide (w≤64 - atv))) (some ((.int .u64 x),[])) (cond (decide (1≤w)&&decide (w≤64)) (cond (decide (AA AJ atv < 0)) none (cond (decide (AA AJ atv < 0)) none (some ((.int .u64 (AA AJ (ic (CG (A4 (AR AJ) (AA AJ (ic (CG (A4 (AR AJ) x &&& ~~~A4 (AR AJ) (AA AJ (XT w*2 ^ min (AE (AA AJ atv)) (AR AJ))))))) ||| A4 (AR AJ) (AA AJ (ic (CG (A4 (AR AJ) (AA AJ (y*2 ^ min (AE (AA AJ atv)) (AR AJ))) &&& A4 (AR AJ) (AA AJ (XT w*2 ^ min (AE (AA AJ atv)) (AR AJ)))))))))))),[])))) none)) none):=by kernel_rfl
def Qr (N:Nat):Env:=D4 [(149,WJ),(150,WK)] [] 18 N
theorem zdA (N:Nat) (x atv w:Int):DZ (Qr N) xC [.tmp 6] [[.int .u64]] [.int .u64 x,.i atv,.i w]=(cond (decide (0≤atv)&&decide (atv < 64)) (cond (! (decide (1≤w)&&decide (w≤64 - atv))) (some ((.int .u64 0),[])) (cond (decide (AA AJ atv < 0)) none (cond (decide (1≤w)&&decide (w≤64)) (some ((.int .u64 (AA AJ (ic (CG (A4 (AR AJ) (vaZ x (2 ^ min (AE (AA AJ atv)) (AR AJ))) &&& A4 (AR AJ) (XT w)))))),[])) none))) none):=by kernel_rfl
def Qt (N:Nat):Env:=D4 [(99,SM),(148,bT)] [] 14 N
theorem zdC (N:Nat) (x atv w:Int):DZ (Qt N) xE [.tmp 6] [[.z]] [.int .u64 x,.i atv,.i w]=(cond (decide (0≤atv)&&(decide (atv < 64)&&(decide (1≤w)&&decide (w≤64 - atv)))) (cond (decide (w=32)) (some ((.i (vH (AA AB (IJ x atv w)))),[])) none) none):=by kernel_rfl
def Sl (N:Nat):Env:=D4 [] [] 9 N
theorem zeC (N:Nat) (n:Int):DZ (Sl N) yT [.tmp 2] [[.bool]] [.i n]=(cond (decide (n≥1)) (some ((.bool (decide (n < 31))),[])) (some ((.bool false),[]))):=by kernel_rfl
def Si (N:Nat):Env:=D4 [(93,SL),(190,dF)] [] 43 N
theorem zez (N:Nat) (u01:Bool) (u04 u00 n_At u02 u03:Int):DZ (Si N) yQ [.tmp 2] [[.bool]] [.agg [.bool u01,.i u04,.i u00,.i n_At,.i u02,.i u03]]=(cond u01 (cond (u01==true&&(u04==u04&&(u00==0&&(n_At==0&&(u02==0&&(u03==0&&true)))))) (some ((.bool (E5 u04)),[])) (some ((.bool false),[]))) (cond (u04==0) (cond (decide (u00≥0)) (cond (decide (u00 < 4)) (cond (E5 n_At) (cond (RF u02) (some ((.bool (RF u03)),[])) (some ((.bool false),[]))) (some ((.bool false),[]))) (some ((.bool false),[]))) (some ((.bool false),[]))) (some ((.bool false),[])))):=by kernel_rfl
def Sh (N:Nat):Env:=D4 [(146,bR),(145,dD)] [] 32 N
theorem zey (N:Nat) (u01:Bool) (u04 u00 n_At u02 u03:Int):DZ (Sh N) yP [.tmp 2] [[.int .u64]] [.agg [.bool u01,.i u04,.i u00,.i n_At,.i u02,.i u03]]=(cond (!M6 {lf:=u01,v:=u04,f:=u00,a:=n_At,l:=u02,r:=u03}) (some ((.int .u64 0),[])) (cond u01 (some ((.int .u64 (QK 9223372036854775808 0 32 (AA AJ u04))),[])) (some ((.int .u64 (QK (QK (QK (QK 0 0 32 (AA AJ n_At)) 32 4 (AA AJ u00)) 40 8 (AA AJ u02)) 48 8 (AA AJ u03))),[])))):=by kernel_rfl
def Sk (N:Nat):Env:=D4 [(99,SM)] [] 11 N
theorem zeB (N:Nat) (a w x:Int):DZ (Sk N) yS [.tmp 5] [[.z]] [.i a,.i w,.bor [.int .u64 x]]=(cond (decide (0≤a)&&(decide (a < 64)&&(decide (1≤w)&&decide (w≤64 - a)))) (some ((.i (AA AB (IJ x a w))),[[.int .u64 x]])) none):=by kernel_rfl
def Sj (N:Nat):Env:=D4 [(99,SM),(98,bS),(92,WS),(100,dE)] [] 33 N
theorem zeA (N:Nat) (w:Int):DZ (Sj N) yR [.cell 2 111,.tmp 3] [[.bool,.z,.z,.z,.z,.z],[.bool]] [.int .u64 w]=(cond (IJ w 63 1==0) (cond (w==0) (some ((.tup [.agg [.bool false,.i 0,.i 0,.i 0,.i 0,.i 0],.bool false]),[])) (cond (I1 {lf:=false,v:=0,f:=FO (IJ w 32 4),a:=OO w,l:=FO (IJ w 40 8),r:=FO (IJ w 48 8)} != w) (some ((.tup [.agg [.bool false,.i 0,.i 0,.i 0,.i 0,.i 0],.bool false]),[])) (some ((.tup [.agg [.bool false,.i 0,.i (FO (IJ w 32 4)),.i (OO w),.i (FO (IJ w 40 8)),.i (FO (IJ w 48 8))],.bool true]),[])))) (cond (w==0) (some ((.tup [.agg [.bool false,.i 0,.i 0,.i 0,.i 0,.i 0],.bool false]),[])) (cond (I1 {lf:=true,v:=OO w,f:=0,a:=0,l:=0,r:=0} != w) (some ((.tup [.agg [.bool false,.i 0,.i 0,.i 0,.i 0,.i 0],.bool false]),[])) (some ((.tup [.agg [.bool true,.i (OO w),.i 0,.i 0,.i 0,.i 0],.bool true]),[]))))):=by kernel_rfl
open Go Go.Proofs
theorem uX {n:Int} (h0:0≤n) (h1:n < 18446744073709551616):AA AJ n=n:=by
 rw [mP];omega
theorem tM:DX PR B0 93 SL:=by
 refine D6 [] [] SL [[.bool]] Tryz.func93 zaH trivial ?_;intro vs r hwf h;unfold SL at h;split at h
 ·rename_i n w;cases hc:decide (w=32) with
  | false=>rw [hc] at h; simp [R.get] at h
  | true=>
   rw [hc,R.get_br,DI,R.get_ok] at h;have hc:=A1 hc;subst hc;refine ⟨0,?_⟩;rw [← h];refine (zdz 0 n 32).trans ?_;have e3:decide (AA AJ (AA AB ((32:Int) - 1)) < 0)=false:=by kernel_rfl
   have e4:(2:Int) ^ min (AE (AA AJ (AA AB ((32:Int) - 1)))) (AR AB)=2147483648:=by kernel_rfl
   rw [e3,e4,AL (show ¬ (32:Int) < 1 by omega),AL (show ¬ (32:Int) > 64 by omega),DJ,DJ,DJ,DJ];have h0:=Int.fdiv_mul_add_fmod n 2147483648;have h1:=Int.fmod_nonneg_of_pos n (show (0:Int) < 2147483648 by omega);have h2:=Int.fmod_lt_of_pos n (show (0:Int) < 2147483648 by omega);generalize vaZ n 2147483648=q at h0 ⊢;generalize Int.fmod n 2147483648=m at h0 h1 h2;unfold E5;rw [UN,UN];cases hq:decide (q=0) with
   | true=>
    have hq:=A1 hq;rw [AD (show -2147483648≤n by omega),AD (show n≤2147483647 by omega)];rfl
   | false=>
    have hq:=BH hq;cases hp:decide (q = -1) with
    | true=>
     have hp:=A1 hp;rw [AD (show -2147483648≤n by omega),AD (show n≤2147483647 by omega)];rfl
    | false=>
     have hp:=BH hp;rw [DJ];congr 3
     symm
     rw [Bool.and_eq_false_iff,BW,BW];omega
 ·simp [R.get] at h
theorem zhv:DX PR B0 148 bT:=by
 refine D6 [] [] bT [[.z]] Tryz.func148 zaL trivial ?_;intro vs r hwf h;unfold bT at h;split at h
 ·rename_i n w;cases hc:decide (w=32) with
  | false=>rw [hc] at h; simp [R.get] at h
  | true=>
   rw [hc,R.get_br,DI,R.get_ok] at h;have hc:=A1 hc;subst hc;refine ⟨0,?_⟩;rw [← h];refine (zdD 0 n 32).trans ?_;have e3:decide (AA AJ (AA AB ((64:Int) - 32)) < 0)=false:=by kernel_rfl
   have e4:min (AE (AA AJ (AA AB ((64:Int) - 32)))) (AR AB)=32:=by kernel_rfl
   rw [e3,e4,AL (show ¬ (32:Int) < 1 by omega),AL (show ¬ (32:Int)≥64 by omega),DJ,DJ,DJ,DJ];rfl
 ·simp [R.get] at h
theorem Kj:DX PR B0 149 WJ:=by
 refine D6 [] [] WJ [[.bool]] Tryz.func149 zaM trivial ?_;intro vs r hwf h;unfold WJ at h;split at h
 ·rename_i a w;cases hc:(decide (0≤a)&&decide (a < 64)) with
  | false=>rw [hc] at h; simp [R.get] at h
  | true=>
   rw [hc,R.get_br,DI,R.get_ok] at h;rw [AH,AQ,AQ] at hc;refine ⟨0,?_⟩;rw [← h];refine (zdE 0 a w).trans ?_;have e:AA AB (64 - a)=64 - a:=EL (by omega) (by omega);have e1:decide (w≥1)=decide (1≤w):=rfl;rw [AD (show a≥0 by omega),AD hc.2,DI,DI,e,e1];cases decide (1≤w) <;> rfl
 ·simp [R.get] at h
theorem Kk:DX PR B0 150 WK:=by
 refine D6 [] [] WK [[.int .u64]] Tryz.func150 zaN trivial ?_;intro vs r hwf h;unfold WK at h;split at h
 ·rename_i w;cases hc:(decide (1≤w)&&decide (w≤64)) with
  | false=>rw [hc] at h; simp [R.get] at h
  | true=>
   rw [hc,R.get_br,DI,R.get_ok] at h;rw [AH,AQ,AQ] at hc;refine ⟨0,?_⟩;rw [← h];refine (zdF 0 w).trans ?_;have e:AA AB (64 - w)=64 - w:=EL (by omega) (by omega);have e2:AA AJ (64 - w)=64 - w:=uX (by omega) (by omega);have e3:min (64 - w).toNat (AR AJ)=(64 - w).toNat:=by
    have:AR AJ=64:=rfl
    omega
   rw [e,e2,e3,AL (show ¬ (64 - w < 0) by omega),DJ];rfl
 ·simp [R.get] at h
theorem Bm {a w:Int} (hc:(decide (0≤a)&&(decide (a < 64)&&(decide (1≤w)&&decide (w≤64 - a))))=true):0≤a∧a < 64∧1≤w∧w≤64 - a:=by
 simpa only [AH,AQ] using hc
theorem zht:DX PR B0 146 bR:=by
 refine D6 [(149,WJ),(150,WK)] [] bR [[.int .u64]] Tryz.func146 zaJ ⟨Kj,Kk,trivial⟩ ?_;intro vs r hwf h;unfold bR at h;split at h
 ·rename_i x a w y;cases hc:(decide (0≤a)&&(decide (a < 64)&&(decide (1≤w)&&decide (w≤64 - a)))) with
  | false=>rw [hc] at h; simp [R.get] at h
  | true=>
   rw [hc,R.get_br,DI,R.get_ok] at h;obtain ⟨h1,h2,h3,h4⟩:=Bm hc;refine ⟨0,?_⟩;rw [← h];refine (zdB 0 x a w y).trans ?_;have e2:AA AJ a=a:=uX (by omega) (by omega);have e3:min a.toNat (AR AJ)=a.toNat:=by
    have:AR AJ=64:=rfl
    omega
   rw [e2,e3,AD h1,AD h2,AD h3,AD h4,AD (show w≤64 by omega),AL (show ¬ a < 0 by omega)];simp only [B3,A2,DI,DJ];rfl
 ·simp [R.get] at h
theorem tN:DX PR B0 99 SM:=by
 refine D6 [(149,WJ),(150,WK)] [] SM [[.int .u64]] Tryz.func99 zaI ⟨Kj,Kk,trivial⟩ ?_;intro vs r hwf h;unfold SM at h;split at h
 ·rename_i x a w;cases hc:(decide (0≤a)&&(decide (a < 64)&&(decide (1≤w)&&decide (w≤64 - a)))) with
  | false=>rw [hc] at h; simp [R.get] at h
  | true=>
   rw [hc,R.get_br,DI,R.get_ok] at h;obtain ⟨h1,h2,h3,h4⟩:=Bm hc;refine ⟨0,?_⟩;rw [← h];refine (zdA 0 x a w).trans ?_;have e2:AA AJ a=a:=uX (by omega) (by omega);have e3:min a.toNat (AR AJ)=a.toNat:=by
    have:AR AJ=64:=rfl
    omega
   rw [e2,e3,AD h1,AD h2,AD h3,AD h4,AD (show w≤64 by omega),AL (show ¬ a < 0 by omega)];simp only [B3,A2,DI,DJ];rfl
 ·simp [R.get] at h
theorem zhu:DX PR B0 98 bS:=by
 refine D6 [(99,SM),(148,bT)] [] bS [[.z]] Tryz.func98 zaK ⟨tN,zhv,trivial⟩ ?_;intro vs r hwf h;unfold bS at h;split at h
 ·rename_i x a w;cases hc:(decide (a=0)&&decide (w=32)) with
  | false=>rw [hc] at h; simp [R.get] at h
  | true=>
   rw [hc,R.get_br,DI,R.get_ok] at h;rw [AH,AQ,AQ] at hc;obtain ⟨rfl,rfl⟩:=hc;refine ⟨0,?_⟩;rw [← h];refine (zdC 0 x 0 32).trans ?_;rfl
 ·simp [R.get] at h
theorem zif:DX PR B0 190 dF:=by
 refine D6 [] [] dF [[.bool]] Tryz.func190 zbP trivial ?_;intro vs r hwf h;unfold dF at h;split at h
 ·rename_i n;refine ⟨0,?_⟩;rw [R.get_ok] at h;rw [← h];refine (zeC 0 n).trans ?_;unfold RF;have e1:decide (n≥1)=decide (1≤n):=rfl;rw [e1];cases decide (1≤n) <;> rfl
 ·simp [R.get] at h
theorem zid:DX PR B0 145 dD:=by
 refine D6 [(93,SL),(190,dF)] [] dD [[.bool]] Tryz.func145 zbM ⟨tM,zif,trivial⟩ ?_;intro vs r hwf h;unfold dD at h;split at h
 ·rename_i lf v f a l r';refine ⟨0,?_⟩;rw [← h];refine (zez 0 lf v f a l r').trans ?_;simp only [R.get_ok,z7];unfold M6;cases lf with
  | true=>rfl
  | false=>rfl
 ·simp [R.get] at h
theorem Kv:DX PR B0 92 WS:=by
 refine D6 [(146,bR),(145,dD)] [] WS [[.int .u64]] Tryz.func92 zbL ⟨zht,zid,trivial⟩ ?_;intro vs r hwf h;unfold WS at h;split at h
 ·rename_i lf v f a l r';refine ⟨0,?_⟩;rw [← h];refine (zey 0 lf v f a l r').trans ?_;unfold I1;cases M6 ⟨lf,v,f,a,l,r'⟩ with
  | false=>rfl
  | true=>cases lf <;> rfl
 ·simp [R.get] at h
theorem zie:DX PR B0 100 dE:=by
 refine D6 [(99,SM)] [] dE [[.z]] Tryz.func100 zbO ⟨tN,trivial⟩ ?_;intro vs r hwf h;unfold dE at h;split at h
 ·rename_i a w x;cases hc:(decide (0≤a)&&(decide (a < 64)&&(decide (1≤w)&&decide (w≤64 - a)))) with
  | false=>rw [hc] at h; simp [R.get] at h
  | true=>
   rw [hc,R.get_br,DI,R.get_ok] at h;refine ⟨0,?_⟩;rw [← h];refine (zeB 0 a w x).trans ?_;rw [hc];rfl
 ·simp [R.get] at h
theorem aN:DX PR B0 55 MP:=by
 refine D6 [(99,SM),(98,bS),(92,WS),(100,dE)] [] MP [[.bool,.z,.z,.z,.z,.z],[.bool]] Tryz.func55 zbN ⟨tN,zhu,Kv,zie,trivial⟩ ?_;intro vs r hwf h;unfold MP at h;split at h
 ·rename_i w;refine ⟨0,?_⟩;rw [← h];refine (zeA 0 w).trans ?_;rw [R.get_ok];unfold DL GJ X4;cases (IJ w 63 1==0) with
  | true=>
   simp only [BJ];cases hw:(w==0) with
   | true=>rfl
   | false=>
    simp only [BC,A8,A6];have e:(I1 ⟨false,0,FO (IJ w 32 4),OO w,FO (IJ w 40 8),FO (IJ w 48 8)⟩ != w)=!(I1 ⟨false,0,FO (IJ w 32 4),OO w,FO (IJ w 40 8),FO (IJ w 48 8)⟩==w):=rfl;rw [e];cases (I1 ⟨false,0,FO (IJ w 32 4),OO w,FO (IJ w 40 8),FO (IJ w 48 8)⟩==w) <;> rfl
  | false=>
   simp only [BC];cases hw:(w==0) with
   | true=>rfl
   | false=>
    simp only [BC,A8,A6];have e:(I1 ⟨true,OO w,0,0,0,0⟩ != w)=!(I1 ⟨true,OO w,0,0,0,0⟩==w):=rfl;rw [e];cases (I1 ⟨true,OO w,0,0,0,0⟩==w) <;> rfl
 ·simp [R.get] at h
open Go Go.Proofs
def H6 (N:Nat):Env:=D4 [(55,MP)] [(5,⟨[0,1,4,5,23,24,25],[22],[]⟩),(17,⟨[4,85,86,87],[22],[]⟩)] 94 N
abbrev OW (l0:LI) (x1:Int) (b4:Bool) (n5:Nat) (l23:LI) (x24 x25:Int) (lo22:LI):St:=⟨[(0,(.list false [.int .u64] l0)),(1,(.i x1)),(4,(.bool b4)),(5,(.row 22 0 n5)),(23,(.list false [.int .u64] l23)),(24,(.i x24)),(25,(.i x25))],[(22,(some (.row true 3 false [.z] lo22)))]⟩
abbrev WF (b4:Bool) (n85:Nat) (x86 x87:Int) (lo22:LI):St:=⟨[(4,(.bool b4)),(85,(.row 22 1 n85)),(86,(.i x86)),(87,(.i x87))],[(22,(some (.row true 3 false [.z] lo22)))]⟩
theorem zfc (N:Nat) (l:LI) (a1:Int):DZ (H6 N) L4 [.tmp 4] [[.bool]] [.list false [.int .u64] l,.i a1]=(cond (decide (ic (AF l) < 1)) (some ((.bool false),[])) (cond (decide (ic (AF l) > 31)) (some ((.bool false),[])) (cond (BS 0 (TI.size (Env.tyd (H6 N) 3))&&(BS 3 1000000&&decide (0≤ic (AF l)))&&(decide (ic (AF l)=ic (AF l))&&decide (ic (AF l)*ic (TI.bytes (Env.tyd (H6 N) 3))≤ic EE))) (DY (H6 N) (DK L4 [1,1,1,0,1,0,0]) ⟨[0,1,4,5,23,24,25],[22],[]⟩ N (OW l a1 false (AE (ic (AF l))) l (ic (AF l)) 0 (BN (AE (ic (AF l))) (IV.int 0))) (DQ 0 (DS (H6 N) (DK L4 [1,1,1,1]) (DT (H6 N) none [.tmp 4] [[.bool]])))) none))):=by kernel_rfl
theorem Nq (N:Nat) (l0:LI) (x1:Int) (b4:Bool) (n5:Nat) (l23:LI) (x24 x25:Int) (lo22:LI) (again:St→DN) (k:Out→St→DN):E2 (H6 N) (DK L4 [1,1,1,0,1,0,0]) (OW l0 x1 b4 n5 l23 x24 x25 lo22) (EQ again ⟨[0,1,4,5,23,24,25],[22],[]⟩ k)=(cond (decide (x25 < x24)) (cond (decide (0≤x25)&&decide (x25 < ic (AF l23))) (cond (!GJ (IV.toInt (AI l23 (AE x25) default))) (k .ret (OW l0 x1 false n5 l23 x24 x25 lo22)) (cond (Nd.lf (DL (IV.toInt (AI l23 (AE x25) default)))) (again (OW l0 x1 b4 n5 l23 x24 (AA AB (x25+1)) lo22)) (cond (decide (Nd.f (DL (IV.toInt (AI l23 (AE x25) default)))≥x1)) (k .ret (OW l0 x1 false n5 l23 x24 x25 lo22)) (cond (Nd.l (DL (IV.toInt (AI l23 (AE x25) default)))==Nd.r (DL (IV.toInt (AI l23 (AE x25) default)))) (k .ret (OW l0 x1 false n5 l23 x24 x25 lo22)) (cond (decide (min (Nd.l (DL (IV.toInt (AI l23 (AE x25) default)))) (Nd.r (DL (IV.toInt (AI l23 (AE x25) default))))≤x25)) (k .ret (OW l0 x1 false n5 l23 x24 x25 lo22)) (cond (decide (max (Nd.l (DL (IV.toInt (AI l23 (AE x25) default)))) (Nd.r (DL (IV.toInt (AI l23 (AE x25) default))))≥ic (AF l0))) (k .ret (OW l0 x1 false n5 l23 x24 x25 lo22)) (cond (decide (0≤Nd.l (DL (IV.toInt (AI l23 (AE x25) default))))&&decide (Nd.l (DL (IV.toInt (AI l23 (AE x25) default))) < ic (n5 - 0))) (cond (decide (0≤Nd.l (DL (IV.toInt (AI l23 (AE x25) default))))&&decide (Nd.l (DL (IV.toInt (AI l23 (AE x25) default))) < ic (n5 - 0))) (cond (decide (0≤Nd.r (DL (IV.toInt (AI l23 (AE x25) default))))&&decide (Nd.r (DL (IV.toInt (AI l23 (AE x25) default))) < ic (n5 - 0))) (cond (decide (0≤Nd.r (DL (IV.toInt (AI l23 (AE x25) default))))&&decide (Nd.r (DL (IV.toInt (AI l23 (AE x25) default))) < ic (n5 - 0))) (again (OW l0 x1 b4 n5 l23 x24 (AA AB (x25+1)) (List.set (List.set lo22 (0+AE (Nd.l (DL (IV.toInt (AI l23 (AE x25) default))))) (OM false [Kd.int AB] (AI lo22 (0+AE (Nd.l (DL (IV.toInt (AI l23 (AE x25) default))))) default) 0 [IV.int (AA AB (IV.toInt (AI lo22 (0+AE (Nd.l (DL (IV.toInt (AI l23 (AE x25) default))))) default)+1))])) (0+AE (Nd.r (DL (IV.toInt (AI l23 (AE x25) default))))) (OM false [Kd.int AB] (AI (List.set lo22 (0+AE (Nd.l (DL (IV.toInt (AI l23 (AE x25) default))))) (OM false [Kd.int AB] (AI lo22 (0+AE (Nd.l (DL (IV.toInt (AI l23 (AE x25) default))))) default) 0 [IV.int (AA AB (IV.toInt (AI lo22 (0+AE (Nd.l (DL (IV.toInt (AI l23 (AE x25) default))))) default)+1))])) (0+AE (Nd.r (DL (IV.toInt (AI l23 (AE x25) default))))) default) 0 [IV.int (AA AB (IV.toInt (AI (List.set lo22 (0+AE (Nd.l (DL (IV.toInt (AI l23 (AE x25) default))))) (OM false [Kd.int AB] (AI lo22 (0+AE (Nd.l (DL (IV.toInt (AI l23 (AE x25) default))))) default) 0 [IV.int (AA AB (IV.toInt (AI lo22 (0+AE (Nd.l (DL (IV.toInt (AI l23 (AE x25) default))))) default)+1))])) (0+AE (Nd.r (DL (IV.toInt (AI l23 (AE x25) default))))) default)+1))])))) none) none) none) none))))))) none) (k (.exit 0) (OW l0 x1 b4 n5 l23 x24 x25 lo22))):=by kernel_rfl
theorem zaa (N:Nat) (l0:LI) (x1:Int) (b4:Bool) (n5:Nat) (l23:LI) (x24 x25:Int) (lo22:LI):(DQ 0 (DS (H6 N) (DK L4 [1,1,1,1]) (DT (H6 N) none [.tmp 4] [[.bool]]))) (.exit 0) (OW l0 x1 b4 n5 l23 x24 x25 lo22)=(cond (decide (0≤1)&&decide (1≤ic (n5 - 0))) (DY (H6 N) (DK L4 [1,1,1,1,0,1,0,0]) ⟨[4,85,86,87],[22],[]⟩ N (WF b4 (0+(n5 - 0)) (ic (0+(n5 - 0) - 1)) 0 lo22) (DQ 2 (DS (H6 N) (DK L4 [1,1,1,1,1]) (DT (H6 N) none [.tmp 4] [[.bool]])))) none):=by kernel_rfl
theorem zab (N:Nat) (l0:LI) (x1:Int) (b4:Bool) (n5:Nat) (l23:LI) (x24 x25:Int) (lo22:LI):(DQ 0 (DS (H6 N) (DK L4 [1,1,1,1]) (DT (H6 N) none [.tmp 4] [[.bool]]))) .ret (OW l0 x1 b4 n5 l23 x24 x25 lo22)=(some ((.bool b4),[])):=by kernel_rfl
theorem Nr (N:Nat) (b4:Bool) (n85:Nat) (x86 x87:Int) (lo22:LI) (again:St→DN) (k:Out→St→DN):E2 (H6 N) (DK L4 [1,1,1,1,0,1,0,0]) (WF b4 n85 x86 x87 lo22) (EQ again ⟨[4,85,86,87],[22],[]⟩ k)=(cond (decide (x87 < x86)) (cond (decide (0≤x87)&&decide (x87 < ic (n85 - 1))) (cond (IV.toInt (AI lo22 (1+AE x87) default) != 1) (k .ret (WF false n85 x86 x87 lo22)) (again (WF b4 n85 x86 (AA AB (x87+1)) lo22))) none) (k (.exit 2) (WF b4 n85 x86 x87 lo22))):=by kernel_rfl
theorem zac (N:Nat) (b4:Bool) (n85:Nat) (x86 x87:Int) (lo22:LI):(DQ 2 (DS (H6 N) (DK L4 [1,1,1,1,1]) (DT (H6 N) none [.tmp 4] [[.bool]]))) (.exit 2) (WF b4 n85 x86 x87 lo22)=(some ((.bool true),[])):=by kernel_rfl
theorem zad (N:Nat) (b4:Bool) (n85:Nat) (x86 x87:Int) (lo22:LI):(DQ 2 (DS (H6 N) (DK L4 [1,1,1,1,1]) (DT (H6 N) none [.tmp 4] [[.bool]]))) .ret (WF b4 n85 x86 x87 lo22)=(some ((.bool b4),[])):=by kernel_rfl
def Sg (N:Nat):Env:=D4 [(96,W3)] [] 22 N
theorem zev (N:Nat) (k:Int) (l:LI) (d c b0 b1 b2:Int) (ts:LI):DZ (Sg N) yO [.tmp 3] [[.bool]] [.agg [.i k,.list false [.int .u64] l],.bor [.i d,.i c,.i b0,.i b1,.i b2,.list true [.z,.list false [.int .u64]] ts]]=(cond (decide (k < 0)) (some ((.bool true),[[.i d,.i c,.i b0,.i b1,.i b2,.list true [.z,.list false [.int .u64]] ts]])) (cond (decide (k≥c)) (some ((.bool true),[[.i d,.i c,.i b0,.i b1,.i b2,.list true [.z,.list false [.int .u64]] ts]])) (some ((.bool (!G1 l d)),[[.i d,.i c,.i b0,.i b1,.i b2,.list true [.z,.list false [.int .u64]] ts]])))):=by kernel_rfl
def OZ (N:Nat):Env:=D4 [(95,WR)] [(2,⟨[0,1,4,7,8],[900000],[]⟩)] 19 N
abbrev WB (l0:LI) (x4 x7 x8 u01 u02 u03 u04 u05:Int) (u00:LI):St:=⟨[(0,(.list true [.z,.list false [.int .u64]] l0)),(1,(.clo 95 [.ptr 900000 0 0])),(4,(.i x4)),(7,(.i x7)),(8,(.i x8))],[(900000,(some (.box [.i u01,.i u02,.i u03,.i u04,.i u05,.list true [.z,.list false [.int .u64]] u00])))]⟩
theorem zeW (N:Nat) (l:LI) (d c b0 b1 b2:Int) (ts:LI):DZ (OZ N) S0 [.tmp 4] [[.z]] [.list true [.z,.list false [.int .u64]] l,.clo 95 [.bor [.i d,.i c,.i b0,.i b1,.i b2,.list true [.z,.list false [.int .u64]] ts]]]=(DY (OZ N) (DK S0 [1,0,1,0,0]) ⟨[0,1,4,7,8],[900000],[]⟩ N (WB l 0 (ic (AF l)) 0 d c b0 b1 b2 ts) (DQ 0 (DS (OZ N) (DK S0 [1,1]) (DT (OZ N) (some [.i d,.i c,.i b0,.i b1,.i b2,.list true [.z,.list false [.int .u64]] ts]) [.tmp 4] [[.z]])))):=by kernel_rfl
theorem Nl (N:Nat) (l0:LI) (x4 x7 x8 u01 u02 u03 u04 u05:Int) (u00:LI) (again:St→DN) (k:Out→St→DN):E2 (OZ N) (DK S0 [1,0,1,0,0]) (WB l0 x4 x7 x8 u01 u02 u03 u04 u05 u00) (EQ again ⟨[0,1,4,7,8],[900000],[]⟩ k)=(cond (decide (x8 < x7)) (cond (decide (0≤x8)&&decide (x8 < ic (AF l0))) (cond (!HN u01 u02 (IV.agg [IV.int (IV.toInt (IV.cell (AI l0 (AE x8) default) 0)),IV.list (IV.toList (IV.cell (AI l0 (AE x8) default) 1))])) (k .ret (WB l0 x8 x7 x8 u01 u02 u03 u04 u05 u00)) (again (WB l0 x4 x7 (AA AB (x8+1)) u01 u02 u03 u04 u05 u00))) none) (k (.exit 0) (WB l0 x4 x7 x8 u01 u02 u03 u04 u05 u00))):=by kernel_rfl
theorem Zq (N:Nat) (d c b0 b1 b2:Int) (ts l0:LI) (x4 x7 x8 u01 u02 u03 u04 u05:Int) (u00:LI):(DQ 0 (DS (OZ N) (DK S0 [1,1]) (DT (OZ N) (some [.i d,.i c,.i b0,.i b1,.i b2,.list true [.z,.list false [.int .u64]] ts]) [.tmp 4] [[.z]]))) (.exit 0) (WB l0 x4 x7 x8 u01 u02 u03 u04 u05 u00)=(some ((.i (-1)),[[.i u01,.i u02,.i u03,.i u04,.i u05,.list true [.z,.list false [.int .u64]] u00]])):=by kernel_rfl
theorem Zr (N:Nat) (d c b0 b1 b2:Int) (ts l0:LI) (x4 x7 x8 u01 u02 u03 u04 u05:Int) (u00:LI):(DQ 0 (DS (OZ N) (DK S0 [1,1]) (DT (OZ N) (some [.i d,.i c,.i b0,.i b1,.i b2,.list true [.z,.list false [.int .u64]] ts]) [.tmp 4] [[.z]]))) .ret (WB l0 x4 x7 x8 u01 u02 u03 u04 u05 u00)=(some ((.i x4),[[.i u01,.i u02,.i u03,.i u04,.i u05,.list true [.z,.list false [.int .u64]] u00]])):=by kernel_rfl
def Sy (N:Nat):Env:=D4 [(147,dR)] [] 9 N
theorem zeV (N:Nat) (l:LI) (d c b0 b1 b2:Int) (ts:LI):DZ (Sy N) y5 [.tmp 4] [[.bool]] [.list true [.z,.list false [.int .u64]] l,.clo 95 [.bor [.i d,.i c,.i b0,.i b1,.i b2,.list true [.z,.list false [.int .u64]] ts]]]=(some ((.bool (decide (XL d c l 0≥0))),[[.i d,.i c,.i b0,.i b1,.i b2,.list true [.z,.list false [.int .u64]] ts]])):=by kernel_rfl
def N7 (N:Nat):Env:=D4 [(93,SL),(95,WR),(94,dQ)] [(4,⟨[1,2,30,31],[1,53005],[]⟩)] 54 N
abbrev K8 (b2:Bool) (u01 u02 u03 x31 u04 u05 u06 u07 u08:Int) (u00:LI):St:=⟨[(1,(.ptr 1 0 0)),(2,(.bool b2)),(30,(.agg [.i u01,.i u02,.i u03])),(31,(.i x31))],[(1,(some (.box [.i u04,.i u05,.i u06,.i u07,.i u08,.list true [.z,.list false [.int .u64]] u00]))),(53005,none)]⟩
theorem zeu (N:Nat) (u04 u03 u00 u01 u02:Int) (u05:LI):DZ (N7 N) RE [.tmp 2] [[.bool]] [.agg [.i u04,.i u03,.i u00,.i u01,.i u02,.list true [.z,.list false [.int .u64]] u05]]=(cond (decide (u04 < 1)) (some ((.bool false),[])) (cond (decide (u04 > 4)) (some ((.bool false),[])) (cond (decide (u03 < 1)) (some ((.bool false),[])) (cond (decide (u03 > 3)) (some ((.bool false),[])) (cond (decide (ic (AF u05) > 8)) (some ((.bool false),[])) (DY (N7 N) (DK RE [1,1,0,1,0,0]) ⟨[1,2,30,31],[1,53005],[]⟩ N (K8 false u00 u01 u02 0 u04 u03 u00 u01 u02 u05) (DQ 0 (DS (N7 N) (DK RE [1,1,1]) (DT (N7 N) none [.tmp 2] [[.bool]]))))))))):=by kernel_rfl
theorem Nc (N:Nat) (b2:Bool) (u01 u02 u03 x31 u04 u05 u06 u07 u08:Int) (u00:LI) (again:St→DN) (k:Out→St→DN):E2 (N7 N) (DK RE [1,1,0,1,0,0]) (K8 b2 u01 u02 u03 x31 u04 u05 u06 u07 u08 u00) (EQ again ⟨[1,2,30,31],[1,53005],[]⟩ k)=(cond (decide (x31 < 3)) (cond (decide (x31=ic 0)) (cond (!E5 u01) (k .ret (K8 false u01 u02 u03 x31 u04 u05 u06 u07 u08 u00)) (cond (decide (x31≥u05)) (cond (u01 != 0) (k .ret (K8 false u01 u02 u03 x31 u04 u05 u06 u07 u08 u00)) (again (K8 b2 u01 u02 u03 (AA AB (x31+1)) u04 u05 u06 u07 u08 u00))) (again (K8 b2 u01 u02 u03 (AA AB (x31+1)) u04 u05 u06 u07 u08 u00)))) (cond (decide (x31=ic 1)) (cond (!E5 u02) (k .ret (K8 false u01 u02 u03 x31 u04 u05 u06 u07 u08 u00)) (cond (decide (x31≥u05)) (cond (u02 != 0) (k .ret (K8 false u01 u02 u03 x31 u04 u05 u06 u07 u08 u00)) (again (K8 b2 u01 u02 u03 (AA AB (x31+1)) u04 u05 u06 u07 u08 u00))) (again (K8 b2 u01 u02 u03 (AA AB (x31+1)) u04 u05 u06 u07 u08 u00)))) (cond (decide (x31=ic 2)) (cond (!E5 u03) (k .ret (K8 false u01 u02 u03 x31 u04 u05 u06 u07 u08 u00)) (cond (decide (x31≥u05)) (cond (u03 != 0) (k .ret (K8 false u01 u02 u03 x31 u04 u05 u06 u07 u08 u00)) (again (K8 b2 u01 u02 u03 (AA AB (x31+1)) u04 u05 u06 u07 u08 u00))) (again (K8 b2 u01 u02 u03 (AA AB (x31+1)) u04 u05 u06 u07 u08 u00)))) none))) (k (.exit 0) (K8 b2 u01 u02 u03 x31 u04 u05 u06 u07 u08 u00))):=by kernel_rfl
theorem Zf (N:Nat) (b2:Bool) (u01 u02 u03 x31 u04 u05 u06 u07 u08:Int) (u00:LI):(DQ 0 (DS (N7 N) (DK RE [1,1,1]) (DT (N7 N) none [.tmp 2] [[.bool]]))) (.exit 0) (K8 b2 u01 u02 u03 x31 u04 u05 u06 u07 u08 u00)=(some ((.bool (!!List.all u00 (HN u04 u05))),[])):=by kernel_rfl
theorem Zg (N:Nat) (b2:Bool) (u01 u02 u03 x31 u04 u05 u06 u07 u08:Int) (u00:LI):(DQ 0 (DS (N7 N) (DK RE [1,1,1]) (DT (N7 N) none [.tmp 2] [[.bool]]))) .ret (K8 b2 u01 u02 u03 x31 u04 u05 u06 u07 u08 u00)=(some ((.bool b2),[])):=by kernel_rfl
open Go Go.Proofs
theorem Et {l:LI} {i:Nat} {w:IV} (h:l[i]?=some w) (j:Nat):IZ (l.take (i+1)) j=IZ (l.take i) j+LH (DL w.toInt) j:=by
 unfold IZ;rw [List.take_add_one,h];simp
theorem zdk (x:Nd) (j:Nat):LH x j≤2:=by
 unfold LH;cases x.lf
 ·simp only [BC];split <;> split <;> omega
 ·simp only [BJ];omega
theorem Er:∀ (l:LI) (j:Nat),IZ l j≤2*l.length
 | [],_=>AZ _
 | w :: l,j=>by
  have:=Er l j
  have:=zdk (DL w.toInt) j
  unfold IZ at *;simp only [A0,vbc,AM];omega
def NM (l:LI) (i:Nat):LI:=(vaC l.length).map fun j=>IV.int (IZ (l.take i) j:Nat)
theorem bJ (l:LI) (i:Nat):(NM l i).length=l.length:=by simp [NM]
theorem Y0 (l:LI) (i:Nat) {j:Nat} (h:j < l.length):(NM l i)[j]?=some (IV.int (IZ (l.take i) j:Nat)):=by
 unfold NM;rw [B9,List.getElem?_range h];rfl
theorem Tp (l:LI):NM l 0=BN l.length (IV.int 0):=by
 apply List.ext_getElem?;intro j;by_cases h:j < l.length
 ·rw [Y0 l 0 h,List.getElem?_replicate,BP h];simp [IZ]
 ·rw [BZ (by rw [bJ]; omega),BZ (by simp; omega)]
theorem To {l:LI} {i:Nat} {w:IV} (h:l[i]?=some w) (hl:(DL w.toInt).lf=true):NM l (i+1)=NM l i:=by
 unfold NM;congr 1
 funext j
 rw [Et h];unfold LH;rw [hl];rfl
theorem Tn {l:LI} {i:Nat} {w:IV} (h:l[i]?=some w) (hl:(DL w.toInt).lf=false) (hn:l.length≤31) {a b:Nat} (ha:(DL w.toInt).l=(a:Int)) (hb:(DL w.toInt).r=(b:Int)) (hab:a≠b) (al:a < l.length) (bl:b < l.length) :
  ((NM l i).set a (IV.int (AA AB (((NM l i).getD a default).toInt+1)))).set b (IV.int (AA AB ((((NM l i).set a (IV.int (AA AB (((NM l i).getD a default).toInt+1)))).getD b default).toInt+1)))=NM l (i+1):=by
 have hil:i < l.length:=(BR.1 h).1;have hsm:∀ j,IZ (l.take i) j≤62:=fun j=>by
  have:=Er (l.take i) j
  rw [BB] at this;omega
 have ga:((NM l i).getD a default).toInt=(IZ (l.take i) a:Nat):=by
  rw [BV,Y0 l i al];rfl
 have gb:(((NM l i).set a (IV.int (AA AB (((NM l i).getD a default).toInt+1)))).getD b default).toInt=(IZ (l.take i) b:Nat):=by
  rw [BV,va9 hab,Y0 l i bl];rfl
 rw [gb,ga,EL (by omega) (by have:=hsm a; omega),EL (by omega) (by have:=hsm b; omega)];apply List.ext_getElem?;intro j;by_cases hj:j < l.length
 ·rw [Y0 l (i+1) hj,Et h];have e:LH (DL w.toInt) j=(if a=j then 1 else 0)+(if b=j then 1 else 0):=by
   unfold LH;rw [hl,ha,hb,BC];have e1:((a:Int)=(j:Int))↔a=j:=by omega
   have e2:((b:Int)=(j:Int))↔b=j:=by omega
   simp only [e1,e2]
  rw [e];by_cases h1:b=j
  ·subst h1;rw [List.getElem?_set_self (by rw [vaF,bJ]; exact bl),BD hab,BP rfl];congr 2
  ·rw [va9 h1];by_cases h2:a=j
   ·subst h2;rw [List.getElem?_set_self (by rw [bJ]; exact al),BP rfl,BD h1];congr 2
   ·rw [va9 h2,Y0 l i hj,BD h1,BD h2];congr 2
 ·rw [BZ (by rw [vaF,vaF,bJ]; omega),BZ (by rw [bJ]; omega)]
abbrev mY (l:LI) (dim:Int) (b:Bool) (i:Int) (nm:LI):St:=
 ⟨[(0,(.list false [(.int .u64)] l)),(1,(.int .i64 dim)),(4,(.bool b)),(5,(.row 22 0 l.length)),(23,(.list false [(.int .u64)] l)),(24,(.int .i64 (ic l.length))),(25,(.int .i64 i))],[(22,(some (.row true 3 false [.z] nm)))]⟩
theorem uW (N:Nat) (l:LI) (dim:Int) (hl:l.length≤31) (K:Out→St→DN) (hK:∀ i nm,K .ret (mY l dim false i nm)=some (.bool false,[])):∀ (d i n:Nat),i+d=l.length→d < n →
  DY (H6 N) (DK L4 [1,1,1,0,1,0,0]) ⟨[0,1,4,5,23,24,25],[22],[]⟩ n (mY l dim false (i:Int) (NM l i)) K =
   cond (KM dim (ic l.length) i (l.drop i)) (K (.exit 0) (mY l dim false (ic l.length) (NM l l.length))) (some (.bool false,[]))
 | d,i,0,_,h=>absurd h (by omega)
 | 0,i,n+1,hd,_=>by
  have hi:i=l.length:=by omega
  subst hi;rw [D5,Nq];rw [AL (show ¬ ((l.length:Nat):Int) < ic l.length by simp only [ic]; omega),DJ,vaA];rfl
 | d+1,i,n+1,hd,hn=>by
  have hil:i < l.length:=by omega
  have hw:l[i]?=some l[i]:=A9 hil;rw [D5,Nq,BG hil];have hg:l.getD (AE (i:Int)) default=l[i]:=by
   rw [BF,BV,hw];rfl
  rw [hg];generalize l[i]=w at hw ⊢;have ei:AA AB ((i:Int)+1)=((i+1:Nat):Int):=by
   rw [EL (by omega) (by omega)];omega
  rw [ei,AD (show (i:Int) < ic l.length by simp only [ic]; omega),DI,AD (show (0:Int)≤(i:Int) by omega),B3,DI];unfold KM;cases hb:GJ w.toInt with
  | false=>
   simp only [A8,DI,BM,DJ];exact hK (i:Int) (NM l i)
  | true=>
   simp only [A2,DJ,A6];unfold OG;cases hlf:(DL w.toInt).lf with
   | true=>
    simp only [DI,A6];rw [← To hw hlf];exact uW N l dim hl K hK d (i+1) n (by omega) (by omega)
   | false=>
    simp only [DJ];cases h1:decide ((DL w.toInt).f≥dim) with
    | true=>
     simp only [DI,A2,BM,DJ];exact hK (i:Int) (NM l i)
    | false=>
    cases h2:((DL w.toInt).l==(DL w.toInt).r) with
    | true=>
     simp only [DI,DJ,A2,A8,BM,vae];exact hK (i:Int) (NM l i)
    | false=>
    cases h3:decide (min (DL w.toInt).l (DL w.toInt).r≤(i:Int)) with
    | true=>
     simp only [DI,DJ,A2,A8,BM,vae];exact hK (i:Int) (NM l i)
    | false=>
    cases h4:decide (max (DL w.toInt).l (DL w.toInt).r≥ic l.length) with
    | true=>
     simp only [DI,DJ,A2,A8,BM,vae];exact hK (i:Int) (NM l i)
    | false=>
     have g2:(DL w.toInt).l≠(DL w.toInt).r:=A5.1 h2;have g3:=BH h3;have g4:=BH h4;simp only [ic] at g4;obtain ⟨a,ha⟩:∃ a:Nat,(DL w.toInt).l=(a:Int):=⟨(DL w.toInt).l.toNat,by omega⟩;obtain ⟨b,hb'⟩:∃ b:Nat,(DL w.toInt).r=(b:Int):=⟨(DL w.toInt).r.toNat,by omega⟩;have hab:a≠b:=fun e=>g2 (by rw [ha,hb',e])
     have al:a < l.length:=by omega
     have bl:b < l.length:=by omega
     have hN:=Tn hw hlf hl ha hb' hab al bl;rw [ha,hb'];rw [AD (show (0:Int)≤(a:Int) by omega),AD (show (0:Int)≤(b:Int) by omega),AD (show (a:Int) < ic (l.length - 0) by simp only [ic]; omega),AD (show (b:Int) < ic (l.length - 0) by simp only [ic]; omega)];simp only [DI,DJ,A8,B3,A6,BF,BI];refine Eq.trans ?_ (uW N l dim hl K hK d (i+1) n (by omega) (by omega));rw [← hN];rfl
abbrev zj2 (l:LI) (b:Bool) (j:Int):St:=
 ⟨[(4,(.bool b)),(85,(.row 22 1 (0+(l.length - 0)))),(86,(.int .i64 (ic (0+(l.length - 0) - 1)))),(87,(.int .i64 j))],[(22,(some (.row true 3 false [.z] (NM l l.length))))]⟩
theorem Fz (N:Nat) (l:LI) (hl:l.length≤31):∀ (d j n:Nat),j+d=l.length - 1→d < n →
  DY (H6 N) (DK L4 [1,1,1,1,0,1,0,0]) ⟨[4,85,86,87],[22],[]⟩ n (zj2 l false (j:Int)) (DQ 2 (DS (H6 N) (DK L4 [1,1,1,1,1]) (DT (H6 N) none [(CE 4)] [[.bool]]))) =
   some (.bool ((List.range' j d).all fun j=>IZ l (j+1)==1),[])
 | d,j,0,_,h=>absurd h (by omega)
 | 0,j,n+1,hd,_=>by
  rw [D5,Nr,AL (show ¬ (j:Int) < ic (0+(l.length - 0) - 1) by simp only [ic]; omega),DJ];exact zac N false _ _ _ _
 | d+1,j,n+1,hd,hn=>by
  have ej:AA AB ((j:Int)+1)=((j+1:Nat):Int):=by
   rw [EL (by omega) (by omega)];omega
  rw [D5,Nr,ej,AD (show (j:Int) < ic (0+(l.length - 0) - 1) by simp only [ic]; omega),DI,AD (show (0:Int)≤(j:Int) by omega),B3,DI];have hg:((NM l l.length).getD (1+AE (j:Int)) default).toInt=(IZ l (j+1):Nat):=by
   rw [BF,Nat.add_comm 1 j,BV,Y0 l l.length (by omega),BO];rfl
  rw [hg,List.range'_succ,vax];have e:(((IZ l (j+1):Nat):Int) != 1)=!(IZ l (j+1)==1):=by
   show (!(((IZ l (j+1):Nat):Int)==1))=_;congr 1;rw [va1,B8,B8];omega
  rw [e];cases (IZ l (j+1)==1) with
  | false=>
   rw [A8,DI];exact zad N false _ _ _ _
  | true=>
   rw [A2,DJ,A6];exact Fz N l hl d (j+1) n (by omega) (by omega)
theorem zjt (N:Nat) (l:LI) (dim:Int) (hl:l.length≤31) (h1:1≤l.length) (hN:40≤N) (i:Int) :
  (DQ 0 (DS (H6 N) (DK L4 [1,1,1,1]) (DT (H6 N) none [(CE 4)] [[.bool]]))) (.exit 0) (mY l dim false i (NM l l.length))=some (.bool (Z7 l),[]):=by
 refine (zaa N l dim false l.length l (ic l.length) i (NM l l.length)).trans ?_;rw [AD (show (0:Nat)≤1 by omega),AD (show (1:Int)≤ic (l.length - 0) by simp only [ic]; omega),B3,DI]
 have:=Fz N l hl (l.length - 1) 0 N (by omega) (by omega)
 refine this.trans ?_;unfold Z7;rw [List.range_eq_range']
theorem Lk:DX PR B0 96 W3:=by
 refine D6 [(55,MP)] [(5,⟨[0,1,4,5,23,24,25],[22],[]⟩),(17,⟨[4,85,86,87],[22],[]⟩)] W3 [[.bool]] Tryz.func96 zcm ⟨aN,trivial⟩ ?_;intro vs r hwf h;unfold W3 at h;split at h
 ·rename_i l dim;refine ⟨40,?_⟩;rw [R.get_ok] at h;rw [← h];refine (zfc 40 l dim).trans ?_;unfold G1;by_cases h1:1≤l.length
  ·by_cases h2:l.length≤31
   ·have eb:ic (TI.bytes (Env.tyd (H6 40) 3))=8:=rfl;rw [AL (show ¬ ic l.length < 1 by simp only [ic]; omega),AL (show ¬ ic l.length > 31 by simp only [ic]; omega),DJ,DJ,eb,
     AD (show (0:Int)≤ic l.length by simp only [ic]; omega),AD (show ic l.length=ic l.length from rfl),AD (show ic l.length*8≤ic EE by unfold EE; simp only [ic]; omega)]
    have e0:(BS 0 (TI.size (Env.tyd (H6 40) 3))&&(BS 3 1000000&&true)&&(true&&true))=true:=rfl;have e1:AE (ic l.length)=l.length:=by simp only [ic]; omega
    rw [e0,DI,e1,← Tp,C7 h1,C7 h2];refine (uW 40 l dim h2 _ (fun i nm=>?_) l.length 0 40 (by omega) (by omega)).trans ?_
    ·exact zab 40 l dim false l.length l (ic l.length) i nm
    ·rw [B2,zjt 40 l dim h2 h1 (by omega)];cases KM dim (ic l.length) 0 l <;> rfl
   ·have e:B6 l.length 31=false:=by
     cases hb:B6 l.length 31 with
     | false=>rfl
     | true=>exact absurd (AP hb) h2
    rw [AL (show ¬ ic l.length < 1 by simp only [ic]; omega),AD (show ic l.length > 31 by simp only [ic]; omega),DJ,DI,e,vae,BM]
  ·have e:B6 1 l.length=false:=by
    cases hb:B6 1 l.length with
    | false=>rfl
    | true=>exact absurd (AP hb) h1
   rw [AD (show ic l.length < 1 by simp only [ic]; omega),DI,e,BM,BM]
 ·simp [R.get] at h
theorem Ku:DX PR B0 95 WR:=by
 refine D6 [(96,W3)] [] WR [[.bool]] Tryz.func95 zbI ⟨Lk,trivial⟩ ?_;intro vs r hwf h;unfold WR at h;split at h
 ·rename_i k l d c b0 b1 b2 ts;refine ⟨0,?_⟩;rw [R.get_ok] at h;rw [← h];refine (zev 0 k l d c b0 b1 b2 ts).trans ?_;have e:HN d c (.agg [.int k,.list l])=(!(decide (k < 0))&&(!(decide (k≥c))&&G1 l d)):=rfl;rw [e];cases decide (k < 0) with
  | true=>rfl
  | false=>
   cases decide (k≥c) with
   | true=>rfl
   | false=>rfl
 ·simp [R.get] at h
abbrev zjX (l:LI) (d c b0 b1 b2:Int) (ts:LI) (r i:Int):St:=
 ⟨[(0,(.list true [.z,(.list false [(.int .u64)])] l)),(1,(.clo 95 [(.ptr 900000 0 0)])),(4,(.int .i64 r)),(7,(.int .i64 (ic l.length))),(8,(.int .i64 i))],[(900000,(some (.box [(.int .i64 d),(.int .i64 c),(.int .i64 b0),(.int .i64 b1),(.int .i64 b2),(.list true [.z,(.list false [(.int .u64)])] ts)])))]⟩
theorem zjq (d c:Int) (t:IV):HN d c (.agg [.int (IV.toInt (IV.cell t 0)),.list (IV.toList (IV.cell t 1))])=HN d c t:=rfl
theorem Cp (N:Nat) (l:LI) (hl:l.length≤strMax) (d c b0 b1 b2:Int) (ts:LI):∀ (m i n:Nat),i+m=l.length→m < n →
  DY (OZ N) (DK S0 [1,0,1,0,0]) ⟨[0,1,4,7,8],[900000],[]⟩ n (zjX l d c b0 b1 b2 ts 0 (i:Int)) (DQ 0 (DS (OZ N) (DK S0 [1,1]) (DT (OZ N) (some [(.int .i64 d),(.int .i64 c),(.int .i64 b0),(.int .i64 b1),(.int .i64 b2),(.list true [.z,(.list false [(.int .u64)])] ts)]) [(CE 4)] [[.z]]))) =
   some (.int .i64 (XL d c (l.drop i) (i:Int)),[[(.int .i64 d),(.int .i64 c),(.int .i64 b0),(.int .i64 b1),(.int .i64 b2),(.list true MY ts)]])
 | m,i,0,_,h=>absurd h (by omega)
 | 0,i,n+1,hd,_=>by
  have hi:i=l.length:=by omega
  subst hi;rw [D5,Nl,AL (show ¬ ((l.length:Nat):Int) < ic l.length by simp only [ic]; omega),DJ,vaA];exact Zq N d c b0 b1 b2 ts l 0 (ic l.length) (l.length:Int) d c b0 b1 b2 ts
 | m+1,i,n+1,hd,hn=>by
  have hil:i < l.length:=by omega
  have m':strMax=140737488355327:=rfl;have ei:AA AB ((i:Int)+1)=((i+1:Nat):Int):=by
   rw [EL (by omega) (by omega)];omega
  have hg:l.getD (AE (i:Int)) default=l[i]:=by
   rw [BF,BV,A9 hil];rfl
  rw [D5,Nl,ei,hg,zjq,AD (show (i:Int) < ic l.length by simp only [ic]; omega),DI,AD (show (0:Int)≤(i:Int) by omega),B3,DI,BG hil,XL];cases HN d c l[i] with
  | true=>
   rw [A2,DJ,DI];exact Cp N l hl d c b0 b1 b2 ts m (i+1) n (by omega) (by omega)
  | false=>
   rw [A8,DI,DJ];exact Zr N d c b0 b1 b2 ts l (i:Int) (ic l.length) (i:Int) d c b0 b1 b2 ts
theorem zit:DX PR B0 147 dR:=by
 refine D6 [(95,WR)] [(2,⟨[0,1,4,7,8],[900000],[]⟩)] dR [[.z]] Tryz.func147 zb6 ⟨Ku,trivial⟩ ?_;intro vs r hwf h;unfold dR at h;split at h
 ·rename_i l d c b0 b1 b2 ts;refine ⟨l.length+1,?_⟩;rw [R.get_ok] at h;rw [← h];refine (zeW (l.length+1) l d c b0 b1 b2 ts).trans ?_;have hl:l.length≤strMax:=by
   have hb:=hwf (by simp [MD])
   have:=hb.1
   simp only [SA,wfL] at this;exact this.1
  exact Cp (l.length+1) l hl d c b0 b1 b2 ts l.length 0 (l.length+1) (by omega) (by omega)
 ·simp [R.get] at h
theorem Cm (d c:Int):∀ (l:LI) (i:Nat),decide (XL d c l (i:Int)≥0)=!(l.all (HN d c))
 | [],i=>rfl
 | t :: l,i=>by
  unfold XL;rw [vax];cases HN d c t with
  | true=>
   rw [DI,A6];exact Cm d c l (i+1)
  | false=>
   rw [DJ,BM,AD (show (i:Int)≥0 by omega)];rfl
theorem zis:DX PR B0 94 dQ:=by
 refine D6 [(147,dR)] [] dQ [[.bool]] Tryz.func94 zb5 ⟨zit,trivial⟩ ?_;intro vs r hwf h;unfold dQ at h;split at h
 ·rename_i l d c b0 b1 b2 ts;refine ⟨0,?_⟩;rw [R.get_ok] at h;rw [← h];refine (zeV 0 l d c b0 b1 b2 ts).trans ?_
  have:=Cm d c l 0
  rw [show ((0:Nat):Int)=0 from rfl] at this;rw [this]
 ·simp [R.get] at h
abbrev aZ (d c b0 b1 b2:Int) (ts:LI) (b:Bool) (i:Int):St:=
 ⟨[(1,(.ptr 1 0 0)),(2,(.bool b)),(30,(.agg [(.int .i64 b0),(.int .i64 b1),(.int .i64 b2)])),(31,(.int .i64 i))],[(1,(some (.box [(.int .i64 d),(.int .i64 c),(.int .i64 b0),(.int .i64 b1),(.int .i64 b2),(.list true [.z,(.list false [(.int .u64)])] ts)]))),(53005,none)]⟩
theorem Ur (c j b:Int) {α:Type _} (x y:α):cond (!E5 b) y (cond (decide (j≥c)) (cond (b != 0) y x) x)=cond (HX c j b) x y:=by
 unfold HX;have e:(b != 0)=!(b==0):=rfl;rw [e];cases E5 b <;> cases decide (j≥c) <;> cases (b==0) <;> rfl
theorem nM (N:Nat) (d c b0 b1 b2:Int) (ts:LI) (j:Nat) (b:Int) (h:(j=0∧b=b0)∨(j=1∧b=b1)∨(j=2∧b=b2)) (again:St→DN) (k:Out→St→DN) :
  E2 (N7 N) (DK RE [1,1,0,1,0,0]) (aZ d c b0 b1 b2 ts false (j:Int)) (EQ again ⟨[1,2,30,31],[1,53005],[]⟩ k) =
   cond (HX c (j:Int) b) (again (aZ d c b0 b1 b2 ts false ((j+1:Nat):Int))) (k .ret (aZ d c b0 b1 b2 ts false (j:Int))):=by
 rw [Nc];have ej:AA AB ((j:Int)+1)=((j+1:Nat):Int):=by
  rw [EL (by omega) (by omega)];omega
 rw [ej,← Ur,AD (show (j:Int) < 3 by omega),DI];rcases h with ⟨rfl,rfl⟩ | ⟨rfl,rfl⟩ | ⟨rfl,rfl⟩ <;> rfl
theorem aM:DX PR B0 53 MO:=by
 refine D6 [(93,SL),(95,WR),(94,dQ)] [(4,⟨[1,2,30,31],[1,53005],[]⟩)] MO [[.bool]] Tryz.func53 zbH ⟨tM,Ku,zis,trivial⟩ ?_;intro vs r hwf h;unfold MO at h;split at h
 ·rename_i d c b0 b1 b2 ts;refine ⟨6,?_⟩;rw [R.get_ok] at h;rw [← h];refine (zeu 6 d c b0 b1 b2 ts).trans ?_;have run:DY (N7 6) (DK RE [1,1,0,1,0,0]) ⟨[1,2,30,31],[1,53005],[]⟩ 6 (aZ d c b0 b1 b2 ts false 0) (DQ 0 (DS (N7 6) (DK RE [1,1,1]) (DT (N7 6) none [(CE 2)] [[.bool]]))) =
    some (.bool ((HX c 0 b0&&(HX c 1 b1&&HX c 2 b2))&&ts.all (HN d c)),[]):=by
   have e0:aZ d c b0 b1 b2 ts false 0=aZ d c b0 b1 b2 ts false ((0:Nat):Int):=rfl;have R2:=fun j=>Zg 6 false b0 b1 b2 j d c b0 b1 b2 ts
   have R1:=fun j=>Zf 6 false b0 b1 b2 j d c b0 b1 b2 ts
   rw [e0,D5,nM 6 d c b0 b1 b2 ts 0 b0 (by simp),R2];cases h0:HX c ((0:Nat):Int) b0 with
   | false=>rfl
   | true=>
    rw [DI,D5,nM 6 d c b0 b1 b2 ts 1 b1 (by simp),R2];cases h1:HX c ((1:Nat):Int) b1 with
    | false=>rfl
    | true=>
     rw [DI,D5,nM 6 d c b0 b1 b2 ts 2 b2 (by simp),R2];cases h2:HX c ((2:Nat):Int) b2 with
     | false=>rfl
     | true=>
      rw [DI,D5,Nc,AL (show ¬ ((2+1:Nat):Int) < 3 by omega),DJ,R1,Bool.not_not];rfl
  unfold EX;cases decide (d < 1) with
  | true=>rfl
  | false=>
  cases decide (d > 4) with
  | true=>rfl
  | false=>
  cases decide (c < 1) with
  | true=>rfl
  | false=>
  cases decide (c > 3) with
  | true=>rfl
  | false=>
   simp only [DJ,A8,A6];by_cases h8:ts.length≤8
   ·rw [AL (show ¬ ic ts.length > 8 by simp only [ic]; omega),DJ,C7 h8,A6];exact run
   ·have e:B6 ts.length 8=false:=by
     cases hb:B6 ts.length 8 with
     | false=>rfl
     | true=>exact absurd (AP hb) h8
    rw [AD (show ic ts.length > 8 by simp only [ic]; omega),DI,e,BM]
 ·simp [R.get] at h
open Go Go.Proofs
def Rv (N:Nat):Env:=D4 [(44,SQ),(144,cR),(84,WP),(104,UI),(57,Y2),(86,Y4)] [] 76 N
theorem zef (N:Nat) (s:BA):DZ (Rv N) yD [.tmp 2,.tmp 3] [[.z],[.bool]] [.str s] =
 (cond (decide (AG (GG s { data:=#[45] }) < 4294967281))
 (cond (decide (ic (AG (FU (GG s { data:=#[45] }) { data:=#[46] })) > 8))
 (some ((.tup [.i 0,.bool false]),[]))
 (cond (decide (0≤AA AB (8 - ic (AG (FU (GG s { data:=#[45] }) { data:=#[46] }))))&&decide (AG { data:=#[48] }*AE (AA AB (8 - ic (AG (FU (GG s { data:=#[45] }) { data:=#[46] }))))≤strMax))
 (cond (decide (AG (FU (GG s { data:=#[45] }) { data:=#[46] })+AG (H3 { data:=#[48] } (AE (AA AB (8 - ic (AG (FU (GG s { data:=#[45] }) { data:=#[46] }))))))≤strMax))
 (cond (!JH (cutL (GG s { data:=#[45] }) { data:=#[46] }))
 (some ((.tup [.i 0,.bool false]),[]))
 (cond (!JH (FU (GG s { data:=#[45] }) { data:=#[46] }++H3 { data:=#[48] } (AE (AA AB (8 - ic (AG (FU (GG s { data:=#[45] }) { data:=#[46] })))))))
 (some ((.tup [.i 0,.bool false]),[]))
 (cond (decide (GU (cutL (GG s { data:=#[45] }) { data:=#[46] }) > 36028797018963968))
 (some ((.tup [.i 0,.bool false]),[]))
 (cond (Int.tmod (GU (FU (GG s { data:=#[45] }) { data:=#[46] }++H3 { data:=#[48] } (AE (AA AB (8 - ic (AG (FU (GG s { data:=#[45] }) { data:=#[46] }))))))) 390625 != 0)
 (some ((.tup [.i 0,.bool false]),[]))
 (cond (OH s { data:=#[45] })
 (cond (AW (DU (AA AB (AA AJ (0 - AA AJ (AA AJ (GU (cutL (GG s { data:=#[45] }) { data:=#[46] })*2 ^ min (AE 8) (AR AJ))+AA AJ (Int.tdiv (GU (FU (GG s { data:=#[45] }) { data:=#[46] }++H3 { data:=#[48] } (AE (AA AB (8 - ic (AG (FU (GG s { data:=#[45] }) { data:=#[46] }))))))) 390625))))))==AW s)
 (some ((.tup [(.i (AA AB (AA AJ (0 - AA AJ (AA AJ (GU (cutL (GG s { data:=#[45] }) { data:=#[46] })*2 ^ min (AE 8) (AR AJ))+AA AJ (Int.tdiv (GU (FU (GG s { data:=#[45] }) { data:=#[46] }++H3 { data:=#[48] } (AE (AA AB (8 - ic (AG (FU (GG s { data:=#[45] }) { data:=#[46] }))))))) 390625)))))),.bool true]),[]))
 (some ((.tup [.i 0,.bool false]),[])))
 (cond (AW (DU (AA AB (AA AJ (AA AJ (GU (cutL (GG s { data:=#[45] }) { data:=#[46] })*2 ^ min (AE 8) (AR AJ))+AA AJ (Int.tdiv (GU (FU (GG s { data:=#[45] }) { data:=#[46] }++H3 { data:=#[48] } (AE (AA AB (8 - ic (AG (FU (GG s { data:=#[45] }) { data:=#[46] }))))))) 390625)))))==AW s)
 (some ((.tup [(.i (AA AB (AA AJ (AA AJ (GU (cutL (GG s { data:=#[45] }) { data:=#[46] })*2 ^ min (AE 8) (AR AJ))+AA AJ (Int.tdiv (GU (FU (GG s { data:=#[45] }) { data:=#[46] }++H3 { data:=#[48] } (AE (AA AB (8 - ic (AG (FU (GG s { data:=#[45] }) { data:=#[46] }))))))) 390625))))),.bool true]),[]))
 (some ((.tup [.i 0,.bool false]),[]))))))))
 none)
 none))
 none):=by kernel_rfl
open Go Go.Proofs
theorem Kp:DX PR B0 84 WP:=by
 refine D6 [] [(3,⟨[0,1,2],[],[]⟩)] WP [[.int .u64]] Tryz.func84 zbu trivial ?_;intro vs r hwf h;unfold WP at h;split at h
 ·refine ⟨9,?_⟩;rw [← h];show DZ (Rx 9) yF [.tmp 0] [[.int .u64]] []=_
  kernel_rfl
 ·simp [R.get] at h
theorem zgo {s:BA} (h:JH s=true):0 < s.size:=by
 unfold JH at h;split at h
 ·rename_i v hv
  have:s.data.toList≠[]:=fun e=>by rw [e] at hv; cases hv
  rw [TP];exact List.length_pos_iff.2 this
 ·cases h
theorem zgn {s:BA} (h:JH s=true):(AI s.data.toList 0 0).toNat≠43:=by
 unfold JH at h;split at h
 ·rename_i v hv;revert hv;cases s.data.toList with
  | nil=>intro _; decide
  | cons c r=>
   intro hv he;have he:c.toNat=43:=he;unfold Lib.parseMag at hv;rw [BD (by simp),vaP,BD (by omega)] at hv;cases hv
 ·cases h
theorem zhX:DX PR B0 144 cR:=by
 refine D6 [(189,iL)] [] cR [[.int .u64],[.bool]] Tryz.func144 zbt ⟨ziy,trivial⟩ ?_;intro vs r hwf h;unfold cR at h;split at h
 ·rename_i s;refine ⟨0,?_⟩;rw [← h];refine (zeg 0 s).trans ?_;simp only [R.get_ok];cases hp:JH s with
  | false=>simp only [DJ]
  | true=>
   have h1:(decide (0≤0)&&decide (0 < ic (AG s)))=true:=by
    have:=zgo hp
    simp [ic]; omega
   have h2:(ic (UInt8.toNat (AI (Array.toList (ByteArray.data s)) (AE 0) 0)) != 43)=true:=by
    have:=zgn hp
    rw [wR];simp only [ic,Int.toNat_zero];simp only [B4,BW];omega
   rw [h1,h2];simp only [DI]
 ·simp [R.get] at h
theorem vI {n:Int} (h0:0≤n) (h1:n < 18446744073709551616):AA .u64 n=n:=by rw [vbi]; omega
theorem zjU {n:Int} (h0:n < 0) (h1 : -9223372036854775808≤n):AA .u64 (0 - AA .u64 n)=(n.natAbs:Int):=by rw [vbi,vbi]; omega
theorem zjV {n:Int} (h0:¬ n < 0) (h1:n≤9223372036854775807):AA .u64 n=(n.natAbs:Int):=by rw [vbi]; omega
theorem vT (u:Nat) (h:u < 18446744073709551616):AA .u64 (ic (CG (A4 (AR AJ) (u:Int) &&& A4 (AR AJ) 255)))=((u % 256:Nat):Int):=by
 have e:CG (A4 (AR AJ) (u:Int) &&& A4 (AR AJ) 255)=u % 256:=by
  have h1:(A4 (AR AJ) (u:Int)).toNat=u:=by
   show (A4 64 (u:Int)).toNat=u;rw [BitVec.toNat_ofInt];omega
  have h2:(A4 (AR AJ) 255).toNat=2 ^ 8 - 1:=by rfl
  rw [BitVec.toNat_and,h1,h2,Nat.and_two_pow_sub_one_eq_mod]
 rw [e];exact vI (by simp [ic]; omega) (by simp [ic]; omega)
theorem Kc (u:Nat):vaZ (u:Int) (2 ^ min (AE 8) (AR AJ))=((u / 256:Nat):Int):=by
 have e:(2:Int) ^ min (AE 8) (AR AJ)=((256:Nat):Int):=rfl;rw [e,Int.fdiv_eq_ediv_of_nonneg _ (by omega)];rfl
theorem Ep {r:Nat} (h:r < 256):AA .u64 ((r:Int)*390625)=((r*390625:Nat):Int):=by
 rw [vI (by omega) (by omega)];omega
theorem qX (u:Nat):FA (u:Int)=⟨(BU u).toArray⟩:=rfl
theorem Wy:(vaC 256).all (fun r=>B6 (BU (r*390625)).length 8)=true:=by kernel_rfl
theorem Wx {r:Nat} (h:r < 256):(BU (r*390625)).length≤8:=by
 have:=CQ.1 Wy r (va6.2 h)
 exact AP this
theorem Al (l:List UInt8):(⟨l.toArray⟩:BA).data.toList=l:=rfl
theorem eR (s t:BA):(s++t).data.toList=s.data.toList++t.data.toList:=by simp
theorem zhl (l:List UInt8):(⟨l.toArray⟩:BA).size=l.length:=by rw [TP]
theorem Hi {u:Nat} (hu:u < 18446744073709551616) (sg:BA) (hsg:sg.size≤1) (K:BA) (hK:K=sg++⟨(IP u).toArray⟩) :
  (cond (decide (AG sg+AG (FA ((u / 256:Nat):Int))≤strMax))
   (cond (((u % 256:Nat):Int)==0)
    (some ((.str (sg++FA ((u / 256:Nat):Int))),[]))
    (cond (decide (AG (sg++FA ((u / 256:Nat):Int))+AG { data:=#[46] }≤strMax))
     (cond (decide (0≤AA AB (8 - ic (AG (FA ((u % 256*390625:Nat):Int)))))&&decide (AG { data:=#[48] }*AE (AA AB (8 - ic (AG (FA ((u % 256*390625:Nat):Int)))))≤strMax))
      (cond (decide (AG (H3 { data:=#[48] } (AE (AA AB (8 - ic (AG (FA ((u % 256*390625:Nat):Int)))))))+AG (FA ((u % 256*390625:Nat):Int))≤strMax))
       (cond (decide (AG (sg++FA ((u / 256:Nat):Int)++{ data:=#[46] })+AG (PV (H3 { data:=#[48] } (AE (AA AB (8 - ic (AG (FA ((u % 256*390625:Nat):Int))))))++FA ((u % 256*390625:Nat):Int)) { data:=#[48] })≤strMax))
        (some ((.str (sg++FA ((u / 256:Nat):Int)++{ data:=#[46] }++PV (H3 { data:=#[48] } (AE (AA AB (8 - ic (AG (FA ((u % 256*390625:Nat):Int))))))++FA ((u % 256*390625:Nat):Int)) { data:=#[48] })),[]))
        none)
       none)
      none)
     none))
   none)=(some (V.str K,[]):DN):=by
 have hr:u % 256 < 256:=by omega
 have l1:(FA ((u / 256:Nat):Int)).size≤20:=qY (by omega) (by omega);have l2:(FA ((u % 256*390625:Nat):Int)).size=(BU (u % 256*390625)).length:=by rw [qX,zhl]
 have l3:=Wx hr;generalize hD:BU (u % 256*390625)=D at l2 l3;have e8:AA AB (8 - ic (AG (FA ((u % 256*390625:Nat):Int))))=((8 - D.length:Nat):Int):=by
  rw [l2,EL (by simp [ic]; omega) (by simp [ic]; omega)];simp only [ic];omega
 rw [e8];simp only [BF];have s46:AG { data:=#[46] }=1:=rfl;have s48:AG { data:=#[48] }=1:=rfl;have l4:(H3 { data:=#[48] } (8 - D.length)).size=8 - D.length:=by rw [sM,s48]; omega
 have l5:=Ph (H3 { data:=#[48] } (8 - D.length)++FA ((u % 256*390625:Nat):Int)) { data:=#[48] };rw [AV,l4,l2] at l5;rw [AD (show AG sg+AG (FA ((u / 256:Nat):Int))≤strMax by unfold strMax; omega),
  AD (show AG (sg++FA ((u / 256:Nat):Int))+AG { data:=#[46] }≤strMax by rw [AV,s46]; unfold strMax; omega),
  AD (show (0:Int)≤((8 - D.length:Nat):Int) by omega),
  AD (show AG { data:=#[48] }*(8 - D.length)≤strMax by rw [s48]; unfold strMax; omega),
  AD (show AG (H3 { data:=#[48] } (8 - D.length))+AG (FA ((u % 256*390625:Nat):Int))≤strMax by rw [l4,l2]; unfold strMax; omega),
  AD (show AG (sg++FA ((u / 256:Nat):Int)++{ data:=#[46] })+AG (PV (H3 { data:=#[48] } (8 - D.length)++FA ((u % 256*390625:Nat):Int)) { data:=#[48] })≤strMax by rw [AV,AV,s46]; unfold strMax; omega)]
 simp only [DI,B1];subst hK;by_cases h0:u % 256=0
 ·have e0:(((u % 256:Nat):Int)==0)=true:=by rw [UN]; exact AD (by omega)
  rw [e0,DI]
  have:sg++FA ((u / 256:Nat):Int)=sg++⟨(IP u).toArray⟩:=by
   apply UP;rw [eR,eR,qX,Al,Al,IP,BP h0,DB]
  rw [this]
 ·have e0:(((u % 256:Nat):Int)==0)=false:=by rw [UN]; exact AL (by omega)
  rw [e0,DJ]
  have:sg++FA ((u / 256:Nat):Int)++{ data:=#[46] }++PV (H3 { data:=#[48] } (8 - D.length)++FA ((u % 256*390625:Nat):Int)) { data:=#[48] }=sg++⟨(IP u).toArray⟩:=by
   apply UP;simp only [eR,qX,IP,BD h0,PV,H3,KI,hD,vaH];rfl
  rw [this]
theorem tS:DX PR B0 44 SQ:=by
 refine D6 [(84,WP),(83,iK),(86,Y4),(85,iN)] [] SQ [[.str]] Tryz.func44 zbr ⟨Kp,zix,Lf,ziA,trivial⟩ ?_;intro vs r hwf h;unfold SQ at h;split at h
 ·rename_i n;refine ⟨0,?_⟩;rw [← h];refine (zee 0 n).trans ?_;simp only [R.get_ok];have hb:=(hwf (by simp [MD])).1;simp only [SA,wfL] at hb;obtain ⟨h0,h1⟩:=hb;have e0:AB.min = -9223372036854775808:=rfl;have e1:AB.max=9223372036854775807:=rfl;rw [e0] at h0;rw [e1] at h1;have hu:n.natAbs < 18446744073709551616:=by omega
  by_cases hn:n < 0
  ·rw [AD hn,DI,zjU hn h0,Kc,vT _ hu,Ep (by omega)];exact Hi hu ⟨#[45]⟩ (by decide) _ (by apply UP; rw [eR]; unfold DU K0; rw [BP hn]; rfl)
  ·rw [AL hn,DJ,zjV hn h1,Kc,vT _ hu,Ep (by omega)];exact Hi hu ⟨#[]⟩ (by decide) _ (by apply UP; rw [eR]; unfold DU K0; rw [BD hn]; rfl)
 ·simp [R.get] at h
open Go Go.Proofs
theorem Ko:DX PR B0 91 WO:=by
 refine D6 [(44,SQ),(144,cR),(84,WP),(104,UI),(57,Y2),(86,Y4)] [] WO [[.z],[.bool]] Tryz.func91 zbs
  ⟨tS,zhX,Kp,tW,Ld,Lf,trivial⟩ ?_
 intro vs r hwf h;unfold WO at h;split at h
 ·rename_i s;refine ⟨0,?_⟩;cases hs:decide (s.size < 4294967281) with
  | false=>rw [hs] at h; simp [R.get] at h
  | true=>
   rw [hs,R.get_br,DI,R.get_ok] at h;have hs:=A1 hs;rw [← h];refine (zef 0 s).trans ?_;have hz:=Pg s { data:=#[45] };rw [AD (show AG (GG s { data:=#[45] }) < 4294967281 by omega),DI];have eW:cutL (GG s { data:=#[45] }) { data:=#[46] }=P8 s:=rfl;have eP:FU (GG s { data:=#[45] }) { data:=#[46] }=JP s:=rfl;have eM:OH s { data:=#[45] }=OH s YN:=rfl;rw [eW,eP,eM];unfold GC;by_cases h8:(JP s).size≤8
   ·have c1:decide (ic (AG (JP s)) > 8)=false:=AL (by simp only [ic]; omega);have e8:AA AB (8 - ic (AG (JP s)))=((8 - (JP s).size:Nat):Int):=by
     rw [EL (by simp only [ic]; omega) (by simp only [ic]; omega)];simp only [ic];omega
    rw [c1,DJ,e8];simp only [BF];have s48:AG { data:=#[48] }=1:=rfl;have eF:JP s++H3 { data:=#[48] } (8 - (JP s).size)=NO s:=rfl;have l4:(H3 { data:=#[48] } (8 - (JP s).size)).size=8 - (JP s).size:=by rw [sM,s48]; omega
    rw [AD (show (0:Int)≤((8 - (JP s).size:Nat):Int) by omega),AD (show AG { data:=#[48] }*(8 - (JP s).size)≤strMax by rw [s48]; unfold strMax; omega),B1,DI,
     AD (show AG (JP s)+AG (H3 { data:=#[48] } (8 - (JP s).size))≤strMax by rw [l4]; unfold strMax; omega),DI,eF]
    have hw:=sB (P8 s);have hf:=sB (NO s);have b0:AJ.min=0:=rfl;have b1:AJ.max=18446744073709551615:=rfl;rw [b0,b1] at hw hf;have em:Int.tmod (GU (NO s)) 390625=GU (NO s) % 390625:=Int.tmod_eq_emod_of_nonneg hf.1;have ed:AA AJ (Int.tdiv (GU (NO s)) 390625)=GU (NO s) / 390625:=by
     rw [Int.tdiv_eq_ediv_of_nonneg hf.1,vI (by omega) (by omega)]
    have e2:(2:Int) ^ min (AE 8) (AR AJ)=256:=rfl;rw [em,ed,e2];have eS:AA AJ (AA AJ (GU (P8 s)*256)+GU (NO s) / 390625)=P7 s:=rfl;rw [eS];unfold XG;rw [AD h8,oL,oM,wR];cases hp1:JH (P8 s) with
    | false=>simp only [A8,DI,DJ,BM,vae]
    | true=>
     cases hp2:JH (NO s) with
     | false=>simp only [A8,A2,DI,DJ,BM,vae]
     | true=>
      simp only [A2,DJ,A6];cases hc:decide (36028797018963968 < GU (P8 s)) with
      | true=>simp only [A2,DI,DJ,BM]
      | false=>
       cases hd:decide (GU (NO s) % 390625=0) with
       | false=>simp only [A8,DI,DJ,BM,A6]
       | true=>
        simp only [A8,A2,DJ,A6];unfold eT;cases hm:OH s YN with
        | false=>
         simp only [DJ];rw [show AA AB (P7 s)=FO (P7 s) from rfl,i8];cases decide (DU (FO (P7 s))=s) <;> simp only [DI,DJ]
        | true=>
         simp only [DI];rw [show AA AB (AA AJ (0 - P7 s))=FO (JW (0 - P7 s)) from rfl,i8];cases decide (DU (FO (JW (0 - P7 s)))=s) <;> simp only [DI,DJ]
   ·have c1:decide (ic (AG (JP s)) > 8)=true:=AD (by simp only [ic]; omega);rw [c1,DI];unfold XG;rw [AL h8,BM,DJ]
 ·simp [R.get] at h
open Go Go.Proofs
def IN (N:Nat):Env:=D4 [(44,SQ),(53,MO),(55,MP),(43,O3),(56,UG),(54,dU)] [(7,⟨[1,2,3,4,28,29,30],[1,3,500],[⟨.tmp 4,500,9,false,[.str]⟩]⟩),(13,⟨[2,3,43,44,45],[3],[]⟩),(17,⟨[2,3,43,44,45,59,60,61],[3],[]⟩)] 94 N
abbrev WE (s2:BA) (n4 n28:Nat) (x29 x30 u02 u03 u04 u05 u06:Int) (u00:LI) (so3:BA) (u01:LI):St:=⟨[(1,(.ptr 1 0 0)),(2,(.str s2)),(3,(.ptr 3 0 0)),(4,(.row 500 0 n4)),(28,(.bview 1 2 3 1 n28)),(29,(.i x29)),(30,(.i x30))],[(1,(some (.box [.i u02,.i u03,.i u04,.i u05,.i u06,.list true [.z,.list false [.int .u64]] u00]))),(3,(some (.bld so3))),(500,(some (.row true 9 false [.str] u01)))]⟩
abbrev bH (s2:BA) (l43:LI) (x44 x45:Int) (so3:BA):St:=⟨[(2,(.str s2)),(3,(.ptr 3 0 0)),(43,(.list true [.z,.list false [.int .u64]] l43)),(44,(.i x44)),(45,(.i x45))],[(3,(some (.bld so3)))]⟩
abbrev YW (s2:BA) (l43:LI) (x44 x45:Int) (l59:LI) (x60 x61:Int) (so3:BA):St:=⟨[(2,(.str s2)),(3,(.ptr 3 0 0)),(43,(.list true [.z,.list false [.int .u64]] l43)),(44,(.i x44)),(45,(.i x45)),(59,(.list false [.int .u64] l59)),(60,(.i x60)),(61,(.i x61))],[(3,(some (.bld so3)))]⟩
theorem ze5 (N:Nat) (u04 u03 u00 u01 u02:Int) (u05:LI):DZ (IN N) KW [.tmp 2] [[.str]] [.agg [.i u04,.i u03,.i u00,.i u01,.i u02,.list true [.z,.list false [.int .u64]] u05]]=(cond (!EX {d:=u04,c:=u03,b0:=u00,b1:=u01,b2:=u02,ts:=u05}) (some ((.str ({data:=#[]})),[])) (cond (B6 (AF (AS 0 (AK 3 [IV.str {data:=#[102,111,114,101,115,116]},IV.str (DP u04),IV.str (DP u03)]))) 1000&&decide (AG CI+AG (FQ (A3 IV.toStr (AS 0 (AK 3 [IV.str {data:=#[102,111,114,101,115,116]},IV.str (DP u04),IV.str (DP u03)]))))≤1000000000)) (cond (decide (0≤u03)&&decide (u03≤ic 3)) (DY (IN N) (DK KW [1,1,1,1,1,0,1,0,0]) ⟨[1,2,3,4,28,29,30],[1,3,500],[⟨(.tmp 4),500,9,false,[.str]⟩]⟩ N (WE ({data:=#[]}) 1 (AE u03) (ic (AE u03)) 0 u04 u03 u00 u01 u02 u05 (CI++FQ (A3 IV.toStr (AS 0 (AK 3 [IV.str {data:=#[102,111,114,101,115,116]},IV.str (DP u04),IV.str (DP u03)])))) [(IV.str {data:=#[98,105,97,115]})]) (DQ 0 (DS (IN N) (DK KW [1,1,1,1,1,1]) (DT (IN N) none [.tmp 2] [[.str]])))) none) none)):=by kernel_rfl
theorem mD (N:Nat) (s2:BA) (n4 n28:Nat) (x29 x30 u02 u03 u04 u05 u06:Int) (u00:LI) (so3:BA) (u01:LI) (again:St→DN) (k:Out→St→DN):E2 (IN N) (DK KW [1,1,1,1,1,0,1,0,0]) (WE s2 n4 n28 x29 x30 u02 u03 u04 u05 u06 u00 so3 u01) (EQ again ⟨[1,2,3,4,28,29,30],[1,3,500],[⟨(.tmp 4),500,9,false,[.str]⟩]⟩ k)=(cond (decide (x30 < x29)) (cond (decide (x30 < ic n28)) (cond (decide (x30=ic 0)) (cond (decide ((n4+AF (AS 0 (AK 1 [IV.str (DU u04)])))*TI.bytes (Env.tyd (IN N) 9)≤EE)) (again (WE s2 (n4+AF (AS 0 (AK 1 [IV.str (DU u04)]))) n28 x29 (AA AB (x30+1)) u02 u03 u04 u05 u06 u00 so3 (AK n4 u01++AS 0 (AK 1 [IV.str (DU u04)])))) none) (cond (decide (x30=ic 1)) (cond (decide ((n4+AF (AS 0 (AK 1 [IV.str (DU u05)])))*TI.bytes (Env.tyd (IN N) 9)≤EE)) (again (WE s2 (n4+AF (AS 0 (AK 1 [IV.str (DU u05)]))) n28 x29 (AA AB (x30+1)) u02 u03 u04 u05 u06 u00 so3 (AK n4 u01++AS 0 (AK 1 [IV.str (DU u05)])))) none) (cond (decide (x30=ic 2)) (cond (decide ((n4+AF (AS 0 (AK 1 [IV.str (DU u06)])))*TI.bytes (Env.tyd (IN N) 9)≤EE)) (again (WE s2 (n4+AF (AS 0 (AK 1 [IV.str (DU u06)]))) n28 x29 (AA AB (x30+1)) u02 u03 u04 u05 u06 u00 so3 (AK n4 u01++AS 0 (AK 1 [IV.str (DU u06)])))) none) none))) none) (k (.exit 0) (WE s2 n4 n28 x29 x30 u02 u03 u04 u05 u06 u00 so3 u01))):=by kernel_rfl
theorem Zx (N:Nat) (s2:BA) (n4 n28:Nat) (x29 x30 u02 u03 u04 u05 u06:Int) (u00:LI) (so3:BA) (u01:LI):(DQ 0 (DS (IN N) (DK KW [1,1,1,1,1,1]) (DT (IN N) none [.tmp 2] [[.str]]))) (.exit 0) (WE s2 n4 n28 x29 x30 u02 u03 u04 u05 u06 u00 so3 u01)=(cond (B6 (AF (AS 0 (AK n4 u01))) 1000&&decide (AG so3+AG (FQ (A3 IV.toStr (AS 0 (AK n4 u01))))≤1000000000)) (DY (IN N) (DK KW [1,1,1,1,1,1,1,0,1,0,0]) ⟨[2,3,43,44,45],[3],[]⟩ N (bH s2 u00 (ic (AF u00)) 0 (so3++FQ (A3 IV.toStr (AS 0 (AK n4 u01))))) (DQ 2 (DS (IN N) (DK KW [1,1,1,1,1,1,1,1]) (DT (IN N) none [.tmp 2] [[.str]])))) none):=by kernel_rfl
theorem No (N:Nat) (s2:BA) (l43:LI) (x44 x45:Int) (so3:BA) (again:St→DN) (k:Out→St→DN):E2 (IN N) (DK KW [1,1,1,1,1,1,1,0,1,0,0]) (bH s2 l43 x44 x45 so3) (EQ again ⟨[2,3,43,44,45],[3],[]⟩ k)=(cond (decide (x45 < x44)) (cond (decide (0≤x45)&&decide (x45 < ic (AF l43))) (cond (B6 (AF (AS 0 (AK 3 [IV.str {data:=#[116,114,101,101]},IV.str (DP (IV.toInt (IV.cell (AI l43 (AE x45) default) 0))),IV.str (DP (ic (AF (IV.toList (IV.cell (AI l43 (AE x45) default) 1)))))]))) 1000&&decide (AG so3+AG (FQ (A3 IV.toStr (AS 0 (AK 3 [IV.str {data:=#[116,114,101,101]},IV.str (DP (IV.toInt (IV.cell (AI l43 (AE x45) default) 0))),IV.str (DP (ic (AF (IV.toList (IV.cell (AI l43 (AE x45) default) 1)))))]))))≤1000000000)) (DY (IN N) (DK KW [1,1,1,1,1,1,1,0,1,0,0,1,1,0,0,1,1,1,0,0]) ⟨[2,3,43,44,45,59,60,61],[3],[]⟩ N (YW s2 l43 x44 x45 (IV.toList (IV.cell (AI l43 (AE x45) default) 1)) (ic (AF (IV.toList (IV.cell (AI l43 (AE x45) default) 1)))) 0 (so3++FQ (A3 IV.toStr (AS 0 (AK 3 [IV.str {data:=#[116,114,101,101]},IV.str (DP (IV.toInt (IV.cell (AI l43 (AE x45) default) 0))),IV.str (DP (ic (AF (IV.toList (IV.cell (AI l43 (AE x45) default) 1)))))]))))) (DQ 4 (DQ 3 (DS (IN N) (DK KW [1,1,1,1,1,1,1,0,1,0,0,1,1,1]) (EQ again ⟨[2,3,43,44,45],[3],[]⟩ k))))) none) none) (k (.exit 2) (bH s2 l43 x44 x45 so3))):=by kernel_rfl
theorem Np (N:Nat) (s2:BA) (l43:LI) (x44 x45:Int) (l59:LI) (x60 x61:Int) (so3:BA) (again:St→DN) (k:Out→St→DN):E2 (IN N) (DK KW [1,1,1,1,1,1,1,0,1,0,0,1,1,0,0,1,1,1,0,0]) (YW s2 l43 x44 x45 l59 x60 x61 so3) (EQ again ⟨[2,3,43,44,45,59,60,61],[3],[]⟩ k)=(cond (decide (x61 < x60)) (cond (decide (0≤x61)&&decide (x61 < ic (AF l59))) (cond (Nd.lf (DL (IV.toInt (AI l59 (AE x61) default)))) (cond (B6 (AF (AS 0 (AK 2 [IV.str {data:=#[108,101,97,102]},IV.str (DU (Nd.v (DL (IV.toInt (AI l59 (AE x61) default)))))]))) 1000&&decide (AG so3+AG (FQ (A3 IV.toStr (AS 0 (AK 2 [IV.str {data:=#[108,101,97,102]},IV.str (DU (Nd.v (DL (IV.toInt (AI l59 (AE x61) default)))))]))))≤1000000000)) (again (YW s2 l43 x44 x45 l59 x60 (AA AB (x61+1)) (so3++FQ (A3 IV.toStr (AS 0 (AK 2 [IV.str {data:=#[108,101,97,102]},IV.str (DU (Nd.v (DL (IV.toInt (AI l59 (AE x61) default)))))])))))) none) (cond (B6 (AF (AS 0 (AK 8 [IV.str {data:=#[105,102]},IV.str (DP (Nd.f (DL (IV.toInt (AI l59 (AE x61) default))))),IV.str {data:=#[60,61]},IV.str (DU (Nd.a (DL (IV.toInt (AI l59 (AE x61) default))))),IV.str {data:=#[116,104,101,110]},IV.str (DP (Nd.l (DL (IV.toInt (AI l59 (AE x61) default))))),IV.str {data:=#[101,108,115,101]},IV.str (DP (Nd.r (DL (IV.toInt (AI l59 (AE x61) default)))))]))) 1000&&decide (AG so3+AG (FQ (A3 IV.toStr (AS 0 (AK 8 [IV.str {data:=#[105,102]},IV.str (DP (Nd.f (DL (IV.toInt (AI l59 (AE x61) default))))),IV.str {data:=#[60,61]},IV.str (DU (Nd.a (DL (IV.toInt (AI l59 (AE x61) default))))),IV.str {data:=#[116,104,101,110]},IV.str (DP (Nd.l (DL (IV.toInt (AI l59 (AE x61) default))))),IV.str {data:=#[101,108,115,101]},IV.str (DP (Nd.r (DL (IV.toInt (AI l59 (AE x61) default)))))]))))≤1000000000)) (again (YW s2 l43 x44 x45 l59 x60 (AA AB (x61+1)) (so3++FQ (A3 IV.toStr (AS 0 (AK 8 [IV.str {data:=#[105,102]},IV.str (DP (Nd.f (DL (IV.toInt (AI l59 (AE x61) default))))),IV.str {data:=#[60,61]},IV.str (DU (Nd.a (DL (IV.toInt (AI l59 (AE x61) default))))),IV.str {data:=#[116,104,101,110]},IV.str (DP (Nd.l (DL (IV.toInt (AI l59 (AE x61) default))))),IV.str {data:=#[101,108,115,101]},IV.str (DP (Nd.r (DL (IV.toInt (AI l59 (AE x61) default)))))])))))) none)) none) (k (.exit 4) (YW s2 l43 x44 x45 l59 x60 x61 so3))):=by kernel_rfl
theorem Zy (N:Nat) (s2:BA) (l43:LI) (x44 x45:Int) (so3:BA):(DQ 2 (DS (IN N) (DK KW [1,1,1,1,1,1,1,1]) (DT (IN N) none [.tmp 2] [[.str]]))) (.exit 2) (bH s2 l43 x44 x45 so3)=(some ((.str so3),[])):=by kernel_rfl
theorem Zz (N:Nat) (again:St→DN) (k:Out→St→DN) (s2:BA) (l43:LI) (x44 x45:Int) (l59:LI) (x60 x61:Int) (so3:BA):(DQ 4 (DQ 3 (DS (IN N) (DK KW [1,1,1,1,1,1,1,0,1,0,0,1,1,1]) (EQ again ⟨[2,3,43,44,45],[3],[]⟩ k)))) (.exit 4) (YW s2 l43 x44 x45 l59 x60 x61 so3)=(again (bH s2 l43 x44 (AA AB (x45+1)) so3)):=by kernel_rfl
def Tg (N:Nat):Env:=D4 [(97,Y1),(60,UH),(45,Y3)] [] 10 N
theorem ze7 (N:Nat) (b:BA) (u00:LI):DZ (Tg N) zF [] [] [.bor [.bld b],.list false [.str] u00]=(cond (decide (AF u00≤strMax)&&decide (AG (GP (A3 IV.toStr u00) {data:=#[32]})≤strMax)) (cond (decide (AG b+AG (GP (A3 IV.toStr u00) {data:=#[32]})≤strMax)) (cond (decide (AG (b++GP (A3 IV.toStr u00) {data:=#[32]})+1≤strMax)) (some ((.tup []),[[(.bld (ByteArray.push (b++GP (A3 IV.toStr u00) {data:=#[32]}) (NI 10)))]])) none) none) none):=by kernel_rfl
def Th (N:Nat):Env:=D4 [(46,NF)] [] 26 N
theorem ze8 (N:Nat) (u00:LI):DZ (Th N) zG [.tmp 2] [[.list false [.str]]] [.bor [.list false [.str] u00]]=(cond (ic (AF u00)==0) (some ((.list false [.str] []),[[.list false [.str] u00]])) (cond (decide (0≤0)&&decide (0 < ic (AF u00))) (cond (decide (0≤1)&&decide (1≤ic (AF u00))) (cond (decide (AG (IV.toStr (AI u00 (AE 0) default)) < 4294967281)&&decide (1≤AG {data:=#[32]})) (some ((.list false [.str] (A3 IV.str (D2 (IV.toStr (AI u00 (AE 0) default)) {data:=#[32]}))),[[.list false [.str] (AS (AE 1) (AK (AF u00) u00))]])) none) none) none)):=by kernel_rfl
def Tk (N:Nat):Env:=D4 [] [] 13 N
theorem zfb (N:Nat) (l:LI) (i:Int):DZ (Tk N) zJ [.tmp 4] [[.str]] [.list false [.str] l,.i i]=(cond (decide (i≥ic (AF l))) (some ((.str ({data:=#[]})),[])) (cond (decide (0≤i)&&decide (i < ic (AF l))) (some ((.str (IV.toStr (AI l (AE i) default))),[])) none)):=by kernel_rfl
def Tf (N:Nat):Env:=D4 [(90,RC)] [] 24 N
theorem ze6 (N:Nat) (s:BA) (most:Int):DZ (Tf N) zE [.tmp 4] [[.z]] [.str s,.i most]=(cond (!KU s) (some ((.i 0),[])) (cond (decide (FJ s < 0)) (some ((.i 0),[])) (cond (decide (FJ s > most)) (some ((.i 0),[])) (some ((.i (FJ s)),[]))))):=by kernel_rfl
def Tj (N:Nat):Env:=D4 [(91,WO)] [] 11 N
theorem zfa (N:Nat) (s:BA):DZ (Tj N) zI [.tmp 2] [[.z]] [.str s]=(cond (decide (AG s < 4294967281)) (some ((.i (GC s)),[])) none):=by kernel_rfl
def Ti (N:Nat):Env:=D4 [(92,WS),(49,WZ),(48,W0),(51,W1),(50,W2)] [] 28 N
theorem ze9 (N:Nat) (u00:LI):DZ (Ti N) zH [.tmp 2] [[.int .u64]] [.bor [.list false [.str] u00]]=(cond (KO u00) (cond (AW (DW (E0 u00) (AE 0))==AW {data:=#[108,101,97,102]}) (cond (decide (AG (DW (E0 u00) (AE 1)) < 4294967281)) (some ((.int .u64 (I1 {lf:=true,v:=GC (DW (E0 u00) (AE 1)),f:=0,a:=0,l:=0,r:=0})),[[.list false [.str] (AS 1 u00)]])) none) (cond (decide (AG (DW (E0 u00) (AE 3)) < 4294967281)) (some ((.int .u64 (I1 {lf:=false,v:=0,f:=FN (DW (E0 u00) (AE 1)) 4,a:=GC (DW (E0 u00) (AE 3)),l:=FN (DW (E0 u00) (AE 5)) 31,r:=FN (DW (E0 u00) (AE 7)) 31})),[[.list false [.str] (AS 1 u00)]])) none)) none):=by kernel_rfl
def Sd (N:Nat):Env:=D4 [] [] 21 N
theorem zeq (N:Nat) (s u00:BA):DZ (Sd N) yL [.tmp 4] [[.bool]] [.str s,.str u00]=(cond (decide (ic (AG s)≥ic (AG u00))) (cond (decide (0≤AA AB (ic (AG s) - ic (AG u00)))&&decide (AA AB (ic (AG s) - ic (AG u00))≤ic (AG s))) (some ((.bool (AW (vaM s (AE (AA AB (ic (AG s) - ic (AG u00)))) (AG s))==AW u00)),[])) none) (some ((.bool false),[]))):=by kernel_rfl
def Se (N:Nat):Env:=D4 [(141,cY)] [] 16 N
theorem zer (N:Nat) (s u00:BA):DZ (Se N) yM [.tmp 4] [[.str]] [.str s,.str u00]=(cond (TA s u00) (cond (decide (0≤AA AB (ic (AG s) - ic (AG u00)))&&decide (AA AB (ic (AG s) - ic (AG u00))≤ic (AG s))) (some ((.str (vaM s 0 (AE (AA AB (ic (AG s) - ic (AG u00)))))),[])) none) (some ((.str s),[]))):=by kernel_rfl
def Te (N:Nat):Env:=D4 [(89,cZ)] [] 8 N
theorem ze3 (N:Nat) (s u00:BA):DZ (Te N) zD [.tmp 4] [[.str]] [.str s,.str u00]=(some ((.str (GH s u00)),[])):=by kernel_rfl
open Go Go.Proofs
theorem zcG (l:List BA) (h:∀ w∈l,w.size≤100):(GP l G5).size≤101*l.length:=by
 have hs:(GP l G5).size=(Lib.join (l.map (·.data.toList)) [32]).length:=by
  show (Array.size (List.toArray _))=_;rw [C9]
 rw [hs];cases l with
 | nil=>simp [Lib.join_nil]
 | cons x r=>
  rw [A0,Lib.join_length]
  have:∀ (r:List BA),(∀ w∈r,w.size≤100)→Lib.lens (r.map (·.data.toList))≤100*r.length:=fun r=>by
   induction r with
   | nil=>intro _; simp [Lib.lens]
   | cons y r ih=>
    intro h;have h1:=h y (AN ..);rw [TP] at h1;have h2:=ih (fun w hw=>h w (AY _ hw));rw [A0,AM];simp only [Lib.lens,A0,vbc] at h2 ⊢;omega
  have:=this (x :: r) h
  rw [A0] at this;simp only [AM,BE,A7] at this ⊢;omega
theorem fM (ws:List BA) (hl:ws.length≤8) (h:∀ w∈ws,w.size≤100):(FQ ws).size≤809:=by
 unfold FQ
 have:=zcG ws h
 rw [AV];have e:AG PX=1:=rfl;rw [e];omega
theorem uQ:∀ (a b:List (List BA)),GA (a++b)=GA a++GA b
 | [],b=>by
  show GA b=CI++GA b;rw [ByteArray.empty_append]
 | l :: a,b=>by
  rw [CT,GA,GA,uQ a b,C8]
theorem uS:∀ (L:List (List BA)),(∀ l∈L,l.length≤8∧∀ w∈l,w.size≤100)→(GA L).size≤809*L.length
 | [],_=>by
  have:AG (GA [])=0:=rfl
  omega
 | l :: L,h=>by
  have h1:=fM l (h l (AN ..)).1 (h l (AN ..)).2;have h2:=uS L fun x hx=>h x (AY _ hx)
  rw [GA,AV,AM];omega
theorem XP {n:Int} (h:ED n):(DP n).size≤100:=by
 have:=ZW h.1 h.2
 omega
theorem gA {n:Int} (h:ED n):(DU n).size≤100:=by
 have:=(X3 n h).2
 omega
theorem o8 {n:Int} (h:E5 n=true) : -2147483648≤n∧n≤2147483647:=by
 unfold E5 at h
 rwa [AH,AQ,AQ] at h
structure Nd.In (x:Nd):Prop where
 v : -2147483648≤x.v∧x.v≤2147483647
 f:0≤x.f∧x.f < 4
 a : -2147483648≤x.a∧x.a≤2147483647
 l:0≤x.l∧x.l < 31
 r:0≤x.r∧x.r < 31
 lf:x.lf=true→x.f=0∧x.a=0∧x.l=0∧x.r=0
 fk:x.lf=false→x.v=0
theorem zgQ {x:Nd} (h:M6 x=true):x.In:=by
 obtain ⟨lf,v,f,a,l,r⟩:=x;unfold M6 at h;cases lf with
 | true=>
  simp only [BJ,AH,Nd.eq,B8] at h;obtain ⟨⟨_,_,h1,h2,h3,h4,_⟩,hv⟩:=h;subst h1 h2 h3 h4;have z4:(0:Int)≤0∧(0:Int) < 4:=by decide
  have z31:(0:Int)≤0∧(0:Int) < 31:=by decide
  have zf:(-2147483648:Int)≤0∧(0:Int)≤2147483647:=by decide
  exact ⟨o8 hv,z4,zf,z31,z31,fun _=>⟨rfl,rfl,rfl,rfl⟩,fun h=>Bool.noConfusion h⟩
 | false=>
  simp only [BC,AH,B8,AQ,RF] at h;obtain ⟨hv,hf0,hf1,ha,⟨hl0,hl1⟩,hr0,hr1⟩:=h;subst hv;have zf:(-2147483648:Int)≤0∧(0:Int)≤2147483647:=by decide
  have l0:(0:Int)≤l:=by omega
  have r0:(0:Int)≤r:=by omega
  exact ⟨zf,⟨hf0,hf1⟩,o8 ha,⟨l0,hl1⟩,⟨r0,hr1⟩,fun h=>Bool.noConfusion h,fun _=>rfl⟩
theorem Fa {x:Nd} (h:x.In):(MC x).length≤8∧∀ w∈MC x,w.size≤100:=by
 have hv:ED x.v:=by have:=h.v; unfold ED; omega
 have hf:ED x.f:=by have:=h.f; unfold ED; omega
 have ha:ED x.a:=by have:=h.a; unfold ED; omega
 have hl:ED x.l:=by have:=h.l; unfold ED; omega
 have hr:ED x.r:=by have:=h.r; unfold ED; omega
 unfold MC;cases x.lf with
 | true=>
  refine ⟨by simp,fun w hw=>?_⟩;simp only [BJ,AO,BX,CO] at hw;rcases hw with rfl | rfl
  ·decide
  ·exact gA hv
 | false=>
  refine ⟨by simp,fun w hw=>?_⟩;simp only [BC,AO,BX,CO] at hw;rcases hw with rfl | rfl | rfl | rfl | rfl | rfl | rfl | rfl
  ·decide
  ·exact XP hf
  ·decide
  ·exact gA ha
  ·decide
  ·exact XP hl
  ·decide
  ·exact XP hr
theorem Fe {dim n:Int}:∀ {l:LI} {i:Nat},KM dim n i l=true→∀ w∈l,GJ w.toInt=true
 | [],_,_,w,hw=>by cases hw
 | x :: l,i,h,w,hw=>by
  unfold KM at h;rw [AH,AH] at h;rcases AO.1 hw with rfl | hw
  ·exact h.1.1
  ·exact Fe h.2 w hw
theorem Ez {w:Int} (h:GJ w=true):(DL w).In:=by
 have hn:DL w=X4 w:=by unfold DL; rw [h]; rfl
 unfold GJ at h;simp only [AH,B4,B8,A5] at h;rw [hn];apply zgQ;cases hr:M6 (X4 w) with
 | true=>rfl
 | false=>
  have:=h.2
  unfold I1 at this;rw [hr] at this;exact absurd this.symm h.1
theorem ziB:DX PR B0 54 dU:=by
 refine D6 [(97,Y1),(60,UH),(45,Y3)] [] dU [] Tryz.func54 zch ⟨Lc,tV,Le,trivial⟩ ?_;intro vs r hwf h;unfold dU at h;split at h
 ·rename_i s ws;cases hc:(B6 ws.length 1000&&decide (s.size+(FQ (ws.map IV.toStr)).size≤1000000000)) with
  | false=>rw [hc] at h; simp [R.get] at h
  | true=>
   rw [hc,R.get_br,DI,R.get_ok] at h;rw [AH,AQ] at hc;have h1:=AP hc.1;have h2:=hc.2;have m:strMax=140737488355327:=rfl;refine ⟨0,?_⟩;rw [← h];refine (ze7 0 s ws).trans ?_;have e:ByteArray.push (s++GP (ws.map IV.toStr) G5) (NI 10)=s++FQ (ws.map IV.toStr):=by
    apply UP;unfold FQ;simp;rfl
   have e2:(FQ (ws.map IV.toStr)).size=(GP (ws.map IV.toStr) G5).size+1:=by
    unfold FQ;rw [AV];rfl
   rw [e2] at h2;rw [AD (show ws.length≤strMax by omega),AD (show (GP (ws.map IV.toStr) G5).size≤strMax by omega),AD (show s.size+(GP (ws.map IV.toStr) G5).size≤strMax by omega),
    AD (show AG (s++GP (ws.map IV.toStr) G5)+1≤strMax by rw [AV]; omega),B3,DI,DI,DI,e]
 ·simp [R.get] at h
theorem zc0 (s:BA) (hs:s.size < 4294967281):∀ i,(DW (HH s) i).size < 4294967281:=by
 intro i;unfold DW;rw [BV];cases h:(HH s)[i]? with
 | none=>decide
 | some x=>
  have hx:x∈HH s:=vag h;unfold HH at hx;obtain ⟨w,hw,rfl⟩:=CJ.1 hx
  have:=(YC G5 _ s).2 w hw
  exact Nat.lt_of_le_of_lt this hs
theorem qQ {ls:LI} (h:KO ls=true) (i:Nat):(DW (E0 ls) i).size < 4294967281:=by
 unfold KO at h;cases ls with
 | nil=>
  show AG (IV.toStr (AI [] i default)) < _;rw [List.getD_nil];decide
 | cons l r=>
  rw [vax,AH,AQ] at h;exact zc0 _ h.1 i
theorem XZ {ls:LI} (h:KO ls=true) (k:Nat):KO (ls.drop k)=true:=by
 unfold KO at h ⊢;rw [CQ] at h ⊢;exact fun x hx=>h x (va5 hx)
theorem Lh:DX PR B0 48 W0:=by
 refine D6 [(46,NF)] [] W0 [[.list false [.str]]] Tryz.func48 zci ⟨aP,trivial⟩ ?_;intro vs r hwf h;unfold W0 at h;split at h
 ·rename_i ls;cases hc:KO ls with
  | false=>rw [hc] at h; simp [R.get] at h
  | true=>
   rw [hc,R.get_br,DI,R.get_ok] at h;refine ⟨0,?_⟩;rw [← h];refine (ze8 0 ls).trans ?_;cases ls with
   | nil=>rfl
   | cons l r=>
    unfold KO at hc;rw [vax,AH] at hc;have e0:(ic (AF (l :: r))==0)=false:=by
     rw [UN];exact AL (by simp only [ic,AM]; omega)
    have e1:IV.toStr (AI (l :: r) (AE 0) default)=l.toStr:=rfl;have e2:AS (AE 1) (AK (AF (l :: r)) (l :: r))=AS 1 (l :: r):=by rw [BO]; rfl
    have e3:decide (1≤AG G5)=true:=rfl;rw [e0,e1,e2,e3,hc.1,DJ];simp only [AD (show (0:Int) < ic (AF (l :: r)) by simp only [ic,AM]; omega),AD (show (1:Int)≤ic (AF (l :: r)) by simp only [ic,AM]; omega)];rfl
 ·simp [R.get] at h
theorem Lj:DX PR B0 50 W2:=by
 refine D6 [] [] W2 [[.str]] Tryz.func50 zcl trivial ?_;intro vs r hwf h;unfold W2 at h;split at h
 ·rename_i l i;cases hc:decide (0≤i) with
  | false=>rw [hc] at h; simp [R.get] at h
  | true=>
   rw [hc,R.get_br,DI,R.get_ok] at h;have h0:=A1 hc;refine ⟨0,?_⟩;rw [← h];refine (zfb 0 l i).trans ?_;cases hi:decide (i≥ic l.length) with
   | true=>
    have hi:=A1 hi;simp only [ic] at hi;have e:DW l i.toNat=CI:=by
     unfold DW;rw [BV,BZ (by omega)];rfl
    rw [e,DI];rfl
   | false=>
    have hi:=BH hi;rw [DJ,AD h0,AD (show i < ic l.length by omega),B3,DI];rfl
 ·simp [R.get] at h
theorem Lg:DX PR B0 49 WZ:=by
 refine D6 [(90,RC)] [] WZ [[.z]] Tryz.func49 zcg ⟨lZ,trivial⟩ ?_;intro vs r hwf h;unfold WZ at h;split at h
 ·rename_i s most;refine ⟨0,?_⟩;rw [R.get_ok] at h;rw [← h];refine (ze6 0 s most).trans ?_;unfold FN;cases KU s <;> cases decide (FJ s < 0) <;> cases decide (FJ s > most) <;> rfl
 ·simp [R.get] at h
theorem Li:DX PR B0 51 W1:=by
 refine D6 [(91,WO)] [] W1 [[.z]] Tryz.func51 zck ⟨Ko,trivial⟩ ?_;intro vs r hwf h;unfold W1 at h;split at h
 ·rename_i s;cases hc:decide (s.size < 4294967281) with
  | false=>rw [hc] at h; simp [R.get] at h
  | true=>
   rw [hc,R.get_br,DI,R.get_ok] at h;refine ⟨0,?_⟩;rw [← h];refine (zfa 0 s).trans ?_;rw [hc,DI]
 ·simp [R.get] at h
theorem ziC:DX PR B0 52 dV:=by
 refine D6 [(92,WS),(49,WZ),(48,W0),(51,W1),(50,W2)] [] dV [[.int .u64]] Tryz.func52 zcj ⟨Kv,Lg,Lh,Li,Lj,trivial⟩ ?_;intro vs r hwf h;unfold dV at h;split at h
 ·rename_i ls;cases hc:KO ls with
  | false=>rw [hc] at h; simp [R.get] at h
  | true=>
   rw [hc,R.get_br,DI,R.get_ok] at h;refine ⟨0,?_⟩;rw [← h];refine (ze9 0 ls).trans ?_;rw [hc,DI,AD (qQ hc (AE 1)),AD (qQ hc (AE 3)),DI,DI];unfold NW;have e:(AW (DW (E0 ls) (AE 0))==AW { data:=#[108,101,97,102] })=((DW (E0 ls) 0).toList==TY.toList):=rfl;rw [e];cases ((DW (E0 ls) 0).toList==TY.toList) <;> rfl
 ·simp [R.get] at h
theorem zh4:DX PR B0 141 cY:=by
 refine D6 [] [] cY [[.bool]] Tryz.func141 zbD trivial ?_;intro vs r hwf h;unfold cY at h;split at h
 ·rename_i s t;refine ⟨0,?_⟩;rw [R.get_ok] at h;rw [← h];refine (zeq 0 s t).trans ?_;have hb:=hwf (by simp [MD]);have hs:s.size≤strMax:=hb.1;have m:strMax=140737488355327:=rfl;unfold TA;by_cases hl:t.size≤s.size
  ·have e:AA AB (ic s.size - ic t.size)=((s.size - t.size:Nat):Int):=by
    rw [EL (by simp only [ic]; omega) (by simp only [ic]; omega)];simp only [ic];omega
   rw [e,AD (show ic s.size≥ic t.size by simp only [ic]; omega),DI,AD (show (0:Int)≤((s.size - t.size:Nat):Int) by omega),AD (show ((s.size - t.size:Nat):Int)≤ic s.size by simp only [ic]; omega),B3,DI,AD hl,A6,BF]
  ·rw [AL (show ¬ ic s.size≥ic t.size by simp only [ic]; omega),DJ,AL hl,BM]
 ·simp [R.get] at h
theorem zh5:DX PR B0 89 cZ:=by
 refine D6 [(141,cY)] [] cZ [[.str]] Tryz.func89 zbE ⟨zh4,trivial⟩ ?_;intro vs r hwf h;unfold cZ at h;split at h
 ·rename_i s t;refine ⟨0,?_⟩;rw [R.get_ok] at h;rw [← h];refine (zer 0 s t).trans ?_;have hb:=hwf (by simp [MD]);have hs:s.size≤strMax:=hb.1;have m:strMax=140737488355327:=rfl;unfold GH;cases hh:TA s t with
  | false=>rfl
  | true=>
   have hl:t.size≤s.size:=by
    unfold TA at hh;rw [AH,AQ] at hh;exact hh.1
   have e:AA AB (ic s.size - ic t.size)=((s.size - t.size:Nat):Int):=by
    rw [EL (by simp only [ic]; omega) (by simp only [ic]; omega)];simp only [ic];omega
   rw [e,DI,DI,AD (show (0:Int)≤((s.size - t.size:Nat):Int) by omega),AD (show ((s.size - t.size:Nat):Int)≤ic s.size by simp only [ic]; omega),B3,DI,BF]
 ·simp [R.get] at h
theorem tX:DX PR B0 47 SS:=by
 refine D6 [(89,cZ)] [] SS [[.str]] Tryz.func47 zcd ⟨zh5,trivial⟩ ?_;intro vs r hwf h;unfold SS at h;split at h
 ·rename_i s t;refine ⟨0,?_⟩;rw [R.get_ok] at h;rw [← h];exact ze3 0 s t
 ·simp [R.get] at h
abbrev Qg (ts:LI) (i:Int) (l:LI) (j:Int) (so:BA):St:=
 ⟨[(2,(.str { data:=#[] })),(3,(.ptr 3 0 0)),(43,(.list true [.z,(.list false [(.int .u64)])] ts)),(44,(.int .i64 (ic ts.length))),(45,(.int .i64 i)),(59,(.list false [(.int .u64)] l)),(60,(.int .i64 (ic l.length))),(61,(.int .i64 j))],[(3,(some (.bld so)))]⟩
theorem Fj (N:Nat) (ts:LI) (i:Int) (l:LI) (hl:l.length≤31) (hn:∀ w∈l,GJ w.toInt=true) (K:Out→St→DN):∀ (d j n:Nat) (so:BA),j+d=l.length→d < n→so.size+809*d≤1000000000 →
  DY (IN N) (DK KW [1,1,1,1,1,1,1,0,1,0,0,1,1,0,0,1,1,1,0,0]) ⟨[2,3,43,44,45,59,60,61],[3],[]⟩ n (Qg ts i l (j:Int) so) K =
   K (.exit 4) (Qg ts i l (ic l.length) (so++GA (H0 (l.drop j))))
 | d,j,0,_,_,h,_=>absurd h (by omega)
 | 0,j,n+1,so,hd,_,_=>by
  have hj:j=l.length:=by omega
  subst hj;rw [D5,Np,AL (show ¬ ((l.length:Nat):Int) < ic l.length by simp only [ic]; omega),DJ,vaA];have e:so++GA (H0 [])=so:=by
   show so++CI=so;rw [ByteArray.append_empty]
  rw [e]
 | d+1,j,n+1,so,hd,hn',hz=>by
  have hjl:j < l.length:=by omega
  have ej:AA AB ((j:Int)+1)=((j+1:Nat):Int):=by
   rw [EL (by omega) (by omega)];omega
  have hg:l.getD (AE (j:Int)) default=l[j]:=by
   rw [BF,BV,A9 hjl];rfl
  have hin:=Ez (hn l[j] (C1 hjl));have hw:=Fa hin;have hls:=fM _ hw.1 hw.2;rw [D5,Np,ej,hg,AD (show (j:Int) < ic l.length by simp only [ic]; omega),DI,AD (show (0:Int)≤(j:Int) by omega),B3,DI,BG hjl];have hr:GA (H0 (l[j] :: l.drop (j+1)))=FQ (MC (DL l[j].toInt))++GA (H0 (l.drop (j+1))):=rfl;rw [hr,← C8];have ih:=Fj N ts i l hl hn K d (j+1) n (so++FQ (MC (DL l[j].toInt))) (by omega) (by omega) (by rw [AV]; omega);rw [← ih];have hsz:decide (so.size+(FQ (MC (DL l[j].toInt))).size≤1000000000)=true:=AD (by omega);revert hsz;unfold MC;cases (DL l[j].toInt).lf with
  | true=>
   intro hsz;have hsz:decide (AG so+AG (FQ [TY,DU (DL l[j].toInt).v])≤1000000000)=true:=hsz;have e:A3 IV.toStr (AS 0 (AK 2 [IV.str { data:=#[108,101,97,102] },IV.str (DU (Nd.v (DL (IV.toInt l[j]))))]))=[TY,DU (DL l[j].toInt).v]:=rfl;rw [DI,e,hsz];rfl
  | false=>
   intro hsz;have hsz:decide (AG so+AG (FQ [mS,DP (DL l[j].toInt).f,vC,DU (DL l[j].toInt).a,vD,DP (DL l[j].toInt).l,vB,DP (DL l[j].toInt).r])≤1000000000)=true:=hsz;have e:A3 IV.toStr (AS 0 (AK 8 [IV.str { data:=#[105,102] },IV.str (DP (Nd.f (DL (IV.toInt l[j])))),IV.str { data:=#[60,61] },IV.str (DU (Nd.a (DL (IV.toInt l[j])))),IV.str { data:=#[116,104,101,110] },IV.str (DP (Nd.l (DL (IV.toInt l[j])))),IV.str { data:=#[101,108,115,101] },IV.str (DP (Nd.r (DL (IV.toInt l[j]))))]))=[mS,DP (DL l[j].toInt).f,vC,DU (DL l[j].toInt).a,vD,DP (DL l[j].toInt).l,vB,DP (DL l[j].toInt).r]:=rfl;rw [DJ,e,hsz];rfl
theorem Ow {d c:Int} {t:IV} (h:HN d c t=true):0≤(t.cell 0).toInt∧(t.cell 0).toInt < c∧1≤(t.cell 1).toList.length∧(t.cell 1).toList.length≤31∧∀ w∈(t.cell 1).toList,GJ w.toInt=true:=by
 unfold HN G1 at h;simp only [AH,B4,BW] at h;obtain ⟨h1,h2,⟨h3,h4⟩,h5,_⟩:=h;exact ⟨by omega,by omega,AP h3,AP h4,Fe h5⟩
theorem Oy {d c:Int} {t:IV} (hc:c≤3) (h:HN d c t=true):(∀ l∈TV t,l.length≤8∧∀ w∈l,w.size≤100)∧(TV t).length≤32:=by
 obtain ⟨h1,h2,h3,h4,h5⟩:=Ow h;constructor
 ·intro l hl;unfold TV at hl;rcases AO.1 hl with rfl | hl
  ·refine ⟨by simp,fun w hw=>?_⟩;simp only [AO,BX,CO] at hw;rcases hw with rfl | rfl | rfl
   ·decide
   ·exact XP (by unfold ED; omega)
   ·exact XP (by unfold ED; simp only [ic]; omega)
  ·unfold H0 at hl;obtain ⟨w,hw,rfl⟩:=CJ.1 hl;exact Fa (Ez (h5 w hw))
 ·unfold TV H0;rw [AM,BE];omega
abbrev Qh (ts:LI) (i:Int) (so:BA):St:=
 ⟨[(2,(.str { data:=#[] })),(3,(.ptr 3 0 0)),(43,(.list true [.z,(.list false [(.int .u64)])] ts)),(44,(.int .i64 (ic ts.length))),(45,(.int .i64 i))],[(3,(some (.bld so)))]⟩
theorem Pc (N:Nat) (hN:40≤N) (d c:Int) (hc:c≤3) (ts:LI) (hl:ts.length≤8) (ht:ts.all (HN d c)=true) (K:Out→St→DN):∀ (m i n:Nat) (so:BA),i+m=ts.length→m < n→so.size+30000*m≤1000000000 →
  DY (IN N) (DK KW [1,1,1,1,1,1,1,0,1,0,0]) ⟨[2,3,43,44,45],[3],[]⟩ n (Qh ts (i:Int) so) K =
   K (.exit 2) (Qh ts (ic ts.length) (so++GA (GV (ts.drop i))))
 | m,i,0,_,_,h,_=>absurd h (by omega)
 | 0,i,n+1,so,hd,_,_=>by
  have hi:i=ts.length:=by omega
  subst hi;rw [D5,No,AL (show ¬ ((ts.length:Nat):Int) < ic ts.length by simp only [ic]; omega),DJ,vaA];have e:so++GA (GV [])=so:=by
   show so++CI=so;rw [ByteArray.append_empty]
  rw [e]
 | m+1,i,n+1,so,hd,hn,hz=>by
  have hil:i < ts.length:=by omega
  have ei:AA AB ((i:Int)+1)=((i+1:Nat):Int):=by
   rw [EL (by omega) (by omega)];omega
  have hg:ts.getD (AE (i:Int)) default=ts[i]:=by
   rw [BF,BV,A9 hil];rfl
  have hok:=CQ.1 ht ts[i] (C1 hil);have hw:=Oy hc hok;have hts:=uS _ hw.1;obtain ⟨h1,h2,h3,h4,h5⟩:=Ow hok;have hh:∀ w∈[OT,DP (ts[i].cell 0).toInt,DP (ic (ts[i].cell 1).toList.length)],w.size≤100:=(hw.1 _ (by unfold TV; exact AN ..)).2;have hls:=fM _ (by simp) hh;have e:A3 IV.toStr (AS 0 (AK 3 [IV.str { data:=#[116,114,101,101] },IV.str (DP (IV.toInt (IV.cell ts[i] 0))),IV.str (DP (ic (AF (IV.toList (IV.cell ts[i] 1)))))]))=[OT,DP (ts[i].cell 0).toInt,DP (ic (ts[i].cell 1).toList.length)]:=rfl;have el:B6 (AF (AS 0 (AK 3 [IV.str { data:=#[116,114,101,101] },IV.str (DP (IV.toInt (IV.cell ts[i] 0))),IV.str (DP (ic (AF (IV.toList (IV.cell ts[i] 1)))))]))) 1000=true:=rfl;rw [D5,No,hg,e,el,AD (show (i:Int) < ic ts.length by simp only [ic]; omega),DI,AD (show (0:Int)≤(i:Int) by omega),B3,DI,
   AD (show so.size+(FQ [OT,DP (ts[i].cell 0).toInt,DP (ic (ts[i].cell 1).toList.length)]).size≤1000000000 by omega),B3,DI]
  refine (Fj N ts (i:Int) (ts[i].cell 1).toList h4 h5 _ (ts[i].cell 1).toList.length 0 N (so++FQ [OT,DP (ts[i].cell 0).toInt,DP (ic (ts[i].cell 1).toList.length)]) (by omega) (by omega) (by rw [AV]; omega)).trans ?_;rw [Zz,ei,B2,BG hil];have hr:GA (GV (ts[i] :: ts.drop (i+1)))=(FQ [OT,DP (ts[i].cell 0).toInt,DP (ic (ts[i].cell 1).toList.length)]++GA (H0 (ts[i].cell 1).toList))++GA (GV (ts.drop (i+1))):=by
   rw [GV,uQ];rfl
  rw [hr,← C8 (a:=so),← C8 (a:=so)];have hsz:(FQ [OT,DP (ts[i].cell 0).toInt,DP (ic (ts[i].cell 1).toList.length)]++GA (H0 (ts[i].cell 1).toList)).size≤26000:=by
   have:GA (TV ts[i])=FQ [OT,DP (ts[i].cell 0).toInt,DP (ic (ts[i].cell 1).toList.length)]++GA (H0 (ts[i].cell 1).toList):=rfl
   rw [← this]
   have:=hw.2
   omega
  exact Pc N hN d c hc ts hl ht K m (i+1) n _ (by omega) (by omega) (by rw [C8,AV]; omega)
abbrev a8 (d c b0 b1 b2:Int) (ts:LI) (C:Nat) (so:BA) (ws:LI) (n:Nat) (i:Int):St:=
 ⟨[(1,(.ptr 1 0 0)),(2,(.str { data:=#[] })),(3,(.ptr 3 0 0)),(4,(.row 500 0 n)),(28,(.bview 1 2 3 1 C)),(29,(.int .i64 (ic C))),(30,(.int .i64 i))],[(1,(some (.box [(.int .i64 d),(.int .i64 c),(.int .i64 b0),(.int .i64 b1),(.int .i64 b2),(.list true [.z,(.list false [(.int .u64)])] ts)]))),(3,(some (.bld so))),(500,(some (.row true 9 false [.str] ws)))]⟩
theorem mV (N:Nat) (d c b0 b1 b2:Int) (ts:LI) (C:Nat) (so:BA) (ws:LI) (n i:Nat) (b:Int) (hi:i < C) (hn:n≤10) (h:(i=0∧b=b0)∨(i=1∧b=b1)∨(i=2∧b=b2)) (again:St→DN) (k:Out→St→DN) :
  E2 (IN N) (DK KW [1,1,1,1,1,0,1,0,0]) (a8 d c b0 b1 b2 ts C so ws n (i:Int)) (EQ again ⟨[1,2,3,4,28,29,30],[1,3,500],[⟨.tmp 4,500,9,false,[.str]⟩]⟩ k) =
   again (a8 d c b0 b1 b2 ts C so (ws.take n++[.str (DU b)]) (n+1) ((i+1:Nat):Int)):=by
 rw [mD];have ei:AA AB ((i:Int)+1)=((i+1:Nat):Int):=by
  rw [EL (by omega) (by omega)];omega
 have eb:TI.bytes (Env.tyd (IN N) 9)=16:=rfl;have e1:∀ x:IV,AF (AS 0 (AK 1 [x]))=1:=fun x=>rfl
 rw [ei,eb,e1,e1,e1,AD (show (i:Int) < ic C by simp only [ic]; omega),DI,DI,AD (show (n+1)*16≤EE by unfold EE; omega)];rcases h with ⟨rfl,rfl⟩ | ⟨rfl,rfl⟩ | ⟨rfl,rfl⟩ <;> rfl
theorem zjR (N:Nat) (hN:10≤N) (d b0 b1 b2:Int) (ts:LI) (C:Nat) (h1:1≤C) (h3:C≤3) (so:BA) (K:Out→St→DN) :
  DY (IN N) (DK KW [1,1,1,1,1,0,1,0,0]) ⟨[1,2,3,4,28,29,30],[1,3,500],[⟨.tmp 4,500,9,false,[.str]⟩]⟩ N (a8 d (C:Int) b0 b1 b2 ts C so [.str JB] 1 0) K =
   K (.exit 0) (a8 d (C:Int) b0 b1 b2 ts C so ((JB :: (([b0,b1,b2].take C).map DU)).map IV.str) (1+C) (C:Int)):=by
 obtain ⟨M,rfl⟩:∃ M,N=M+4:=⟨N - 4,by omega⟩;have e0:a8 d (C:Int) b0 b1 b2 ts C so [.str JB] 1 0=a8 d (C:Int) b0 b1 b2 ts C so [.str JB] 1 ((0:Nat):Int):=rfl;rw [e0,D5,mV (M+4) d (C:Int) b0 b1 b2 ts C so _ 1 0 b0 (by omega) (by omega) (by simp)]
 match C,h1,h3 with
 | 1,_,_=>
  rw [D5,mD,AL (show ¬ ((0+1:Nat):Int) < ic 1 by decide),DJ];rfl
 | 2,_,_=>
  rw [D5,mV (M+4) d _ b0 b1 b2 ts 2 so _ _ 1 b1 (by omega) (by omega) (by simp),D5,mD,AL (show ¬ ((1+1:Nat):Int) < ic 2 by decide),DJ];rfl
 | 3,_,_=>
  rw [D5,mV (M+4) d _ b0 b1 b2 ts 3 so _ _ 1 b1 (by omega) (by omega) (by simp),D5,mV (M+4) d _ b0 b1 b2 ts 3 so _ _ 2 b2 (by omega) (by omega) (by simp),D5,mD,AL (show ¬ ((2+1:Nat):Int) < ic 3 by decide),DJ];rfl
theorem qO {m:Md} (h:EX m=true):(1≤m.d∧m.d≤4)∧(1≤m.c∧m.c≤3)∧m.ts.length≤8∧(HX m.c 0 m.b0=true∧HX m.c 1 m.b1=true∧HX m.c 2 m.b2=true)∧m.ts.all (HN m.d m.c)=true:=by
 unfold EX at h;simp only [AH,B4,BW] at h;obtain ⟨⟨h1,h2,h3,h4,h5⟩,⟨h6,h7,h8⟩,h9⟩:=h;exact ⟨⟨by omega,by omega⟩,⟨by omega,by omega⟩,AP h5,⟨h6,h7,h8⟩,h9⟩
theorem nJ {c j b:Int} (h:HX c j b=true):(-2147483648≤b∧b≤2147483647)∧(c≤j→b=0):=by
 unfold HX at h;rw [AH] at h;refine ⟨o8 h.1,fun hj=>?_⟩
 have:=h.2
 rw [AD (show j≥c from hj)] at this;simpa using this
theorem Ch {m:Md} (h:EX m=true):∀ l∈TB m,l.length≤8∧∀ w∈l,w.size≤100:=by
 obtain ⟨hd,hc,_,⟨g0,g1,g2⟩,_⟩:=qO h;have i0:=(nJ g0).1;have i1:=(nJ g1).1;have i2:=(nJ g2).1;intro l hl;unfold TB at hl;simp only [AO,BX,CO] at hl;rcases hl with rfl | rfl
 ·refine ⟨by simp,fun w hw=>?_⟩;simp only [AO,BX,CO] at hw;rcases hw with rfl | rfl | rfl
  ·decide
  ·exact XP (by unfold ED; omega)
  ·exact XP (by unfold ED; omega)
 ·refine ⟨by simp only [AM,BE,BB,A7]; omega,fun w hw=>?_⟩;rcases AO.1 hw with rfl | hw
  ·decide
  ·obtain ⟨b,hb,rfl⟩:=CJ.1 hw;have hb:=vaI hb;simp only [AO,BX,CO] at hb;rcases hb with rfl | rfl | rfl
   ·exact gA (by unfold ED; omega)
   ·exact gA (by unfold ED; omega)
   ·exact gA (by unfold ED; omega)
set_option maxHeartbeats 1000000 in
theorem gT:DX PR B0 20 N9:=by
 refine D6 [(44,SQ),(53,MO),(55,MP),(43,O3),(56,UG),(54,dU)] [(7,⟨[1,2,3,4,28,29,30],[1,3,500],[⟨.tmp 4,500,9,false,[.str]⟩]⟩),(13,⟨[2,3,43,44,45],[3],[]⟩),(17,⟨[2,3,43,44,45,59,60,61],[3],[]⟩)] N9 [[.str]] Tryz.func20 zcf ⟨tS,aM,aN,gS,tU,ziB,trivial⟩ ?_;intro vs r hwf h;unfold N9 at h;split at h
 ·rename_i d c b0 b1 b2 ts;refine ⟨40,?_⟩;rw [R.get_ok] at h;rw [← h];refine (ze5 40 d c b0 b1 b2 ts).trans ?_;unfold EK;cases hm:EX ⟨d,c,b0,b1,b2,ts⟩ with
  | false=>rfl
  | true=>
   obtain ⟨hd,hc,hl,_,ht⟩:=qO hm;simp only at hd hc hl ht;have hh:=Ch hm;have hh1:=hh _ (List.mem_cons_self ..);have hh2:=hh _ (List.mem_cons_of_mem _ (List.mem_cons_self ..));have z1:=fM _ hh1.1 hh1.2;have z2:=fM _ hh2.1 hh2.2;obtain ⟨C,rfl⟩:∃ C:Nat,c=(C:Int):=⟨c.toNat,by omega⟩;have e1:List.map IV.toStr (List.drop 0 (List.take 3 [IV.str { data:=#[102,111,114,101,115,116] },IV.str (DP d),IV.str (DP (C:Int))]))=[N2,DP d,DP (C:Int)]:=rfl;have e2:Nat.ble (List.length (List.drop 0 (List.take 3 [IV.str { data:=#[102,111,114,101,115,116] },IV.str (DP d),IV.str (DP (C:Int))]))) 1000=true:=rfl;have e3:ByteArray.size ByteArray.empty=0:=rfl;have z1:(FQ [N2,DP d,DP (C:Int)]).size≤809:=z1;rw [Bool.not_true,DJ,DI,e1,e2,e3,decide_eq_true (show 0+(FQ [N2,DP d,DP (C:Int)]).size≤1000000000 by omega),Bool.and_self,DI,decide_eq_true (show (0:Int)≤(C:Int) by omega),decide_eq_true (show (C:Int)≤ic 3 by simp only [ic]; omega),Bool.and_self,DI,Int.toNat_natCast,ByteArray.empty_append];refine (zjR 40 (by omega) d b0 b1 b2 ts C (by omega) (by omega) (FQ [N2,DP d,DP (C:Int)]) _).trans ?_;rw [Zx];have e4:List.map IV.toStr (List.drop 0 (List.take (1+C) ((JB :: (([b0,b1,b2].take C).map DU)).map IV.str)))=JB :: (([b0,b1,b2].take C).map DU):=by
    match C,hc with
    | 0,hc=>exact absurd hc.1 (by decide)
    | 1,_=>rfl
    | 2,_=>rfl
    | 3,_=>rfl
    | C+4,hc=>exact absurd hc.2 (by omega)
   have e5:Nat.ble (List.length (List.drop 0 (List.take (1+C) ((JB :: (([b0,b1,b2].take C).map DU)).map IV.str)))) 1000=true:=by
    apply Nat.ble_eq_true_of_le;rw [List.length_drop,List.length_take];omega
   have z2:(FQ (JB :: (([b0,b1,b2].take C).map DU))).size≤809:=by
    have:(([b0,b1,b2].take (C:Int).toNat).map DU)=(([b0,b1,b2].take C).map DU):=by rw [Int.toNat_natCast]
    rw [← this];exact z2
   rw [e4,e5,decide_eq_true (show (FQ [N2,DP d,DP (C:Int)]).size+(FQ (JB :: (([b0,b1,b2].take C).map DU))).size≤1000000000 by omega),Bool.and_self,DI];refine (Pc 40 (by omega) d (C:Int) (by omega) ts hl ht _ ts.length 0 40 _ (by omega) (by omega) (by rw [ByteArray.size_append]; omega)).trans ?_;rw [Zy,List.drop_zero];have e6:GA (L9 ⟨d,(C:Int),b0,b1,b2,ts⟩)=FQ [N2,DP d,DP (C:Int)]++FQ (JB :: (([b0,b1,b2].take C).map DU))++GA (GV ts):=by
    show GA (TB ⟨d,(C:Int),b0,b1,b2,ts⟩++GV ts)=_;rw [uQ];show FQ [N2,DP d,DP (C:Int)]++(FQ (JB :: (([b0,b1,b2].take (C:Int).toNat).map DU))++ByteArray.empty)++GA (GV ts)=_;rw [ByteArray.append_empty,Int.toNat_natCast]
   rw [e6]
 ·simp [R.get] at h
open Go Go.Proofs
def HO (N:Nat):Env:=D4 [(46,NF),(47,SS),(20,N9),(49,WZ),(48,W0),(52,dV),(51,W1),(50,W2)] [(6,⟨[0,2,3,4,6,7,28,29],[2,6,15],[]⟩),(10,⟨[0,2,3,4,6],[2,6,15,500],[⟨.cell 6 5,500,88,true,[.z,.list false [.int .u64]]⟩]⟩),(14,⟨[0,2,3,4,6,10,61,62],[2,6,10,15,500,501],[⟨.cell 6 5,500,88,true,[.z,.list false [.int .u64]]⟩,⟨.cell 10 1,501,103,false,[.int .u64]⟩]⟩)] 88 N
abbrev WD (s0:BA) (b3:Bool) (l7:LI) (x28 x29 u01 u02 u03 u04 u05 u06 u07 u08 u09 u0a:Int) (u00:LI):St:=⟨[(0,(.str s0)),(2,(.ptr 2 0 0)),(3,(.bool b3)),(4,(.ptr 15 0 0)),(6,(.ptr 6 0 0)),(7,(.list false [.str] l7)),(28,(.i x28)),(29,(.i x29))],[(2,(some (.box [.i u01,.i u02,.i u03,.i u04,.i u05,.zs]))),(6,(some (.box [.i u06,.i u07,.i u08,.i u09,.i u0a,.zs]))),(15,(some (.box [.list false [.str] u00])))]⟩
abbrev YV (s0:BA) (b3:Bool) (u03 u04 u05 u06 u07 u08 u09 u0a u0b u0c:Int) (u02:Nat) (u00 u01:LI):St:=⟨[(0,(.str s0)),(2,(.ptr 2 0 0)),(3,(.bool b3)),(4,(.ptr 15 0 0)),(6,(.ptr 6 0 0))],[(2,(some (.box [.i u03,.i u04,.i u05,.i u06,.i u07,.zs]))),(6,(some (.box [.i u08,.i u09,.i u0a,.i u0b,.i u0c,.row 500 0 u02]))),(15,(some (.box [.list false [.str] u00]))),(500,(some (.row true 88 true [.z,.list false [.int .u64]] u01)))]⟩
abbrev bG (s0:BA) (b3:Bool) (x61 x62 u06 u07 u08 u09 u0a u0b u0c u0d u0e u0f:Int) (u04:Nat) (u05:Int) (u03:Nat) (u00 u01 u02:LI):St:=⟨[(0,(.str s0)),(2,(.ptr 2 0 0)),(3,(.bool b3)),(4,(.ptr 15 0 0)),(6,(.ptr 6 0 0)),(10,(.ptr 10 0 0)),(61,(.i x61)),(62,(.i x62))],[(2,(some (.box [.i u06,.i u07,.i u08,.i u09,.i u0a,.zs]))),(6,(some (.box [.i u0b,.i u0c,.i u0d,.i u0e,.i u0f,.row 500 0 u04]))),(10,(some (.box [.i u05,.row 501 0 u03]))),(15,(some (.box [.list false [.str] u00]))),(500,(some (.row true 88 true [.z,.list false [.int .u64]] u01))),(501,(some (.row true 103 false [.int .u64] u02)))]⟩
theorem ze4 (N:Nat) (s:BA):DZ (HO N) JO [.cell 2 30,.tmp 3] [[.z,.z,.z,.z,.z,.list true [.z,.list false [.int .u64]]],[.bool]] [.str s]=(cond (decide (AG (GH s {data:=#[10]}) < 4294967281)&&decide (1≤AG {data:=#[10]})) (cond (KO (A3 IV.str (D2 (GH s {data:=#[10]}) {data:=#[10]}))) (cond (KO (AS 1 (A3 IV.str (D2 (GH s {data:=#[10]}) {data:=#[10]})))) (DY (HO N) (DK JO [1,1,1,1,1,0,1,0,0]) ⟨[0,2,3,4,6,7,28,29],[2,6,15],[]⟩ N (WD s false (E0 (AS 1 (A3 IV.str (D2 (GH s {data:=#[10]}) {data:=#[10]})))) (FN (DW (E0 (A3 IV.str (D2 (GH s {data:=#[10]}) {data:=#[10]}))) (AE 2)) 3) 0 0 0 0 0 0 (FN (DW (E0 (A3 IV.str (D2 (GH s {data:=#[10]}) {data:=#[10]}))) (AE 1)) 4) (FN (DW (E0 (A3 IV.str (D2 (GH s {data:=#[10]}) {data:=#[10]}))) (AE 2)) 3) 0 0 0 (AS 1 (AS 1 (A3 IV.str (D2 (GH s {data:=#[10]}) {data:=#[10]}))))) (DQ 0 (DS (HO N) (DK JO [1,1,1,1,1,1]) (DT (HO N) none [.cell 2 30,.tmp 3] [[.z,.z,.z,.z,.z,.list true [.z,.list false [.int .u64]]],[.bool]])))) none) none) none):=by kernel_rfl
theorem gX (N:Nat) (s0:BA) (b3:Bool) (l7:LI) (x28 x29 u01 u02 u03 u04 u05 u06 u07 u08 u09 u0a:Int) (u00:LI) (again:St→DN) (k:Out→St→DN):E2 (HO N) (DK JO [1,1,1,1,1,0,1,0,0]) (WD s0 b3 l7 x28 x29 u01 u02 u03 u04 u05 u06 u07 u08 u09 u0a u00) (EQ again ⟨[0,2,3,4,6,7,28,29],[2,6,15],[]⟩ k)=(cond (decide (x29 < x28)) (cond (decide (0≤AA AB (1+x29))) (cond (decide (AG (DW l7 (AE (AA AB (1+x29)))) < 4294967281)) (cond (decide (x29=ic 0)) (again (WD s0 b3 l7 x28 (AA AB (x29+1)) u01 u02 u03 u04 u05 u06 u07 (GC (DW l7 (AE (AA AB (1+x29))))) u09 u0a u00)) (cond (decide (x29=ic 1)) (again (WD s0 b3 l7 x28 (AA AB (x29+1)) u01 u02 u03 u04 u05 u06 u07 u08 (GC (DW l7 (AE (AA AB (1+x29))))) u0a u00)) (cond (decide (x29=ic 2)) (again (WD s0 b3 l7 x28 (AA AB (x29+1)) u01 u02 u03 u04 u05 u06 u07 u08 u09 (GC (DW l7 (AE (AA AB (1+x29))))) u00)) none))) none) none) (k (.exit 0) (WD s0 b3 l7 x28 x29 u01 u02 u03 u04 u05 u06 u07 u08 u09 u0a u00))):=by kernel_rfl
theorem Zu (N:Nat) (s0:BA) (b3:Bool) (l7:LI) (x28 x29 u01 u02 u03 u04 u05 u06 u07 u08 u09 u0a:Int) (u00:LI):(DQ 0 (DS (HO N) (DK JO [1,1,1,1,1,1]) (DT (HO N) none [.cell 2 30,.tmp 3] [[.z,.z,.z,.z,.z,.list true [.z,.list false [.int .u64]]],[.bool]]))) (.exit 0) (WD s0 b3 l7 x28 x29 u01 u02 u03 u04 u05 u06 u07 u08 u09 u0a u00)=(DY (HO N) (DK JO [1,1,1,1,1,1,0,0,0]) ⟨[0,2,3,4,6],[2,6,15,500],[⟨(.cell 6 5),500,88,true,[.z,.list false [.int .u64]]⟩]⟩ N (YV s0 b3 u01 u02 u03 u04 u05 u06 u07 u08 u09 u0a 0 u00 []) (DQ 2 (DS (HO N) (DK JO [1,1,1,1,1,1,1]) (DT (HO N) none [.cell 2 30,.tmp 3] [[.z,.z,.z,.z,.z,.list true [.z,.list false [.int .u64]]],[.bool]])))):=by kernel_rfl
theorem uJ (N:Nat) (s0:BA) (b3:Bool) (u03 u04 u05 u06 u07 u08 u09 u0a u0b u0c:Int) (u02:Nat) (u00 u01:LI) (again:St→DN) (k:Out→St→DN):E2 (HO N) (DK JO [1,1,1,1,1,1,0,0,0]) (YV s0 b3 u03 u04 u05 u06 u07 u08 u09 u0a u0b u0c u02 u00 u01) (EQ again ⟨[0,2,3,4,6],[2,6,15,500],[⟨(.cell 6 5),500,88,true,[.z,.list false [.int .u64]]⟩]⟩ k)=(cond (decide (ic (AF u00) > 0)) (cond (decide (ic (u02 - 0)≤8)) (cond (KO u00) (DY (HO N) (DK JO [1,1,1,1,1,1,0,0,0,1,0,1,1,0,1,0,0]) ⟨[0,2,3,4,6,10,61,62],[2,6,10,15,500,501],[⟨(.cell 6 5),500,88,true,[.z,.list false [.int .u64]]⟩,⟨(.cell 10 1),501,103,false,[.int .u64]⟩]⟩ N (bG s0 b3 (FN (DW (E0 u00) (AE 2)) 31) 0 u03 u04 u05 u06 u07 u08 u09 u0a u0b u0c u02 (FN (DW (E0 u00) (AE 1)) 3) 0 (AS 1 u00) u01 []) (DQ 4 (DS (HO N) (DK JO [1,1,1,1,1,1,0,0,0,1,0,1,1,1]) (DQ 3 (EQ again ⟨[0,2,3,4,6],[2,6,15,500],[⟨(.cell 6 5),500,88,true,[.z,.list false [.int .u64]]⟩]⟩ k))))) none) (k (.exit 2) (YV s0 b3 u03 u04 u05 u06 u07 u08 u09 u0a u0b u0c u02 u00 u01))) (k (.exit 2) (YV s0 b3 u03 u04 u05 u06 u07 u08 u09 u0a u0b u0c u02 u00 u01))):=by kernel_rfl
theorem Nn (N:Nat) (s0:BA) (b3:Bool) (x61 x62 u06 u07 u08 u09 u0a u0b u0c u0d u0e u0f:Int) (u04:Nat) (u05:Int) (u03:Nat) (u00 u01 u02:LI) (again:St→DN) (k:Out→St→DN):E2 (HO N) (DK JO [1,1,1,1,1,1,0,0,0,1,0,1,1,0,1,0,0]) (bG s0 b3 x61 x62 u06 u07 u08 u09 u0a u0b u0c u0d u0e u0f u04 u05 u03 u00 u01 u02) (EQ again ⟨[0,2,3,4,6,10,61,62],[2,6,10,15,500,501],[⟨(.cell 6 5),500,88,true,[.z,.list false [.int .u64]]⟩,⟨(.cell 10 1),501,103,false,[.int .u64]⟩]⟩ k)=(cond (decide (x62 < x61)) (cond (KO u00) (cond (decide ((u03+AF (AS 0 (AK 1 [IV.int (I1 (NW (E0 u00)))])))*TI.bytes (Env.tyd (HO N) 103)≤EE)) (again (bG s0 b3 x61 (AA AB (x62+1)) u06 u07 u08 u09 u0a u0b u0c u0d u0e u0f u04 u05 (u03+AF (AS 0 (AK 1 [IV.int (I1 (NW (E0 u00)))]))) (AS 1 u00) u01 (AK u03 u02++AS 0 (AK 1 [IV.int (I1 (NW (E0 u00)))])))) none) none) (k (.exit 4) (bG s0 b3 x61 x62 u06 u07 u08 u09 u0a u0b u0c u0d u0e u0f u04 u05 u03 u00 u01 u02))):=by kernel_rfl
theorem Zv (N:Nat) (s0:BA) (b3:Bool) (u03 u04 u05 u06 u07 u08 u09 u0a u0b u0c:Int) (u02:Nat) (u00 u01:LI):(DQ 2 (DS (HO N) (DK JO [1,1,1,1,1,1,1]) (DT (HO N) none [.cell 2 30,.tmp 3] [[.z,.z,.z,.z,.z,.list true [.z,.list false [.int .u64]]],[.bool]]))) (.exit 2) (YV s0 b3 u03 u04 u05 u06 u07 u08 u09 u0a u0b u0c u02 u00 u01)=(cond (AW s0==AW {data:=#[]}) (some ((.tup [.agg [.i 0,.i 0,.i 0,.i 0,.i 0,.list true [.z,.list false [.int .u64]] []],.bool false]),[])) (cond (!AW (EK {d:=u08,c:=u09,b0:=u0a,b1:=u0b,b2:=u0c,ts:=AS 0 (AK u02 u01)})==AW s0) (some ((.tup [.agg [.i 0,.i 0,.i 0,.i 0,.i 0,.list true [.z,.list false [.int .u64]] []],.bool false]),[])) (some ((.tup [.agg [.i u08,.i u09,.i u0a,.i u0b,.i u0c,.list true [.z,.list false [.int .u64]] (AS 0 (AK u02 u01))],.bool true]),[])))):=by kernel_rfl
theorem Zw (N:Nat) (again:St→DN) (k:Out→St→DN) (s0:BA) (b3:Bool) (x61 x62 u06 u07 u08 u09 u0a u0b u0c u0d u0e u0f:Int) (u04:Nat) (u05:Int) (u03:Nat) (u00 u01 u02:LI):(DQ 4 (DS (HO N) (DK JO [1,1,1,1,1,1,0,0,0,1,0,1,1,1]) (DQ 3 (EQ again ⟨[0,2,3,4,6],[2,6,15,500],[⟨(.cell 6 5),500,88,true,[.z,.list false [.int .u64]]⟩]⟩ k)))) (.exit 4) (bG s0 b3 x61 x62 u06 u07 u08 u09 u0a u0b u0c u0d u0e u0f u04 u05 u03 u00 u01 u02)=(cond (decide ((u04+AF (AS 0 (AK 1 [IV.agg [IV.int u05,IV.list (AS 0 (AK u03 u02))]])))*TI.bytes (Env.tyd (HO N) 88)≤EE)) (again (YV s0 b3 u06 u07 u08 u09 u0a u0b u0c u0d u0e u0f (u04+AF (AS 0 (AK 1 [IV.agg [IV.int u05,IV.list (AS 0 (AK u03 u02))]]))) u00 (AK u04 u01++AS 0 (AK 1 [IV.agg [IV.int u05,IV.list (AS 0 (AK u03 u02))]])))) none):=by kernel_rfl
open Go Go.Proofs
theorem zZ (s:BA) {most:Int} (h:0≤most):0≤FN s most∧FN s most≤most:=by
 unfold FN;cases ha:KU s <;> cases h1:decide (FJ s < 0) <;> cases h2:decide (FJ s > most)
 all_goals simp only [A2,A8,B3,B1,vae,BJ,BC]
 all_goals first
  | exact ⟨by omega,by omega⟩
  | (have h1:=BH h1; have h2:=BH h2; omega)
theorem aT (s t:BA):(GH s t).size≤s.size:=by
 unfold GH;cases TA s t with
 | true=>
  rw [DI,vbf];omega
 | false=>exact AZ _
theorem zc7 {s:BA} (h:s.size < 4294967281):KO (U9 s)=true:=by
 unfold KO U9;rw [CQ];intro x hx;obtain ⟨w,hw,rfl⟩:=CJ.1 hx
 have:=(YC PX _ (aS s)).2 w hw
 have h2:(aS s).size≤s.size:=aT s PX;refine AD ?_;show w.size < 4294967281;omega
abbrev pV:KP:=⟨[0,2,3,4,6,7,28,29],[2,6,15],[]⟩
abbrev kG:KP:=⟨[0,2,3,4,6],[2,6,15,500],[⟨.cell 6 5,500,88,true,[.z,.list false [.int .u64]]⟩]⟩
abbrev Db:KP:=⟨[0,2,3,4,6,10,61,62],[2,6,10,15,500,501],[⟨.cell 6 5,500,88,true,[.z,.list false [.int .u64]]⟩,⟨.cell 10 1,501,103,false,[.int .u64]⟩]⟩
abbrev aY (s:BA) (W:LI) (C i d c b0 b1 b2:Int) (L:LI):St:=
 ⟨[(0,(.str s)),(2,(.ptr 2 0 0)),(3,(.bool false)),(4,(.ptr 15 0 0)),(6,(.ptr 6 0 0)),(7,(.list false [.str] W)),(28,(.int .i64 C)),(29,(.int .i64 i))],[(2,(some (.box [(.int .i64 0),(.int .i64 0),(.int .i64 0),(.int .i64 0),(.int .i64 0),.zs]))),(6,(some (.box [(.int .i64 d),(.int .i64 c),(.int .i64 b0),(.int .i64 b1),(.int .i64 b2),.zs]))),(15,(some (.box [(.list false [.str] L)])))]⟩
theorem Y9 (N:Nat) (s:BA) (W:LI) (hW:∀ i,(DW W i).size < 4294967281) (C:Int) (i:Nat) (hi:(i:Int) < C) (h3:i < 3) (d c b0 b1 b2:Int) (L:LI) (again:St→DN) (k:Out→St→DN) :
  E2 (HO N) (DK JO [1,1,1,1,1,0,1,0,0]) (aY s W C (i:Int) d c b0 b1 b2 L) (EQ again pV k) =
   again (aY s W C ((i+1:Nat):Int) d c (cond (BQ i 0) (GC (DW W (1+i))) b0) (cond (BQ i 1) (GC (DW W (1+i))) b1) (cond (BQ i 2) (GC (DW W (1+i))) b2) L):=by
 rw [gX];have ei:AA AB ((i:Int)+1)=((i+1:Nat):Int):=by
  rw [EL (by omega) (by omega)];omega
 have ei':AA AB (1+(i:Int))=((1+i:Nat):Int):=by
  rw [EL (by omega) (by omega)];omega
 rw [ei,ei',BF,AD hi,DI,AD (show (0:Int)≤((1+i:Nat):Int) by omega),DI,AD (hW (1+i)),DI]
 match i,h3 with
 | 0,_=>rfl
 | 1,_=>rfl
 | 2,_=>rfl
theorem Us (N:Nat) (s:BA) (LS W:LI) (hWe:W=E0 (LS.drop 1)) (hW:∀ i,(DW W i).size < 4294967281) (C:Int) (h0:0≤C) (h3:C≤3) (hN:10≤N) (d c:Int) (L:LI) (K:Out→St→DN) :
  DY (HO N) (DK JO [1,1,1,1,1,0,1,0,0]) pV N (aY s W C 0 d c 0 0 0 L) K=K (.exit 0) (aY s W C C d c (LN LS C 0) (LN LS C 1) (LN LS C 2) L):=by
 obtain ⟨M,rfl⟩:∃ M,N=M+4:=⟨N - 4,by omega⟩;obtain ⟨n,rfl⟩:∃ n:Nat,C=(n:Int):=⟨C.toNat,by omega⟩;subst hWe;have e0:aY s (E0 (LS.drop 1)) (n:Int) 0 d c 0 0 0 L=aY s (E0 (LS.drop 1)) (n:Int) ((0:Nat):Int) d c 0 0 0 L:=rfl;rw [e0]
 match n,h3 with
 | 0,_=>
  rw [D5,gX,AL (show ¬ ((0:Nat):Int) < ((0:Nat):Int) by omega),DJ];rfl
 | 1,_=>
  rw [D5,Y9 (M+4) s _ hW _ 0 (by omega) (by omega),D5,gX,AL (show ¬ ((0+1:Nat):Int) < ((1:Nat):Int) by omega),DJ];rfl
 | 2,_=>
  rw [D5,Y9 (M+4) s _ hW _ 0 (by omega) (by omega),D5,Y9 (M+4) s _ hW _ 1 (by omega) (by omega),D5,gX,AL (show ¬ ((1+1:Nat):Int) < ((2:Nat):Int) by omega),DJ];rfl
 | 3,_=>
  rw [D5,Y9 (M+4) s _ hW _ 0 (by omega) (by omega),D5,Y9 (M+4) s _ hW _ 1 (by omega) (by omega),D5,Y9 (M+4) s _ hW _ 2 (by omega) (by omega),D5,gX,AL (show ¬ ((2+1:Nat):Int) < ((3:Nat):Int) by omega),DJ];rfl
 | n+4,h3=>exact absurd h3 (by omega)
abbrev vJ (s:BA) (d c b0 b1 b2:Int) (L T:LI) (cl k j:Int) (NL:LI):St:=
 ⟨[(0,(.str s)),(2,(.ptr 2 0 0)),(3,(.bool false)),(4,(.ptr 15 0 0)),(6,(.ptr 6 0 0)),(10,(.ptr 10 0 0)),(61,(.int .i64 k)),(62,(.int .i64 j))],[(2,(some (.box [(.int .i64 0),(.int .i64 0),(.int .i64 0),(.int .i64 0),(.int .i64 0),.zs]))),(6,(some (.box [(.int .i64 d),(.int .i64 c),(.int .i64 b0),(.int .i64 b1),(.int .i64 b2),(.row 500 0 T.length)]))),(10,(some (.box [(.int .i64 cl),(.row 501 0 NL.length)]))),(15,(some (.box [(.list false [.str] L)]))),(500,(some (.row true 88 true [.z,(.list false [(.int .u64)])] T))),(501,(some (.row true 103 false [(.int .u64)] NL)))]⟩
theorem zgw (L:LI) (j:Nat):M3 L (j+1)=M3 L j++[.int (I1 (NW (E0 (L.drop j))))]:=by
 unfold M3;rw [List.range_succ,List.map_append];rfl
theorem gH (L:LI) (j:Nat):(M3 L j).length=j:=by
 unfold M3;rw [BE,List.length_range]
theorem Fk (N:Nat) (s:BA) (d c b0 b1 b2:Int) (T L:LI) (hL:KO L=true) (cl:Int) (k:Nat) (hk:k≤31) (K:Out→St→DN):∀ (m j n:Nat),j+m=k→m < n →
  DY (HO N) (DK JO [1,1,1,1,1,1,0,0,0,1,0,1,1,0,1,0,0]) Db n (vJ s d c b0 b1 b2 (L.drop j) T cl (k:Int) (j:Int) (M3 L j)) K =
   K (.exit 4) (vJ s d c b0 b1 b2 (L.drop k) T cl (k:Int) (k:Int) (M3 L k))
 | m,j,0,_,h=>absurd h (by omega)
 | 0,j,n+1,hd,_=>by
  have hj:j=k:=by omega
  subst hj;rw [D5,Nn,AL (show ¬ (j:Int) < (j:Int) by omega),DJ]
 | m+1,j,n+1,hd,hn=>by
  have ej:AA AB ((j:Int)+1)=((j+1:Nat):Int):=by
   rw [EL (by omega) (by omega)];omega
  have eb:TI.bytes (Env.tyd (HO N) 103)=8:=rfl;have e1:∀ x:IV,AF (AS 0 (AK 1 [x]))=1:=fun x=>rfl
  have e2:∀ x:IV,AS 0 (AK 1 [x])=[x]:=fun x=>rfl
  rw [D5,Nn,ej,eb,e1,e2,AD (show (j:Int) < (k:Int) by omega),DI,XZ hL j,DI,gH,AD (show (j+1)*8≤EE by unfold EE; omega),DI];have e3:AK j (M3 L j)=M3 L j:=CV (by rw [gH]; omega);rw [e3,← zgw,List.drop_drop];have ih:=Fk N s d c b0 b1 b2 T L hL cl k hk K m (j+1) n (by omega) (by omega);unfold vJ at ih ⊢;rw [gH] at ih;exact ih
abbrev mX (s:BA) (d c b0 b1 b2:Int) (L T:LI):St:=
 ⟨[(0,(.str s)),(2,(.ptr 2 0 0)),(3,(.bool false)),(4,(.ptr 15 0 0)),(6,(.ptr 6 0 0))],[(2,(some (.box [(.int .i64 0),(.int .i64 0),(.int .i64 0),(.int .i64 0),(.int .i64 0),.zs]))),(6,(some (.box [(.int .i64 d),(.int .i64 c),(.int .i64 b0),(.int .i64 b1),(.int .i64 b2),(.row 500 0 T.length)]))),(15,(some (.box [(.list false [.str] L)]))),(500,(some (.row true 88 true [.z,(.list false [(.int .u64)])] T)))]⟩
theorem Pd (N:Nat) (hN:40≤N) (s:BA) (d c b0 b1 b2:Int) (K:Out→St→DN):∀ (m n:Nat) (L T:LI),KO L=true→T.length+m=9→m < n →
  ∃ L',DY (HO N) (DK JO [1,1,1,1,1,1,0,0,0]) kG n (mX s d c b0 b1 b2 L T) K=K (.exit 2) (mX s d c b0 b1 b2 L' (T++LO m L))
 | m,0,L,T,_,_,h=>absurd h (by omega)
 | m,n+1,[],T,hL,hT,hn=>by
  refine ⟨[],?_⟩;have e:LO m []=[]:=by cases m <;> rfl
  rw [D5,uJ,AL (show ¬ ic (AF ([]:LI)) > 0 by decide),DJ,e,DB]
 | 0,n+1,l :: L,T,hL,hT,hn=>by
  refine ⟨l :: L,?_⟩;rw [D5,uJ,AD (show ic (AF (l :: L)) > 0 by simp only [ic,AM]; omega),DI,AL (show ¬ ic (T.length - 0)≤8 by simp only [ic]; omega),DJ];show K (.exit 2) _=K (.exit 2) (mX s d c b0 b1 b2 (l :: L) (T++[]));rw [DB]
 | m+1,n+1,l :: L,T,hL,hT,hn=>by
  obtain ⟨k0,k1⟩:=zZ (DW (E0 (l :: L)) 2) (most:=31) (by omega);have hk:FN (DW (E0 (l :: L)) 2) 31=((M2 (l :: L):Nat):Int):=by unfold M2; omega
  have hLd:=XZ hL 1;have hk31:M2 (l :: L)≤31:=by unfold M2; omega
  have e2:AE 2=2:=rfl;have e1:AE 1=1:=rfl;rw [D5,uJ,AD (show ic (AF (l :: L)) > 0 by simp only [ic,AM]; omega),DI,AD (show ic (T.length - 0)≤8 by simp only [ic]; omega),DI,hL,DI,e2,e1,hk];have run:=Fk N s d c b0 b1 b2 T (AS 1 (l :: L)) hLd (FN (DW (E0 (l :: L)) 1) 3) (M2 (l :: L)) hk31
   (DQ 4 (DS (HO N) (DK JO [1,1,1,1,1,1,0,0,0,1,0,1,1,1]) (DQ 3 (EQ (fun s'=>DY (HO N) (DK JO [1,1,1,1,1,1,0,0,0]) kG n s' K) kG K)))) (M2 (l :: L)) 0 N (by omega) (by omega)
  have eb:TI.bytes (Env.tyd (HO N) 88)=32:=rfl;have e3:∀ x:IV,AF (AS 0 (AK 1 [x]))=1:=fun x=>rfl
  have e4:∀ x:IV,AS 0 (AK 1 [x])=[x]:=fun x=>rfl
  rw [Zw,eb,e3,e4,AD (show (T.length+1)*32≤EE by unfold EE; omega),DI,gH] at run;have e5:AK T.length T=T:=CV (AZ _);have e6:AS 0 (AK (M2 (l :: L)) (M3 (AS 1 (l :: L)) (M2 (l :: L))))=M3 (AS 1 (l :: L)) (M2 (l :: L)):=by
   rw [B2,CV (by rw [gH]; omega)]
  rw [e5,e6] at run;obtain ⟨L',hL'⟩:=Pd N hN s d c b0 b1 b2 K m n (AS (M2 (l :: L)) (AS 1 (l :: L))) (T++[aD (l :: L)]) (XZ hLd _) (by rw [AT,AM,A7]; omega) (by omega);refine ⟨L',?_⟩;have e7:T++LO (m+1) (l :: L)=T++[aD (l :: L)]++LO m (AS (M2 (l :: L)) (AS 1 (l :: L))):=by
   rw [vaH];rfl
  rw [e7,← hL'];refine Eq.trans ?_ (run.trans ?_)
  ·rfl
  ·have e8:(T++[aD (l :: L)]).length=T.length+1:=by rw [AT]; rfl
   unfold mX;rw [e8];rfl
set_option maxHeartbeats 1000000 in
theorem tY:DX PR B0 19 ST:=by
 refine D6 [(46,NF),(47,SS),(20,N9),(49,WZ),(48,W0),(52,dV),(51,W1),(50,W2)] [(6,pV),(10,kG),(14,Db)] ST [[.z,.z,.z,.z,.z,.list true [.z,.list false [.int .u64]]],[.bool]] Tryz.func19 zce ⟨aP,tX,gT,Lg,Lh,ziC,Li,Lj,trivial⟩ ?_;intro vs r hwf h;unfold ST at h;split at h
 ·rename_i s;cases hc:decide (s.size < 4294967281) with
  | false=>rw [hc] at h; simp [R.get] at h
  | true=>
   rw [hc,R.get_br,DI,R.get_ok] at h;have hs:=of_decide_eq_true hc;refine ⟨40,?_⟩;rw [← h];refine (ze4 40 s).trans ?_;have hok:=zc7 hs;have e0:List.map IV.str (D2 (GH s { data:=#[10] }) { data:=#[10] })=U9 s:=rfl;have e1:decide (1≤ByteArray.size { data:=#[10] })=true:=rfl;have ts:=aT s PX;have e2:Int.toNat 2=2:=rfl;have e3:Int.toNat 1=1:=rfl;rw [e0,e1,e2,e3,decide_eq_true (show ByteArray.size (GH s { data:=#[10] }) < 4294967281 from Nat.lt_of_le_of_lt ts hs),Bool.and_self,DI,hok,DI,XZ hok 1,DI];generalize hLS:U9 s=LS at hok ⊢;obtain ⟨c0,c3⟩:=zZ (DW (E0 LS) 2) (most:=3) (by omega);refine (Us 40 s LS (E0 (LS.drop 1)) rfl (qQ (XZ hok 1)) (FN (DW (E0 LS) 2) 3) c0 c3 (by omega) (FN (DW (E0 LS) 1) 4) (FN (DW (E0 LS) 2) 3) (List.drop 1 (List.drop 1 LS)) _).trans ?_;rw [Zu];obtain ⟨L',hL'⟩:=Pd 40 (by omega) s (FN (DW (E0 LS) 1) 4) (FN (DW (E0 LS) 2) 3) (LN LS (FN (DW (E0 LS) 2) 3) 0) (LN LS (FN (DW (E0 LS) 2) 3) 1) (LN LS (FN (DW (E0 LS) 2) 3) 2)
    (DQ 2 (DS (HO 40) (DK JO [1,1,1,1,1,1,1]) (DT (HO 40) none [(ResultVar.cell 2 30),(ResultVar.tmp 3)] [[.z,.z,.z,.z,.z,(.list true [.z,(.list false [(.int .u64)])])],[.bool]])))
    9 40 (List.drop 1 (List.drop 1 LS)) [] (XZ (XZ hok 1) 1) rfl (by omega)
   refine hL'.trans ?_;rw [Zv];have e4:([]:LI)++LO 9 (List.drop 1 (List.drop 1 LS))=LO 9 (LS.drop 2):=by
    rw [List.nil_append,List.drop_drop]
   have e5:List.drop 0 (List.take (([]:LI)++LO 9 (List.drop 1 (List.drop 1 LS))).length (([]:LI)++LO 9 (List.drop 1 (List.drop 1 LS))))=LO 9 (LS.drop 2):=by
    rw [List.drop_zero,List.take_of_length_le (Nat.le_refl _),e4]
   rw [e5];have e6:(⟨FN (DW (E0 LS) 1) 4,FN (DW (E0 LS) 2) 3,LN LS (FN (DW (E0 LS) 2) 3) 0,LN LS (FN (DW (E0 LS) 2) 3) 1,LN LS (FN (DW (E0 LS) 2) 3) 2,LO 9 (LS.drop 2)⟩:Md)=ZG s:=by
    unfold ZG;rw [hLS];rfl
   unfold FS K6;rw [← e6];cases (ByteArray.toList s==ByteArray.toList YO) with
   | true=>rfl
   | false=>
    rw [DJ,Bool.not_false,Bool.true_and];cases (ByteArray.toList (EK ⟨FN (DW (E0 LS) 1) 4,FN (DW (E0 LS) 2) 3,LN LS (FN (DW (E0 LS) 2) 3) 0,LN LS (FN (DW (E0 LS) 2) 3) 1,LN LS (FN (DW (E0 LS) 2) 3) 2,LO 9 (LS.drop 2)⟩)==ByteArray.toList s) <;> rfl
 ·simp [R.get] at h
open Go Go.Proofs
def Qn (N:Nat):Env:=D4 [] [] 39 N
theorem zdt (N:Nat) (u04 u01 u06 u05 u08 u07 u0a u09 u0c u0b u0e u0d q_Lo q_Hi u03:Int) (u02:Bool) (u00 dim:Int):DZ (Qn N) w8 [.cell 4 38] [[.z,.z,.z,.z,.z,.z,.z,.z,.z,.z,.z,.z,.z,.z,.z,.bool,.z]] [.agg [.i u04,.i u01,.i u06,.i u05,.i u08,.i u07,.i u0a,.i u09,.i u0c,.i u0b,.i u0e,.i u0d,.i q_Lo,.i q_Hi,.i u03,.bool u02,.i u00],.i dim]=(cond (decide (0≤dim)&&decide (dim≤ic 5)) (cond (decide (0≤dim)&&decide (dim≤ic 5)) (cond (decide (ic (min (AE dim) (AE dim))=ic 0)) (cond (u04==1) (some ((.agg [.i u04,.i u01,.i 0,.i 0,.i 0,.i 0,.i 0,.i 0,.i 0,.i 0,.i 0,.i 0,.i q_Lo,.i q_Hi,.i 0,.bool false,.i u00]),[])) (cond (u04==3) (some ((.agg [.i u04,.i u01,.i 0,.i 0,.i 0,.i 0,.i 0,.i 0,.i 0,.i 0,.i 0,.i 0,.i 0,.i 0,.i u03,.bool u02,.i u00]),[])) (some ((.agg [.i u04,.i u01,.i 0,.i 0,.i 0,.i 0,.i 0,.i 0,.i 0,.i 0,.i 0,.i 0,.i 0,.i 0,.i 0,.bool false,.i u00]),[])))) (cond (decide (ic (min (AE dim) (AE dim))=ic 1)) (cond (u04==1) (some ((.agg [.i u04,.i u01,.i u06,.i u05,.i 0,.i 0,.i 0,.i 0,.i 0,.i 0,.i 0,.i 0,.i q_Lo,.i q_Hi,.i 0,.bool false,.i u00]),[])) (cond (u04==3) (some ((.agg [.i u04,.i u01,.i u06,.i u05,.i 0,.i 0,.i 0,.i 0,.i 0,.i 0,.i 0,.i 0,.i 0,.i 0,.i u03,.bool u02,.i u00]),[])) (some ((.agg [.i u04,.i u01,.i u06,.i u05,.i 0,.i 0,.i 0,.i 0,.i 0,.i 0,.i 0,.i 0,.i 0,.i 0,.i 0,.bool false,.i u00]),[])))) (cond (decide (ic (min (AE dim) (AE dim))=ic 2)) (cond (u04==1) (some ((.agg [.i u04,.i u01,.i u06,.i u05,.i u08,.i u07,.i 0,.i 0,.i 0,.i 0,.i 0,.i 0,.i q_Lo,.i q_Hi,.i 0,.bool false,.i u00]),[])) (cond (u04==3) (some ((.agg [.i u04,.i u01,.i u06,.i u05,.i u08,.i u07,.i 0,.i 0,.i 0,.i 0,.i 0,.i 0,.i 0,.i 0,.i u03,.bool u02,.i u00]),[])) (some ((.agg [.i u04,.i u01,.i u06,.i u05,.i u08,.i u07,.i 0,.i 0,.i 0,.i 0,.i 0,.i 0,.i 0,.i 0,.i 0,.bool false,.i u00]),[])))) (cond (decide (ic (min (AE dim) (AE dim))=ic 3)) (cond (u04==1) (some ((.agg [.i u04,.i u01,.i u06,.i u05,.i u08,.i u07,.i u0a,.i u09,.i 0,.i 0,.i 0,.i 0,.i q_Lo,.i q_Hi,.i 0,.bool false,.i u00]),[])) (cond (u04==3) (some ((.agg [.i u04,.i u01,.i u06,.i u05,.i u08,.i u07,.i u0a,.i u09,.i 0,.i 0,.i 0,.i 0,.i 0,.i 0,.i u03,.bool u02,.i u00]),[])) (some ((.agg [.i u04,.i u01,.i u06,.i u05,.i u08,.i u07,.i u0a,.i u09,.i 0,.i 0,.i 0,.i 0,.i 0,.i 0,.i 0,.bool false,.i u00]),[])))) (cond (decide (ic (min (AE dim) (AE dim))=ic 4)) (cond (u04==1) (some ((.agg [.i u04,.i u01,.i u06,.i u05,.i u08,.i u07,.i u0a,.i u09,.i u0c,.i u0b,.i 0,.i 0,.i q_Lo,.i q_Hi,.i 0,.bool false,.i u00]),[])) (cond (u04==3) (some ((.agg [.i u04,.i u01,.i u06,.i u05,.i u08,.i u07,.i u0a,.i u09,.i u0c,.i u0b,.i 0,.i 0,.i 0,.i 0,.i u03,.bool u02,.i u00]),[])) (some ((.agg [.i u04,.i u01,.i u06,.i u05,.i u08,.i u07,.i u0a,.i u09,.i u0c,.i u0b,.i 0,.i 0,.i 0,.i 0,.i 0,.bool false,.i u00]),[])))) (cond (decide (ic (min (AE dim) (AE dim))=ic 5)) (cond (u04==1) (some ((.agg [.i u04,.i u01,.i u06,.i u05,.i u08,.i u07,.i u0a,.i u09,.i u0c,.i u0b,.i u0e,.i u0d,.i q_Lo,.i q_Hi,.i 0,.bool false,.i u00]),[])) (cond (u04==3) (some ((.agg [.i u04,.i u01,.i u06,.i u05,.i u08,.i u07,.i u0a,.i u09,.i u0c,.i u0b,.i u0e,.i u0d,.i 0,.i 0,.i u03,.bool u02,.i u00]),[])) (some ((.agg [.i u04,.i u01,.i u06,.i u05,.i u08,.i u07,.i u0a,.i u09,.i u0c,.i u0b,.i u0e,.i u0d,.i 0,.i 0,.i 0,.bool false,.i u00]),[])))) none)))))) none) none):=by kernel_rfl
def Qm (N:Nat):Env:=D4 [] [] 9 N
theorem zds (N:Nat) (n:Int):DZ (Qm N) wZ [.tmp 2] [[.bool]] [.i n]=(cond (decide (n≥0)) (some ((.bool (decide (n≤1073741824))),[])) (some ((.bool false),[]))):=by kernel_rfl
def Qk (N:Nat):Env:=D4 [(90,RC)] [] 11 N
theorem zdp (N:Nat) (s:BA):DZ (Qk N) wW [.tmp 2] [[.z]] [.str s]=(some ((.i (FJ s)),[])):=by kernel_rfl
def Ql (N:Nat):Env:=D4 [(91,WO)] [] 11 N
theorem zdr (N:Nat) (s:BA):DZ (Ql N) wY [.tmp 2] [[.z]] [.str s]=(cond (decide (AG s < 4294967281)) (some ((.i (GC s)),[])) none):=by kernel_rfl
def RB (N:Nat):Env:=D4 [] [(2,⟨[0,1,4,7,8],[],[]⟩)] 19 N
abbrev WC (l0:LI) (s1:BA) (x4 x7 x8:Int):St:=⟨[(0,(.list false [.str] l0)),(1,(.str s1)),(4,(.i x4)),(7,(.i x7)),(8,(.i x8))],[]⟩
theorem zeX (N:Nat) (s:LI) (v:BA):DZ (RB N) U1 [.tmp 4] [[.z]] [.list false [.str] s,.str v]=(DY (RB N) (DK U1 [1,0,1,0,0]) ⟨[0,1,4,7,8],[],[]⟩ N (WC s v 0 (ic (AF s)) 0) (DQ 0 (DS (RB N) (DK U1 [1,1]) (DT (RB N) none [.tmp 4] [[.z]])))):=by kernel_rfl
theorem Nm (N:Nat) (l0:LI) (s1:BA) (x4 x7 x8:Int) (again:St→DN) (k:Out→St→DN):E2 (RB N) (DK U1 [1,0,1,0,0]) (WC l0 s1 x4 x7 x8) (EQ again ⟨[0,1,4,7,8],[],[]⟩ k)=(cond (decide (x8 < x7)) (cond (decide (0≤x8)&&decide (x8 < ic (AF l0))) (cond (AW s1==AW (IV.toStr (AI l0 (AE x8) default))) (k .ret (WC l0 s1 x8 x7 x8)) (again (WC l0 s1 x4 x7 (AA AB (x8+1))))) none) (k (.exit 0) (WC l0 s1 x4 x7 x8))):=by kernel_rfl
theorem Zs (N:Nat) (l0:LI) (s1:BA) (x4 x7 x8:Int):(DQ 0 (DS (RB N) (DK U1 [1,1]) (DT (RB N) none [.tmp 4] [[.z]]))) (.exit 0) (WC l0 s1 x4 x7 x8)=(some ((.i (-1)),[])):=by kernel_rfl
theorem Zt (N:Nat) (l0:LI) (s1:BA) (x4 x7 x8:Int):(DQ 0 (DS (RB N) (DK U1 [1,1]) (DT (RB N) none [.tmp 4] [[.z]]))) .ret (WC l0 s1 x4 x7 x8)=(some ((.i x4),[])):=by kernel_rfl
def m6 (N:Nat):Env:=D4 [(121,WH),(120,WI),(161,iI)] [] 46 N
theorem zdq (N:Nat) (l:LI):DZ (m6 N) wX [.cell 2 38] [[.z,.z,.z,.z,.z,.z,.z,.z,.z,.z,.z,.z,.z,.z,.z,.bool,.z]] [.list false [.str] l]=(cond (decide (AF l≤4294967296)) (cond (decide ((AF l+AF (BN (AE 6) (IV.str {data:=#[]})))*TI.bytes (Env.tyd (m6 N) 9)≤EE)) (cond (decide (0≤1)&&decide (1 < ic (AF l+AF (BN (AE 6) (IV.str {data:=#[]})) - 0))) (cond (decide (0≤0)&&decide (0 < ic (AF l+AF (BN (AE 6) (IV.str {data:=#[]})) - 0))) (cond (AW (IV.toStr (AI (AK (AF l) l++BN (AE 6) (IV.str {data:=#[]})) 0 default))==AW {data:=#[114,97,110,103,101]}) (cond (decide (0≤3)&&decide (3 < ic (AF l+AF (BN (AE 6) (IV.str {data:=#[]})) - 0))) (cond (decide (AG (IV.toStr (AI (AK (AF l) l++BN (AE 6) (IV.str {data:=#[]})) 3 default)) < 4294967281)) (cond (decide (0≤5)&&decide (5 < ic (AF l+AF (BN (AE 6) (IV.str {data:=#[]})) - 0))) (cond (decide (AG (IV.toStr (AI (AK (AF l) l++BN (AE 6) (IV.str {data:=#[]})) 5 default)) < 4294967281)) (some ((.agg [.i 1,(.i (FJ (IV.toStr (AI (AK (AF l) l++BN (AE 6) (IV.str {data:=#[]})) 1 default)))),.i 0,.i 0,.i 0,.i 0,.i 0,.i 0,.i 0,.i 0,.i 0,.i 0,(.i (GC (IV.toStr (AI (AK (AF l) l++BN (AE 6) (IV.str {data:=#[]})) 3 default)))),(.i (GC (IV.toStr (AI (AK (AF l) l++BN (AE 6) (IV.str {data:=#[]})) 5 default)))),.i 0,.bool false,.i 0]),[])) none) none) none) none) (cond (AW (IV.toStr (AI (AK (AF l) l++BN (AE 6) (IV.str {data:=#[]})) 0 default))==AW {data:=#[98,101,115,116]}) (some ((.agg [.i 2,(.i (FJ (IV.toStr (AI (AK (AF l) l++BN (AE 6) (IV.str {data:=#[]})) 1 default)))),.i 0,.i 0,.i 0,.i 0,.i 0,.i 0,.i 0,.i 0,.i 0,.i 0,.i 0,.i 0,.i 0,.bool false,.i 0]),[])) (cond (AW (IV.toStr (AI (AK (AF l) l++BN (AE 6) (IV.str {data:=#[]})) 0 default))==AW {data:=#[114,105,115,101,115]}) (cond (decide (0≤3)&&decide (3 < ic (AF l+AF (BN (AE 6) (IV.str {data:=#[]})) - 0))) (cond (decide (0≤0)&&decide (0 < ic (AF l+AF (BN (AE 6) (IV.str {data:=#[]})) - 0))) (some ((.agg [.i 3,(.i (FJ (IV.toStr (AI (AK (AF l) l++BN (AE 6) (IV.str {data:=#[]})) 1 default)))),.i 0,.i 0,.i 0,.i 0,.i 0,.i 0,.i 0,.i 0,.i 0,.i 0,.i 0,.i 0,(.i (FJ (IV.toStr (AI (AK (AF l) l++BN (AE 6) (IV.str {data:=#[]})) 3 default)))),(.bool (AW (IV.toStr (AI (AK (AF l) l++BN (AE 6) (IV.str {data:=#[]})) 0 default))==AW {data:=#[102,97,108,108,115]})),.i 0]),[])) none) none) (cond (AW (IV.toStr (AI (AK (AF l) l++BN (AE 6) (IV.str {data:=#[]})) 0 default))==AW {data:=#[102,97,108,108,115]}) (cond (decide (0≤3)&&decide (3 < ic (AF l+AF (BN (AE 6) (IV.str {data:=#[]})) - 0))) (cond (decide (0≤0)&&decide (0 < ic (AF l+AF (BN (AE 6) (IV.str {data:=#[]})) - 0))) (some ((.agg [.i 3,(.i (FJ (IV.toStr (AI (AK (AF l) l++BN (AE 6) (IV.str {data:=#[]})) 1 default)))),.i 0,.i 0,.i 0,.i 0,.i 0,.i 0,.i 0,.i 0,.i 0,.i 0,.i 0,.i 0,(.i (FJ (IV.toStr (AI (AK (AF l) l++BN (AE 6) (IV.str {data:=#[]})) 3 default)))),(.bool (AW (IV.toStr (AI (AK (AF l) l++BN (AE 6) (IV.str {data:=#[]})) 0 default))==AW {data:=#[102,97,108,108,115]})),.i 0]),[])) none) none) (some ((.agg [.i 0,(.i (FJ (IV.toStr (AI (AK (AF l) l++BN (AE 6) (IV.str {data:=#[]})) 1 default)))),.i 0,.i 0,.i 0,.i 0,.i 0,.i 0,.i 0,.i 0,.i 0,.i 0,.i 0,.i 0,.i 0,.bool false,.i 0]),[])))))) none) none) none) none):=by kernel_rfl
open Go Go.Proofs
theorem zhn:DX PR B0 42 bL:=by
 refine D6 [] [] bL [[.bool]] Tryz.func42 zaA trivial ?_;intro vs r hwf h;unfold bL at h;split at h
 ·rename_i n;refine ⟨0,?_⟩;rw [← h];refine (zds 0 n).trans ?_;simp only [R.get_ok];unfold KB
  have:decide (n≥0)=decide (0≤n):=rfl
  rw [this];cases decide (0≤n) <;> rfl
 ·simp [R.get] at h
theorem Kh:DX PR B0 121 WH:=by
 refine D6 [(90,RC)] [] WH [[.z]] Tryz.func121 zax ⟨lZ,trivial⟩ ?_;intro vs r hwf h;unfold WH at h;split at h
 ·rename_i s;refine ⟨0,?_⟩;rw [← h];exact zdp 0 s
 ·simp [R.get] at h
theorem Ki:DX PR B0 120 WI:=by
 refine D6 [(91,WO)] [] WI [[.z]] Tryz.func120 zaz ⟨Ko,trivial⟩ ?_;intro vs r hwf h;unfold WI at h;split at h
 ·rename_i s;refine ⟨0,?_⟩;rw [← h];refine (zdr 0 s).trans ?_;simp only [R.get_br,R.get_ok,R.get_no]
 ·simp [R.get] at h
theorem zho:DX PR B0 41 bM:=by
 refine D6 [] [] bM [[.z,.z,.z,.z,.z,.z,.z,.z,.z,.z,.z,.z,.z,.z,.z,.bool,.z]] Tryz.func41 zaB trivial ?_;intro vs r hwf h;unfold bM at h;split at h
 ·rename_i k c a0 b0 a1 b1 a2 b2 a3 b3 a4 b4 lo hi ft fl bu d;refine ⟨0,?_⟩;cases hc:(decide (0≤d)&&decide (d≤5)) with
  | false=>rw [hc] at h; simp [R.get] at h
  | true=>
   rw [hc,R.get_br,DI,R.get_ok] at h;rw [← h];refine (zdt 0 k c a0 b0 a1 b1 a2 b2 a3 b3 a4 b4 lo hi ft fl bu d).trans ?_;have e5:(decide (0≤d)&&decide (d≤ic 5))=true:=hc;rw [e5,DI,DI];simp only [AH,AQ] at hc;obtain ⟨n,rfl⟩:∃ n:Nat,d=n:=⟨d.toNat,by omega⟩;simp only [BF,Nat.min_self];unfold FX;have hn:n=0∨n=1∨n=2∨n=3∨n=4∨n=5:=by omega
   have h13:(k==1)=true→(k==3)=false:=fun h1=>by
    rw [UN] at h1 ⊢
    have:=A1 h1
    exact AL (by omega)
   generalize (k==1)=e1 at h13 ⊢;generalize (k==3)=e3 at h13 ⊢;rcases hn with rfl | rfl | rfl | rfl | rfl | rfl <;> cases e1 <;> cases e3 <;> first | rfl | exact absurd (h13 rfl) (by decide)
 ·simp [R.get] at h
theorem Cq (N:Nat) (l:LI) (s:BA) (hl:l.length≤strMax) (K:Out→St→DN)
  (hx:∀ l0 s1 x4 x7 x8,K (.exit 0) ⟨[(0,(.list false [.str] l0)),(1,(.str s1)),(4,(.int .i64 x4)),(7,(.int .i64 x7)),(8,(.int .i64 x8))],[]⟩=some (.int .i64 (-1),[]))
  (hr:∀ l0 s1 x4 x7 x8,K .ret ⟨[(0,(.list false [.str] l0)),(1,(.str s1)),(4,(.int .i64 x4)),(7,(.int .i64 x7)),(8,(.int .i64 x8))],[]⟩=some (.int .i64 x4,[])) :
  ∀ (d i n:Nat) (x4:Int),i+d=l.length→d < n →
   DY (RB N) (DK U1 [1,0,1,0,0]) ⟨[0,1,4,7,8],[],[]⟩ n ⟨[(0,(.list false [.str] l)),(1,(.str s)),(4,(.int .i64 x4)),(7,(.int .i64 (ic l.length))),(8,(.int .i64 (i:Int)))],[]⟩ K=some (.int .i64 (F2 (l.drop i) s (i:Int)),[])
 | 0,i,n+1,x4,hd,hn=>by
  rw [D5,Nm,I5 (by omega),DJ,hx,CS (by omega)];rfl
 | d+1,i,n+1,x4,hd,hn=>by
  have hi:i < l.length:=by omega
  unfold strMax at hl;have ih:=Cq N l s (by unfold strMax; omega) K hx hr d (i+1) n x4 (by omega) (by omega);rw [D5,Nm,HA hi,IL,B1,DI,DI,H8 hi,HD (by omega),BG hi];unfold F2;cases (AW s==AW (IV.toStr l[i])) with
  | true=>rw [DI,DI,hr]
  | false=>
   rw [DJ,DJ,ih];rfl
 | _,_,0,_,_,h=>by omega
theorem ziu:DX PR B0 118 dS:=by
 refine D6 [] [(2,⟨[0,1,4,7,8],[],[]⟩)] dS [[.z]] Tryz.func118 zb7 trivial ?_;intro vs r hwf h;unfold dS at h;split at h
 ·rename_i l s;refine ⟨l.length+1,?_⟩;rw [← h];refine (zeX (l.length+1) l s).trans ?_;simp only [R.get_ok];have hl:=(hwf (by simp [MD])).1;simp only [SA,wfL] at hl
  have:=Cq (l.length+1) l s hl.1 _ (fun l0 s1 x4 x7 x8=>Zs (l.length+1) l0 s1 x4 x7 x8) (fun l0 s1 x4 x7 x8=>Zt (l.length+1) l0 s1 x4 x7 x8) l.length 0 (l.length+1) 0 (by omega) (by omega)
  rw [B2] at this;exact this
 ·simp [R.get] at h
theorem zfX (l:LI) (i m:Nat) (x:IV) (hx:x.toStr=CI):IV.toStr (AI (l++BN m x) i default)=DW l i:=by
 unfold DW;by_cases h:i < l.length
 ·simp [AI,vaf,h]
 ·have e0:(AI l i default).toStr=CI:=by simp [AI,h]; rfl
  rw [e0];by_cases h6:i - l.length < m
  ·have e:AI (l++BN m x) i default=x:=by simp [AI,vaf,h,h6]
   rw [e,hx]
  ·have e:AI (l++BN m x) i default=default:=by simp [AI,vaf,h,h6]
   rw [e];rfl
theorem zfY (l:LI) (i:Nat):IV.toStr (AI (AK (AF l) l++BN (AE 6) (IV.str { data:=#[] })) i default)=DW l i:=by
 rw [BO];exact zfX l i _ _ rfl
theorem zhm:DX PR B0 119 bK:=by
 refine D6 [(121,WH),(120,WI),(161,iI)] [] bK [[.z,.z,.z,.z,.z,.z,.z,.z,.z,.z,.z,.z,.z,.z,.z,.bool,.z]] Tryz.func119 zay
  ⟨Kh,Ki,zir,trivial⟩ ?_
 intro vs r hwf h;unfold bK at h;split at h
 ·rename_i l;refine ⟨0,?_⟩;cases hc:(decide (l.length≤4294967290)&&l.all (fun x=>decide (x.toStr.size < 4294967281))) with
  | false=>rw [hc] at h; simp [R.get] at h
  | true=>
   rw [hc,R.get_br,DI,R.get_ok] at h;rw [← h];refine (zdq 0 l).trans ?_;simp only [AH,AQ,CQ] at hc;obtain ⟨hl,hz⟩:=hc;have hw:∀ i,(DW l i).size < 4294967281:=fun i=>by
    unfold DW;by_cases hi:i < l.length
    ·have:AI l i default=l[i]:=by simp [hi]
     rw [this];exact hz _ (C1 hi)
    ·have:AI l i default=default:=by simp [AI,hi]
     rw [this];decide
   have hb:TI.bytes (Env.tyd (m6 0) 9)=16:=by rfl
   have hr6:(BN (AE 6) (IV.str { data:=#[] })).length=6:=rfl;simp only [zfY];rw [hb,hr6];have ge:∀ k:Nat,k < 6→decide ((k:Int) < ic (AF l+6 - 0))=true:=fun k hk=>AD (by simp only [ic]; omega)
   have g0:=ge 0 (by omega);have g1:=ge 1 (by omega);have g3:=ge 3 (by omega);have g5:=ge 5 (by omega);rw [AD (show AF l≤4294967296 by omega),DI,AD (show (AF l+6)*16≤EE by unfold EE; omega),DI];have n0:decide ((0:Nat)≤0)=true:=rfl;have d1:(decide (0≤1)&&decide (1 < ic (AF l+6 - 0)))=true:=by simpa using g1
   have d0:(decide (0≤0)&&decide (0 < ic (AF l+6 - 0)))=true:=by simpa using g0
   have d3:(decide (0≤3)&&decide (3 < ic (AF l+6 - 0)))=true:=by simpa using g3
   have d5:(decide (0≤5)&&decide (5 < ic (AF l+6 - 0)))=true:=by simpa using g5
   rw [d1,d0,d3,d5,AD (hw 3),AD (hw 5)];simp only [DI];unfold EO;cases ((DW l 0).toList==NA.toList) with
   | true=>rfl
   | false=>
    cases ((DW l 0).toList==OR.toList) with
    | true=>rfl
    | false=>
     cases ((DW l 0).toList==NB.toList) <;> cases ((DW l 0).toList==MJ.toList) <;> rfl
 ·simp [R.get] at h
open Go Go.Proofs
def HI (N:Nat):Env:=D4 [(42,bL),(41,bM),(44,SQ),(43,O3),(45,Y3)] [(18,⟨[2,4,6,75,76,77],[2,500],[⟨.tmp 6,500,9,false,[.str]⟩]⟩)] 100 N
abbrev OU (s4:BA) (n6 n75:Nat) (x76 x77 u02 u03 u0a u0b u0c u0d u0e u0f u0g u0h u04 u05 u06 u07 u08:Int) (u00:Bool) (u09:Int) (u01:LI):St:=⟨[(2,(.ptr 2 0 0)),(4,(.str s4)),(6,(.row 500 0 n6)),(75,(.bview 2 2 5 2 n75)),(76,(.i x76)),(77,(.i x77))],[(2,(some (.box [.i u02,.i u03,.i u0a,.i u0b,.i u0c,.i u0d,.i u0e,.i u0f,.i u0g,.i u0h,.i u04,.i u05,.i u06,.i u07,.i u08,.bool u00,.i u09]))),(500,(some (.row true 9 false [.str] u01)))]⟩
theorem zdo (N:Nat) (u04 u01 u06 u05 u08 u07 u0a u09 u0c u0b u0e u0d q_Lo q_Hi u03:Int) (u02:Bool) (u00 a1:Int):DZ (HI N) L0 [.tmp 4] [[.str]] [.agg [.i u04,.i u01,.i u06,.i u05,.i u08,.i u07,.i u0a,.i u09,.i u0c,.i u0b,.i u0e,.i u0d,.i q_Lo,.i q_Hi,.i u03,.bool u02,.i u00],.i a1]=(cond (decide (a1 < 1)) (some ((.str ({data:=#[]})),[])) (cond (decide (a1 > 4)) (some ((.str ({data:=#[]})),[])) (cond (decide (0≤a1)&&decide (a1≤5)) (cond (! (u04==Qy.k (FX {k:=u04,c:=u01,a0:=u06,b0:=u05,a1:=u08,b1:=u07,a2:=u0a,b2:=u09,a3:=u0c,b3:=u0b,a4:=u0e,b4:=u0d,lo:=q_Lo,hi:=q_Hi,ft:=u03,fl:=u02,bu:=u00} a1)&&(u01==Qy.c (FX {k:=u04,c:=u01,a0:=u06,b0:=u05,a1:=u08,b1:=u07,a2:=u0a,b2:=u09,a3:=u0c,b3:=u0b,a4:=u0e,b4:=u0d,lo:=q_Lo,hi:=q_Hi,ft:=u03,fl:=u02,bu:=u00} a1)&&(u06==Qy.a0 (FX {k:=u04,c:=u01,a0:=u06,b0:=u05,a1:=u08,b1:=u07,a2:=u0a,b2:=u09,a3:=u0c,b3:=u0b,a4:=u0e,b4:=u0d,lo:=q_Lo,hi:=q_Hi,ft:=u03,fl:=u02,bu:=u00} a1)&&(u05==Qy.b0 (FX {k:=u04,c:=u01,a0:=u06,b0:=u05,a1:=u08,b1:=u07,a2:=u0a,b2:=u09,a3:=u0c,b3:=u0b,a4:=u0e,b4:=u0d,lo:=q_Lo,hi:=q_Hi,ft:=u03,fl:=u02,bu:=u00} a1)&&(u08==Qy.a1 (FX {k:=u04,c:=u01,a0:=u06,b0:=u05,a1:=u08,b1:=u07,a2:=u0a,b2:=u09,a3:=u0c,b3:=u0b,a4:=u0e,b4:=u0d,lo:=q_Lo,hi:=q_Hi,ft:=u03,fl:=u02,bu:=u00} a1)&&(u07==Qy.b1 (FX {k:=u04,c:=u01,a0:=u06,b0:=u05,a1:=u08,b1:=u07,a2:=u0a,b2:=u09,a3:=u0c,b3:=u0b,a4:=u0e,b4:=u0d,lo:=q_Lo,hi:=q_Hi,ft:=u03,fl:=u02,bu:=u00} a1)&&(u0a==Qy.a2 (FX {k:=u04,c:=u01,a0:=u06,b0:=u05,a1:=u08,b1:=u07,a2:=u0a,b2:=u09,a3:=u0c,b3:=u0b,a4:=u0e,b4:=u0d,lo:=q_Lo,hi:=q_Hi,ft:=u03,fl:=u02,bu:=u00} a1)&&(u09==Qy.b2 (FX {k:=u04,c:=u01,a0:=u06,b0:=u05,a1:=u08,b1:=u07,a2:=u0a,b2:=u09,a3:=u0c,b3:=u0b,a4:=u0e,b4:=u0d,lo:=q_Lo,hi:=q_Hi,ft:=u03,fl:=u02,bu:=u00} a1)&&(u0c==Qy.a3 (FX {k:=u04,c:=u01,a0:=u06,b0:=u05,a1:=u08,b1:=u07,a2:=u0a,b2:=u09,a3:=u0c,b3:=u0b,a4:=u0e,b4:=u0d,lo:=q_Lo,hi:=q_Hi,ft:=u03,fl:=u02,bu:=u00} a1)&&(u0b==Qy.b3 (FX {k:=u04,c:=u01,a0:=u06,b0:=u05,a1:=u08,b1:=u07,a2:=u0a,b2:=u09,a3:=u0c,b3:=u0b,a4:=u0e,b4:=u0d,lo:=q_Lo,hi:=q_Hi,ft:=u03,fl:=u02,bu:=u00} a1)&&(u0e==Qy.a4 (FX {k:=u04,c:=u01,a0:=u06,b0:=u05,a1:=u08,b1:=u07,a2:=u0a,b2:=u09,a3:=u0c,b3:=u0b,a4:=u0e,b4:=u0d,lo:=q_Lo,hi:=q_Hi,ft:=u03,fl:=u02,bu:=u00} a1)&&(u0d==Qy.b4 (FX {k:=u04,c:=u01,a0:=u06,b0:=u05,a1:=u08,b1:=u07,a2:=u0a,b2:=u09,a3:=u0c,b3:=u0b,a4:=u0e,b4:=u0d,lo:=q_Lo,hi:=q_Hi,ft:=u03,fl:=u02,bu:=u00} a1)&&(q_Lo==Qy.lo (FX {k:=u04,c:=u01,a0:=u06,b0:=u05,a1:=u08,b1:=u07,a2:=u0a,b2:=u09,a3:=u0c,b3:=u0b,a4:=u0e,b4:=u0d,lo:=q_Lo,hi:=q_Hi,ft:=u03,fl:=u02,bu:=u00} a1)&&(q_Hi==Qy.hi (FX {k:=u04,c:=u01,a0:=u06,b0:=u05,a1:=u08,b1:=u07,a2:=u0a,b2:=u09,a3:=u0c,b3:=u0b,a4:=u0e,b4:=u0d,lo:=q_Lo,hi:=q_Hi,ft:=u03,fl:=u02,bu:=u00} a1)&&(u03==Qy.ft (FX {k:=u04,c:=u01,a0:=u06,b0:=u05,a1:=u08,b1:=u07,a2:=u0a,b2:=u09,a3:=u0c,b3:=u0b,a4:=u0e,b4:=u0d,lo:=q_Lo,hi:=q_Hi,ft:=u03,fl:=u02,bu:=u00} a1)&&(u02==Qy.fl (FX {k:=u04,c:=u01,a0:=u06,b0:=u05,a1:=u08,b1:=u07,a2:=u0a,b2:=u09,a3:=u0c,b3:=u0b,a4:=u0e,b4:=u0d,lo:=q_Lo,hi:=q_Hi,ft:=u03,fl:=u02,bu:=u00} a1)&&(u00==Qy.bu (FX {k:=u04,c:=u01,a0:=u06,b0:=u05,a1:=u08,b1:=u07,a2:=u0a,b2:=u09,a3:=u0c,b3:=u0b,a4:=u0e,b4:=u0d,lo:=q_Lo,hi:=q_Hi,ft:=u03,fl:=u02,bu:=u00} a1)&&true)))))))))))))))))) (some ((.str ({data:=#[]})),[])) (cond (!KB u01) (some ((.str ({data:=#[]})),[])) (cond (!KB u03) (some ((.str ({data:=#[]})),[])) (cond (!KB u00) (some ((.str ({data:=#[]})),[])) (cond (u04==1) (cond (decide (0≤a1)&&decide (a1≤ic 5)) (DY (HI N) (DK L0 [1,1,1,1,1,1,0,1,0,0]) ⟨[2,4,6,75,76,77],[2,500],[⟨(.tmp 6),500,9,false,[.str]⟩]⟩ N (OU ({data:=#[]}) 7 (AE a1) (ic (AE a1)) 0 u04 u01 u06 u05 u08 u07 u0a u09 u0c u0b u0e u0d q_Lo q_Hi u03 u02 u00 [(IV.str {data:=#[114,97,110,103,101]}),(IV.str (DP u01)),(IV.str {data:=#[102,114,111,109]}),(IV.str (DU q_Lo)),(IV.str {data:=#[116,111]}),(IV.str (DU q_Hi)),(IV.str {data:=#[105,110]})]) (DQ 1 (DS (HI N) (DK L0 [1,1,1,1,1,1,1]) (DT (HI N) none [.tmp 4] [[.str]])))) none) (cond (u04==2) (cond (decide (0≤a1)&&decide (a1≤ic 5)) (DY (HI N) (DK L0 [1,1,1,1,1,1,0,1,0,0]) ⟨[2,4,6,75,76,77],[2,500],[⟨(.tmp 6),500,9,false,[.str]⟩]⟩ N (OU ({data:=#[]}) 3 (AE a1) (ic (AE a1)) 0 u04 u01 u06 u05 u08 u07 u0a u09 u0c u0b u0e u0d q_Lo q_Hi u03 u02 u00 [(IV.str {data:=#[98,101,115,116]}),(IV.str (DP u01)),(IV.str {data:=#[105,110]})]) (DQ 1 (DS (HI N) (DK L0 [1,1,1,1,1,1,1]) (DT (HI N) none [.tmp 4] [[.str]])))) none) (cond (u04==3) (cond u02 (cond (decide (0≤a1)&&decide (a1≤ic 5)) (DY (HI N) (DK L0 [1,1,1,1,1,1,0,1,0,0]) ⟨[2,4,6,75,76,77],[2,500],[⟨(.tmp 6),500,9,false,[.str]⟩]⟩ N (OU ({data:=#[]}) 5 (AE a1) (ic (AE a1)) 0 u04 u01 u06 u05 u08 u07 u0a u09 u0c u0b u0e u0d q_Lo q_Hi u03 u02 u00 [(IV.str {data:=#[102,97,108,108,115]}),(IV.str (DP u01)),(IV.str {data:=#[98,121]}),(IV.str (DP u03)),(IV.str {data:=#[105,110]})]) (DQ 1 (DS (HI N) (DK L0 [1,1,1,1,1,1,1]) (DT (HI N) none [.tmp 4] [[.str]])))) none) (cond (decide (0≤a1)&&decide (a1≤ic 5)) (DY (HI N) (DK L0 [1,1,1,1,1,1,0,1,0,0]) ⟨[2,4,6,75,76,77],[2,500],[⟨(.tmp 6),500,9,false,[.str]⟩]⟩ N (OU ({data:=#[]}) 5 (AE a1) (ic (AE a1)) 0 u04 u01 u06 u05 u08 u07 u0a u09 u0c u0b u0e u0d q_Lo q_Hi u03 u02 u00 [(IV.str {data:=#[114,105,115,101,115]}),(IV.str (DP u01)),(IV.str {data:=#[98,121]}),(IV.str (DP u03)),(IV.str {data:=#[105,110]})]) (DQ 1 (DS (HI N) (DK L0 [1,1,1,1,1,1,1]) (DT (HI N) none [.tmp 4] [[.str]])))) none)) (some ((.str ({data:=#[]})),[]))))))))) none))):=by kernel_rfl
theorem Mh (N:Nat) (s4:BA) (n6 n75:Nat) (x76 x77 u02 u03 u0a u0b u0c u0d u0e u0f u0g u0h u04 u05 u06 u07 u08:Int) (u00:Bool) (u09:Int) (u01:LI) (again:St→DN) (k:Out→St→DN):E2 (HI N) (DK L0 [1,1,1,1,1,1,0,1,0,0]) (OU s4 n6 n75 x76 x77 u02 u03 u0a u0b u0c u0d u0e u0f u0g u0h u04 u05 u06 u07 u08 u00 u09 u01) (EQ again ⟨[2,4,6,75,76,77],[2,500],[⟨(.tmp 6),500,9,false,[.str]⟩]⟩ k)=(cond (decide (x77 < x76)) (cond (decide (x77 < ic n75)) (cond (decide (x77=ic 0)) (cond (decide (AG (DU u0a)+AG {data:=#[46,46]}≤strMax)) (cond (decide (AG (DU u0a++{data:=#[46,46]})+AG (DU u0b)≤strMax)) (cond (decide ((n6+AF (AS 0 (AK 1 [IV.str (DU u0a++{data:=#[46,46]}++DU u0b)])))*TI.bytes (Env.tyd (HI N) 9)≤EE)) (again (OU s4 (n6+AF (AS 0 (AK 1 [IV.str (DU u0a++{data:=#[46,46]}++DU u0b)]))) n75 x76 (AA AB (x77+1)) u02 u03 u0a u0b u0c u0d u0e u0f u0g u0h u04 u05 u06 u07 u08 u00 u09 (AK n6 u01++AS 0 (AK 1 [IV.str (DU u0a++{data:=#[46,46]}++DU u0b)])))) none) none) none) (cond (decide (x77=ic 1)) (cond (decide (AG (DU u0c)+AG {data:=#[46,46]}≤strMax)) (cond (decide (AG (DU u0c++{data:=#[46,46]})+AG (DU u0d)≤strMax)) (cond (decide ((n6+AF (AS 0 (AK 1 [IV.str (DU u0c++{data:=#[46,46]}++DU u0d)])))*TI.bytes (Env.tyd (HI N) 9)≤EE)) (again (OU s4 (n6+AF (AS 0 (AK 1 [IV.str (DU u0c++{data:=#[46,46]}++DU u0d)]))) n75 x76 (AA AB (x77+1)) u02 u03 u0a u0b u0c u0d u0e u0f u0g u0h u04 u05 u06 u07 u08 u00 u09 (AK n6 u01++AS 0 (AK 1 [IV.str (DU u0c++{data:=#[46,46]}++DU u0d)])))) none) none) none) (cond (decide (x77=ic 2)) (cond (decide (AG (DU u0e)+AG {data:=#[46,46]}≤strMax)) (cond (decide (AG (DU u0e++{data:=#[46,46]})+AG (DU u0f)≤strMax)) (cond (decide ((n6+AF (AS 0 (AK 1 [IV.str (DU u0e++{data:=#[46,46]}++DU u0f)])))*TI.bytes (Env.tyd (HI N) 9)≤EE)) (again (OU s4 (n6+AF (AS 0 (AK 1 [IV.str (DU u0e++{data:=#[46,46]}++DU u0f)]))) n75 x76 (AA AB (x77+1)) u02 u03 u0a u0b u0c u0d u0e u0f u0g u0h u04 u05 u06 u07 u08 u00 u09 (AK n6 u01++AS 0 (AK 1 [IV.str (DU u0e++{data:=#[46,46]}++DU u0f)])))) none) none) none) (cond (decide (x77=ic 3)) (cond (decide (AG (DU u0g)+AG {data:=#[46,46]}≤strMax)) (cond (decide (AG (DU u0g++{data:=#[46,46]})+AG (DU u0h)≤strMax)) (cond (decide ((n6+AF (AS 0 (AK 1 [IV.str (DU u0g++{data:=#[46,46]}++DU u0h)])))*TI.bytes (Env.tyd (HI N) 9)≤EE)) (again (OU s4 (n6+AF (AS 0 (AK 1 [IV.str (DU u0g++{data:=#[46,46]}++DU u0h)]))) n75 x76 (AA AB (x77+1)) u02 u03 u0a u0b u0c u0d u0e u0f u0g u0h u04 u05 u06 u07 u08 u00 u09 (AK n6 u01++AS 0 (AK 1 [IV.str (DU u0g++{data:=#[46,46]}++DU u0h)])))) none) none) none) (cond (decide (x77=ic 4)) (cond (decide (AG (DU u04)+AG {data:=#[46,46]}≤strMax)) (cond (decide (AG (DU u04++{data:=#[46,46]})+AG (DU u05)≤strMax)) (cond (decide ((n6+AF (AS 0 (AK 1 [IV.str (DU u04++{data:=#[46,46]}++DU u05)])))*TI.bytes (Env.tyd (HI N) 9)≤EE)) (again (OU s4 (n6+AF (AS 0 (AK 1 [IV.str (DU u04++{data:=#[46,46]}++DU u05)]))) n75 x76 (AA AB (x77+1)) u02 u03 u0a u0b u0c u0d u0e u0f u0g u0h u04 u05 u06 u07 u08 u00 u09 (AK n6 u01++AS 0 (AK 1 [IV.str (DU u04++{data:=#[46,46]}++DU u05)])))) none) none) none) none))))) none) (k (.exit 1) (OU s4 n6 n75 x76 x77 u02 u03 u0a u0b u0c u0d u0e u0f u0g u0h u04 u05 u06 u07 u08 u00 u09 u01))):=by kernel_rfl
theorem Xt (N:Nat) (s4:BA) (n6 n75:Nat) (x76 x77 u02 u03 u0a u0b u0c u0d u0e u0f u0g u0h u04 u05 u06 u07 u08:Int) (u00:Bool) (u09:Int) (u01:LI):(DQ 1 (DS (HI N) (DK L0 [1,1,1,1,1,1,1]) (DT (HI N) none [.tmp 4] [[.str]]))) (.exit 1) (OU s4 n6 n75 x76 x77 u02 u03 u0a u0b u0c u0d u0e u0f u0g u0h u04 u05 u06 u07 u08 u00 u09 u01)=(cond (decide ((n6+AF (AS 0 (AK 2 [IV.str {data:=#[98,117,100,103,101,116]},IV.str (DP u09)])))*TI.bytes (Env.tyd (HI N) 9)≤EE)) (cond (decide (AF (AS 0 (AK (n6+AF (AS 0 (AK 2 [IV.str {data:=#[98,117,100,103,101,116]},IV.str (DP u09)]))) (AK n6 u01++AS 0 (AK 2 [IV.str {data:=#[98,117,100,103,101,116]},IV.str (DP u09)]))))≤strMax)&&decide (AG (GP (A3 IV.toStr (AS 0 (AK (n6+AF (AS 0 (AK 2 [IV.str {data:=#[98,117,100,103,101,116]},IV.str (DP u09)]))) (AK n6 u01++AS 0 (AK 2 [IV.str {data:=#[98,117,100,103,101,116]},IV.str (DP u09)]))))) {data:=#[32]})≤strMax)) (some ((.str (GP (A3 IV.toStr (AS 0 (AK (n6+AF (AS 0 (AK 2 [IV.str {data:=#[98,117,100,103,101,116]},IV.str (DP u09)]))) (AK n6 u01++AS 0 (AK 2 [IV.str {data:=#[98,117,100,103,101,116]},IV.str (DP u09)]))))) {data:=#[32]})),[])) none) none):=by kernel_rfl
open Go
theorem Cw (l:List BA) (h:∀ w∈l,w.size≤100):(GP l G5).size≤101*l.length:=by
 have hs:(GP l G5).size=(Lib.join (l.map (·.data.toList)) [32]).length:=by
  show (Array.size (List.toArray _))=_;rw [C9]
 rw [hs];cases l with
 | nil=>simp [Lib.join_nil]
 | cons x r=>
  rw [A0,Lib.join_length]
  have:∀ (r:List BA),(∀ w∈r,w.size≤100)→Lib.lens (r.map (·.data.toList))≤100*r.length:=fun r=>by
   induction r with
   | nil=>intro _; simp [Lib.lens]
   | cons y r ih=>
    intro h;have h1:=h y (AN ..);rw [TP] at h1;have h2:=ih (fun w hw=>h w (AY _ hw));rw [A0,AM];simp only [Lib.lens,A0,vbc] at h2 ⊢;omega
  have:=this (x :: r) h
  rw [A0] at this;simp only [AM,BE,A7] at this ⊢;omega
theorem Lv {a b:Int} (ha:ED a) (hb:ED b):(M9 a b).size≤82:=by
 unfold M9;have h1:=(X3 a ha).2;have h2:=(X3 b hb).2;have h3:AG aW=2:=rfl;rw [AV,AV,h3];omega
theorem pS {n:Int} (h:ED n):(DP n).size≤21:=ZW h.1 h.2
structure Qy.In (q:Qy):Prop where
 k:ED q.k
 c:ED q.c
 a0:ED q.a0
 b0:ED q.b0
 a1:ED q.a1
 b1:ED q.b1
 a2:ED q.a2
 b2:ED q.b2
 a3:ED q.a3
 b3:ED q.b3
 a4:ED q.a4
 b4:ED q.b4
 lo:ED q.lo
 hi:ED q.hi
 ft:ED q.ft
 bu:ED q.bu
open Go Go.Proofs
abbrev nQ (q:Qy):Ob:=.box [.int .i64 q.k,.int .i64 q.c,.int .i64 q.a0,.int .i64 q.b0,.int .i64 q.a1,.int .i64 q.b1,.int .i64 q.a2,.int .i64 q.b2,.int .i64 q.a3,.int .i64 q.b3,.int .i64 q.a4,.int .i64 q.b4,.int .i64 q.lo,.int .i64 q.hi,.int .i64 q.ft,.bool q.fl,.int .i64 q.bu]
abbrev mB (q:Qy) (s4:BA) (W:LI) (D:Nat) (i:Int):St:=⟨[(2,(.ptr 2 0 0)),(4,(.str s4)),(6,(.row 500 0 W.length)),(75,(.bview 2 2 5 2 D)),(76,(.int .i64 (ic D))),(77,(.int .i64 i))],[(2,(some (nQ q))),(500,(some (.row true 9 false [.str] W)))]⟩
theorem Oa (N:Nat):TI.bytes (Env.tyd (HI N) 9)=16:=by rfl
theorem zge (N:Nat) (q:Qy) (hq:q.In) (s4:BA) (W:LI) (hW:W.length≤20) (hs:∀ w∈W,w.toStr.size≤100) (D:Nat) (i:Int) :
  (DQ 1 (DS (HI N) (DK L0 [1,1,1,1,1,1,1]) (DT (HI N) none [(CE 4)] [[.str]]))) (.exit 1) (mB q s4 W D i)=some (.str (GP (W.map IV.toStr++[VW,DP q.bu]) G5),[]):=by
 refine (Xt N s4 W.length D (ic D) i q.k q.c q.a0 q.b0 q.a1 q.b1 q.a2 q.b2 q.a3 q.b3 q.a4 q.b4 q.lo q.hi q.ft q.fl q.bu W).trans ?_;have e2:(AS 0 (AK 2 [IV.str { data:=#[98,117,100,103,101,116] },IV.str (DP q.bu)]))=[IV.str { data:=#[98,117,100,103,101,116] },IV.str (DP q.bu)]:=rfl;rw [Oa,e2,BO];have e3:AS 0 (AK (W.length+AF [IV.str { data:=#[98,117,100,103,101,116] },IV.str (DP q.bu)]) (W++[IV.str { data:=#[98,117,100,103,101,116] },IV.str (DP q.bu)]))=W++[IV.str { data:=#[98,117,100,103,101,116] },IV.str (DP q.bu)]:=by
  rw [B2,CV (by simp)]
 rw [e3];have e4:A3 IV.toStr (W++[IV.str { data:=#[98,117,100,103,101,116] },IV.str (DP q.bu)])=W.map IV.toStr++[VW,DP q.bu]:=by simp [IV.toStr]
 rw [e4];have hz:=Cw (W.map IV.toStr++[VW,DP q.bu]) (fun w hw=>by
  rcases AX.1 hw with h | h
  ·obtain ⟨x,hx,rfl⟩:=CJ.1 h;exact hs x hx
  ·simp only [AO,BX,CO] at h;rcases h with rfl | rfl
   ·decide
   ·have:=pS hq.bu
    omega)
 simp only [AT,BE,AM,A7] at hz ⊢;rw [AD (show (W.length+(0+1+1))*16≤EE by unfold EE; omega),DI,AD (show W.length+(0+1+1)≤strMax by unfold strMax; omega),
  AD (show AG (GP (W.map IV.toStr++[VW,DP q.bu]) { data:=#[32] })≤strMax from C2 hz (by unfold strMax; omega)),B1,DI]
def l8 (a b:Int):IV:=.str (M9 a b)
theorem zgg (N:Nat) (q:Qy) (s4:BA) (W:LI) (hW:W.length≤20) (D i:Nat) (hiD:i < D) (a b:Int) (again:St→DN) (k:Out→St→DN) (ha:ED a) (hb:ED b)
  (hab:(i=0∧a=q.a0∧b=q.b0)∨(i=1∧a=q.a1∧b=q.b1)∨(i=2∧a=q.a2∧b=q.b2)∨(i=3∧a=q.a3∧b=q.b3)) :
  E2 (HI N) (DK L0 [1,1,1,1,1,1,0,1,0,0]) (mB q s4 W D (i:Int)) (EQ again ⟨[2,4,6,75,76,77],[2,500],[⟨.tmp 6,500,9,false,[.str]⟩]⟩ k)=again (mB q s4 (W++[l8 a b]) D ((i+1:Nat):Int)):=by
 refine (Mh N s4 W.length D (ic D) i q.k q.c q.a0 q.b0 q.a1 q.b1 q.a2 q.b2 q.a3 q.b3 q.a4 q.b4 q.lo q.hi q.ft q.fl q.bu W again k).trans ?_;have d1:decide ((i:Int) < ic D)=true:=AD (by simp only [ic]; omega);rw [d1,DI,DI];have h3:AG { data:=#[46,46] }=2:=rfl;have sz:∀ x y:Int,ED x→ED y→decide (AG (DU x)+AG { data:=#[46,46] }≤strMax)=true∧decide (AG (DU x++{ data:=#[46,46] })+AG (DU y)≤strMax)=true:=fun x y hx hy=>by
  have h1:=(X3 x hx).2;have h2:=(X3 y hy).2;refine ⟨AD (by rw [h3]; unfold strMax; omega),AD (by rw [AV,h3]; unfold strMax; omega)⟩
 have e1:∀ x:IV,(AS 0 (AK 1 [x]))=[x]:=fun _=>rfl
 have g16:∀ x:IV,decide ((W.length+AF [x])*TI.bytes (Env.tyd (HI N) 9)≤EE)=true:=fun x=>AD (by rw [Oa]; simp only [AM,A7]; unfold EE; omega)
 have hl:∀ x:IV,W.length+AF [x]=(W++[x]).length:=fun x=>by simp
 obtain ⟨s1,s2⟩:=sz a b ha hb;simp only [e1,g16,DI,BO];rcases hab with ⟨rfl,rfl,rfl⟩ | ⟨rfl,rfl,rfl⟩ | ⟨rfl,rfl,rfl⟩ | ⟨rfl,rfl,rfl⟩
 ·rw [s1,s2,show decide (((0:Nat):Int)=ic 0)=true from rfl,DI,DI,DI,hl];rfl
 ·rw [s1,s2,show decide (((1:Nat):Int)=ic 0)=false from rfl,show decide (((1:Nat):Int)=ic 1)=true from rfl,DJ,DI,DI,DI,hl];rfl
 ·rw [s1,s2,show decide (((2:Nat):Int)=ic 0)=false from rfl,show decide (((2:Nat):Int)=ic 1)=false from rfl,show decide (((2:Nat):Int)=ic 2)=true from rfl,DJ,DJ,DI,DI,DI,hl];rfl
 ·rw [s1,s2,show decide (((3:Nat):Int)=ic 0)=false from rfl,show decide (((3:Nat):Int)=ic 1)=false from rfl,show decide (((3:Nat):Int)=ic 2)=false from rfl,show decide (((3:Nat):Int)=ic 3)=true from rfl,DJ,DJ,DJ,DI,DI,DI,hl];rfl
theorem Hf (N:Nat) (q:Qy) (hq:q.In) (s4:BA) (D:Nat) (hD:D≤4) :
  ∀ (d i n:Nat) (W:LI),i+d=D→d < n→W.length+d≤20→(∀ w∈W,w.toStr.size≤100) →
   DY (HI N) (DK L0 [1,1,1,1,1,1,0,1,0,0]) ⟨[2,4,6,75,76,77],[2,500],[⟨.tmp 6,500,9,false,[.str]⟩]⟩ n (mB q s4 W D (i:Int)) (DQ 1 (DS (HI N) (DK L0 [1,1,1,1,1,1,1]) (DT (HI N) none [(CE 4)] [[.str]]))) =
    some (.str (GP (W.map IV.toStr++(((q.spans.take D).drop i).map fun s=>M9 s.1 s.2)++[VW,DP q.bu]) G5),[])
 | 0,i,n+1,W,hd,hn,hW,hs=>by
  have hi:i=D:=by omega
  rw [D5];refine (Mh N s4 W.length D (ic D) i q.k q.c q.a0 q.b0 q.a1 q.b1 q.a2 q.b2 q.a3 q.b3 q.a4 q.b4 q.lo q.hi q.ft q.fl q.bu W _ _).trans ?_;rw [AL (show ¬ (i:Int) < ic D by simp only [ic]; omega),DJ];refine (zge N q hq s4 W (by omega) hs D i).trans ?_;rw [CS (by rw [BB]; omega)];simp
 | d+1,i,n+1,W,hd,hn,hW,hs=>by
  obtain ⟨a,b,ha,hb,hab,hsp⟩:∃ a b,ED a∧ED b∧((i=0∧a=q.a0∧b=q.b0)∨(i=1∧a=q.a1∧b=q.b1)∨(i=2∧a=q.a2∧b=q.b2)∨(i=3∧a=q.a3∧b=q.b3))∧(q.spans.take D).drop i=(a,b) :: (q.spans.take D).drop (i+1):=by
   have hi:i=0∨i=1∨i=2∨i=3:=by omega
   have hDD:D=0∨D=1∨D=2∨D=3∨D=4:=by omega
   rcases hi with rfl | rfl | rfl | rfl
   ·exact ⟨q.a0,q.b0,hq.a0,hq.b0,.inl ⟨rfl,rfl,rfl⟩,by rcases hDD with rfl | rfl | rfl | rfl | rfl <;> first | rfl | omega⟩
   ·exact ⟨q.a1,q.b1,hq.a1,hq.b1,.inr (.inl ⟨rfl,rfl,rfl⟩),by rcases hDD with rfl | rfl | rfl | rfl | rfl <;> first | rfl | omega⟩
   ·exact ⟨q.a2,q.b2,hq.a2,hq.b2,.inr (.inr (.inl ⟨rfl,rfl,rfl⟩)),by rcases hDD with rfl | rfl | rfl | rfl | rfl <;> first | rfl | omega⟩
   ·exact ⟨q.a3,q.b3,hq.a3,hq.b3,.inr (.inr (.inr ⟨rfl,rfl,rfl⟩)),by rcases hDD with rfl | rfl | rfl | rfl | rfl <;> first | rfl | omega⟩
  rw [D5,zgg N q s4 W (by omega) D i (by omega) a b _ _ ha hb hab,hsp];have ih:=Hf N q hq s4 D hD d (i+1) n (W++[l8 a b]) (by omega) (by omega) (by simp only [AT,AM,A7]; omega) (fun w hw=>by
   rcases AX.1 hw with h | h
   ·exact hs w h
   ·rw [BL] at h;subst h
    have:=Lv ha hb
    simp only [l8,IV.toStr];omega)
  refine ih.trans ?_;simp [l8,IV.toStr]
 | _,_,0,_,_,h,_,_=>by omega
theorem lT:DX PR B0 18 PZ:=by
 refine D6 [(42,bL),(41,bM),(44,SQ),(43,O3),(45,Y3)] [(18,⟨[2,4,6,75,76,77],[2,500],[⟨.tmp 6,500,9,false,[.str]⟩]⟩)] PZ [[.str]] Tryz.func18 zaw
  ⟨zhn,zho,tS,gS,Le,trivial⟩ ?_
 intro vs r hwf h;unfold PZ at h;split at h
 ·rename_i k c a0 b0 a1 b1 a2 b2 a3 b3 a4 b4 lo hi ft fl bu d;refine ⟨20,?_⟩;rw [R.get_ok] at h;rw [← h];refine (zdo 20 k c a0 b0 a1 b1 a2 b2 a3 b3 a4 b4 lo hi ft fl bu d).trans ?_;have hb:=hwf (by simp [MD]);have hq:Qy.In ⟨k,c,a0,b0,a1,b1,a2,b2,a3,b3,a4,b4,lo,hi,ft,fl,bu⟩:=by
   have:=hb.1
   simp only [SA,wfLs,wfL,B7,vaz] at this;obtain ⟨h1,h2,h3,h4,h5,h6,h7,h8,h9,h10,h11,h12,h13,h14,h15,h16⟩:=this;exact ⟨h1,h2,h3,h4,h5,h6,h7,h8,h9,h10,h11,h12,h13,h14,h15,h16⟩
  show cond (decide (d < 1)) _ (cond (decide (d > 4)) _ (cond _ (cond (!(Qy.eq ⟨k,c,a0,b0,a1,b1,a2,b2,a3,b3,a4,b4,lo,hi,ft,fl,bu⟩ (FX ⟨k,c,a0,b0,a1,b1,a2,b2,a3,b3,a4,b4,lo,hi,ft,fl,bu⟩ d))) _ _) _))=_;generalize hQ:(⟨k,c,a0,b0,a1,b1,a2,b2,a3,b3,a4,b4,lo,hi,ft,fl,bu⟩:Qy)=q at hq ⊢;unfold EG OL;cases h1:decide (d < 1) with
  | true=>simp only [DI,DJ,A2,BM]
  | false=>
   cases h4:decide (d > 4) with
   | true=>simp only [DI,DJ,A2,A8,BM,vae]
   | false=>
    have h1:=BH h1;have h4:=BH h4;rw [AD (show 0≤d by omega),AD (show d≤5 by omega),AD (show d≤ic 5 by simp only [ic]; omega)];simp only [B1,DI,DJ,A8,A6];cases he:q.eq (FX q d) with
    | false=>simp only [A8,DI,DJ,BM]
    | true=>
     have ec:q.c=c:=by rw [← hQ]
     have ef:q.ft=ft:=by rw [← hQ]
     have eb:q.bu=bu:=by rw [← hQ]
     have ek:q.k=k:=by rw [← hQ]
     rw [ec,ef,eb,ek];cases hc:KB c with
     | false=>simp only [A2,A8,DI,DJ,BM,A6]
     | true=>
      cases hf:KB ft with
      | false=>simp only [A2,A8,DI,DJ,BM,A6]
      | true=>
       cases hbu:KB bu with
       | false=>simp only [A2,A8,DI,DJ,BM,A6]
       | true=>
        simp only [A2,DJ,A6];have hDn:d.toNat≤4:=by omega
        have run:=fun (W:LI) (hW:W.length≤16) (hs:∀ w∈W,w.toStr.size≤100)=>Hf 20 q hq ⟨#[]⟩ d.toNat hDn d.toNat 0 20 W (by omega) (by omega) (by omega) hs
        have zi:∀ {n:Int},ED n→(DP n).size≤100:=fun h=>by have:=pS h; omega
        have zp:∀ {n:Int},ED n→(DU n).size≤100:=fun h=>by have:=(X3 _ h).2; omega
        have fin:∀ (W:LI) (l:List BA),W.map IV.toStr=l++[N3]→HY q=l→GP (W.map IV.toStr++(((q.spans.take d.toNat).drop 0).map fun s=>M9 s.1 s.2)++[VW,DP q.bu]) G5=GP (JM q d.toNat) G5:=fun W l hWl hl=>by
         unfold JM;rw [hWl,hl,B2];simp
        subst hQ;cases k1:(k==1) with
        | true=>
         simp only [DI,Bool.true_or];refine (run [IV.str NA,IV.str (DP c),IV.str VX,IV.str (DU lo),IV.str V0,IV.str (DU hi),IV.str N3] (by simp) (fun w hw=>?_)).trans ?_
         ·simp only [AO,BX,CO] at hw;rcases hw with rfl | rfl | rfl | rfl | rfl | rfl | rfl
          ·decide
          ·exact zi hq.c
          ·decide
          ·exact zp hq.lo
          ·decide
          ·exact zp hq.hi
          ·decide
         ·rw [fin _ [NA,DP c,VX,DU lo,V0,DU hi] rfl (by unfold HY; simp only [k1,DI])]
        | false=>
         simp only [DJ,vaw];cases k2:(k==2) with
         | true=>
          simp only [DI,Bool.true_or];refine (run [IV.str OR,IV.str (DP c),IV.str N3] (by simp) (fun w hw=>?_)).trans ?_
          ·simp only [AO,BX,CO] at hw;rcases hw with rfl | rfl | rfl
           ·decide
           ·exact zi hq.c
           ·decide
          ·rw [fin _ [OR,DP c] rfl (by unfold HY; simp only [k1,k2,DI,DJ])]
         | false=>
          simp only [DJ,vaw];cases k3:(k==3) with
          | false=>simp only [DJ]
          | true=>
           simp only [DI];cases fl with
           | true=>
            simp only [DI];refine (run [IV.str MJ,IV.str (DP c),IV.str OS,IV.str (DP ft),IV.str N3] (by simp) (fun w hw=>?_)).trans ?_
            ·simp only [AO,BX,CO] at hw;rcases hw with rfl | rfl | rfl | rfl | rfl
             ·decide
             ·exact zi hq.c
             ·decide
             ·exact zi hq.ft
             ·decide
            ·rw [fin _ [MJ,DP c,OS,DP ft] rfl (by unfold HY; simp only [k1,k2,DI,DJ])]
           | false=>
            simp only [DJ];refine (run [IV.str NB,IV.str (DP c),IV.str OS,IV.str (DP ft),IV.str N3] (by simp) (fun w hw=>?_)).trans ?_
            ·simp only [AO,BX,CO] at hw;rcases hw with rfl | rfl | rfl | rfl | rfl
             ·decide
             ·exact zi hq.c
             ·decide
             ·exact zi hq.ft
             ·decide
            ·rw [fin _ [NB,DP c,OS,DP ft] rfl (by unfold HY; simp only [k1,k2,DJ])]
 ·simp [R.get] at h
open Go Go.Proofs
def PY (N:Nat):Env:=D4 [(18,PZ),(121,WH),(119,bK),(120,WI),(118,dS),(104,UI),(46,NF)] [(9,⟨[0,2,3,4,5,7,8,9,45,46,47],[2,9],[]⟩)] 82 N
abbrev SC (s0:BA) (x3:Int) (b4:Bool) (l5:LI) (x7 x8:Int) (l45:LI) (x46 x47 u02 u03 u0a u0b u0c u0d u0e u0f u0g u0h u04 u05 u06 u07 u08:Int) (u00:Bool) (u09 u0i u0j u0q u0r u0s u0t u0u u0v u0w u0x u0k u0l u0m u0n u0o:Int) (u01:Bool) (u0p:Int):St:=⟨[(0,(.str s0)),(2,(.ptr 2 0 0)),(3,(.i x3)),(4,(.bool b4)),(5,(.list false [.str] l5)),(7,(.i x7)),(8,(.i x8)),(9,(.ptr 9 0 0)),(45,(.list false [.str] l45)),(46,(.i x46)),(47,(.i x47))],[(2,(some (.box [.i u02,.i u03,.i u0a,.i u0b,.i u0c,.i u0d,.i u0e,.i u0f,.i u0g,.i u0h,.i u04,.i u05,.i u06,.i u07,.i u08,.bool u00,.i u09]))),(9,(some (.box [.i u0i,.i u0j,.i u0q,.i u0r,.i u0s,.i u0t,.i u0u,.i u0v,.i u0w,.i u0x,.i u0k,.i u0l,.i u0m,.i u0n,.i u0o,.bool u01,.i u0p])))]⟩
theorem zdn (N:Nat) (s:BA):DZ (PY N) SY [.cell 2 38,.tmp 3,.tmp 4] [[.z,.z,.z,.z,.z,.z,.z,.z,.z,.z,.z,.z,.z,.z,.z,.bool,.z],[.z],[.bool]] [.str s]=(cond (decide (AG s < 4294967281)&&decide (1≤AG {data:=#[32]})) (cond (decide (F2 (A3 IV.str (D2 s {data:=#[32]})) {data:=#[105,110]} 0 < 0)) (some ((.tup [.agg [.i 0,.i 0,.i 0,.i 0,.i 0,.i 0,.i 0,.i 0,.i 0,.i 0,.i 0,.i 0,.i 0,.i 0,.i 0,.bool false,.i 0],.i 0,.bool false]),[])) (cond (decide (AA AB (AA AB (AA AB (ic (AF (A3 IV.str (D2 s {data:=#[32]}))) - 2) - F2 (A3 IV.str (D2 s {data:=#[32]})) {data:=#[105,110]} 0) - 1) < 1)) (some ((.tup [.agg [.i 0,.i 0,.i 0,.i 0,.i 0,.i 0,.i 0,.i 0,.i 0,.i 0,.i 0,.i 0,.i 0,.i 0,.i 0,.bool false,.i 0],.i 0,.bool false]),[])) (cond (decide (AA AB (AA AB (AA AB (ic (AF (A3 IV.str (D2 s {data:=#[32]}))) - 2) - F2 (A3 IV.str (D2 s {data:=#[32]})) {data:=#[105,110]} 0) - 1) > 4)) (some ((.tup [.agg [.i 0,.i 0,.i 0,.i 0,.i 0,.i 0,.i 0,.i 0,.i 0,.i 0,.i 0,.i 0,.i 0,.i 0,.i 0,.bool false,.i 0],.i 0,.bool false]),[])) (cond (decide (0≤F2 (A3 IV.str (D2 s {data:=#[32]})) {data:=#[105,110]} 0)&&decide (F2 (A3 IV.str (D2 s {data:=#[32]})) {data:=#[105,110]} 0≤ic (AF (A3 IV.str (D2 s {data:=#[32]}))))) (cond (decide (AF (AS 0 (AK (AE (F2 (A3 IV.str (D2 s {data:=#[32]})) {data:=#[105,110]} 0)) (A3 IV.str (D2 s {data:=#[32]}))))≤4294967290)&&List.all (AS 0 (AK (AE (F2 (A3 IV.str (D2 s {data:=#[32]})) {data:=#[105,110]} 0)) (A3 IV.str (D2 s {data:=#[32]})))) fun x=>decide (AG (IV.toStr x) < 4294967281)) (cond (decide (0≤AA AB (F2 (A3 IV.str (D2 s {data:=#[32]})) {data:=#[105,110]} 0+1))&&(decide (AA AB (F2 (A3 IV.str (D2 s {data:=#[32]})) {data:=#[105,110]} 0+1)≤AA AB (ic (AF (A3 IV.str (D2 s {data:=#[32]}))) - 2))&&decide (AA AB (ic (AF (A3 IV.str (D2 s {data:=#[32]}))) - 2)≤ic (AF (A3 IV.str (D2 s {data:=#[32]})))))) (DY (PY N) (DK SY [1,1,1,1,1,1,1,0,1,0,0]) ⟨[0,2,3,4,5,7,8,9,45,46,47],[2,9],[]⟩ N (SC s 0 false (A3 IV.str (D2 s {data:=#[32]})) (AA AB (ic (AF (A3 IV.str (D2 s {data:=#[32]}))) - 2)) (AA AB (AA AB (AA AB (ic (AF (A3 IV.str (D2 s {data:=#[32]}))) - 2) - F2 (A3 IV.str (D2 s {data:=#[32]})) {data:=#[105,110]} 0) - 1)) (AS (AE (AA AB (F2 (A3 IV.str (D2 s {data:=#[32]})) {data:=#[105,110]} 0+1))) (AK (AE (AA AB (ic (AF (A3 IV.str (D2 s {data:=#[32]}))) - 2))) (A3 IV.str (D2 s {data:=#[32]})))) (ic (AF (AS (AE (AA AB (F2 (A3 IV.str (D2 s {data:=#[32]})) {data:=#[105,110]} 0+1))) (AK (AE (AA AB (ic (AF (A3 IV.str (D2 s {data:=#[32]}))) - 2))) (A3 IV.str (D2 s {data:=#[32]})))))) 0 0 0 0 0 0 0 0 0 0 0 0 0 0 0 0 false 0 (Qy.k (EO (AS 0 (AK (AE (F2 (A3 IV.str (D2 s {data:=#[32]})) {data:=#[105,110]} 0)) (A3 IV.str (D2 s {data:=#[32]})))))) (Qy.c (EO (AS 0 (AK (AE (F2 (A3 IV.str (D2 s {data:=#[32]})) {data:=#[105,110]} 0)) (A3 IV.str (D2 s {data:=#[32]})))))) (Qy.a0 (EO (AS 0 (AK (AE (F2 (A3 IV.str (D2 s {data:=#[32]})) {data:=#[105,110]} 0)) (A3 IV.str (D2 s {data:=#[32]})))))) (Qy.b0 (EO (AS 0 (AK (AE (F2 (A3 IV.str (D2 s {data:=#[32]})) {data:=#[105,110]} 0)) (A3 IV.str (D2 s {data:=#[32]})))))) (Qy.a1 (EO (AS 0 (AK (AE (F2 (A3 IV.str (D2 s {data:=#[32]})) {data:=#[105,110]} 0)) (A3 IV.str (D2 s {data:=#[32]})))))) (Qy.b1 (EO (AS 0 (AK (AE (F2 (A3 IV.str (D2 s {data:=#[32]})) {data:=#[105,110]} 0)) (A3 IV.str (D2 s {data:=#[32]})))))) (Qy.a2 (EO (AS 0 (AK (AE (F2 (A3 IV.str (D2 s {data:=#[32]})) {data:=#[105,110]} 0)) (A3 IV.str (D2 s {data:=#[32]})))))) (Qy.b2 (EO (AS 0 (AK (AE (F2 (A3 IV.str (D2 s {data:=#[32]})) {data:=#[105,110]} 0)) (A3 IV.str (D2 s {data:=#[32]})))))) (Qy.a3 (EO (AS 0 (AK (AE (F2 (A3 IV.str (D2 s {data:=#[32]})) {data:=#[105,110]} 0)) (A3 IV.str (D2 s {data:=#[32]})))))) (Qy.b3 (EO (AS 0 (AK (AE (F2 (A3 IV.str (D2 s {data:=#[32]})) {data:=#[105,110]} 0)) (A3 IV.str (D2 s {data:=#[32]})))))) (Qy.a4 (EO (AS 0 (AK (AE (F2 (A3 IV.str (D2 s {data:=#[32]})) {data:=#[105,110]} 0)) (A3 IV.str (D2 s {data:=#[32]})))))) (Qy.b4 (EO (AS 0 (AK (AE (F2 (A3 IV.str (D2 s {data:=#[32]})) {data:=#[105,110]} 0)) (A3 IV.str (D2 s {data:=#[32]})))))) (Qy.lo (EO (AS 0 (AK (AE (F2 (A3 IV.str (D2 s {data:=#[32]})) {data:=#[105,110]} 0)) (A3 IV.str (D2 s {data:=#[32]})))))) (Qy.hi (EO (AS 0 (AK (AE (F2 (A3 IV.str (D2 s {data:=#[32]})) {data:=#[105,110]} 0)) (A3 IV.str (D2 s {data:=#[32]})))))) (Qy.ft (EO (AS 0 (AK (AE (F2 (A3 IV.str (D2 s {data:=#[32]})) {data:=#[105,110]} 0)) (A3 IV.str (D2 s {data:=#[32]})))))) (Qy.fl (EO (AS 0 (AK (AE (F2 (A3 IV.str (D2 s {data:=#[32]})) {data:=#[105,110]} 0)) (A3 IV.str (D2 s {data:=#[32]})))))) (Qy.bu (EO (AS 0 (AK (AE (F2 (A3 IV.str (D2 s {data:=#[32]})) {data:=#[105,110]} 0)) (A3 IV.str (D2 s {data:=#[32]}))))))) (DQ 0 (DS (PY N) (DK SY [1,1,1,1,1,1,1,1]) (DT (PY N) none [.cell 2 38,.tmp 3,.tmp 4] [[.z,.z,.z,.z,.z,.z,.z,.z,.z,.z,.z,.z,.z,.z,.z,.bool,.z],[.z],[.bool]])))) none) none) none)))) none):=by kernel_rfl
theorem Mg (N:Nat) (s0:BA) (x3:Int) (b4:Bool) (l5:LI) (x7 x8:Int) (l45:LI) (x46 x47 u02 u03 u0a u0b u0c u0d u0e u0f u0g u0h u04 u05 u06 u07 u08:Int) (u00:Bool) (u09 u0i u0j u0q u0r u0s u0t u0u u0v u0w u0x u0k u0l u0m u0n u0o:Int) (u01:Bool) (u0p:Int) (again:St→DN) (k:Out→St→DN):E2 (PY N) (DK SY [1,1,1,1,1,1,1,0,1,0,0]) (SC s0 x3 b4 l5 x7 x8 l45 x46 x47 u02 u03 u0a u0b u0c u0d u0e u0f u0g u0h u04 u05 u06 u07 u08 u00 u09 u0i u0j u0q u0r u0s u0t u0u u0v u0w u0x u0k u0l u0m u0n u0o u01 u0p) (EQ again ⟨[0,2,3,4,5,7,8,9,45,46,47],[2,9],[]⟩ k)=(cond (decide (x47 < x46)) (cond (decide (0≤x47)&&decide (x47 < ic (AF l45))) (cond (decide (AG (IV.toStr (AI l45 (AE x47) default)) < 4294967281)) (cond (decide (AG (cutL (IV.toStr (AI l45 (AE x47) default)) {data:=#[46,46]}) < 4294967281)) (cond (decide (AG (FU (IV.toStr (AI l45 (AE x47) default)) {data:=#[46,46]}) < 4294967281)) (cond (decide (x47=ic 0)) (again (SC s0 x3 b4 l5 x7 x8 l45 x46 (AA AB (x47+1)) u02 u03 u0a u0b u0c u0d u0e u0f u0g u0h u04 u05 u06 u07 u08 u00 u09 u0i u0j (GC (cutL (IV.toStr (AI l45 (AE x47) default)) {data:=#[46,46]})) (GC (FU (IV.toStr (AI l45 (AE x47) default)) {data:=#[46,46]})) u0s u0t u0u u0v u0w u0x u0k u0l u0m u0n u0o u01 u0p)) (cond (decide (x47=ic 1)) (again (SC s0 x3 b4 l5 x7 x8 l45 x46 (AA AB (x47+1)) u02 u03 u0a u0b u0c u0d u0e u0f u0g u0h u04 u05 u06 u07 u08 u00 u09 u0i u0j u0q u0r (GC (cutL (IV.toStr (AI l45 (AE x47) default)) {data:=#[46,46]})) (GC (FU (IV.toStr (AI l45 (AE x47) default)) {data:=#[46,46]})) u0u u0v u0w u0x u0k u0l u0m u0n u0o u01 u0p)) (cond (decide (x47=ic 2)) (again (SC s0 x3 b4 l5 x7 x8 l45 x46 (AA AB (x47+1)) u02 u03 u0a u0b u0c u0d u0e u0f u0g u0h u04 u05 u06 u07 u08 u00 u09 u0i u0j u0q u0r u0s u0t (GC (cutL (IV.toStr (AI l45 (AE x47) default)) {data:=#[46,46]})) (GC (FU (IV.toStr (AI l45 (AE x47) default)) {data:=#[46,46]})) u0w u0x u0k u0l u0m u0n u0o u01 u0p)) (cond (decide (x47=ic 3)) (again (SC s0 x3 b4 l5 x7 x8 l45 x46 (AA AB (x47+1)) u02 u03 u0a u0b u0c u0d u0e u0f u0g u0h u04 u05 u06 u07 u08 u00 u09 u0i u0j u0q u0r u0s u0t u0u u0v (GC (cutL (IV.toStr (AI l45 (AE x47) default)) {data:=#[46,46]})) (GC (FU (IV.toStr (AI l45 (AE x47) default)) {data:=#[46,46]})) u0k u0l u0m u0n u0o u01 u0p)) (cond (decide (x47=ic 4)) (again (SC s0 x3 b4 l5 x7 x8 l45 x46 (AA AB (x47+1)) u02 u03 u0a u0b u0c u0d u0e u0f u0g u0h u04 u05 u06 u07 u08 u00 u09 u0i u0j u0q u0r u0s u0t u0u u0v u0w u0x (GC (cutL (IV.toStr (AI l45 (AE x47) default)) {data:=#[46,46]})) (GC (FU (IV.toStr (AI l45 (AE x47) default)) {data:=#[46,46]})) u0m u0n u0o u01 u0p)) none))))) none) none) none) none) (k (.exit 0) (SC s0 x3 b4 l5 x7 x8 l45 x46 x47 u02 u03 u0a u0b u0c u0d u0e u0f u0g u0h u04 u05 u06 u07 u08 u00 u09 u0i u0j u0q u0r u0s u0t u0u u0v u0w u0x u0k u0l u0m u0n u0o u01 u0p))):=by kernel_rfl
theorem Xs (N:Nat) (s0:BA) (x3:Int) (b4:Bool) (l5:LI) (x7 x8:Int) (l45:LI) (x46 x47 u02 u03 u0a u0b u0c u0d u0e u0f u0g u0h u04 u05 u06 u07 u08:Int) (u00:Bool) (u09 u0i u0j u0q u0r u0s u0t u0u u0v u0w u0x u0k u0l u0m u0n u0o:Int) (u01:Bool) (u0p:Int):(DQ 0 (DS (PY N) (DK SY [1,1,1,1,1,1,1,1]) (DT (PY N) none [.cell 2 38,.tmp 3,.tmp 4] [[.z,.z,.z,.z,.z,.z,.z,.z,.z,.z,.z,.z,.z,.z,.z,.bool,.z],[.z],[.bool]]))) (.exit 0) (SC s0 x3 b4 l5 x7 x8 l45 x46 x47 u02 u03 u0a u0b u0c u0d u0e u0f u0g u0h u04 u05 u06 u07 u08 u00 u09 u0i u0j u0q u0r u0s u0t u0u u0v u0w u0x u0k u0l u0m u0n u0o u01 u0p)=(cond (decide (0≤AA AB (x7+1))&&decide (AA AB (x7+1) < ic (AF l5))) (cond (!AW (EG {k:=u0i,c:=u0j,a0:=u0q,b0:=u0r,a1:=u0s,b1:=u0t,a2:=u0u,b2:=u0v,a3:=u0w,b3:=u0x,a4:=u0k,b4:=u0l,lo:=u0m,hi:=u0n,ft:=u0o,fl:=u01,bu:=FJ (IV.toStr (AI l5 (AE (AA AB (x7+1))) default))} x8)==AW s0) (some ((.tup [.agg [.i 0,.i 0,.i 0,.i 0,.i 0,.i 0,.i 0,.i 0,.i 0,.i 0,.i 0,.i 0,.i 0,.i 0,.i 0,.bool false,.i 0],.i 0,.bool false]),[])) (some ((.tup [.agg [.i u0i,.i u0j,.i u0q,.i u0r,.i u0s,.i u0t,.i u0u,.i u0v,.i u0w,.i u0x,.i u0k,.i u0l,.i u0m,.i u0n,.i u0o,.bool u01,.i (FJ (IV.toStr (AI l5 (AE (AA AB (x7+1))) default)))],.i x8,.bool true]),[]))) none):=by kernel_rfl
open Go Go.Proofs
theorem zcp (l:LI):(EO l).a0=0∧(EO l).b0=0∧(EO l).a1=0∧(EO l).b1=0∧(EO l).a2=0∧(EO l).b2=0∧(EO l).a3=0∧(EO l).b3=0∧(EO l).a4=0∧(EO l).b4=0∧(EO l).bu=0:=by
 unfold EO;cases ((DW l 0).toList==NA.toList) <;> cases ((DW l 0).toList==OR.toList) <;> cases ((DW l 0).toList==NB.toList||(DW l 0).toList==MJ.toList) <;> exact ⟨rfl,rfl,rfl,rfl,rfl,rfl,rfl,rfl,rfl,rfl,rfl⟩
def rq (l:LI) (i d:Nat):Qy:=
 ⟨(
  EO (l.take i)).k,(EO (l.take i)).c,
  cond (BS 0 d) (R4 l (i+1)) 0,cond (BS 0 d) (R5 l (i+1)) 0,cond (BS 1 d) (R4 l (i+2)) 0,cond (BS 1 d) (R5 l (i+2)) 0,cond (BS 2 d) (R4 l (i+3)) 0,cond (BS 2 d) (R5 l (i+3)) 0,cond (BS 3 d) (R4 l (i+4)) 0,cond (BS 3 d) (R5 l (i+4)) 0,0,0,
  (EO (l.take i)).lo,(EO (l.take i)).hi,(EO (l.take i)).ft,(EO (l.take i)).fl,0⟩
theorem zg0 (l:LI) (i:Nat):EO (l.take i)=rq l i 0:=by
 obtain ⟨h1,h2,h3,h4,h5,h6,h7,h8,h9,h10,h11⟩:=zcp (l.take i);unfold rq;generalize EO (l.take i)=q at *;cases q;simp only at *;subst h1 h2 h3 h4 h5 h6 h7 h8 h9 h10 h11;rfl
abbrev mC (s:BA) (W:LI) (x7 x8:Int) (L:LI) (q:Qy) (i:Int):St:=
 ⟨[(0,(.str s)),(2,(.ptr 2 0 0)),(3,(.int .i64 0)),(4,(.bool false)),(5,(.list false [.str] W)),(7,(.int .i64 x7)),(8,(.int .i64 x8)),(9,(.ptr 9 0 0)),(45,(.list false [.str] L)),(46,(.int .i64 (ic L.length))),(47,(.int .i64 i))],[(2,(some (nQ Qy.none))),(9,(some (nQ q)))]⟩
theorem Wm (w sep:BA) (h:w.size < 4294967281):decide (AG w < 4294967281)=true∧decide (AG (cutL w sep) < 4294967281)=true∧decide (AG (FU w sep) < 4294967281)=true:=by
 obtain ⟨h1,h2⟩:=jI w sep;exact ⟨AD h,AD (by omega),AD (by omega)⟩
theorem zf1 (N:Nat) (s:BA) (W:LI) (x7 x8:Int) (L:LI) (I i:Nat) (hi:i < L.length) (h4:i < 4) (hL:IV.toStr (L.getD i default)=DW W (I+1+i)) (hw:(DW W (I+1+i)).size < 4294967281) (again:St→DN) (k:Out→St→DN) :
  E2 (PY N) (DK SY [1,1,1,1,1,1,1,0,1,0,0]) (mC s W x7 x8 L (rq W I i) (i:Int)) (EQ again ⟨[0,2,3,4,5,7,8,9,45,46,47],[2,9],[]⟩ k)=again (mC s W x7 x8 L (rq W I (i+1)) ((i+1:Nat):Int)):=by
 refine (Mg N s 0 false W x7 x8 L (ic L.length) i 0 0 0 0 0 0 0 0 0 0 0 0 0 0 0 false 0 (rq W I i).k (rq W I i).c (rq W I i).a0 (rq W I i).b0 (rq W I i).a1 (rq W I i).b1 (rq W I i).a2 (rq W I i).b2 (rq W I i).a3 (rq W I i).b3 (rq W I i).a4 (rq W I i).b4 (rq W I i).lo (rq W I i).hi (rq W I i).ft (rq W I i).fl (rq W I i).bu again k).trans ?_;rw [HA hi,IL,B1,DI,DI,BF,hL];obtain ⟨c1,c2,c3⟩:=Wm (DW W (I+1+i)) { data:=#[46,46] } hw;rw [c1,c2,c3,DI,DI,DI];have hi4:i=0∨i=1∨i=2∨i=3:=by omega
 rcases hi4 with rfl | rfl | rfl | rfl
 ·rw [show decide (((0:Nat):Int)=ic 0)=true from rfl,DI];rfl
 ·rw [show decide (((1:Nat):Int)=ic 0)=false from rfl,show decide (((1:Nat):Int)=ic 1)=true from rfl,DJ,DI];rfl
 ·rw [show decide (((2:Nat):Int)=ic 0)=false from rfl,show decide (((2:Nat):Int)=ic 1)=false from rfl,show decide (((2:Nat):Int)=ic 2)=true from rfl,DJ,DJ,DI];rfl
 ·rw [show decide (((3:Nat):Int)=ic 0)=false from rfl,show decide (((3:Nat):Int)=ic 1)=false from rfl,show decide (((3:Nat):Int)=ic 2)=false from rfl,show decide (((3:Nat):Int)=ic 3)=true from rfl,DJ,DJ,DJ,DI];rfl
theorem Gr (N:Nat) (s:BA) (W:LI) (x7 x8:Int) (L:LI) (I:Nat) (h4:L.length≤4) (hL:∀ i,i < L.length→IV.toStr (L.getD i default)=DW W (I+1+i)) (hw:∀ i,(DW W i).size < 4294967281) (K:Out→St→DN) :
  ∀ (d i n:Nat),i+d=L.length→d < n →
   DY (PY N) (DK SY [1,1,1,1,1,1,1,0,1,0,0]) ⟨[0,2,3,4,5,7,8,9,45,46,47],[2,9],[]⟩ n (mC s W x7 x8 L (rq W I i) (i:Int)) K=K (.exit 0) (mC s W x7 x8 L (rq W I L.length) (ic L.length))
 | 0,i,n+1,hd,hn=>by
  have hi:i=L.length:=by omega
  subst hi;rw [D5];refine (Mg N s 0 false W x7 x8 L (ic L.length) _ 0 0 0 0 0 0 0 0 0 0 0 0 0 0 0 false 0 (rq W I L.length).k (rq W I L.length).c (rq W I L.length).a0 (rq W I L.length).b0 (rq W I L.length).a1 (rq W I L.length).b1 (rq W I L.length).a2 (rq W I L.length).b2 (rq W I L.length).a3 (rq W I L.length).b3 (rq W I L.length).a4 (rq W I L.length).b4 (rq W I L.length).lo (rq W I L.length).hi (rq W I L.length).ft (rq W I L.length).fl (rq W I L.length).bu _ _).trans ?_;rw [I5 (AZ _),DJ];rfl
 | d+1,i,n+1,hd,hn=>by
  rw [D5,zf1 N s W x7 x8 L I i (by omega) (by omega) (hL i (by omega)) (hw _)];exact Gr N s W x7 x8 L I h4 hL hw K d (i+1) n (by omega) (by omega)
 | _,_,0,_,h=>by omega
theorem Cl (w:BA):∀ (l:LI) (k:Int),0≤k→F2 l w k = -1∨(k≤F2 l w k∧F2 l w k < k+(l.length:Int))
 | [],_,_=>.inl rfl
 | x :: l,k,hk=>by
  unfold F2;cases (w.toList==x.toStr.toList) with
  | true=>rw [DI]; exact .inr ⟨vab _,by simp only [AM]; omega⟩
  | false=>
   rw [DJ];rcases Cl w l (k+1) (by omega) with h | ⟨h1,h2⟩
   ·exact .inl h
   ·exact .inr ⟨by omega,by simp only [AM]; omega⟩
theorem zcZ (s:BA) (hs:s.size < 4294967281):(HH s).length≤4294967282∧∀ i,(DW (HH s) i).size < 4294967281:=by
 have h1:=Lib.splitB_all G5 (by decide) 0 _ s rfl;have h2:=Lib.countB_le G5 (by decide) s.size s (AZ _);refine ⟨?_,fun i=>?_⟩
 ·have e:(HH s).length=Lib.countB s G5+1:=by
   unfold HH D2;rw [BE];exact h1
  omega
 ·unfold DW;by_cases hi:i < (HH s).length
  ·have:AI (HH s) i default=(HH s)[i]:=by simp [hi]
   rw [this];have hm:=C1 hi;unfold HH at hm;obtain ⟨p,hp,hpe⟩:=CJ.1 hm;have hz:=(YC G5 _ s).2 p hp
   have:((HH s)[i]).toStr=p:=by
    show (A3 IV.str (D2 s G5))[i].toStr=p;rw [← hpe];rfl
   rw [this];omega
  ·have:AI (HH s) i default=default:=by simp [AI,hi]
   rw [this];decide
theorem Kg:DX PR B0 73 WG:=by
 refine D6 [(18,PZ),(121,WH),(119,bK),(120,WI),(118,dS),(104,UI),(46,NF)] [(9,⟨[0,2,3,4,5,7,8,9,45,46,47],[2,9],[]⟩)] WG
  [[.z,.z,.z,.z,.z,.z,.z,.z,.z,.z,.z,.z,.z,.z,.z,.bool,.z],[.z],[.bool]] Tryz.func73 zav
  ⟨lT,Kh,zhm,Ki,ziu,tW,aP,trivial⟩ ?_
 intro vs r hwf h;unfold WG at h;split at h
 ·rename_i s;refine ⟨20,?_⟩;cases hs:decide (s.size < 4294967281) with
  | false=>rw [hs] at h; simp [R.get] at h
  | true=>
   rw [hs,R.get_br,DI,R.get_ok] at h;rw [← h];refine (zdn 20 s).trans ?_;have hs':=A1 hs;rw [hs];obtain ⟨hl,hw⟩:=zcZ s hs';have eW:A3 IV.str (D2 s { data:=#[32] })=HH s:=rfl;have eI:F2 (HH s) { data:=#[105,110] } 0=NR s:=rfl;rw [eW,eI,show decide (1≤AG { data:=#[32] })=true from rfl,B1,DI];have hr:=Cl N3 (HH s) 0 (vab _)
   change NR s = -1∨(0≤NR s∧NR s < 0+((HH s).length:Int)) at hr
   have w2:AA AB (ic (AF (HH s)) - 2)=ic (AF (HH s)) - 2:=EL (by simp only [ic]; omega) (by simp only [ic]; omega);rw [w2];have wd:AA AB (AA AB (ic (AF (HH s)) - 2 - NR s) - 1)=OJ s:=by
    unfold OJ;rw [EL (n:=ic (AF (HH s)) - 2 - NR s) (by simp only [ic]; omega) (by simp only [ic]; omega),EL (by simp only [ic]; omega) (by simp only [ic]; omega)]
   rw [wd];unfold EZ MS NH;cases h1:decide (NR s < 0) with
   | true=>simp only [DI,DJ,A2,BM]; rfl
   | false=>
    cases h2:decide (OJ s < 1) with
    | true=>simp only [DI,DJ,A2,A8,BM,vae]; rfl
    | false=>
     cases h3:decide (OJ s > 4) with
     | true=>simp only [DI,DJ,A2,A8,BM,vae]; rfl
     | false=>
      simp only [DJ,A8,A6];have h1:=BH h1;have h2:=BH h2;have h3:=BH h3;obtain ⟨I,hI⟩:∃ I:Nat,NR s=I:=⟨(NR s).toNat,by omega⟩;obtain ⟨D,hD⟩:∃ D:Nat,OJ s=D:=⟨(OJ s).toNat,by omega⟩;have hD1:1≤D:=by omega
      have hD4:D≤4:=by omega
      unfold fL;have hDd:(D:Int)=((HH s).length:Int) - 2 - I - 1:=by
       rw [← hD,← hI];rfl
      rw [hI,hD] at *;generalize HH s=W at *;have wi:AA AB ((I:Int)+1)=((I+1:Nat):Int):=by rw [EL (by omega) (by omega)]; rfl
      have eb:ic (AF W) - 2=((W.length - 2:Nat):Int):=by simp only [ic]; omega
      rw [wi,eb];simp only [BF,B2];have hall:List.all (AK I W) (fun x=>decide (AG (IV.toStr x) < 4294967281))=true:=by
       rw [CQ];intro x hx;obtain ⟨j,hj,rfl⟩:=List.mem_iff_getElem.1 (vaI hx)
       have:=hw j
       unfold DW at this;have e:AI W j default=W[j]:=by simp [hj]
       rw [e] at this;exact AD this
      rw [hall,AD (show (0:Int)≤(I:Int) by omega),AD (show (I:Int)≤ic (AF W) by simp only [ic]; omega),AD (show AF (AK I W)≤4294967290 by rw [BB]; omega),
       AD (show (0:Int)≤((I+1:Nat):Int) by omega),AD (show ((I+1:Nat):Int)≤((W.length - 2:Nat):Int) by omega),AD (show ((W.length - 2:Nat):Int)≤ic (AF W) by simp only [ic]; omega)]
      simp only [B1,DI];have hLl:(AS (I+1) (AK (W.length - 2) W)).length=D:=by rw [CX,BB]; omega
      have hLg:∀ i,i < (AS (I+1) (AK (W.length - 2) W)).length→IV.toStr ((AS (I+1) (AK (W.length - 2) W)).getD i default)=DW W (I+1+i):=fun i hi=>by
       rw [hLl] at hi;unfold DW;congr 1;simp only [AI,vap,CL];rw [BP (by omega)]
      rw [zg0 W I];have run:=Gr 20 s W ((W.length - 2:Nat):Int) (D:Int) (AS (I+1) (AK (W.length - 2) W)) I (by rw [hLl]; exact hD4) hLg hw (DQ 0 (DS (PY 20) (DK SY [1,1,1,1,1,1,1,1]) (DT (PY 20) none [(va4 2 38),(CE 3),(CE 4)] [[.z,.z,.z,.z,.z,.z,.z,.z,.z,.z,.z,.z,.z,.z,.z,.bool,.z],[.z],[.bool]]))) D 0 20 (by rw [hLl]; omega) (by omega);refine run.trans ?_;rw [hLl];refine (Xs 20 s 0 false W ((W.length - 2:Nat):Int) (D:Int) (AS (I+1) (AK (W.length - 2) W)) (ic (AS (I+1) (AK (W.length - 2) W)).length) _ 0 0 0 0 0 0 0 0 0 0 0 0 0 0 0 false 0 (rq W I D).k (rq W I D).c (rq W I D).a0 (rq W I D).b0 (rq W I D).a1 (rq W I D).b1 (rq W I D).a2 (rq W I D).b2 (rq W I D).a3 (rq W I D).b3 (rq W I D).a4 (rq W I D).b4 (rq W I D).lo (rq W I D).hi (rq W I D).ft (rq W I D).fl (rq W I D).bu).trans ?_;have e7:AA AB (((W.length - 2:Nat):Int)+1)=((W.length - 1:Nat):Int):=by rw [EL (by omega) (by omega)]; omega
      rw [e7,BF,AD (show (0:Int)≤((W.length - 1:Nat):Int) by omega),AD (show ((W.length - 1:Nat):Int) < ic (AF W) by simp only [ic]; omega),B1,DI];have eq:(⟨(rq W I D).k,(rq W I D).c,(rq W I D).a0,(rq W I D).b0,(rq W I D).a1,(rq W I D).b1,(rq W I D).a2,(rq W I D).b2,(rq W I D).a3,(rq W I D).b3,(rq W I D).a4,(rq W I D).b4,(rq W I D).lo,(rq W I D).hi,(rq W I D).ft,(rq W I D).fl,FJ (IV.toStr (AI W (W.length - 1) default))⟩:Qy)=gG W I D:=rfl;rw [eq];cases ((EG (gG W I D) (D:Int)).toList==s.toList) with
      | false=>rfl
      | true=>rfl
 ·simp [R.get] at h
open Go
def RJ (x:IV):Prop:=∃ v,-3000≤v∧v≤3000∧x=L8 v
def U7 (dim n:Int) (i:Nat) (x:IV):Prop:=∃ f a l,0≤f∧f < dim∧0≤a∧a≤9∧(i:Int) < l∧l+1 < n∧x=TF false 0 f a l (l+1)
def nm (x:IV) (j:Nat):Nat:=cond (x.cell 0).toBool 0 ((if (x.cell 4).toInt=(j:Int) then 1 else 0)+(if (x.cell 5).toInt=(j:Int) then 1 else 0))
def NV (l:LI) (j:Nat):Nat:=(l.map (nm · j)).sum
theorem kW {x:IV} (h:RJ x) (j:Nat):nm x j=0:=by
 obtain ⟨v,_,_,rfl⟩:=h;rfl
theorem zfg (f a:Int) (n j:Nat):nm (TF false 0 f a (n:Int) ((n:Int)+1)) j=(if j=n then 1 else 0)+(if j=n+1 then 1 else 0):=by
 show (if (n:Int)=(j:Int) then 1 else 0)+(if (n:Int)+1=(j:Int) then 1 else 0)=_;have e1:((n:Int)=(j:Int))↔(j=n):=by omega
 have e2:((n:Int)+1=(j:Int))↔(j=n+1):=by omega
 simp only [e1,e2]
theorem zff (l m:LI) (j:Nat):NV (l++m) j=NV l j+NV m j:=by simp [NV]
theorem Ex:∀ {l:LI} {p:Nat} {x:IV} (y:IV) (j:Nat),l[p]?=some x→NV (l.set p y) j+nm x j=NV l j+nm y j
 | [],p,x,y,j,h=>by simp at h
 | z :: l,0,x,y,j,h=>by
  simp only [BY,AC] at h;subst h;simp only [List.set_cons_zero,NV,A0,vbc];omega
 | z :: l,p+1,x,y,j,h=>by
  have:=Ex (l:=l) y j (by simpa using h)
  simp only [List.set_cons_succ,NV,A0,vbc] at this ⊢;omega
structure NsOK (dim:Int) (i:Nat) (s:Ns):Prop where
 len:s.nodes.length=2*i+1
 ll:s.leaves.length=i+1
 node:∀ (k:Nat) x,s.nodes[k]?=some x→RJ x∨U7 dim (2*(i:Int)+1) k x
 leaf:∀ y∈s.leaves,∃ p:Nat,y = .int (p:Int)∧∃ x,s.nodes[p]?=some x∧RJ x
 dist:s.leaves.Nodup
 cnt:∀ j,NV s.nodes j=if 1≤j∧j < 2*i+1 then 1 else 0
theorem lC (l:LI) (i lo hi:Int) (h:lo≤hi) (h0 : -2000000000000000000≤lo) (h1:hi≤2000000000000000000):lo≤DO (EM l i) lo hi∧DO (EM l i) lo hi≤hi:=
 (HG h h0 h1).2
theorem fI (l:LI) (i:Int):RJ (L8 (DO (EM l i) (-3000) 3000)):=
 ⟨_,(lC l i (-3000) 3000 (by omega) (by omega) (by omega)).1,(lC l i (-3000) 3000 (by omega) (by omega) (by omega)).2,rfl⟩
theorem zfp (val:LI) (dim:Int):NsOK dim 0 ⟨[L8 (DO (EM val 0) (-3000) 3000)],[.int 0]⟩ where
 len:=rfl
 ll:=rfl
 node k x h:=by
  cases k with
  | zero=>
   simp only [BY,AC] at h;subst h;exact .inl (fI val 0)
  | succ k=>simp at h
 leaf y hy:=by
  simp only [AO,BX,CO] at hy;exact ⟨0,hy,_,rfl,fI val 0⟩
 dist:=by simp
 cnt j:=by
  have:¬ (1≤j∧j < 2*0+1):=by omega
  rw [BD this];show nm _ j+0=0;rw [kW (fI val 0)]
theorem zfl {l:LI} (h:l.Nodup) {k:Nat} {y:IV} (hk:l[k]?=some y):y ∉ l.take k++l.drop (k+1):=by
 intro hy;rw [← vbM,List.mem_eraseIdx_iff_getElem?] at hy;obtain ⟨i,hne,hi⟩:=hy;have h1:i < l.length:=(BR.1 hi).1;have h2:k < l.length:=(BR.1 hk).1
 have:l[i]=l[k]:=by
  rw [(BR.1 hi).2,(BR.1 hk).2]
 have hp:=List.pairwise_iff_getElem.1 h;rcases Nat.lt_trichotomy i k with hlt | heq | hlt
 ·exact hp i k h1 h2 hlt this
 ·exact hne heq
 ·exact hp k i h2 h1 hlt this.symm
theorem zfo {part byl atl val:LI} {dim:Int} (hd:1≤dim∧dim≤4) {i:Nat} (hi:i < 7) {s:Ns} (h:NsOK dim i s):NsOK dim (i+1) (KN part byl atl val dim i s):=by
 obtain ⟨k0,k1⟩:=(HG (n:=(part.getD i default).toInt) (lo:=0) (hi:=ic s.leaves.length - 1) (by simp only [ic]; have:=h.ll; omega) (by omega) (by simp only [ic]; have:=h.ll; omega)).2;have hk0:0≤IA part i s:=k0;have hk1:IA part i s≤ic s.leaves.length - 1:=k1;obtain ⟨k,hk⟩:∃ k:Nat,IA part i s=k:=⟨(IA part i s).toNat,by omega⟩;have hkl:k < s.leaves.length:=by simp only [ic] at hk1; omega
 have hky:s.leaves[k]?=some s.leaves[k]:=A9 hkl;obtain ⟨p,hp,x,hx,hlf⟩:=h.leaf _ (C1 hkl);have hat:(RT part i s).toNat=p:=by
  unfold RT;rw [hk,BF,BV,hky,hp];show ((p:Int)).toNat=p;omega
 have hpl:p < 2*i+1:=by rw [← h.len]; exact (BR.1 hx).1
 have f1:=lC byl (i:Int) 0 (dim - 1) (by omega) (by omega) (by omega);have a1:=lC atl (i:Int) 0 9 (by omega) (by omega) (by omega);generalize hf:DO (EM byl (i:Int)) 0 (dim - 1)=f at f1;generalize ha:DO (EM atl (i:Int)) 0 9=a at a1;have el:ic s.nodes.length=2*(i:Int)+1:=by simp only [ic]; have:=h.len; omega
 have hs:KN part byl atl val dim i s=⟨s.nodes.set p (TF false 0 f a (2*(i:Int)+1) (2*(i:Int)+1+1))++[L8 (DO (EM val (2*(i:Int)+1)) (-3000) 3000),L8 (DO (EM val (2*(i:Int)+2)) (-3000) 3000)],
   s.leaves.take k++s.leaves.drop (k+1)++[.int (2*(i:Int)+1),.int (2*(i:Int)+1+1)]⟩:=by
  unfold KN;rw [hat,hk,BF,hf,ha,el]
 rw [hs];have L1:=fI val (2*(i:Int)+1);have L2:=fI val (2*(i:Int)+2);have hgrow:∀ (q:Nat) z,U7 dim (2*(i:Int)+1) q z→U7 dim (2*((i+1:Nat):Int)+1) q z:=fun q z hz=>by
  obtain ⟨f,a,l,h1,h2,h3,h4,h5,h6,h7⟩:=hz;exact ⟨f,a,l,h1,h2,h3,h4,h5,by omega,h7⟩
 have hlen:(s.nodes.set p (TF false 0 f a (2*(i:Int)+1) (2*(i:Int)+1+1))).length=2*i+1:=by rw [vaF,h.len]
 have hnew:∀ (q:Nat) z,(s.nodes.set p (TF false 0 f a (2*(i:Int)+1) (2*(i:Int)+1+1))++[L8 (DO (EM val (2*(i:Int)+1)) (-3000) 3000),L8 (DO (EM val (2*(i:Int)+2)) (-3000) 3000)])[q]?=some z →
   (q≠p∧s.nodes[q]?=some z)∨(q=p∧z=TF false 0 f a (2*(i:Int)+1) (2*(i:Int)+1+1))∨RJ z:=fun q z hz=>by
  by_cases hq:q < 2*i+1
  ·rw [vbx (by rw [hlen]; exact hq)] at hz;by_cases e:p=q
   ·subst e;rw [List.getElem?_set_self (by rw [h.len]; exact hpl)] at hz;exact .inr (.inl ⟨rfl,(CR hz).symm⟩)
   ·rw [va9 e] at hz;exact .inl ⟨fun e'=>e e'.symm,hz⟩
  ·rw [vbu (by rw [hlen]; omega),hlen] at hz;obtain ⟨r,hr⟩:∃ r,q - (2*i+1)=r:=⟨_,rfl⟩;rw [hr] at hz
   match r,hz with
   | 0,hz=>exact .inr (.inr (by simp at hz; subst hz; exact L1))
   | 1,hz=>exact .inr (.inr (by simp at hz; subst hz; exact L2))
   | r+2,hz=>simp at hz
 refine ⟨?_,?_,?_,?_,?_,?_⟩
 ·show (s.nodes.set p _++[_,_]).length=_;rw [AT,hlen];simp only [AM,A7];omega
 ·show (s.leaves.take k++s.leaves.drop (k+1)++[_,_]).length=_;simp only [AT,BB,CX,AM,A7]
  have:=h.ll
  omega
 ·intro q z hz;rcases hnew q z hz with ⟨_,hz⟩ | ⟨rfl,rfl⟩ | hz
  ·rcases h.node q z hz with h1 | h1
   ·exact .inl h1
   ·exact .inr (hgrow q z h1)
  ·exact .inr ⟨f,a,2*(i:Int)+1,f1.1,by omega,a1.1,a1.2,by omega,by omega,rfl⟩
  ·exact .inl hz
 ·intro y hy;rcases AX.1 hy with hy | hy
  ·have hne:y≠.int (p:Int):=fun e=>by
    have:=zfl h.dist hky
    rw [hp] at this;exact this (e ▸ hy)
   have hyl:y∈s.leaves:=by
    rcases AX.1 hy with hy | hy
    ·exact vaI hy
    ·exact va5 hy
   obtain ⟨q,hq,x',hx',hl'⟩:=h.leaf y hyl;have hqp:p≠q:=fun e=>by subst e; exact hne hq
   refine ⟨q,hq,x',?_,hl'⟩;have hql:q < 2*i+1:=by rw [← h.len]; exact (BR.1 hx').1
   show (s.nodes.set p _++[_,_])[q]?=_;rw [vbx (by rw [hlen]; exact hql),va9 hqp,hx']
  ·simp only [AO,BX,CO] at hy;rcases hy with rfl | rfl
   ·refine ⟨2*i+1,by simp,L8 (DO (EM val (2*(i:Int)+1)) (-3000) 3000),?_,L1⟩;show (s.nodes.set p _++[_,_])[2*i+1]?=_;rw [vbu (by rw [hlen]; omega),hlen]
    have:2*i+1 - (2*i+1)=0:=by omega
    rw [this];rfl
   ·refine ⟨2*i+1+1,by simp,L8 (DO (EM val (2*(i:Int)+2)) (-3000) 3000),?_,L2⟩;show (s.nodes.set p _++[_,_])[2*i+1+1]?=_;rw [vbu (by rw [hlen]; omega),hlen]
    have:2*i+1+1 - (2*i+1)=1:=by omega
    rw [this];rfl
 ·show (s.leaves.take k++s.leaves.drop (k+1)++[_,_]).Nodup;have big:∀ y∈s.leaves,∀ n:Int,2*(i:Int)+1≤n→y≠.int n:=fun y hy n hn e=>by
   obtain ⟨q,hq,x',hx',_⟩:=h.leaf y hy;have hql:q < 2*i+1:=by rw [← h.len]; exact (BR.1 hx').1
   rw [hq] at e;injection e with e
   omega
  have hsub:∀ y∈s.leaves.take k++s.leaves.drop (k+1),y∈s.leaves:=fun y hy=>by
   rcases AX.1 hy with hy | hy
   ·exact vaI hy
   ·exact va5 hy
  rw [List.nodup_append];refine ⟨?_,?_,?_⟩
  ·rw [← vbM];exact List.Nodup.sublist (List.eraseIdx_sublist ..) h.dist
  ·rw [List.nodup_cons];refine ⟨fun hm=>?_,by simp⟩;simp only [AO,BX,CO] at hm;injection hm with hm
   omega
  ·intro y hy z hz e;subst e;simp only [AO,BX,CO] at hz;rcases hz with hz | hz
   ·exact big y (hsub y hy) _ (by omega) hz
   ·exact big y (hsub y hy) _ (by omega) hz
 ·intro j;show NV (s.nodes.set p _++[_,_]) j=_;rw [zff];have h1:=Ex (TF false 0 f a (2*(i:Int)+1) (2*(i:Int)+1+1)) j hx;rw [kW hlf,h.cnt j] at h1;have h2:NV [L8 (DO (EM val (2*(i:Int)+1)) (-3000) 3000),L8 (DO (EM val (2*(i:Int)+2)) (-3000) 3000)] j=0:=by
   show nm _ j+(nm _ j+0)=0;rw [kW L1,kW L2]
  have h3:=zfg f a (2*i+1) j;have e:((2*i+1:Nat):Int)=2*(i:Int)+1:=by omega
  rw [e] at h3;rw [h3] at h1;rw [h2];by_cases c1:1≤j∧j < 2*i+1
  ·rw [BP c1,BD (by omega),BD (by omega)] at h1;rw [BP (by omega)];omega
  ·rw [BD c1] at h1;by_cases c2:j=2*i+1
   ·rw [BP c2,BD (by omega)] at h1;rw [BP (by omega)];omega
   ·by_cases c3:j=2*i+1+1
    ·rw [BD c2,BP c3] at h1;rw [BP (by omega)];omega
    ·rw [BD c2,BD c3] at h1;rw [BD (by omega)];omega
theorem Fo {part byl atl val:LI} {dim:Int} (hd:1≤dim∧dim≤4):∀ (d i:Nat) (s:Ns),i+d≤7→NsOK dim i s→NsOK dim (i+d) (Z4 part byl atl val dim d i s)
 | 0,i,s,_,h=>h
 | d+1,i,s,hi,h=>by
  have:=Fo (part:=part) (byl:=byl) (atl:=atl) (val:=val) hd d (i+1) _ (by omega) (zfo (part:=part) (byl:=byl) (atl:=atl) (val:=val) hd (by omega) h)
  rw [vaT,Nat.add_comm 1 d] at this;exact this
theorem Fp (part byl atl val:LI) {dim:Int} (hd:1≤dim∧dim≤4):∃ i,i≤7∧NsOK dim i (PL part byl atl val dim):=by
 refine ⟨min part.length 7,by omega,?_⟩
 have:=Fo (part:=part) (byl:=byl) (atl:=atl) (val:=val) hd (min part.length 7) 0 _ (by omega) (zfp val dim)
 rw [BI] at this;exact this
open Go
theorem Nd.eq_of {x y:Nd} (h:x.eq y=true):x=y:=by
 obtain ⟨a1,a2,a3,a4,a5,a6⟩:=x;obtain ⟨b1,b2,b3,b4,b5,b6⟩:=y;simp only [Nd.eq,AH,B8,B7] at h;obtain ⟨rfl,rfl,rfl,rfl,rfl,rfl⟩:=h;rfl
theorem kX {w:Int} (h:GJ w=true):I1 (DL w)=w∧M6 (DL w)=true:=by
 have hn:DL w=X4 w:=by unfold DL; rw [h]; rfl
 unfold GJ at h;simp only [AH,B4,B8,A5] at h;rw [hn];refine ⟨h.2,?_⟩;cases hr:M6 (X4 w) with
 | true=>rfl
 | false=>
  have:=h.2
  unfold I1 at this;rw [hr] at this;exact absurd this.symm h.1
def qC (i:Nat):Bool:=GJ (IM true ((i:Int) - 3000) 0 0 0 0)&&(DL (IM true ((i:Int) - 3000) 0 0 0 0)).eq ⟨true,(i:Int) - 3000,0,0,0,0⟩
def kL:Nat→Bool
 | 0=>true
 | n+1=>qC n&&kL n
theorem Dq:∀ {n i:Nat},kL n=true→i < n→qC i=true
 | n+1,i,h,hi=>by
  rw [kL,AH] at h;by_cases e:i=n
  ·subst e; exact h.1
  ·exact Dq h.2 (by omega)
def pA (i:Nat):Bool:=GJ (IM false 0 ((i % 4:Nat):Int) ((i / 4 % 10:Nat):Int) ((i / 40:Nat):Int) (((i / 40:Nat):Int)+1)) &&
 (DL (IM false 0 ((i % 4:Nat):Int) ((i / 4 % 10:Nat):Int) ((i / 40:Nat):Int) (((i / 40:Nat):Int)+1))).eq ⟨false,0,((i % 4:Nat):Int),((i / 4 % 10:Nat):Int),((i / 40:Nat):Int),((i / 40:Nat):Int)+1⟩
def jW:Nat→Bool
 | 0=>true
 | n+1=>(BS n 40||pA n)&&jW n
theorem Bq:∀ {n i:Nat},jW n=true→i < n→40≤i→pA i=true
 | n+1,i,h,hi,h40=>by
  rw [jW,AH] at h;by_cases e:i=n
  ·subst e
   have:=h.1
   rw [van] at this;rcases this with h1 | h1
   ·have:i < 40:=AP h1
    omega
   ·exact h1
  ·exact Bq h.2 (by omega) h40
theorem zcY:kL 6001=true:=by kernel_rfl
theorem zam:jW 1200=true:=by kernel_rfl
theorem p9 {v:Int} (h0 : -3000≤v) (h1:v≤3000):GJ (IM true v 0 0 0 0)=true∧DL (IM true v 0 0 0 0)=⟨true,v,0,0,0,0⟩:=by
 have h:=Dq zcY (show (v+3000).toNat < 6001 by omega);have e:(((v+3000).toNat:Nat):Int) - 3000=v:=by omega
 unfold qC at h;rw [e,AH] at h;exact ⟨h.1,Nd.eq_of h.2⟩
theorem Bu {f a l:Int} (hf:0≤f∧f < 4) (ha:0≤a∧a≤9) (hl:1≤l∧l≤28):GJ (IM false 0 f a l (l+1))=true∧DL (IM false 0 f a l (l+1))=⟨false,0,f,a,l,l+1⟩:=by
 have h:=Bq zam (show l.toNat*40+a.toNat*4+f.toNat < 1200 by omega) (by omega);have e1:(((l.toNat*40+a.toNat*4+f.toNat) % 4:Nat):Int)=f:=by omega
 have e2:(((l.toNat*40+a.toNat*4+f.toNat) / 4 % 10:Nat):Int)=a:=by omega
 have e3:(((l.toNat*40+a.toNat*4+f.toNat) / 40:Nat):Int)=l:=by omega
 unfold pA at h;rw [e1,e2,e3,AH] at h;exact ⟨h.1,Nd.eq_of h.2⟩
theorem zjM {dim n:Int} (hd:dim≤4) (hn:n≤29) {i:Nat} {x:IV} (h:RJ x∨U7 dim n i x) (j:Nat):LH (DL (TK x).toInt) j=nm x j:=by
 rcases h with ⟨v,h0,h1,rfl⟩ | ⟨f,a,l,h0,h1,h2,h3,h4,h5,rfl⟩
 ·show LH (DL (IM true v 0 0 0 0)) j=_;rw [(p9 h0 h1).2];rfl
 ·show LH (DL (IM false 0 f a l (l+1))) j=_;rw [(Bu ⟨h0,by omega⟩ ⟨h2,h3⟩ ⟨by omega,by omega⟩).2];rfl
theorem zjN {dim n:Int} (hd:dim≤4) (hn:n≤29) {i:Nat} {x:IV} (h:RJ x∨U7 dim n i x):(GJ (TK x).toInt&&OG dim n i (DL (TK x).toInt))=true:=by
 rcases h with ⟨v,h0,h1,rfl⟩ | ⟨f,a,l,h0,h1,h2,h3,h4,h5,rfl⟩
 ·show (GJ (IM true v 0 0 0 0)&&OG dim n i (DL (IM true v 0 0 0 0)))=true;rw [(p9 h0 h1).1,(p9 h0 h1).2];rfl
 ·show (GJ (IM false 0 f a l (l+1))&&OG dim n i (DL (IM false 0 f a l (l+1))))=true;have hw:=Bu ⟨h0,by omega⟩ ⟨h2,h3⟩ (show 1≤l∧l≤28 by omega);rw [hw.1,hw.2];unfold OG;simp only [BC,AL (show ¬ f≥dim by omega),A5.2 (show l≠l+1 by omega),AL (show ¬ min l (l+1)≤(i:Int) by omega),AL (show ¬ max l (l+1)≥n by omega)];rfl
theorem Fh {dim n:Int} (hd:dim≤4) (hn:n≤29):∀ {l:LI} {i:Nat},(∀ (k:Nat) x,l[k]?=some x→RJ x∨U7 dim n (i+k) x)→KM dim n i (l.map TK)=true
 | [],_,_=>rfl
 | x :: l,i,h=>by
  rw [A0,KM,AH];refine ⟨zjN hd hn (h 0 x rfl),Fh hd hn (i:=i+1) fun k y hk=>?_⟩
  have:=h (k+1) y (by simpa using hk)
  rwa [show i+(k+1)=i+1+k by omega] at this
theorem Es {dim n:Int} (hd:dim≤4) (hn:n≤29) (j:Nat):∀ {l:LI} {i:Nat},(∀ (k:Nat) x,l[k]?=some x→RJ x∨U7 dim n (i+k) x)→IZ (l.map TK) j=NV l j
 | [],_,_=>rfl
 | x :: l,i,h=>by
  have ih:=Es hd hn j (l:=l) (i:=i+1) fun k y hk=>by
   have:=h (k+1) y (by simpa using hk)
   rwa [show i+(k+1)=i+1+k by omega] at this
  have h0:=zjM hd hn (h 0 x rfl) j;unfold IZ NV at ih ⊢;simp only [A0,vbc];rw [h0,ih]
theorem zfk (part byl atl val:LI) {dim:Int} (hd:1≤dim∧dim≤4):G1 (MZ part byl atl val dim) dim=true:=by
 obtain ⟨i,hi,h⟩:=Fp part byl atl val hd;have hlen:(MZ part byl atl val dim).length=2*i+1:=by
  unfold MZ;rw [BE,h.len]
 have hn:∀ (k:Nat) x,(PL part byl atl val dim).nodes[k]?=some x→RJ x∨U7 dim (ic (MZ part byl atl val dim).length) (0+k) x:=fun k x hk=>by
  have e:ic (MZ part byl atl val dim).length=2*(i:Int)+1:=by simp only [ic]; omega
  rw [e,BI];exact h.node k x hk
 have hb:ic (MZ part byl atl val dim).length≤29:=by simp only [ic]; omega
 unfold G1;rw [AH,AH,AH];refine ⟨⟨C7 (by omega),C7 (by omega)⟩,Fh hd.2 hb hn,?_⟩;unfold Z7;rw [CQ];intro j hj;have hj:=va6.1 hj;rw [B8]
 have:=Es hd.2 hb (j+1) hn
 have e:IZ (MZ part byl atl val dim) (j+1)=NV (PL part byl atl val dim).nodes (j+1):=this;rw [e,h.cnt,BP (by omega)]
theorem ZM (d:Int):1≤OF d∧OF d≤3:=(HG (n:=d) (lo:=1) (hi:=3) (by omega) (by omega) (by omega)).2
theorem eJ (d:Int):1≤KX d∧KX d≤3:=(HG (n:=d) (lo:=1) (hi:=3) (by omega) (by omega) (by omega)).2
def kT (d c:Int) (bias ts:LI):Md:=⟨OF d,KX c,SX c bias 0,SX c bias 1,SX c bias 2,R7 d c ts⟩
theorem nL (c:Int) (bias:LI) (j:Int):HX (KX c) j (SX c bias j)=true:=by
 unfold HX SX
 have:=(HG (n:=EM bias j) (lo := -500) (hi:=500) (by omega) (by omega) (by omega)).2
 rcases Int.lt_or_le j (KX c) with h | h
 ·rw [AD h,AL (show ¬ j≥KX c by omega)];simp only [BJ,BM,A8,B1];unfold E5;rw [AD (by omega),AD (by omega)];rfl
 ·rw [AL (show ¬ j < KX c by omega),AD (show j≥KX c from h)];rfl
theorem zju (d c:Int) (t:IV):HN (OF d) (KX c) (aQ d c t)=true:=by
 have hd:=ZM d;have hc:=eJ c;have hk:=(HG (n:=(t.cell 0).toInt) (lo:=0) (hi:=KX c - 1) (by omega) (by omega) (by omega)).2;show (!(decide (DO (t.cell 0).toInt 0 (KX c - 1) < 0))&&(!(decide (DO (t.cell 0).toInt 0 (KX c - 1)≥KX c))&&G1 (MZ (t.cell 1).toList (t.cell 2).toList (t.cell 3).toList (t.cell 4).toList (OF d)) (OF d)))=true;rw [AL (by omega),AL (by omega),zfk _ _ _ _ ⟨hd.1,by omega⟩];rfl
theorem zjw (d c:Int) (ts:LI):(R7 d c ts).all (HN (OF d) (KX c))=true:=by
 rw [CQ];intro t ht;unfold R7 at ht;obtain ⟨u,_,rfl⟩:=CJ.1 ht;exact zju d c u
theorem zjv (d c:Int) (ts:LI):(R7 d c ts).length≤4:=by
 unfold R7;rw [BE,BB];omega
theorem zdi {m:Md} (hd:1≤m.d∧m.d≤4) (hc:1≤m.c∧m.c≤3) (hl:m.ts.length≤8) (h0:HX m.c 0 m.b0=true) (h1:HX m.c 1 m.b1=true) (h2:HX m.c 2 m.b2=true) (ht:m.ts.all (HN m.d m.c)=true):EX m=true:=by
 unfold EX;rw [AL (show ¬ m.d < 1 by omega),AL (show ¬ m.d > 4 by omega),AL (show ¬ m.c < 1 by omega),AL (show ¬ m.c > 3 by omega),C7 hl,h0,h1,h2,ht];rfl
theorem zdj (d c:Int) (bias ts:LI):EX (kT d c bias ts)=true:=by
 have hd:=ZM d;have hc:=eJ c;exact zdi (m:=kT d c bias ts) ⟨hd.1,by show OF d≤4; omega⟩ hc (by have:=zjv d c ts; show (R7 d c ts).length≤8; omega) (nL c bias 0) (nL c bias 1) (nL c bias 2) (zjw d c ts)
open Go
abbrev EB:List Kd:=[.bool,.z,.z]
def GZ (x:IV):Bool:=(x.cell 0).toBool
def FD (x:IV):Int:=(x.cell 1).toInt
def FR (x:IV):Int:=(x.cell 2).toInt
def TS (x y:IV):Bool:=GZ x==GZ y&&(FD x==FD y&&FR x==FR y)
def PU (x:IV):Bool:=!(GZ x&&!(FD x==0&&FR x==0))&&(decide (0≤FD x)&&decide (FD x≤4))
def N0 (l:LI):Bool:=decide (1≤l.length)&&(decide (l.length≤65536)&&l.all PU)
def cC:DV
 | [.list true [.bool,.z,.z] l]=>.ok (.bool (N0 l)) []
 | _=>.no
def FH:LI→LI→Bool
 | [],[]=>true
 | x :: l,y :: m=>TS x y&&FH l m
 | _,_=>false
def cG:DV
 | [.list true [.bool,.z,.z] l,.list true [.bool,.z,.z] m]=>.ok (.bool (FH l m)) []
 | _=>.no
structure Vd where
 kind:Int
 proof:LI
 w0:Int
 w1:Int
 w2:Int
 w3:Int
 twin:Int
 spent:Int
def Vd.none:Vd:=⟨0,[],0,0,0,0,0,0⟩
def Vd.V (v:Vd):V:=.agg [.int .i64 v.kind,.list true EB v.proof,.int .i64 v.w0,.int .i64 v.w1,.int .i64 v.w2,.int .i64 v.w3,.int .i64 v.twin,.int .i64 v.spent]
def Vd.bare (v:Vd):Bool:=v.w0==0&&(v.w1==0&&(v.w2==0&&(v.w3==0&&v.twin==0)))
def Vd.right (v:Vd):Bool:=
 decide (0≤v.spent)&&(decide (v.spent≤65536) &&
  (v.kind==1&&(v.bare&&N0 v.proof)||(v.kind==2&&v.proof.isEmpty||(v.kind==3||v.kind==4)&&(v.bare&&v.proof.isEmpty))))
def bY:DV
 | [.agg [.int .i64 k,.list true [.bool,.z,.z] p,.int .i64 a,.int .i64 b,.int .i64 c,.int .i64 d,.int .i64 t,.int .i64 s]]=>.ok (.bool (Vd.right ⟨k,p,a,b,c,d,t,s⟩)) []
 | _=>.no
def M1:BA→LI→BA
 | s,[]=>s
 | s,x :: l=>M1 (s.push 32++DP x.toInt) l
def GO (s w:BA) (l:LI):BA:=(M1 (s++w) l).push 10
def bZ:DV
 | [.bor [.bld s],.str w,.list false [.z] l]=>.br (decide ((GO s w l).size≤strMax)) (.ok (.tup []) [[.bld (GO s w l)]]) .no
 | _=>.no
def GK (l:LI) (i:Int):Int:=cond (decide (ic l.length≤i)) 0 (FJ (l.getD i.toNat default).toStr)
def cA:DV
 | [.list false [.str] l,.int .i64 i]=>.br (decide (0≤i)) (.ok (.int .i64 (GK l i)) []) .no
 | _=>.no
def RR (b:Bool) (p a:Int):IV:=.agg [.bool b,.int p,.int a]
abbrev I3:BA:=⟨#[104,111,108,100,115]⟩
abbrev QW:BA:=⟨#[102,97,105,108,115]⟩
abbrev QX:BA:=⟨#[117,110,107,110,111,119,110]⟩
abbrev QY:BA:=⟨#[119,114,111,110,103]⟩
abbrev R8:BA:=⟨#[115,117,109]⟩
abbrev YM:BA:=⟨#[99,117,116]⟩
abbrev EJ:BA:=⟨#[10]⟩
abbrev VZ:BA:=⟨#[32]⟩
abbrev D9:BA:=⟨#[]⟩
def II (s:BA):LI:=(D2 (cutL s EJ) VZ).map IV.str
def ML (l:LI):BA:=(l.getD 0 default).toStr
def aE (s:BA):IV:=
 cond ((ML (II s)).toList==R8.toList) (RR true 0 0) (RR false (GK (II s) 1) (GK (II s) 2))
def TL:Nat→BA→LI→LI
 | 0,_,p=>p
 | n+1,s,p=>cond (!(s.toList==D9.toList)&&decide (p.length≤65536)) (TL n (FU s EJ) (p++[aE s])) p
def HT (s:BA):Vd:=
 cond ((ML (II s)).toList==I3.toList) ⟨1,TL ((FU s EJ).size+1) (FU s EJ) [],0,0,0,0,0,GK (II s) 1⟩
 (cond ((ML (II s)).toList==QW.toList) ⟨2,[],GK (II s) 2,GK (II s) 3,GK (II s) 4,GK (II s) 5,GK (II s) 6,GK (II s) 1⟩
 (cond ((ML (II s)).toList==QX.toList) ⟨3,[],0,0,0,0,0,GK (II s) 1⟩
 (cond ((ML (II s)).toList==QY.toList) ⟨4,[],0,0,0,0,0,GK (II s) 1⟩
 ⟨0,[],0,0,0,0,0,GK (II s) 1⟩)))
def cB:DV
 | [.str s]=>.br (decide (s.size < 4294967281)) (.ok (.agg [.int .i64 (HT s).kind,.list true [.bool,.z,.z] (HT s).proof,.int .i64 (HT s).w0,.int .i64 (HT s).w1,.int .i64 (HT s).w2,.int .i64 (HT s).w3,.int .i64 (HT s).twin,.int .i64 (HT s).spent]) []) .no
 | _=>.no
def K1:BA→LI→BA
 | s,[]=>s
 | s,x :: l=>K1 (cond (GZ x) (GO s R8 []) (GO s YM [.int (FD x),.int (FR x)])) l
def EH (v:Vd):BA:=
 cond v.right
  (cond (v.kind==1) (K1 (GO D9 I3 [.int v.spent,.int (ic v.proof.length)]) v.proof)
  (cond (v.kind==2) (GO D9 QW [.int v.spent,.int v.w0,.int v.w1,.int v.w2,.int v.w3,.int v.twin])
  (cond (v.kind==3) (GO D9 QX [.int v.spent])
  (GO D9 QY [.int v.spent]))))
  D9
def P1:DV
 | [.agg [.int .i64 k,.list true [.bool,.z,.z] p,.int .i64 a,.int .i64 b,.int .i64 c,.int .i64 d,.int .i64 t,.int .i64 s]]=>
  .br (decide ((EH ⟨k,p,a,b,c,d,t,s⟩).size≤strMax)) (.ok (.str (EH ⟨k,p,a,b,c,d,t,s⟩)) []) .no
 | _=>.no
def QJ (s:BA):Bool:=!(s.toList==D9.toList)&&(EH (HT s)).toList==s.toList
def IB (s:BA):Vd:=cond (QJ s) (HT s) Vd.none
def WL:DV
 | [.str s]=>.br (decide (s.size < 4294967281)) (.br (decide ((EH (HT s)).size≤strMax)) (.ok (.tup [.agg [.int .i64 (IB s).kind,.list true [.bool,.z,.z] (IB s).proof,.int .i64 (IB s).w0,.int .i64 (IB s).w1,.int .i64 (IB s).w2,.int .i64 (IB s).w3,.int .i64 (IB s).twin,.int .i64 (IB s).spent],.bool (QJ s)]) []) .no) .no
 | _=>.no
def YK (a b:Vd):Bool:=a.kind==b.kind&&(FH a.proof b.proof&&(a.w0==b.w0&&(a.w1==b.w1&&(a.w2==b.w2&&(a.w3==b.w3&&(a.twin==b.twin&&a.spent==b.spent))))))
def WM:DV
 | [.agg [.int .i64 k,.list true [.bool,.z,.z] p,.int .i64 a,.int .i64 b,.int .i64 c,.int .i64 d,.int .i64 t,.int .i64 s],
  .agg [.int .i64 k',.list true [.bool,.z,.z] p',.int .i64 a',.int .i64 b',.int .i64 c',.int .i64 d',.int .i64 t',.int .i64 s']]=>.ok (.bool (YK ⟨k,p,a,b,c,d,t,s⟩ ⟨k',p',a',b',c',d',t',s'⟩)) []
 | _=>.no
end Go.FM
