/-
  A small machine that reckons what a call comes to; the functions of the program, one by one. (THE LIBRARY's strconv.FormatUint AT BASE 10: the number's de, WHAT THE LIBRARY's FUNCTIONS OVER SLICES OF STRINGS COME TO,, THE LIBRARY's FUNCTIONS AS THE SMALL MACHINE SEES THEM: stri, and so on.)
-/
import Derived.Test.YtehhekmihbaghaaGreatDoorWb
import Derived.Lib.AppendIntMem
set_option linter.all false
set_option maxRecDepth 100000
open Array renaming length_toList→CR,toList_append→vaA
open BitVec renaming ofInt→A0,toNat→CF
open Bool renaming and_eq_true→AH,not_true→A2,not_false→BB,true_and→BH,false_and→BV,not_eq_true'→BY,and_self→B1,and_true→CE,and_false→vau,or_eq_true→vax,false_or→vaB,eq_iff_iff→va6
open ByteArray renaming size→AF,size_append→AP,toList→A3,extract→BP,empty→CH,append_assoc→C3,size_push→vaW
open Go.Addr.mk renaming injEq→DA
open Go.IntKind renaming wrap→AA,i64→AB,u64→AJ,bits→AO,signed→vah,wrap_u64→va9,u8→vbx
open Go.Lib renaming decDigits→CD,strCells→C5,strCells_length→vap,bytesWorld→vaG,indexByte→vbc,split→vbd,parseUint10→vbz,parseUintB_64→vbH
open Go.ResultVar renaming tmp→CA,cell→vbi
open Go.World renaming cell?→vaF
open Int renaming toNat→AD,toNat_natCast→BD,le_refl→vab,fdiv→vaR
open List renaming length→AG,getD→AI,take→AK,length_cons→AN,drop→AR,mem_cons_self→AT,mem_cons→AU,mem_append→AV,length_append→AW,mem_cons_of_mem→AX,map_cons→AZ,map→A5,getElem?_eq_getElem→A6,length_nil→A7,length_take→A8,drop_eq_getElem_cons→A9,replicate→BG,getElem?_cons_zero→BK,getElem?_eq_none→BM,getElem?_eq_some_iff→BN,getD_eq_getElem?_getD→BO,take_length→BS,mem_singleton→BU,drop_zero→B4,getElem?_map→B5,length_map→B7,map_nil→CB,getElem?_take→CI,not_mem_nil→CL,drop_of_length_le→CN,all_eq_true→CP,take_of_length_le→CV,getElem_mem→CX,mem_map→CY,length_drop→C7,cons_append→vaa,size_toArray→vad,length_singleton→vae,getElem?_append→vaf,mem_of_getElem?→vag,append_nil→vak,getElem?_drop→vam,drop_length→vas,range→vav,length_set→vay,mem_range→vaH,all_cons→vaU,mem_of_mem_drop→va1,mem_of_mem_take→va2,getElem?_set_ne→va4,getElem?_append_right→vbe,append_assoc→vbj,getElem?_append_left→vbp,eraseIdx_eq_take_drop_succ→vbJ
open Nat renaming le_of_ble_eq_true→AM,le_refl→AY,zero_add→BF,beq→BI,blt→BJ,ble→BW,le_trans→CZ,ble_eq_true_of_le→C2,add_zero→C4,eq_of_beq_eq_true→vaj,add_assoc→vaL,strongRecOn→vbB
open Option renaming map_eq_some_iff→C8
open Option.some renaming injEq→AC,inj→CS
open Prod.mk renaming injEq→AS
open UInt8 renaming toNat_ofNat_of_lt'→vaM
namespace Go.FM
open Go Go.Proofs Go.RowKit Go.Sort Go.Lib
set_option maxHeartbeats 12800000 in
theorem Oy (u:Nat) (hu64:u < 18446744073709551616) (w:World) (htab:Lib.TabIs Tryz.prog w "internal/strconv.uint64pow10" .u64 Lib.pow10Tab) :
  Calls Tryz.prog 129 #[.int .u64 u,.int .i64 10] w fun e w'=>e = .returned (.string ⟨(Lib.decDigits u).toArray⟩)∧∃ k os,w'=grow (w.drewN k) os:=by
 by_cases hs:u < 100
 ·have hwr:IntKind.i64.wrap (u:Int)=(u:Int):=by rw [IntKind.wrap_i64]; omega
  have iu:(u:Int) < 100:=by omega
  go_enter Tryz.func129,Tryz.ntmps129
  go_wp2_with (go_at_call 170; refine (Tryz.internal_strconv_small u hs _).mono ?_; rintro e w' ⟨rfl,rfl⟩)
  go_ret
  exact ⟨rfl,0,#[],by simp [World.drewN_zero]⟩
 ·have hu1:1≤u:=by omega
  have hnd20:Lib.nDigits u≤20:=by have:=Lib.numDigits_eq u hu1 hu64; split at this <;> omega
  have hal:Tryz.prog.arrayLen 225=24:=by simp [Program.arrayLen,Tryz.underlying225]
  have hsl:∀ W,(Instr.sliceAt 225 (.pointer (some ⟨w.heap.size,0,none⟩)) none (some (.int .i64 (Lib.nDigits u:Int))) none).run Tryz.prog W = .ok (.slice (some ⟨w.heap.size,0,none⟩) (Lib.nDigits u) 24) W:=fun W=>by
   rw [run_sliceAt_array_h W 225 ⟨w.heap.size,0,none⟩ (by simp [Program.arrayLen,Program.elem,Tryz.underlying225]) .i64 (Lib.nDigits u:Int) (by omega) (by rw [hal]; omega)]
   go_simp
  have hH0:=Lib.holds_zero0 w 225 (Lib.nDigits u) (by omega);have hfmt:=Tryz.internal_strconv_formatBase10 w.heap.size 0 24 u (Array.replicate (Lib.nDigits u) 0) (w.alloc (.cells Lib.zeros24 225)) hH0 (by rw [Array.size_replicate]; exact Lib.lt_pow_nDigits u) hu64 (by rw [Array.size_replicate]; omega);rw [Array.size_replicate] at hfmt;have HH0:=Lib.hid hH0;have iu:¬ (u:Int) < 100:=by omega
  clear hH0 hal hs
  go_enter Tryz.func129,Tryz.ntmps129
  go_wp2_with (first
   | (go_at_call 171; refine (Tryz.internal_strconv_numDigits u hu1 hu64 _ (Lib.tabIs_alloc htab _)).mono ?_; rintro e w' ⟨rfl,rfl⟩))
  go_at_call 172
  refine hfmt.mono ?_;rintro e w' ⟨rfl,k,v',dk,rfl,hF⟩;have hcv:(convert 69 9 (.slice (some ⟨w.heap.size,0,none⟩) (Lib.nDigits u) 24)).run Tryz.prog ((putRow (fun (b:UInt8)=>Value.int .u8 (b.toNat:Int)) (w.alloc (.cells Lib.zeros24 225)) w.heap.size 0 dk).drewN k) = .ok (.string ⟨(Lib.decDigits u).toArray⟩) ((putRow (fun (b:UInt8)=>Value.int .u8 (b.toNat:Int)) (w.alloc (.cells Lib.zeros24 225)) w.heap.size 0 dk).drewN k):=by
   have h:=run_convert_bytes_back (P:=Tryz.prog) ((putRow (fun (b:UInt8)=>Value.int .u8 (b.toNat:Int)) (w.alloc (.cells Lib.zeros24 225)) w.heap.size 0 dk).drewN k) 69 9 5 ⟨w.heap.size,0,none⟩ 24 (Lib.decDigits u) Tryz.underlying69 Tryz.underlying5 Tryz.underlying9 (fun j hj=>by
    rw [Lib.row_is_numeral hF j hj,Lib.add_plain,World.cell?_drewN];exact cell?_putRow (fun (b:UInt8)=>Value.int .u8 (b.toNat:Int)) _ w.heap.size 0 _ dk HH0.out (by rw [hF.size,Array.size_replicate]) j (by rw [hF.size]; rw [Lib.decDigits_length] at hj; exact hj))
   rw [Lib.decDigits_length] at h;exact h
  go_wp2
  go_ret
  obtain ⟨os,eo⟩:=Lib.fin_at w (.cells Lib.zeros24 225) dk k 0;exact ⟨rfl,k,os,eo⟩
set_option maxHeartbeats 1600000 in
theorem Ox (u:Nat) (hu64:u < 18446744073709551616) (w:World) (htab:Lib.TabIs Tryz.prog w "internal/strconv.uint64pow10" .u64 Lib.pow10Tab) :
  Calls Tryz.prog 83 #[.int .u64 u,.int .i64 10] w fun e w'=>e = .returned (.string ⟨(Lib.decDigits u).toArray⟩)∧∃ k os,w'=grow (w.drewN k) os:=by
 go_enter Tryz.func83,Tryz.ntmps83
 go_wp2_with (go_at_call 129; refine (Oy u hu64 _ htab).mono ?_; rintro e w' ⟨rfl,hw⟩)
 go_ret
 exact ⟨rfl,hw⟩
theorem zdn:(PR.info? 9).map (fun i=>(i.zero,i.size,i.bytes))=some (some (.string .empty),1,16):=by kernel_rfl
set_option maxHeartbeats 4000000 in
theorem Ky (b:Addr) (n c:Nat) (news:List Value) (w:World) (hl:news.length=n) (hn:n≤maxLen) (hbig:n*16≤140737488355328)
  (hc:∀ j u,news[j]?=some u→w.cell? (b.add j)=some u) (h1:∀ u∈news,u.oneCell'=true) :
  Calls Tryz.prog 161 #[.slice (some b) n c] w fun e w'=>∃ v',e = .returned v'∧w'.ownsRow w.heap.size 9 1 v' n news∧Below w.heap.size w w':=by
 obtain ⟨i0,hi,hz0,hz1,hz2⟩:=info_parts zdn;have qS:∀ (w:World) (a:Option Addr) (n c n' c':Nat),(binOp .eql 66 (.slice a n c) (.slice none n' c')).run Tryz.prog w = .ok (.bool a.isNone) w:=fun w a n c n' c'=>Lib.run_eql_slice_nil w _ _ a n c n' c' Tryz.underlying66
 have A:Aside (∀ j u,news[j]?=some u→w.cell? (b.add j)=some u):=hc;clear hc
 go_enter Tryz.func161,Tryz.ntmps161
 go_wp2_with (at_builtin; refine wpList_append_own _ rfl _ _ 66 rfl w.heap.size 9 i0 (.string .empty) 1 16 Tryz.underlying66 hi hz0 hz1 hz2 rfl (by decide) _ _ _ rfl (World.ownsRow_made w #[] 0 (Nat.le_refl _) (Nat.zero_le _) (by simp)) b n c news rfl ?qc1 ?qc2 ?qc3 ?qc4 ?qc5 ?qc6 ?_)
 case qc1=>rw [Nat.mul_one]; exact hl
 case qc2=>
  intro j u hj;exact Lib.cell?_alloc_some _ (A.out j u hj)
 case qc3=>exact h1
 case qc4=>rw [Nat.zero_add]; exact hn
 case qc5=>rw [Nat.zero_add]; exact hbig
 case qc6=>simp
 intro v' w1 hown hgrow hnil
 go_wp2
 go_ret
 refine ⟨v',rfl,by simpa using hown,?_⟩;exact ((Below.refl _ w).alloc (Nat.le_refl _) _).grown hgrow (by simp) (by intro k hk; simp [Value.ownBlock] at hk; omega)
set_option maxHeartbeats 1000000 in
theorem Kv (n c:Nat) (w:World):Calls Tryz.prog 161 #[.slice none n c] w fun e w'=>e = .returned (.slice none 0 0)∧w'=w:=by
 have qS:∀ (w:World) (a:Option Addr) (n c n' c':Nat),(binOp .eql 66 (.slice a n c) (.slice none n' c')).run Tryz.prog w = .ok (.bool a.isNone) w:=fun w a n c n' c'=>Lib.run_eql_slice_nil w _ _ a n c n' c' Tryz.underlying66
 go_enter Tryz.func161,Tryz.ntmps161
 go_wp2
 go_ret
 exact ⟨rfl,rfl⟩
open Go Go.RowKit
def cB:DO
 | [.list false [.str] l]=>.br (decide (l.length≤4294967296)) (.ok (.vec 9 false [.str] l) []) .no
 | _=>.no
def Y5:DO
 | [.list false [.str] l,.str s]=>.ok (.int .i64 (FX l s 0)) []
 | _=>.no
open Go Go.Proofs Go.RowKit
structure GF (h:Nat→Option Obj):Prop where
 unit:True
 gm:∃ c T fr m,h 1=some (.cells c T fr)∧c[0]?=some (.int .i64 m)
 gp:∃ T fr,h 0=some (.cells (Lib.pow10Tab.map fun z=>Value.int .u64 z).toArray T fr)
 gs:∃ c T fr te pe,h 2=some (.cells c T fr)∧c[0]?=some (.iface te pe)
 gr:∃ c T fr te pe,h 3=some (.cells c T fr)∧c[0]?=some (.iface te pe)
def B0:BT:={ T:=108,e:=5,ng:=4,F:=GF }
theorem dM {w:World} {h:Nat→Option Obj} (hh:h=fun b=>if b < B0.ng then w.heap[b]? else none) {g:Nat} (hg:g < 4) {o:Obj} (ho:h g=some o):w.heap[g]?=some o:=by
 rw [hh] at ho;simp only at ho;rw [BL (show g < B0.ng from hg)] at ho;exact ho
theorem uJ {w:World} (h:Glob B0 w):∃ m,w.cell? ⟨1,0,none⟩=some (.int .i64 m):=by
 obtain ⟨c,T,fr,m,h1,h2⟩:=h.2.gm;exact ⟨m,by simp only [vaF,dM rfl (by decide) h1]; exact h2⟩
theorem uK {w:World} (h:Glob B0 w):Lib.TabIs Tryz.prog w "internal/strconv.uint64pow10" .u64 Lib.pow10Tab:=by
 obtain ⟨T,fr,h1⟩:=h.2.gp;have hn:Tryz.prog.globalNamed "internal/strconv.uint64pow10" = some 0:=by kernel_rfl
 unfold Lib.TabIs World.var?;rw [hn];simp only [Option.bind_some,dM rfl (by decide) h1]
theorem uM {w:World} (h:Glob B0 w):∃ ev,w.cell? ⟨2,0,none⟩=some ev∧(ev = .nilIface∨∃ te pe,ev = .iface te pe):=by
 obtain ⟨c,T,fr,te,pe,h1,h2⟩:=h.2.gs;exact ⟨_,by simp only [vaF,dM rfl (by decide) h1]; exact h2,.inr ⟨te,pe,rfl⟩⟩
theorem uL {w:World} (h:Glob B0 w):∃ ev,w.cell? ⟨3,0,none⟩=some ev∧(ev = .nilIface∨∃ te pe,ev = .iface te pe):=by
 obtain ⟨c,T,fr,te,pe,h1,h2⟩:=h.2.gr;exact ⟨_,by simp only [vaF,dM rfl (by decide) h1]; exact h2,.inr ⟨te,pe,rfl⟩⟩
theorem Keep.below {w w':World} (h:Below w.heap.size w w'):Keep (fun _=>False) w w':=⟨h.os,h.tape,h.output,h.size,fun b hb _=>h.block b hb⟩
theorem Keep.drewN {O:Nat→Prop} (w:World):∀ n,Keep O w (w.drewN n):=fun _=>⟨rfl,rfl,rfl,AY _,fun _ _ _=>rfl⟩
theorem Keep.grow (w:World) (os:Array Obj):Keep (fun _=>False) w (Go.Sort.grow w os):=⟨rfl,rfl,rfl,by simp [Go.Sort.grow],fun b hb _=>by simp [Go.Sort.grow,Array.getElem?_append_left hb]⟩
theorem nD:DQ PR B0 60 Q6:=by
 intro w X γ vs xs r out hsp hg hx hR hV;unfold Q6 at hsp;simp only at hsp;split at hsp
 ·rename_i s t;cases hc:decide (s.size+t.size≤strMax) with
  | false=>rw [hc] at hsp; simp [R.get] at hsp
  | true=>
   rw [hc] at hsp;simp only [R.get,AC,AS] at hsp;obtain ⟨rfl,rfl⟩:=hsp;have hle:s.size+t.size≤strMax:=A1 hc;refine m7 hR rfl rfl (fun γ' o w' O x h=>by
    simp only [VRel] at h ⊢;obtain ⟨cs,rfl,h⟩:=h;refine ⟨cs,rfl,?_⟩
    match cs,h with
    | ⟨[a,b]⟩,h=>simp only [VRels,VRel] at h ⊢; exact h) (fun b v p hgm hB=>?_)
   obtain ⟨x0,x1,rfl⟩:∃ x0 x1,xs=[x0,x1]:=by
    have:=hV.length
    simp at this
    match xs,this with
    | [a,b],_=>exact ⟨a,b,rfl⟩
   simp only [AZ,CB,EE,VRels] at hV;have h0:=hU hgm hV.1;have h1:=hV.2.1;simp only [VRel] at h1;obtain ⟨rfl,ht⟩:=h1;subst h0;refine Does.of_calls Tryz.func60 (by kernel_rfl) (by kernel_rfl) ((Kb b p v (C5 s) t w hB.self hB.heap (by rw [vap]; exact hB.own) hB.ne (by rw [vap]; unfold strMax at hle; omega)).mono ?_);rintro e w' ⟨rfl,v',q1,q2,q3,q4,q5⟩;refine ⟨_,rfl,⟨_,v',⟨.inr rfl,q1,?_,q3,?_⟩,q4,q5⟩,fun O=>?_⟩
   ·have e1:C5 (s++t)=C5 s++C5 t:=by simp [C5]
    have e2:(s++t).size=(C5 s++C5 t).length:=by simp [vap]
    rw [e1,e2];exact q2
   ·simp only [AP]; exact hle
   ·simp only [VRel];refine ⟨_,rfl,?_⟩;simp only [VRels,VRel,ic,BX];refine ⟨trivial,?_,?_⟩
    ·have:AB.min = -9223372036854775808:=rfl
     omega
    ·have:AB.max=9223372036854775807:=rfl
     unfold strMax at hle;omega
 ·simp [R.get] at hsp
theorem Kf {c:Int} (h0:vbx.min≤c) (h1:c≤vbx.max):(Value.int .u8 ((LP c).toNat:Int)) = .int .u8 c:=by
 have e1:vbx.min=0:=rfl;have e2:vbx.max=255:=rfl
 have:((LP c).toNat:Int)=c:=by
  unfold LP;rw [vaM (by simp [UInt8.size]; omega)];omega
 rw [this]
theorem As:DQ PR B0 97 VG:=by
 intro w X γ vs xs r out hsp hg hx hR hV;unfold VG at hsp;simp only at hsp;split at hsp
 ·rename_i s c;cases hc:decide (s.size+1≤strMax) with
  | false=>rw [hc] at hsp; simp [R.get] at hsp
  | true=>
   rw [hc] at hsp;simp only [R.get,AC,AS] at hsp;obtain ⟨rfl,rfl⟩:=hsp;have hle:s.size+1≤strMax:=A1 hc;refine m7 hR rfl rfl (fun γ' o w' O x h=>by simp only [VRel] at h ⊢; exact h) (fun b v p hgm hB=>?_);obtain ⟨x0,x1,rfl⟩:∃ x0 x1,xs=[x0,x1]:=by
    have:=hV.length
    simp at this
    match xs,this with
    | [a,b],_=>exact ⟨a,b,rfl⟩
   simp only [AZ,CB,EE,VRels] at hV;have h0:=hU hgm hV.1;have h1:=hV.2.1;simp only [VRel] at h1;obtain ⟨rfl,hc0,hc1⟩:=h1;subst h0;refine Does.of_calls Tryz.func97 (by kernel_rfl) (by kernel_rfl) ((Ka b p v (C5 s) c w hB.self hB.heap (by rw [vap]; exact hB.own) hB.ne (by rw [vap]; unfold strMax at hle; omega)).mono ?_);rintro e w' ⟨rfl,v',q1,q2,q3,q4,q5⟩;refine ⟨_,rfl,⟨_,v',⟨.inr rfl,q1,?_,q3,?_⟩,q4,q5⟩,fun O=>by simp only [VRel]⟩
   ·have e1:C5 (s.push (LP c))=C5 s++[.int .u8 c]:=by
     rw [← Kf hc0 hc1];simp [C5]
    have e2:(s.push (LP c)).size=(C5 s++[Value.int .u8 c]).length:=by simp [vap]
    rw [e1,e2];exact q2
   ·simp only [vaW]; exact hle
 ·simp [R.get] at hsp
theorem nC:DQ PR B0 56 Q5:=by
 intro w X γ vs xs r out hsp hg hx hR hV;unfold Q5 at hsp;simp only at hsp;split at hsp
 ·rename_i s;simp only [R.get,AC,AS] at hsp;obtain ⟨rfl,rfl⟩:=hsp;refine m7 hR rfl rfl (fun γ' o w' O x h=>by simp only [VRel] at h ⊢; exact h) (fun b v p hgm hB=>?_);obtain ⟨x0,rfl⟩:∃ x0,xs=[x0]:=by
   have:=hV.length
   simp at this
   match xs,this with
   | [a],_=>exact ⟨a,rfl⟩
  simp only [AZ,CB,EE,VRels] at hV;have h0:=hU hgm hV.1;subst h0;refine Does.of_calls Tryz.func56 (by kernel_rfl) (by kernel_rfl) ((Jv b p v s w hB.heap hB.own hB.ne).mono ?_);rintro e w' ⟨rfl,q1,q2,q3⟩;exact ⟨_,rfl,⟨p,v,⟨hB.self,q1,q2,hB.ne,hB.size⟩,q3,fun k hk=>.inl hk⟩,fun O=>by simp only [VRel]; exact ⟨trivial,hB.size⟩⟩
 ·simp [R.get] at hsp
theorem fO:DQ PR B0 43 OR:=by
 intro w X γ vs xs r out hsp hg hx hR hV;unfold OR at hsp;simp only at hsp;split at hsp
 ·rename_i n;simp only [R.get,AC,AS] at hsp;obtain ⟨rfl,rfl⟩:=hsp;obtain ⟨x0,rfl⟩:∃ x0,xs=[x0]:=by
   have:=hV.length
   simp at this
   match xs,this with
   | [a],_=>exact ⟨a,rfl⟩
  simp only [AZ,CB,EE,VRels,VRel,BX] at hV;obtain ⟨rfl,h0,h1⟩:=hV;refine PJ hR rfl rfl (Does.of_calls Tryz.func43 (by kernel_rfl) (by kernel_rfl) ((Tryz.strconv_Itoa n h0 h1 w (uK hg)).mono ?_));rintro e w' ⟨rfl,k,os,rfl⟩;exact ⟨_,rfl,((Keep.drewN w k).trans (Keep.grow _ os) (fun _ _ h=>h)),fun O _=>by
   simp only [VRel];exact ⟨rfl,by have:=ZZ h0 h1; unfold strMax; omega⟩⟩
 ·simp [R.get] at hsp
theorem Ar:DQ PR B0 90 VF:=by
 intro w X γ vs xs r out hsp hg hx hR hV;unfold VF at hsp;simp only at hsp;split at hsp
 ·rename_i s;simp only [R.get,AC,AS] at hsp;obtain ⟨rfl,rfl⟩:=hsp;obtain ⟨x0,rfl⟩:∃ x0,xs=[x0]:=by
   have:=hV.length
   simp at this
   match xs,this with
   | [a],_=>exact ⟨a,rfl⟩
  simp only [AZ,CB,EE,VRels,VRel,BX] at hV;obtain ⟨rfl,hs⟩:=hV;unfold strMax at hs;have hb:=Ji s;refine PJ hR rfl rfl (Does.of_calls Tryz.func90 (by kernel_rfl) (by kernel_rfl) ?_);cases ha:Lib.atoiAll s.data.toList
  ·rename_i v;refine (Tryz.strconv_Atoi_ok s (by omega) v ha w).mono ?_;rintro e w' ⟨rfl,hw⟩;have e1:FP s=v:=by unfold FP; rw [ha]
   have e2:MD s=true:=by unfold MD; rw [ha]
   rw [e1] at hb ⊢;rw [e2];refine ⟨_,rfl,?_,fun O _=>?_⟩
   ·rcases hw with rfl | ⟨t,rfl⟩
    ·exact Keep.refl _ _
    ·unfold vaG;have h1:=Keep.alloc (fun _=>False) w.drew (.cells (Lib.bytesCells w 5 t) 5);refine ((Keep.drew (fun _=>False) w).trans h1 (fun _ _ h=>h)).trans (Keep.freeze (O:=fun k=>k=w.heap.size) _ ⟨w.heap.size,_,none⟩ 1 rfl) (fun b hb h=>?_);subst h;exact absurd hb (Nat.lt_irrefl _)
   ·simp only [VRel];exact ⟨_,rfl,by simp only [VRels,VRel,BX,vaZ]; exact hb⟩
  ·skip
   obtain ⟨ev,h1,h2⟩:=uM hg;refine (Tryz.strconv_Atoi_syntax s (by omega) ha ev w h1 h2).mono ?_;rintro e w' ⟨N,rfl,_,_,hw⟩;have e1:FP s=0:=by unfold FP; rw [ha]
   have e2:MD s=false:=by unfold MD; rw [ha]
   rw [e1] at hb ⊢;rw [e2];refine ⟨_,rfl,Keep.below hw,fun O _=>?_⟩;simp only [VRel];exact ⟨_,rfl,by simp only [VRels,VRel,BX]; exact ⟨⟨trivial,hb⟩,_,_,rfl⟩⟩
  ·skip
   obtain ⟨ev,h1,h2⟩:=uL hg;refine (Tryz.strconv_Atoi_range s (by omega) ha ev w h1 h2).mono ?_;rintro e w' ⟨N,rfl,_,_,hw⟩;have e1:FP s=Lib.atoiSat s.data.toList:=by unfold FP; rw [ha]
   have e2:MD s=false:=by unfold MD; rw [ha]
   rw [e1] at hb ⊢;rw [e2];refine ⟨_,rfl,Keep.below hw,fun O _=>?_⟩;simp only [VRel];exact ⟨_,rfl,by simp only [VRels,VRel,BX]; exact ⟨⟨trivial,hb⟩,_,_,rfl⟩⟩
 ·simp [R.get] at hsp
theorem zc2:DQ PR B0 83 cD:=by
 intro w X γ vs xs r out hsp hg hx hR hV;unfold cD at hsp;simp only at hsp;split at hsp
 ·rename_i n b;cases hc:decide (b=10) with
  | false=>rw [hc] at hsp; simp [R.get] at hsp
  | true=>
   rw [hc] at hsp;have hb:=A1 hc;subst hb;simp only [R.get,AC,AS] at hsp;obtain ⟨rfl,rfl⟩:=hsp;obtain ⟨x0,x1,rfl⟩:∃ x0 x1,xs=[x0,x1]:=by
    have:=hV.length
    simp at this
    match xs,this with
    | [a,b],_=>exact ⟨a,b,rfl⟩
   simp only [AZ,CB,EE,VRels,VRel,BX] at hV;obtain ⟨⟨rfl,h0,h1⟩,rfl,_⟩:=hV;have e0:AJ.min=0:=rfl;have e1:AJ.max=18446744073709551615:=rfl;rw [e0] at h0;rw [e1] at h1;obtain ⟨u,rfl⟩:∃ u:Nat,n=u:=⟨n.toNat,by omega⟩;refine PJ hR rfl rfl (Does.of_calls Tryz.func83 (by kernel_rfl) (by kernel_rfl) ((Ox u (by omega) w (uK hg)).mono ?_));rintro e w' ⟨rfl,k,os,rfl⟩;refine ⟨_,rfl,((Keep.drewN w k).trans (Keep.grow _ os) (fun _ _ h=>h)),fun O _=>?_⟩;simp only [VRel];have hz:=lD h0 h1;exact ⟨by simp [ET],by unfold strMax; omega⟩
 ·simp [R.get] at hsp
theorem zc3:DQ PR B0 189 cE:=by
 intro w X γ vs xs r out hsp hg hx hR hV;unfold cE at hsp;simp only at hsp;split at hsp
 ·rename_i s b c;cases hc:(decide (b=10)&&decide (c=64)) with
  | false=>rw [hc] at hsp; simp [R.get] at hsp
  | true=>
   rw [hc] at hsp;simp only [AH,AQ] at hc;obtain ⟨rfl,rfl⟩:=hc;simp only [R.get,AC,AS] at hsp;obtain ⟨rfl,rfl⟩:=hsp;obtain ⟨x0,x1,x2,rfl⟩:∃ x0 x1 x2,xs=[x0,x1,x2]:=by
    have:=hV.length
    simp at this
    match xs,this with
    | [a,b,c],_=>exact ⟨a,b,c,rfl⟩
   simp only [AZ,CB,EE,VRels,VRel,BX] at hV;obtain ⟨⟨rfl,hs⟩,⟨rfl,_⟩,rfl,_⟩:=hV;unfold strMax at hs;have hb:=mD s;refine PJ hR rfl rfl (Does.of_calls Tryz.func189 (by kernel_rfl) (by kernel_rfl) ?_);cases ha:Lib.parseMag s.data.toList
   ·rename_i v;refine (Tryz.strconv_ParseUint_10_at64_ok s (by omega) v (by rw [vbH]; exact ha) w).mono ?_;rintro e w' ⟨rfl,hw⟩;have e1:F5 s=v:=by unfold F5; rw [ha]
    have e2:IF s=true:=by unfold IF; rw [ha]
    rw [e1] at hb ⊢;rw [e2];refine ⟨_,rfl,?_,fun O _=>?_⟩
    ·rcases hw with rfl | rfl
     ·exact Keep.refl _ _
     ·unfold vaG;have h1:=Keep.alloc (fun _=>False) w.drew (.cells (Lib.bytesCells w 5 s) 5);refine ((Keep.drew (fun _=>False) w).trans h1 (fun _ _ h=>h)).trans (Keep.freeze (O:=fun k=>k=w.heap.size) _ ⟨w.heap.size,_,none⟩ 1 rfl) (fun b hb h=>?_);subst h;exact absurd hb (Nat.lt_irrefl _)
    ·simp only [VRel];exact ⟨_,rfl,by simp only [VRels,VRel,BX,vaZ]; exact hb⟩
   ·skip
    obtain ⟨ev,h1,h2⟩:=uM hg;refine (Tryz.strconv_ParseUint_10_at64_syntax s (by omega) (by rw [vbH]; exact ha) ev w h1 h2).mono ?_;rintro e w' ⟨N,rfl,_,_,hw⟩;have e1:F5 s=0:=by unfold F5; rw [ha]
    have e2:IF s=false:=by unfold IF; rw [ha]
    rw [e1] at hb ⊢;rw [e2];refine ⟨_,rfl,Keep.below hw,fun O _=>?_⟩;simp only [VRel];exact ⟨_,rfl,by simp only [VRels,VRel,BX]; exact ⟨⟨trivial,hb⟩,_,_,rfl⟩⟩
   ·skip
    obtain ⟨ev,h1,h2⟩:=uL hg;refine (Tryz.strconv_ParseUint_10_at64_range s (by omega) (by rw [vbH]; exact ha) ev w h1 h2).mono ?_;rintro e w' ⟨N,rfl,_,_,hw⟩;have e1:F5 s=18446744073709551615:=by unfold F5; rw [ha]
    have e2:IF s=false:=by unfold IF; rw [ha]
    rw [e1] at hb ⊢;rw [e2];refine ⟨_,rfl,Keep.below hw,fun O _=>?_⟩;simp only [VRel];exact ⟨_,rfl,by simp only [VRels,VRel,BX]; exact ⟨⟨trivial,hb⟩,_,_,rfl⟩⟩
 ·simp [R.get] at hsp
theorem zc5:DQ PR B0 85 cG:=by
 intro w X γ vs xs r out hsp hg hx hR hV;unfold cG at hsp;simp only at hsp;split at hsp
 ·rename_i s cs;cases hc:(decide (cs.size=1)&&decide ((cs.data.toList.headD 0).toNat < 128)) with
  | false=>rw [hc] at hsp; simp [R.get] at hsp
  | true=>
   rw [hc] at hsp;simp only [AH,AQ] at hc;simp only [R.get,AC,AS] at hsp;obtain ⟨rfl,rfl⟩:=hsp;obtain ⟨c,rfl⟩:∃ c,cs=⟨#[c]⟩:=by
    obtain ⟨⟨l⟩⟩:=cs;have h1:l.length=1:=hc.1
    match l,h1 with
    | [c],_=>exact ⟨c,rfl⟩
   obtain ⟨x0,x1,rfl⟩:∃ x0 x1,xs=[x0,x1]:=by
    have:=hV.length
    simp at this
    match xs,this with
    | [a,b],_=>exact ⟨a,b,rfl⟩
   simp only [AZ,CB,EE,VRels,VRel,BX] at hV;obtain ⟨⟨rfl,hs⟩,rfl,_⟩:=hV;have hz:=Ei s ⟨#[c]⟩;unfold strMax at hs;refine PJ hR rfl rfl (Does.of_calls Tryz.func85 (by kernel_rfl) (by kernel_rfl) ((Tryz.strings_TrimRight_one s c hc.2 w (by omega)).mono ?_));rintro e w' ⟨rfl,rfl⟩;refine ⟨_,rfl,Keep.refl _ _,fun O _=>?_⟩;simp only [VRel];exact ⟨rfl,by unfold strMax; omega⟩
 ·simp [R.get] at hsp
theorem Aw:DQ PR B0 86 VJ:=by
 intro w X γ vs xs r out hsp hg hx hR hV;unfold VJ at hsp;simp only at hsp;split at hsp
 ·rename_i s n;cases hc:(decide (0≤n)&&decide (s.size*n.toNat≤strMax)) with
  | false=>rw [hc] at hsp; simp [R.get] at hsp
  | true=>
   rw [hc] at hsp;simp only [AH,AQ] at hc;simp only [R.get,AC,AS] at hsp;obtain ⟨rfl,rfl⟩:=hsp;obtain ⟨x0,x1,rfl⟩:∃ x0 x1,xs=[x0,x1]:=by
    have:=hV.length
    simp at this
    match xs,this with
    | [a,b],_=>exact ⟨a,b,rfl⟩
   simp only [AZ,CB,EE,VRels,VRel,BX] at hV;obtain ⟨⟨rfl,hs⟩,rfl,_,hn1⟩:=hV;have e1:AB.max=9223372036854775807:=rfl;rw [e1] at hn1;obtain ⟨c,rfl⟩:∃ c:Nat,n=c:=⟨n.toNat,by omega⟩;have hz:=mI s c;have hle:=hc.2;simp only [BD] at hle ⊢;unfold strMax at hle;refine PJ hR rfl rfl (Does.of_calls Tryz.func86 (by kernel_rfl) (by kernel_rfl) ((Tryz.strings_Repeat s c w (by omega) (by omega)).mono ?_));rintro e w' ⟨rfl,hw⟩;refine ⟨_,rfl,Keep.below hw,fun O _=>?_⟩;simp only [VRel];exact ⟨rfl,by rw [hz]; unfold strMax; omega⟩
 ·simp [R.get] at hsp
theorem zc4:DQ PR B0 57 cF:=by
 intro w X γ vs xs r out hsp hg hx hR hV;unfold cF at hsp;simp only at hsp;split at hsp
 ·rename_i s p;simp only [R.get,AC,AS] at hsp;obtain ⟨rfl,rfl⟩:=hsp;obtain ⟨x0,x1,rfl⟩:∃ x0 x1,xs=[x0,x1]:=by
   have:=hV.length
   simp at this
   match xs,this with
   | [a,b],_=>exact ⟨a,b,rfl⟩
  simp only [AZ,CB,EE,VRels,VRel,BX] at hV;obtain ⟨⟨rfl,hs⟩,rfl,_⟩:=hV;have hz:=Eh s p;refine PJ hR rfl rfl (Does.of_calls Tryz.func57 (by kernel_rfl) (by kernel_rfl) ((Tryz.strings_CutPrefix s p w).mono ?_));rintro e w' ⟨rfl,rfl⟩;refine ⟨_,rfl,Keep.refl _ _,fun O _=>?_⟩;simp only [VRel];exact ⟨_,rfl,by simp only [VRels,VRel,BX]; exact ⟨⟨rfl,by omega⟩,rfl⟩⟩
 ·simp [R.get] at hsp
theorem Au:DQ PR B0 104 VH:=by
 intro w X γ vs xs r out hsp hg hx hR hV;unfold VH at hsp;simp only at hsp;split at hsp
 ·rename_i s sep;cases hc:decide (s.size < 4294967281) with
  | false=>rw [hc] at hsp; simp [R.get] at hsp
  | true=>
   rw [hc] at hsp;simp only [R.get,AC,AS] at hsp;obtain ⟨rfl,rfl⟩:=hsp;obtain ⟨x0,x1,rfl⟩:∃ x0 x1,xs=[x0,x1]:=by
    have:=hV.length
    simp at this
    match xs,this with
    | [a,b],_=>exact ⟨a,b,rfl⟩
   simp only [AZ,CB,EE,VRels,VRel,BX] at hV;obtain ⟨⟨rfl,hs⟩,rfl,hsep⟩:=hV;obtain ⟨m,hm⟩:=uJ hg;refine PJ hR rfl rfl (Does.of_calls Tryz.func104 (by kernel_rfl) (by kernel_rfl) ((Tryz.strings_Cut s sep m w (A1 hc) hm).mono ?_));rintro e w' ⟨rfl,n,rfl⟩;have hsz:=tA s sep;refine ⟨_,rfl,Keep.drewN w n,fun O _=>?_⟩;simp only [VRel];exact ⟨_,rfl,by simp only [VRels,VRel,BX]; exact ⟨⟨rfl,by omega⟩,⟨rfl,by omega⟩,rfl⟩⟩
 ·simp [R.get] at hsp
theorem fP:DQ PR B0 46 OS:=by
 intro w X γ vs xs r out hsp hg hx hR hV;unfold OS at hsp;simp only at hsp;split at hsp
 ·rename_i s sep;cases hc:(decide (s.size < 4294967281)&&decide (1≤sep.size)) with
  | false=>rw [hc] at hsp; simp [R.get] at hsp
  | true=>
   rw [hc] at hsp;simp only [AH,AQ] at hc;simp only [R.get,AC,AS] at hsp;obtain ⟨rfl,rfl⟩:=hsp;obtain ⟨x0,x1,rfl⟩:∃ x0 x1,xs=[x0,x1]:=by
    have:=hV.length
    simp at this
    match xs,this with
    | [a,b],_=>exact ⟨a,b,rfl⟩
   simp only [AZ,CB,EE,VRels,VRel,BX] at hV;obtain ⟨⟨rfl,hs⟩,rfl,hsep⟩:=hV;obtain ⟨m,hm⟩:=uJ hg;have hlen:=Lib.splitB_all sep hc.2 0 _ s rfl;have hcnt:=Lib.countB_le sep hc.2 s.size s (AY _);refine PJ hR rfl rfl (Does.of_calls Tryz.func46 (by kernel_rfl) (by kernel_rfl) ((Tryz.strings_Split s sep m w hc.1 hm hc.2).mono ?_));rintro e w' ⟨rfl,rfl⟩;refine ⟨_,rfl,Keep.alloc _ w _,fun O hO=>?_⟩;simp only [VRel]
   have:=zdo (w:=w) (w':=w.alloc (.cells ((D5 s sep).map Value.string).toArray 9)) hO (g:=w.heap.size) (AY _) (vaw w _) (l:=D5 s sep) (c:=Lib.countB s sep+1) (by unfold D5; omega) (by unfold maxLen; omega) (by unfold D5 strMax; omega) (fun p hp=>CZ ((US sep _ s).2 p hp) hs)
   unfold D5 at this ⊢;rw [hlen] at this;exact this
 ·simp [R.get] at hsp
theorem Dm {w:World} {O:Nat→Prop} {l:LI} {x:Value} (h:Kd.Rel w O (.list false [.str]) (.list l) x):∃ p c,x = .slice p l.length c∧l.length≤c∧c≤maxLen∧l.length≤strMax∧∀ j y,l[j]?=some y→∃ b o,p=some ⟨b,o,none⟩∧b < w.heap.size∧w.cell? ⟨b,o+j,none⟩=some (.string y.toStr)∧y.toStr.size≤strMax:=by
 simp only [Kd.Rel,IV.toList] at h;obtain ⟨p,c,rfl,hc,hm,hl,hi⟩:=h;refine ⟨p,c,rfl,hc,hm,hl,fun j y hy=>?_⟩;obtain ⟨b,o,rfl,_,hb,hr⟩:=hi j y hy;simp only [Kd.RelAll,AN,A7,BF,Nat.mul_one,C4,BX] at hr;obtain ⟨u,hu,hs⟩:=hr;simp only [Kd.Rel,FQ] at hs;obtain ⟨rfl,hs⟩:=hs;exact ⟨b,o,rfl,hb,hu,hs⟩
theorem Av:DQ PR B0 45 VI:=by
 intro w X γ vs xs r out hsp hg hx hR hV;unfold VI at hsp;simp only at hsp;split at hsp
 ·rename_i l sep;cases hc:(decide (l.length≤strMax)&&decide ((GB (l.map IV.toStr) sep).size≤strMax)) with
  | false=>rw [hc] at hsp; simp [R.get] at hsp
  | true=>
   rw [hc] at hsp;simp only [AH,AQ] at hc;simp only [R.get,AC,AS] at hsp;obtain ⟨rfl,rfl⟩:=hsp;obtain ⟨x0,x1,rfl⟩:∃ x0 x1,xs=[x0,x1]:=by
    have:=hV.length
    simp at this
    match xs,this with
    | [a,b],_=>exact ⟨a,b,rfl⟩
   simp only [AZ,CB,EE,VRels,VRel,BX] at hV;obtain ⟨h0,rfl,_⟩:=hV;obtain ⟨p,c,rfl,hc1,hc2,hc3,hcell⟩:=Dm h0;have hz:(GB (l.map IV.toStr) sep).size=(Lib.join ((l.map IV.toStr).map (·.data.toList)) sep.data.toList).length:=by
    show (Array.size (List.toArray _))=_;rw [vad]
   have hle:=hc.2;rw [hz] at hle;unfold strMax at hle hc3;refine PJ hR rfl rfl (Does.of_calls Tryz.func45 (by kernel_rfl) (by kernel_rfl) (Calls.mono (R:=fun e w'=>e = .returned (.string (GB (l.map IV.toStr) sep))∧Below w.heap.size w w') ?_ ?_))
   ·cases l with
    | nil=>
     refine (Tryz.strings_Join_none p c sep w).mono ?_;rintro e w' ⟨rfl,rfl⟩;exact ⟨rfl,Below.refl _ _⟩
    | cons y r=>
     obtain ⟨b,o,rfl,hb,_⟩:=hcell 0 y rfl
     have:=Tryz.strings_Join b o c ((y :: r).map IV.toStr) sep w (fun j x hj=>by
      rw [B5,C8] at hj;obtain ⟨y',hj,rfl⟩:=hj;obtain ⟨b',o',hp,_,hu,_⟩:=hcell j y' hj;simp only [AC,DA,BX] at hp;obtain ⟨rfl,rfl⟩:=hp;exact hu) hb (by rw [B7]; omega) (by rw [B7]; omega) (by omega)
     rw [B7] at this;exact this
   ·rintro e w' ⟨rfl,hw⟩;refine ⟨_,rfl,Keep.below hw,fun O _=>?_⟩;simp only [VRel];exact ⟨trivial,by rw [hz]; unfold strMax; omega⟩
 ·simp [R.get] at hsp
theorem zcW:DQ PR B0 161 cB:=by
 intro w X γ vs xs r out hsp hg hx hR hV;unfold cB at hsp;simp only at hsp;split at hsp
 ·rename_i l;cases hc:decide (l.length≤4294967296) with
  | false=>rw [hc] at hsp; simp [R.get] at hsp
  | true=>
   rw [hc] at hsp;have hc:=A1 hc;simp only [R.get,AC,AS] at hsp;obtain ⟨rfl,rfl⟩:=hsp;obtain ⟨x0,rfl⟩:∃ x0,xs=[x0]:=by
    have:=hV.length
    simp at this
    match xs,this with
    | [a],_=>exact ⟨a,rfl⟩
   simp only [AZ,CB,EE,VRels,VRel,BX] at hV;obtain ⟨p,c,rfl,hc1,hc2,hc3,hcell⟩:=Dm hV;have hel:∀ (w':World) (O:Nat→Prop) i y,l[i]?=some y→Kd.RelAll w' O [.str] (FQ false y) 0 (fun j u=>(l.map fun y=>Value.string y.toStr)[i*[Kd.str].length+j]?=some u):=fun w' O i y hy=>by
    obtain ⟨b,o,_,_,_,hs⟩:=hcell i y hy;simp only [Kd.RelAll,AN,A7,BF,Nat.mul_one,C4,BX];refine ⟨.string y.toStr,by rw [B5,hy]; rfl,?_⟩;simp only [Kd.Rel,FQ];exact ⟨trivial,hs⟩
   refine Af hR rfl (by decide) (by decide) hc3 (Does.of_calls Tryz.func161 (by kernel_rfl) (by kernel_rfl) ?_);cases p with
   | none=>
    have h0:l=[]:=by
     cases l with
     | nil=>rfl
     | cons y r=>
      obtain ⟨b,o,hp,_⟩:=hcell 0 y rfl;cases hp
    subst h0;refine (Kv _ c w).mono ?_;rintro e w' ⟨rfl,rfl⟩;exact ⟨_,[],rfl,Keep.refl _ _,⟨rfl,.inl ⟨rfl,rfl⟩⟩,hel _⟩
   | some a=>
    refine (Ky a l.length c (l.map fun y=>Value.string y.toStr) w (by rw [B7]) (by unfold maxLen; omega) (by omega) (fun j u hj=>?_) (fun u hu=>?_)).mono ?_
    ·rw [B5,C8] at hj;obtain ⟨y,hj,rfl⟩:=hj;obtain ⟨b,o,hp,_,hu,_⟩:=hcell j y hj;simp only [AC] at hp;subst hp;rw [Addr.add_lit];exact hu
    ·rw [CY] at hu;obtain ⟨y,_,rfl⟩:=hu;rfl
    ·rintro e w' ⟨v',rfl,hown,hw⟩;exact ⟨v',_,rfl,Keep.below hw,hown,hel _⟩
 ·simp [R.get] at hsp
def SpsOK:List (Nat × DO)→Prop
 | []=>True
 | (f,sp) :: r=>DQ PR B0 f sp∧SpsOK r
theorem SpsOK.get:∀ {l:List (Nat × DO)},SpsOK l→∀ f sp,lk l f=some sp→DQ PR B0 f sp
 | [],_,f,sp,h=>by simp [lk] at h
 | (g,sg) :: r,hs,f,sp,h=>by
  simp only [lk] at h;split at h
  ·rename_i hb;simp only [AC] at h;subst h;rw [← FK.1 hb];exact hs.1
  ·exact SpsOK.get hs.2 f sp h
theorem D1 {f:Nat} {fn:Func} {code:Code} {rs:List ResultVar} {nt:Nat} (sps:List (Nat × DO)) (lp:List (Nat × KP)) (sp:DO) (rks:List (List Kd)) (hf:PR.funcs[f]?=some fn)
  (hc:(fn.name == "runtime.NumGoroutine")=false∧fn.body=some code∧fn.ntmps=nt∧BW nt 900000=true∧fn.results.toList=rs) (hs:SpsOK sps)
  (h:∀ vs r,(KU vs (FW vs)→QT vs)→(sp vs).get=some r→∃ N,DS (DZ sps lp nt N) code rs rks vs=some r):DQ PR B0 f sp:=
 Ag (DZ sps lp nt) sp rks hf hc (fun _=>rfl) wF (fun _=>Dw rfl Dv) (fun _=>tS rfl tR) (fun _=>hs.get) (fun _ f p hp=>by cases hp) (fun _ h=>pL h) h
def IpsOK:List (Nat × Ip)→Prop
 | []=>True
 | (f,p) :: r=>PS PR f p∧IpsOK r
theorem IpsOK.get:∀ {l:List (Nat × Ip)},IpsOK l→∀ f p,lk l f=some p→PS PR f p
 | [],_,f,p,h=>by simp [lk] at h
 | (g,pg) :: r,hs,f,p,h=>by
  simp only [lk] at h;split at h
  ·rename_i hb;simp only [AC] at h;subst h;rw [← FK.1 hb];exact hs.1
  ·exact IpsOK.get hs.2 f p h
theorem Ah {f:Nat} {fn:Func} {code:Code} {rs:List ResultVar} {nt:Nat} (sps:List (Nat × DO)) (ips:List (Nat × Ip)) (lp:List (Nat × KP)) (sp:DO) (rks:List (List Kd)) (hf:PR.funcs[f]?=some fn)
  (hc:(fn.name == "runtime.NumGoroutine")=false∧fn.body=some code∧fn.ntmps=nt∧BW nt 900000=true∧fn.results.toList=rs) (hs:SpsOK sps) (hi:IpsOK ips)
  (h:∀ vs r,(KU vs (FW vs)→QT vs)→(sp vs).get=some r→∃ N,DS (eH sps ips lp nt N) code rs rks vs=some r):DQ PR B0 f sp:=
 Ag (eH sps ips lp nt) sp rks hf hc (fun _=>rfl) wF (fun _=>Dw rfl Dv) (fun _=>tS rfl tR) (fun _=>hs.get) (fun _=>hi.get) (fun _ h=>pL h) h
open Go Go.RowKit
theorem EC {n:Int} (h0 : -9223372036854775808≤n) (h1:n≤9223372036854775807):AA .i64 n=n:=by
 have e:AA .i64 n=(n+9223372036854775808) % 18446744073709551616 - 9223372036854775808:=by
  simp [AA,AO,vah];omega
 rw [e];omega
theorem IN {α:Type} {l:List α} {i:Nat} (h:i < l.length):decide ((i:Int) < ic l.length)=true:=by simp [ic]; omega
theorem JC {α:Type} {l:List α} {i:Nat} (h:l.length≤i):decide ((i:Int) < ic l.length)=false:=by simp [ic]; omega
theorem I0 {i:Nat}:decide (0≤(i:Int))=true:=by simp
theorem HJ {i:Nat} (h:i < 9223372036854775807):AA .i64 ((i:Int)+1)=((i+1:Nat):Int):=by rw [EC (by omega) (by omega)]; rfl
theorem JB {α:Type} [Inhabited α] {l:List α} {i:Nat} (h:i < l.length):l.getD (i:Int).toNat default=l[i]:=by simp [h]
theorem i6 (a b:Int):decide (a≤b)=!decide (b < a):=by rw [va6]; simp
theorem iY (a b:Int):decide (a > b)=decide (b < a):=rfl
theorem Q9 (a b:Int):(a==b)=decide (a=b):=rfl
theorem pP (a b:Int):(a != b)=!decide (a=b):=rfl
theorem DC {α:Type _} (a b:α):cond true a b=a:=Eq.trans (Eq.refl a) (Eq.refl a)
theorem DD {α:Type _} (a b:α):cond false a b=b:=Eq.trans (Eq.refl b) (Eq.refl b)
open Go
def E7 (n:Int):Int:=AA .i64 n
def IP (n:Int):Int:=AA .u64 n
def L8 (lo hi:Int):Int:=E7 (E7 (hi - lo)+1)
def DL (n lo hi:Int):Int:=cond (decide (n.tmod (L8 lo hi) < 0)) (E7 (lo+E7 (E7 (E7 (n.tmod (L8 lo hi)+hi) - lo)+1))) (E7 (lo+n.tmod (L8 lo hi)))
def NN:DO
 | [.int .i64 n,.int .i64 lo,.int .i64 hi]=>.br (decide (L8 lo hi=0)) .no (.ok (.int .i64 (DL n lo hi)) [])
 | _=>.no
abbrev U3:BA:=⟨#[45]⟩
abbrev Ey:BA:=⟨#[46]⟩
abbrev zdS:BA:=⟨#[48]⟩
abbrev W3:BA:=⟨#[]⟩
def S5:DO
 | []=>.ok (.int .u64 390625) []
 | _=>.no
def J2 (r:Nat):List UInt8:=Lib.trimRightB (Lib.repeatL [48] (8 - (CD (r*390625)).length)++CD (r*390625)) 48
def H7 (u:Nat):List UInt8:=CD (u / 256)++(if u % 256=0 then [] else 46 :: J2 (u % 256))
def PD (n:Int):List UInt8:=if n < 0 then 45 :: H7 n.natAbs else H7 n.natAbs
def DN (n:Int):BA:=⟨(PD n).toArray⟩
def PX:DO
 | [.int .i64 n]=>.ok (.str (DN n)) []
 | _=>.no
def YD:DO
 | [.str s]=>.ok (.tup [.int .u64 (F5 s),.bool (IF s)]) []
 | _=>.no
def NS (s:BA):BA:=cutL (GJ s U3) Ey
def IK (s:BA):BA:=GQ (GJ s U3) Ey
def LU (s:BA):BA:=IK s++HA zdS (8 - (IK s).size)
def NR (s:BA):Int:=IP (IP (F5 (NS s)*256)+F5 (LU s) / 390625)
def ZP (s:BA):Int:=E7 (cond (RO s U3) (IP (0 - NR s)) (NR s))
def TZ (s:BA):Bool:=
 decide ((IK s).size≤8)&&(IF (NS s)&&(IF (LU s)&&(decide (F5 (NS s)≤36028797018963968)&&(decide (F5 (LU s) % 390625=0)&&decide (DN (ZP s)=s)))))
def FR (s:BA):Int:=cond (TZ s) (ZP s) 0
def S4:DO
 | [.str s]=>.br (decide (s.size < 4294967281)) (.ok (.tup [.int .i64 (FR s),.bool (TZ s)]) []) .no
 | _=>.no
open Go Go.Proofs
def Gd (N:Nat):Env:=DZ [] [] 24 N
theorem Ws (N:Nat) (n lo hi:Int):DS (Gd N) qJ [.tmp 6] [[.z]] [.i n,.i lo,.i hi] =
 (cond (decide (AA AB (AA AB (hi - lo)+1)=0))
 none
 (cond (decide (Int.tmod n (AA AB (AA AB (hi - lo)+1)) < 0))
 (some ((.i (AA AB (lo+AA AB (AA AB (AA AB (Int.tmod n (AA AB (AA AB (hi - lo)+1))+hi) - lo)+1)))),[]))
 (some ((.i (AA AB (lo+Int.tmod n (AA AB (AA AB (hi - lo)+1))))),[])))):=by kernel_rfl
def Gu (N:Nat):Env:=DZ [] [(3,⟨[0,1,2],[],[]⟩)] 8 N
def Gt (N:Nat):Env:=DZ [(189,cE)] [] 19 N
theorem Xl (N:Nat) (s:BA):DS (Gt N) qZ [.tmp 2,.tmp 3] [[.int .u64],[.bool]] [.str s] =
 (cond (IF s)
 (cond (decide (0≤0)&&decide (0 < ic (AF s)))
 (some ((.tup [.int .u64 (F5 s),.bool (ic (UInt8.toNat (AI (Array.toList (ByteArray.data s)) (AD 0) 0)) != 43)]),[]))
 none)
 (some ((.tup [.int .u64 (F5 s),.bool false]),[]))):=by kernel_rfl
def Gr (N:Nat):Env:=DZ [(84,S5),(83,cD),(86,VJ),(85,cG)] [] 38 N
theorem Xj (N:Nat) (n:Int):DS (Gr N) qX [.tmp 2] [[.str]] [.i n] =
 (cond (decide (n < 0))
 (cond (decide (AF { data:=#[45] }+AF (ET (vaR (AA AJ (0 - AA AJ n)) (2 ^ min (AD 8) (AO AJ))))≤strMax))
 (cond (AA AJ (ic (CF (A0 (AO AJ) (AA AJ (0 - AA AJ n)) &&& A0 (AO AJ) 255)))==0)
 (some ((.str ({ data:=#[45] }++ET (vaR (AA AJ (0 - AA AJ n)) (2 ^ min (AD 8) (AO AJ))))),[]))
 (cond (decide (AF ({ data:=#[45] }++ET (vaR (AA AJ (0 - AA AJ n)) (2 ^ min (AD 8) (AO AJ))))+AF { data:=#[46] }≤strMax))
 (cond (decide (0≤AA AB (8 - ic (AF (ET (AA AJ (AA AJ (ic (CF (A0 (AO AJ) (AA AJ (0 - AA AJ n)) &&& A0 (AO AJ) 255)))*390625))))))&&decide (AF { data:=#[48] }*AD (AA AB (8 - ic (AF (ET (AA AJ (AA AJ (ic (CF (A0 (AO AJ) (AA AJ (0 - AA AJ n)) &&& A0 (AO AJ) 255)))*390625))))))≤strMax))
 (cond (decide (AF (HA { data:=#[48] } (AD (AA AB (8 - ic (AF (ET (AA AJ (AA AJ (ic (CF (A0 (AO AJ) (AA AJ (0 - AA AJ n)) &&& A0 (AO AJ) 255)))*390625))))))))+AF (ET (AA AJ (AA AJ (ic (CF (A0 (AO AJ) (AA AJ (0 - AA AJ n)) &&& A0 (AO AJ) 255)))*390625)))≤strMax))
 (cond (decide (AF ({ data:=#[45] }++ET (vaR (AA AJ (0 - AA AJ n)) (2 ^ min (AD 8) (AO AJ)))++{ data:=#[46] })+AF (NG (HA { data:=#[48] } (AD (AA AB (8 - ic (AF (ET (AA AJ (AA AJ (ic (CF (A0 (AO AJ) (AA AJ (0 - AA AJ n)) &&& A0 (AO AJ) 255)))*390625)))))))++ET (AA AJ (AA AJ (ic (CF (A0 (AO AJ) (AA AJ (0 - AA AJ n)) &&& A0 (AO AJ) 255)))*390625))) { data:=#[48] })≤strMax))
 (some ((.str ({ data:=#[45] }++ET (vaR (AA AJ (0 - AA AJ n)) (2 ^ min (AD 8) (AO AJ)))++{ data:=#[46] }++NG (HA { data:=#[48] } (AD (AA AB (8 - ic (AF (ET (AA AJ (AA AJ (ic (CF (A0 (AO AJ) (AA AJ (0 - AA AJ n)) &&& A0 (AO AJ) 255)))*390625)))))))++ET (AA AJ (AA AJ (ic (CF (A0 (AO AJ) (AA AJ (0 - AA AJ n)) &&& A0 (AO AJ) 255)))*390625))) { data:=#[48] })),[]))
 none)
 none)
 none)
 none))
 none)
 (cond (decide (AF { data:=#[] }+AF (ET (vaR (AA AJ n) (2 ^ min (AD 8) (AO AJ))))≤strMax))
 (cond (AA AJ (ic (CF (A0 (AO AJ) (AA AJ n) &&& A0 (AO AJ) 255)))==0)
 (some ((.str ({ data:=#[] }++ET (vaR (AA AJ n) (2 ^ min (AD 8) (AO AJ))))),[]))
 (cond (decide (AF ({ data:=#[] }++ET (vaR (AA AJ n) (2 ^ min (AD 8) (AO AJ))))+AF { data:=#[46] }≤strMax))
 (cond (decide (0≤AA AB (8 - ic (AF (ET (AA AJ (AA AJ (ic (CF (A0 (AO AJ) (AA AJ n) &&& A0 (AO AJ) 255)))*390625))))))&&decide (AF { data:=#[48] }*AD (AA AB (8 - ic (AF (ET (AA AJ (AA AJ (ic (CF (A0 (AO AJ) (AA AJ n) &&& A0 (AO AJ) 255)))*390625))))))≤strMax))
 (cond (decide (AF (HA { data:=#[48] } (AD (AA AB (8 - ic (AF (ET (AA AJ (AA AJ (ic (CF (A0 (AO AJ) (AA AJ n) &&& A0 (AO AJ) 255)))*390625))))))))+AF (ET (AA AJ (AA AJ (ic (CF (A0 (AO AJ) (AA AJ n) &&& A0 (AO AJ) 255)))*390625)))≤strMax))
 (cond (decide (AF ({ data:=#[] }++ET (vaR (AA AJ n) (2 ^ min (AD 8) (AO AJ)))++{ data:=#[46] })+AF (NG (HA { data:=#[48] } (AD (AA AB (8 - ic (AF (ET (AA AJ (AA AJ (ic (CF (A0 (AO AJ) (AA AJ n) &&& A0 (AO AJ) 255)))*390625)))))))++ET (AA AJ (AA AJ (ic (CF (A0 (AO AJ) (AA AJ n) &&& A0 (AO AJ) 255)))*390625))) { data:=#[48] })≤strMax))
 (some ((.str ({ data:=#[] }++ET (vaR (AA AJ n) (2 ^ min (AD 8) (AO AJ)))++{ data:=#[46] }++NG (HA { data:=#[48] } (AD (AA AB (8 - ic (AF (ET (AA AJ (AA AJ (ic (CF (A0 (AO AJ) (AA AJ n) &&& A0 (AO AJ) 255)))*390625)))))))++ET (AA AJ (AA AJ (ic (CF (A0 (AO AJ) (AA AJ n) &&& A0 (AO AJ) 255)))*390625))) { data:=#[48] })),[]))
 none)
 none)
 none)
 none))
 none)):=by kernel_rfl
open Go Go.Proofs
theorem fM:DQ PR B0 17 NN:=by
 refine D1 [] [] NN [[.z]] Tryz.func17 Qj trivial ?_;intro vs r hwf h;unfold NN at h;split at h
 ·rename_i n lo hi;refine ⟨0,?_⟩;rw [← h];refine (Ws 0 n lo hi).trans ?_;simp only [R.get_br,R.get_ok,R.get_no];unfold DL L8 E7;cases decide (AA AB (AA AB (hi - lo)+1)=0) <;> cases decide (Int.tmod n (AA AB (AA AB (hi - lo)+1)) < 0) <;> rfl
 ·simp [R.get] at h
open Go
theorem RA {s t:BA} (h:s.data.toList=t.data.toList):s=t:=ByteArray.ext (Array.ext' h)
theorem cU (s t:BA):(s.toList==t.toList)=decide (s=t):=by
 rw [Lib.toList_data,Lib.toList_data];by_cases h:s=t
 ·subst h; simp
 ·rw [AL h,BR];exact fun e=>h (RA e)
theorem QN (s:BA):s.size=s.data.toList.length:=by rw [CR]; rfl
theorem VY (u:Nat):∀ c∈CD u,48≤c.toNat∧c.toNat≤57:=by
 induction u using vbB with
 | _ u ih=>
  intro c hc;rw [CD] at hc;split at hc
  ·rename_i h;simp only [BU] at hc;subst hc;rw [vaM (by simp [UInt8.size]; omega)];omega
  ·rename_i h;rw [AV,BU] at hc;rcases hc with hc | hc
   ·exact ih (u / 10) (by omega) c hc
   ·subst hc;rw [vaM (by simp [UInt8.size]; omega)];omega
theorem iX (u:Nat):CD u≠[]:=by
 rw [CD];split <;> simp
theorem Uc (n:Int):∀ c∈Lib.itoa n,c.toNat=45∨(48≤c.toNat∧c.toNat≤57):=by
 intro c hc;unfold Lib.itoa at hc;split at hc
 ·rcases AU.1 hc with h | h
  ·subst h; exact .inl rfl
  ·exact .inr (VY _ c h)
 ·exact .inr (VY _ c hc)
theorem zaO (u:Nat):∀ (acc:Nat) (r:List UInt8),acc*10 ^ (CD u).length+u < 18446744073709551616 →
  vbz acc (CD u++r)=vbz (acc*10 ^ (CD u).length+u) r:=by
 induction u using vbB with
 | _ u ih=>
  intro acc r hlt;rw [CD] at hlt ⊢;split at hlt
  ·rename_i h;rw [dif_pos h];simp only [vae,Nat.pow_one,List.singleton_append] at hlt ⊢;have hc:(UInt8.ofNat (48+u)).toNat=48+u:=vaM (by simp [UInt8.size]; omega);rw [vbz,hc,BL (by omega),A4 (by omega),A4 (by omega)];congr 1;omega
  ·rename_i h;rw [dif_neg h];simp only [AW,vae,Nat.pow_succ,vbj,List.singleton_append] at hlt ⊢;have ea:acc*(10 ^ (CD (u / 10)).length*10)=acc*10 ^ (CD (u / 10)).length*10:=by rw [Nat.mul_assoc]
   rw [ea] at hlt ⊢;rw [ih (u / 10) (by omega) acc _ (by omega)];have hc:(UInt8.ofNat (48+u % 10)).toNat=48+u % 10:=vaM (by simp [UInt8.size]; omega);rw [vbz,hc,BL (by omega),A4 (by omega),A4 (by omega)];congr 1;omega
theorem lT (u:Nat) (h:u < 18446744073709551616):Lib.parseMag (CD u) = .ok u:=by
 unfold Lib.parseMag;rw [A4 (iX u)]
 have:=zaO u 0 [] (by omega)
 rw [vak] at this;rw [this,Nat.zero_mul,BF];rfl
theorem pE (n:Int) (h0 : -9223372036854775808≤n) (h1:n≤9223372036854775807):Lib.atoiAll (Lib.itoa n) = .ok n:=by
 unfold Lib.itoa;split
 ·rename_i hn;unfold Lib.atoiAll;have e:(45:UInt8).toNat=45:=rfl;simp only [e,or_true,CM,lT n.natAbs (by omega),vbu,false_and,if_false,vaZ];rw [A4 (by omega)];congr 1;omega
 ·rename_i hn;obtain ⟨c,r,hl⟩:∃ c r,CD n.toNat=c :: r:=by
   cases h:CD n.toNat with
   | nil=>exact absurd h (iX _)
   | cons c r=>exact ⟨c,r,rfl⟩
  have hc:=VY n.toNat c (by rw [hl]; exact AT ..);have hm:=lT n.toNat (by omega);rw [hl] at hm ⊢;unfold Lib.atoiAll;have e1:¬ c.toNat=43:=by omega
  have e2:¬ c.toNat=45:=by omega
  simp only [e1,e2,or_self,if_false,hm,false_and,not_false_eq_true,vaZ];rw [A4 (by omega)];congr 1;omega
theorem Jj {s:BA} {n:Int} (h:s.data.toList=Lib.itoa n) (h0 : -9223372036854775808≤n) (h1:n≤9223372036854775807):FP s=n:=by
 unfold FP;rw [h,pE n h0 h1]
theorem j4:∀ (w r:List UInt8) (c:UInt8),c ∉ w→vbc (w++c :: r) c=w.length
 | [],r,c,_=>by simp [vbc]
 | b :: w,r,c,h=>by
  simp only [AU,not_or] at h;have e:(b==c)=false:=BR.2 (fun e=>h.1 e.symm);have e2:((w.length:Int) == -1)=false:=by rw [BR]; omega
  simp only [vaa,vbc,e,j4 w r c h.2,e2,AN];simp
theorem uV:∀ (w:List UInt8) (c:UInt8),c ∉ w→vbc w c = -1
 | [],c,_=>rfl
 | b :: w,c,h=>by
  simp only [AU,not_or] at h;have e:(b==c)=false:=BR.2 (fun e=>h.1 e.symm);simp [vbc,e,uV w c h.2]
theorem Lh (w r:List UInt8) (c:UInt8) (h:c ∉ w):Lib.cut (w++c :: r) [c]=(w,r,true):=by
 unfold Lib.cut;rw [Lib.index_one,j4 w r c h,BL (by omega)];simp
theorem Bn (w r:List UInt8) (c:UInt8) (h:c ∉ w):vbd (w++c :: r) [c]=w :: vbd r [c]:=by
 unfold vbd;have ec:Lib.count (w++c :: r) [c]=Lib.count r [c]+1:=by
  rw [Lib.count_one,Lib.count_one,List.count_append,List.count_eq_zero_of_not_mem h,List.count_cons_self,BF]
 rw [ec,Lib.splitK,Lib.index_one,j4 w r c h];have e2:((w.length:Int) == -1)=false:=by rw [BR]; omega
 rw [e2];simp
theorem Bq (w:List UInt8) (c:UInt8) (h:c ∉ w):vbd w [c]=[w]:=by
 unfold vbd;rw [Lib.count_one,List.count_eq_zero_of_not_mem h];rfl
theorem Bm (s sep:BA):(D5 s sep).map (·.data.toList)=vbd s.data.toList sep.data.toList:=by
 unfold D5 vbd;rw [Lib.splitB_data]
open Go
theorem zdC {n m:Int} (h:0 < m) : -m < n.tmod m∧n.tmod m < m:=by
 constructor
 ·rcases Int.lt_or_le n 0 with hn | hn
  ·have e:n.tmod m = -((-n).tmod m):=by rw [Int.neg_tmod,Int.neg_neg]
   have:=Int.tmod_lt_of_pos (-n) h
   omega
  ·have:=Int.tmod_nonneg m hn
   omega
 ·exact Int.tmod_lt_of_pos n h
theorem JY {n lo hi:Int} (h:lo≤hi) (h0 : -2000000000000000000≤lo) (h1:hi≤2000000000000000000):L8 lo hi=hi - lo+1∧lo≤DL n lo hi∧DL n lo hi≤hi:=by
 have e1:E7 (hi - lo)=hi - lo:=EC (by omega) (by omega);have e2:L8 lo hi=hi - lo+1:=by
  unfold L8;rw [e1];exact EC (by omega) (by omega)
 refine ⟨e2,?_⟩;unfold DL;rw [e2];obtain ⟨t0,t1⟩:=zdC (n:=n) (m:=hi - lo+1) (by omega);generalize n.tmod (hi - lo+1)=q at t0 t1 ⊢;cases hq:decide (q < 0) with
 | true=>
  have hq:=A1 hq;simp only [CO];have a1:E7 (q+hi)=q+hi:=EC (by omega) (by omega);have a2:E7 (q+hi - lo)=q+hi - lo:=EC (by omega) (by omega);have a3:E7 (q+hi - lo+1)=q+hi - lo+1:=EC (by omega) (by omega);have a4:E7 (lo+(q+hi - lo+1))=lo+(q+hi - lo+1):=EC (by omega) (by omega);rw [a1,a2,a3,a4];omega
 | false=>
  have hq:=BE hq;simp only [B9];have a1:E7 (lo+q)=lo+q:=EC (by omega) (by omega);rw [a1];omega
theorem gB (n:Int):AA .u64 n=n % 18446744073709551616:=by simp [AA,AO,vah]
abbrev E2 (n:Int):Prop := -9223372036854775808≤n∧n≤9223372036854775807
theorem oY {f:Nat→Bool} (h:(vav 256).all f=true) {r:Nat} (hr:r < 256):f r=true:=CP.1 h r (vaH.2 hr)
def xC (r:Nat):Bool:=match Lib.parseMag ((if r=0 then [] else J2 r)++Lib.repeatL [48] (8 - (if r=0 then [] else J2 r).length)) with | .ok v=>BI v (r*390625) | _=>false
theorem zaR:(vav 256).all xC=true:=by kernel_rfl
theorem zaQ {r:Nat} (h:r < 256):Lib.parseMag ((if r=0 then [] else J2 r)++Lib.repeatL [48] (8 - (if r=0 then [] else J2 r).length)) = .ok (r*390625):=by
 have:=oY zaR h
 unfold xC at this;split at this
 ·rename_i v hv;rw [hv,vaj this]
 ·cases this
def w9 (r:Nat):Bool:=BI r 0||(BW (J2 r).length 8&&((J2 r).all (fun c=>BW 48 c.toNat&&BW c.toNat 57)&&(match (J2 r).reverse with | []=>false | c :: _=>!(BI c.toNat 48))))
theorem Lq:(vav 256).all w9=true:=by kernel_rfl
theorem i7 {r:Nat} (h0:r≠0) (h:r < 256):(J2 r).length≤8∧(∀ c∈J2 r,48≤c.toNat∧c.toNat≤57)∧∃ l c,J2 r=l++[c]∧c.toNat≠48:=by
 have:=oY Lq h
 unfold w9 at this;simp only [vax,AH,CP] at this;rcases this with h1 | ⟨h1,h2,h3⟩
 ·exact absurd (vaj h1) h0
 ·refine ⟨AM h1,fun c hc=>⟨AM (h2 c hc).1,AM (h2 c hc).2⟩,?_⟩;cases hr:(J2 r).reverse with
  | nil=>rw [hr] at h3; cases h3
  | cons c l=>
   rw [hr] at h3;refine ⟨l.reverse,c,?_,?_⟩
   ·have:=congrArg List.reverse hr
    simpa using this
   ·intro e;have h3:(!c.toNat.beq 48)=true:=h3;rw [e] at h3;cases h3
theorem fK (u:Nat):H7 u=CD (u / 256)++(if u % 256=0 then [] else 46 :: J2 (u % 256)):=rfl
theorem Ll (v:Nat):∃ c r,CD v=c :: r∧48≤c.toNat∧c.toNat≤57:=by
 cases h:CD v with
 | nil=>exact absurd h (iX v)
 | cons c r=>exact ⟨c,r,rfl,VY v c (by rw [h]; exact AT ..)⟩
theorem zX (u:Nat):∃ c r,H7 u=c :: r∧48≤c.toNat∧c.toNat≤57:=by
 obtain ⟨c,r,h,h1⟩:=Ll (u / 256);exact ⟨c,r++_,by rw [fK,h]; rfl,h1⟩
theorem Lm (v:Nat) {c:UInt8} (h:c.toNat < 48):c ∉ CD v:=fun hc=>by
 have:=VY v c hc
 omega
theorem Li (w:List UInt8) (c:UInt8) (h:c ∉ w):Lib.cut w [c]=(w,[],false):=by
 unfold Lib.cut;rw [Lib.index_one,uV w c h,A4 (by omega)]
theorem zbR (u:Nat):(Lib.cut (H7 u) [46]).1=CD (u / 256)∧(Lib.cut (H7 u) [46]).2.1=(if u % 256=0 then [] else J2 (u % 256)):=by
 have hno:(46:UInt8) ∉ CD (u / 256):=Lm _ (by decide);rw [fK];by_cases h:u % 256=0
 ·rw [BL h,BL h,vak,Li _ _ hno];exact ⟨rfl,rfl⟩
 ·rw [A4 h,A4 h,Lh _ _ _ hno];exact ⟨rfl,rfl⟩
theorem za0 (n:Int):RO (DN n) U3=decide (n < 0)∧GJ (DN n) U3=⟨(H7 n.natAbs).toArray⟩:=by
 unfold RO GJ Lib.trimPrefix Lib.hasPrefix DN PD;show [(45:UInt8)].isPrefixOf (if n < 0 then 45 :: H7 n.natAbs else H7 n.natAbs)=_∧(⟨(if [(45:UInt8)].isPrefixOf (if n < 0 then 45 :: H7 n.natAbs else H7 n.natAbs)=true then _ else (if n < 0 then 45 :: H7 n.natAbs else H7 n.natAbs)).toArray⟩:BA)=_;by_cases h:n < 0
 ·rw [BL h,AE h];have e:[(45:UInt8)].isPrefixOf (45 :: H7 n.natAbs)=true:=by simp [List.isPrefixOf]
  rw [e,BL rfl];exact ⟨rfl,rfl⟩
 ·rw [A4 h,AL h];obtain ⟨c,r,hc,hc1,_⟩:=zX n.natAbs;have e:[(45:UInt8)].isPrefixOf (H7 n.natAbs)=false:=by
   rw [hc];simp only [List.isPrefixOf,CE,BR];intro e;rw [← e] at hc1;revert hc1;decide
  rw [e];simp
theorem yM {s:BA} {v:Nat} (h:Lib.parseMag s.data.toList = .ok v):F5 s=v∧IF s=true:=by
 unfold F5 IF;rw [h];exact ⟨rfl,rfl⟩
theorem za2 {n:Int} (hn:E2 n):TZ (DN n)=true∧FR (DN n)=n:=by
 obtain ⟨hn0,hn1⟩:=hn;obtain ⟨hm,hb⟩:=za0 n;have hu:n.natAbs≤9223372036854775808:=by omega
 obtain ⟨c1,c2⟩:=zbR n.natAbs;have hW:NS (DN n)=⟨(CD (n.natAbs / 256)).toArray⟩:=by
  unfold NS cutL;rw [hb];show (⟨(Lib.cut (H7 n.natAbs) [46]).1.toArray⟩:BA)=_;rw [c1]
 have hP:IK (DN n)=⟨(if n.natAbs % 256=0 then [] else J2 (n.natAbs % 256)).toArray⟩:=by
  unfold IK GQ;rw [hb];show (⟨(Lib.cut (H7 n.natAbs) [46]).2.1.toArray⟩:BA)=_;rw [c2]
 have hr:n.natAbs % 256 < 256:=by omega
 obtain ⟨v1,n1⟩:=yM (s:=NS (DN n)) (v:=n.natAbs / 256) (by rw [hW]; exact lT _ (by omega));have hz:(IK (DN n)).size=(if n.natAbs % 256=0 then ([]:List UInt8) else J2 (n.natAbs % 256)).length:=by rw [hP,QN]
 have h8:(IK (DN n)).size≤8:=by
  rw [hz];split
  ·simp
  ·rename_i h0;exact (i7 h0 hr).1
 obtain ⟨v2,n2⟩:=yM (s:=LU (DN n)) (v:=n.natAbs % 256*390625) (by
  have:=zaQ hr
  unfold LU;rw [hz,hP];simp only [ByteArray.data_append,vaA];exact this)
 have hS:NR (DN n)=(n.natAbs:Int):=by
  unfold NR IP;rw [v1,v2];rw [gB,gB];omega
 have hN:ZP (DN n)=n:=by
  unfold ZP;rw [hm,hS];unfold E7 IP;cases hd:decide (n < 0) with
  | true=>
   have:=A1 hd
   simp only [CO];rw [IntKind.wrap_i64,gB];omega
  | false=>
   have:=BE hd
   simp only [B9];rw [EC (by omega) (by omega)];omega
 have hI:TZ (DN n)=true:=by
  unfold TZ;rw [AE h8,n1,n2,v1,v2,hN,AE (show ((n.natAbs / 256:Nat):Int)≤36028797018963968 by omega),AE (show ((n.natAbs % 256*390625:Nat):Int) % 390625=0 by omega),AE rfl];rfl
 refine ⟨hI,?_⟩;unfold FR;rw [hI,hN];rfl
theorem zaZ (n:Int):∃ c r,(DN n).data.toList=c :: r∧c.toNat≠43:=by
 show ∃ c r,PD n=c :: r∧c.toNat≠43;unfold PD;split
 ·exact ⟨45,_,rfl,by decide⟩
 ·obtain ⟨c,r,h,h1,_⟩:=zX n.natAbs;exact ⟨c,r,h,by omega⟩
theorem WL (n:Int) (hn:E2 n):1≤(DN n).size∧(DN n).size≤40:=by
 obtain ⟨c,r,h,_⟩:=zaZ n;refine ⟨by rw [QN,h]; simp,?_⟩;rw [QN];show (PD n).length≤40;have hs:(H7 n.natAbs).length≤30:=by
  rw [fK,AW];have h1:(CD (n.natAbs / 256)).length≤20:=by
   have:=lD (n:=((n.natAbs / 256:Nat):Int)) (by omega) (by obtain ⟨_,_⟩:=hn; omega)
   rw [QN] at this;exact this
  split
  ·simp; omega
  ·rename_i h0
   have:=(i7 h0 (by omega:n.natAbs % 256 < 256)).1
   simp only [AN];omega
 unfold PD;split
 ·simp only [AN]; omega
 ·omega
open Go
structure Qy where
 k:Int
 c:Int
 a0:Int
 b0:Int
 a1:Int
 b1:Int
 a2:Int
 b2:Int
 a3:Int
 b3:Int
 a4:Int
 b4:Int
 lo:Int
 hi:Int
 ft:Int
 fl:Bool
 bu:Int
def Qy.V (q:Qy):V:=.agg [.int .i64 q.k,.int .i64 q.c,.int .i64 q.a0,.int .i64 q.b0,.int .i64 q.a1,.int .i64 q.b1,.int .i64 q.a2,.int .i64 q.b2,.int .i64 q.a3,.int .i64 q.b3,.int .i64 q.a4,.int .i64 q.b4,.int .i64 q.lo,.int .i64 q.hi,.int .i64 q.ft,.bool q.fl,.int .i64 q.bu]
def Qy.none:Qy:=⟨0,0,0,0,0,0,0,0,0,0,0,0,0,0,0,false,0⟩
def Qy.eq (p q:Qy):Bool:=
 (p.k==q.k)&&((p.c==q.c)&&((p.a0==q.a0)&&((p.b0==q.b0)&&((p.a1==q.a1)&&((p.b1==q.b1)&&((p.a2==q.a2)&&((p.b2==q.b2)&&((p.a3==q.a3)&&((p.b3==q.b3)&&((p.a4==q.a4)&&((p.b4==q.b4)&&((p.lo==q.lo)&&((p.hi==q.hi)&&((p.ft==q.ft)&&((p.fl==q.fl)&&((p.bu==q.bu)&&true))))))))))))))))
def FZ (q:Qy) (d:Int):Qy:=
 ⟨q.k,q.c,cond (decide (0 < d)) q.a0 0,cond (decide (0 < d)) q.b0 0,cond (decide (1 < d)) q.a1 0,cond (decide (1 < d)) q.b1 0,cond (decide (2 < d)) q.a2 0,cond (decide (2 < d)) q.b2 0,cond (decide (3 < d)) q.a3 0,cond (decide (3 < d)) q.b3 0,cond (decide (4 < d)) q.a4 0,cond (decide (4 < d)) q.b4 0,
  cond (q.k==1) q.lo 0,cond (q.k==1) q.hi 0,cond (q.k==3) q.ft 0,cond (q.k==3) q.fl false,q.bu⟩
def XM:DO
 | [.agg [.int .i64 k,.int .i64 c,.int .i64 a0,.int .i64 b0,.int .i64 a1,.int .i64 b1,.int .i64 a2,.int .i64 b2,.int .i64 a3,.int .i64 b3,.int .i64 a4,.int .i64 b4,.int .i64 lo,.int .i64 hi,.int .i64 ft,.bool fl,.int .i64 bu],.int .i64 d]=>
  .br (decide (0≤d)&&decide (d≤5)) (.ok (.agg [.int .i64 (FZ ⟨k,c,a0,b0,a1,b1,a2,b2,a3,b3,a4,b4,lo,hi,ft,fl,bu⟩ d).k,.int .i64 (FZ ⟨k,c,a0,b0,a1,b1,a2,b2,a3,b3,a4,b4,lo,hi,ft,fl,bu⟩ d).c,
   .int .i64 (FZ ⟨k,c,a0,b0,a1,b1,a2,b2,a3,b3,a4,b4,lo,hi,ft,fl,bu⟩ d).a0,.int .i64 (FZ ⟨k,c,a0,b0,a1,b1,a2,b2,a3,b3,a4,b4,lo,hi,ft,fl,bu⟩ d).b0,
   .int .i64 (FZ ⟨k,c,a0,b0,a1,b1,a2,b2,a3,b3,a4,b4,lo,hi,ft,fl,bu⟩ d).a1,.int .i64 (FZ ⟨k,c,a0,b0,a1,b1,a2,b2,a3,b3,a4,b4,lo,hi,ft,fl,bu⟩ d).b1,
   .int .i64 (FZ ⟨k,c,a0,b0,a1,b1,a2,b2,a3,b3,a4,b4,lo,hi,ft,fl,bu⟩ d).a2,.int .i64 (FZ ⟨k,c,a0,b0,a1,b1,a2,b2,a3,b3,a4,b4,lo,hi,ft,fl,bu⟩ d).b2,
   .int .i64 (FZ ⟨k,c,a0,b0,a1,b1,a2,b2,a3,b3,a4,b4,lo,hi,ft,fl,bu⟩ d).a3,.int .i64 (FZ ⟨k,c,a0,b0,a1,b1,a2,b2,a3,b3,a4,b4,lo,hi,ft,fl,bu⟩ d).b3,
   .int .i64 (FZ ⟨k,c,a0,b0,a1,b1,a2,b2,a3,b3,a4,b4,lo,hi,ft,fl,bu⟩ d).a4,.int .i64 (FZ ⟨k,c,a0,b0,a1,b1,a2,b2,a3,b3,a4,b4,lo,hi,ft,fl,bu⟩ d).b4,
   .int .i64 (FZ ⟨k,c,a0,b0,a1,b1,a2,b2,a3,b3,a4,b4,lo,hi,ft,fl,bu⟩ d).lo,.int .i64 (FZ ⟨k,c,a0,b0,a1,b1,a2,b2,a3,b3,a4,b4,lo,hi,ft,fl,bu⟩ d).hi,
   .int .i64 (FZ ⟨k,c,a0,b0,a1,b1,a2,b2,a3,b3,a4,b4,lo,hi,ft,fl,bu⟩ d).ft,.bool (FZ ⟨k,c,a0,b0,a1,b1,a2,b2,a3,b3,a4,b4,lo,hi,ft,fl,bu⟩ d).fl,
   .int .i64 (FZ ⟨k,c,a0,b0,a1,b1,a2,b2,a3,b3,a4,b4,lo,hi,ft,fl,bu⟩ d).bu]) []) .no
 | _=>.no
def N8 (n:Int):Bool:=decide (0≤n)&&decide (n≤1073741824)
def XL:DO
 | [.int .i64 n]=>.ok (.bool (N8 n)) []
 | _=>.no
def SY:DO
 | [.str s]=>.ok (.int .i64 (FP s)) []
 | _=>.no
def SZ:DO
 | [.str s]=>.br (decide (s.size < 4294967281)) (.ok (.int .i64 (FR s)) []) .no
 | _=>.no
abbrev W4:BA:=⟨#[114,97,110,103,101]⟩
abbrev W2:BA:=⟨#[98,101,115,116]⟩
abbrev W5:BA:=⟨#[114,105,115,101,115]⟩
abbrev U1:BA:=⟨#[102,97,108,108,115]⟩
abbrev oF:BA:=⟨#[102,114,111,109]⟩
abbrev oI:BA:=⟨#[116,111]⟩
abbrev bQ:BA:=⟨#[98,121]⟩
abbrev SK:BA:=⟨#[105,110]⟩
abbrev U0:BA:=⟨#[98,117,100,103,101,116]⟩
abbrev gE:BA:=⟨#[46,46]⟩
abbrev GS:BA:=⟨#[32]⟩
def WX (a b:Int):BA:=DN a++gE++DN b
def V5 (q:Qy):List BA:=
 cond (q.k==1) [W4,DJ q.c,oF,DN q.lo,oI,DN q.hi]
 (cond (q.k==2) [W2,DJ q.c] [cond q.fl U1 W5,DJ q.c,bQ,DJ q.ft])
def Qy.spans (q:Qy):List (Int × Int):=[(q.a0,q.b0),(q.a1,q.b1),(q.a2,q.b2),(q.a3,q.b3),(q.a4,q.b4)]
def oN (q:Qy) (d:Nat):List BA:=V5 q++SK :: ((q.spans.take d).map fun s=>WX s.1 s.2)++[U0,DJ q.bu]
def xD (q:Qy) (d:Int):Bool:=
 (!(decide (d < 1))&&!(decide (d > 4)))&&(q.eq (FZ q d)&&(N8 q.c&&(N8 q.ft&&(N8 q.bu&&((q.k==1)||((q.k==2)||(q.k==3)))))))
def aR (q:Qy) (d:Int):BA:=cond (xD q d) (GB (oN q d.toNat) GS) W3
def XJ:DO
 | [.agg [.int .i64 k,.int .i64 c,.int .i64 a0,.int .i64 b0,.int .i64 a1,.int .i64 b1,.int .i64 a2,.int .i64 b2,.int .i64 a3,.int .i64 b3,.int .i64 a4,.int .i64 b4,.int .i64 lo,.int .i64 hi,.int .i64 ft,.bool fl,.int .i64 bu],.int .i64 d]=>
  .ok (.str (aR ⟨k,c,a0,b0,a1,b1,a2,b2,a3,b3,a4,b4,lo,hi,ft,fl,bu⟩ d)) []
 | _=>.no
def DU (l:LI) (i:Nat):BA:=(l.getD i default).toStr
def EJ (l:LI):Qy:=
 cond ((DU l 0).toList==W4.toList) ⟨1,FP (DU l 1),0,0,0,0,0,0,0,0,0,0,FR (DU l 3),FR (DU l 5),0,false,0⟩
 (cond ((DU l 0).toList==W2.toList) ⟨2,FP (DU l 1),0,0,0,0,0,0,0,0,0,0,0,0,0,false,0⟩
 (cond ((DU l 0).toList==W5.toList||(DU l 0).toList==U1.toList) ⟨3,FP (DU l 1),0,0,0,0,0,0,0,0,0,0,0,0,FP (DU l 3),(DU l 0).toList==U1.toList,0⟩
 ⟨0,FP (DU l 1),0,0,0,0,0,0,0,0,0,0,0,0,0,false,0⟩))
def XK:DO
 | [.list false [.str] l]=>.br (decide (l.length≤4294967290)&&l.all (fun x=>decide (x.toStr.size < 4294967281)))
  (.ok (.agg [.int .i64 (EJ l).k,.int .i64 (EJ l).c,.int .i64 (EJ l).a0,.int .i64 (EJ l).b0,.int .i64 (EJ l).a1,.int .i64 (EJ l).b1,.int .i64 (EJ l).a2,.int .i64 (EJ l).b2,.int .i64 (EJ l).a3,.int .i64 (EJ l).b3,.int .i64 (EJ l).a4,.int .i64 (EJ l).b4,
   .int .i64 (EJ l).lo,.int .i64 (EJ l).hi,.int .i64 (EJ l).ft,.bool (EJ l).fl,.int .i64 (EJ l).bu]) []) .no
 | _=>.no
def SD (l:LI) (i:Nat):Int:=FR (cutL (DU l i) gE)
def SE (l:LI) (i:Nat):Int:=FR (GQ (DU l i) gE)
def mF (l:LI) (i d:Nat):Qy:=
 ⟨(
  EJ (l.take i)).k,(EJ (l.take i)).c,
  cond (BJ 0 d) (SD l (i+1)) 0,cond (BJ 0 d) (SE l (i+1)) 0,cond (BJ 1 d) (SD l (i+2)) 0,cond (BJ 1 d) (SE l (i+2)) 0,cond (BJ 2 d) (SD l (i+3)) 0,cond (BJ 2 d) (SE l (i+3)) 0,cond (BJ 3 d) (SD l (i+4)) 0,cond (BJ 3 d) (SE l (i+4)) 0,0,0,
  (EJ (l.take i)).lo,(EJ (l.take i)).hi,(EJ (l.take i)).ft,(EJ (l.take i)).fl,FP (DU l (l.length - 1))⟩
def GU (s:BA):LI:=(D5 s GS).map IV.str
def M6 (s:BA):Int:=FX (GU s) SK 0
def N0 (s:BA):Int:=ic (GU s).length - 2 - M6 s - 1
def kM (s:BA):Qy:=mF (GU s) (M6 s).toNat (N0 s).toNat
def TR (s:BA):Bool:=(!(decide (M6 s < 0))&&(!(decide (N0 s < 1))&&!(decide (N0 s > 4))))&&(aR (kM s) (N0 s)).toList==s.toList
def GP (s:BA):Qy:=cond (TR s) (kM s) Qy.none
def TQ (s:BA):Int:=cond (TR s) (N0 s) 0
def XI:DO
 | [.str s]=>.br (decide (s.size < 4294967281))
  (.ok (.tup [.agg [.int .i64 (GP s).k,.int .i64 (GP s).c,.int .i64 (GP s).a0,.int .i64 (GP s).b0,.int .i64 (GP s).a1,.int .i64 (GP s).b1,.int .i64 (GP s).a2,.int .i64 (GP s).b2,.int .i64 (GP s).a3,.int .i64 (GP s).b3,.int .i64 (GP s).a4,.int .i64 (GP s).b4,
   .int .i64 (GP s).lo,.int .i64 (GP s).hi,.int .i64 (GP s).ft,.bool (GP s).fl,.int .i64 (GP s).bu],.int .i64 (TQ s),.bool (TR s)]) []) .no
 | _=>.no
open Go
def D9 (l:LI) (i:Int):Int:=cond (ic l.length==0) 0 (l.getD (i.tmod (ic l.length)).toNat default).toInt
def PW:DO
 | [.list false [.z] l,.int .i64 i]=>.br (decide (0≤i)) (.ok (.int .i64 (D9 l i)) []) .no
 | _=>.no
def EU (n:Int):Bool:=decide (-2147483648≤n)&&decide (n≤2147483647)
def X7:DO
 | [.int .i64 n,.int .i64 w]=>.br (decide (w=32)) (.ok (.bool (EU n)) []) .no
 | _=>.no
def aZ (lf:Bool) (v f a l r:Int):Bool:=
 cond lf (EU v&&((f==0)&&((a==0)&&((l==0)&&(r==0)))))
  ((v==0)&&(decide (0≤f)&&(decide (f < 4)&&(EU a&&(decide (1≤l)&&(decide (l < 31)&&(decide (1≤r)&&decide (r < 31))))))))
def X8:DO
 | [.agg [.bool lf,.int .i64 v,.int .i64 f,.int .i64 a,.int .i64 l,.int .i64 r]]=>.ok (.bool (aZ lf v f a l r)) []
 | _=>.no
def cK (a b:Int):Int:=IP (ic (CF (A0 (AO AJ) a &&& A0 (AO AJ) b)))
def aJ (a b:Int):Int:=IP (ic (CF (A0 (AO AJ) a ||| A0 (AO AJ) b)))
def WT (a:Int) (k:Nat):Int:=IP (a*2 ^ k)
def HR (lf:Bool) (v f a l r:Int):Int:=
 cond (aZ lf v f a l r)
  (cond lf (aJ 9223372036854775808 (cK (IP v) 4294967295))
   (aJ (aJ (aJ (cK (IP a) 4294967295) (WT (IP f) 32)) (WT (IP l) 40)) (WT (IP r) 48)))
  0
def S3:DO
 | [.agg [.bool lf,.int .i64 v,.int .i64 f,.int .i64 a,.int .i64 l,.int .i64 r]]=>.ok (.int .u64 (HR lf v f a l r)) []
 | _=>.no
def QH (lf:Bool) (v f a l r:Int):IV:=.agg [.bool lf,.int v,.int f,.int a,.int l,.int r]
def KO (v:Int):IV:=QH true v 0 0 0 0
def R0 (x:IV):IV:=.int (HR (x.cell 0).toBool (x.cell 1).toInt (x.cell 2).toInt (x.cell 3).toInt (x.cell 4).toInt (x.cell 5).toInt)
structure Ns where
 nodes:LI
 leaves:LI
def HH (part:LI) (i:Nat) (s:Ns):Int:=DL (part.getD i default).toInt 0 (ic s.leaves.length - 1)
def O7 (part:LI) (i:Nat) (s:Ns):Int:=(s.leaves.getD (HH part i s).toNat default).toInt
def JG (part byl atl val:LI) (dim:Int) (i:Nat) (s:Ns):Ns:=
 ⟨s.nodes.set (O7 part i s).toNat (QH false 0 (DL (D9 byl (i:Int)) 0 (dim - 1)) (DL (D9 atl (i:Int)) 0 9) (ic s.nodes.length) (ic s.nodes.length+1)) ++
   [KO (DL (D9 val (2*(i:Int)+1)) (-3000) 3000),KO (DL (D9 val (2*(i:Int)+2)) (-3000) 3000)],
  s.leaves.take (HH part i s).toNat++s.leaves.drop ((HH part i s).toNat+1)++[.int (ic s.nodes.length),.int (ic s.nodes.length+1)]⟩
def WE (part byl atl val:LI) (dim:Int):Nat→Nat→Ns→Ns
 | 0,_,s=>s
 | d+1,i,s=>WE part byl atl val dim d (i+1) (JG part byl atl val dim i s)
def N1 (part byl atl val:LI) (dim:Int):Ns:=WE part byl atl val dim (min part.length 7) 0 ⟨[KO (DL (D9 val 0) (-3000) 3000)],[.int 0]⟩
def LB (part byl atl val:LI) (dim:Int):LI:=(N1 part byl atl val dim).nodes.map R0
def X5:DO
 | [.agg [.int .i64 _,.list false [.z] part,.list false [.z] byl,.list false [.z] atl,.list false [.z] val],.int .i64 dim]=>
  .br (decide (1≤dim)&&decide (dim≤4)) (.ok (.list false [.int .u64] (LB part byl atl val dim)) []) .no
 | _=>.no
def NT (d:Int):Int:=DL d 1 3
def JP (c:Int):Int:=DL c 1 3
def P2 (c:Int) (bias:LI) (j:Int):Int:=cond (decide (j < JP c)) (DL (D9 bias j) (-500) 500) 0
def nZ (d c:Int) (t:IV):IV:=.agg [.int (DL (t.cell 0).toInt 0 (JP c - 1)),.list (LB (t.cell 1).toList (t.cell 2).toList (t.cell 3).toList (t.cell 4).toList (NT d))]
def PK (d c:Int) (ts:LI):LI:=(ts.take 4).map (nZ d c)
def bZ:DO
 | [.agg [.int .i64 d,.int .i64 c,.list false [.z] bias,.list true [.z,.list false [.z],.list false [.z],.list false [.z],.list false [.z]] ts]]=>
  .ok (.agg [.int .i64 (NT d),.int .i64 (JP c),.int .i64 (P2 c bias 0),.int .i64 (P2 c bias 1),.int .i64 (P2 c bias 2),.list true [.z,.list false [.int .u64]] (PK d c ts)]) []
 | _=>.no
def F7 (d:Int) (l:LI) (i:Int):Int:=cond (decide (i < d)) (DL (D9 l (2*i)) (-2) 9) 0
def F8 (d:Int) (l:LI) (i:Int):Int:=cond (decide (i < d)) (DL (D9 l (2*i)) (-2) 9+DL (D9 l (2*i+1)) 0 11) 0
def X3:DO
 | [.agg [.int .i64 d,.int .i64 _,.int .i64 _,.int .i64 _,.int .i64 _,.list true [.z,.list false [.int .u64]] _],.list false [.z] l]=>
  .br (decide (0≤d)&&decide (d≤4)) (.ok (.agg [.int .i64 (F7 d l 0),.int .i64 (F8 d l 0),.int .i64 (F7 d l 1),.int .i64 (F8 d l 1),.int .i64 (F7 d l 2),.int .i64 (F8 d l 2),.int .i64 (F7 d l 3),.int .i64 (F8 d l 3),.int .i64 0,.int .i64 0]) []) .no
 | _=>.no
structure Ak where
 k:Int
 c:Int
 lo:Int
 size:Int
 ft:Int
 bu:Int
 fl:Bool
 sp:LI
def V9 (a:Ak) (cls:Int):Int:=cond (DL a.k 1 3==2&&decide (cls < 2)) 1 (DL a.k 1 3)
def kO (a:Ak):Int:=DL a.lo (-9000) 9000
def JI (a:Ak) (dim cls:Int):Qy:=
 ⟨V9 a cls,DL a.c 0 (cls - 1),F7 dim a.sp 0,F8 dim a.sp 0,F7 dim a.sp 1,F8 dim a.sp 1,F7 dim a.sp 2,F8 dim a.sp 2,F7 dim a.sp 3,F8 dim a.sp 3,0,0,
  cond (V9 a cls==1) (kO a) 0,cond (V9 a cls==1) (kO a+DL a.size 0 18000) 0,cond (V9 a cls==3) (DL a.ft 0 (dim - 1)) 0,cond (V9 a cls==3) a.fl false,DL a.bu 0 65536⟩
def bY:DO
 | [.agg [.int .i64 k,.int .i64 c,.int .i64 lo,.int .i64 size,.int .i64 ft,.int .i64 bu,.bool fl,.list false [.z] sp],.agg [.int .i64 dim,.int .i64 cls,.int .i64 _,.int .i64 _,.int .i64 _,.list true [.z,.list false [.int .u64]] _]]=>
  .br ((decide (1≤dim)&&decide (dim≤4))&&(decide (1≤cls)&&decide (cls≤3)))
   (.ok (.agg [.int .i64 (JI ⟨k,c,lo,size,ft,bu,fl,sp⟩ dim cls).k,.int .i64 (JI ⟨k,c,lo,size,ft,bu,fl,sp⟩ dim cls).c,
    .int .i64 (JI ⟨k,c,lo,size,ft,bu,fl,sp⟩ dim cls).a0,.int .i64 (JI ⟨k,c,lo,size,ft,bu,fl,sp⟩ dim cls).b0,.int .i64 (JI ⟨k,c,lo,size,ft,bu,fl,sp⟩ dim cls).a1,.int .i64 (JI ⟨k,c,lo,size,ft,bu,fl,sp⟩ dim cls).b1,
    .int .i64 (JI ⟨k,c,lo,size,ft,bu,fl,sp⟩ dim cls).a2,.int .i64 (JI ⟨k,c,lo,size,ft,bu,fl,sp⟩ dim cls).b2,.int .i64 (JI ⟨k,c,lo,size,ft,bu,fl,sp⟩ dim cls).a3,.int .i64 (JI ⟨k,c,lo,size,ft,bu,fl,sp⟩ dim cls).b3,
    .int .i64 (JI ⟨k,c,lo,size,ft,bu,fl,sp⟩ dim cls).a4,.int .i64 (JI ⟨k,c,lo,size,ft,bu,fl,sp⟩ dim cls).b4,.int .i64 (JI ⟨k,c,lo,size,ft,bu,fl,sp⟩ dim cls).lo,.int .i64 (JI ⟨k,c,lo,size,ft,bu,fl,sp⟩ dim cls).hi,
    .int .i64 (JI ⟨k,c,lo,size,ft,bu,fl,sp⟩ dim cls).ft,.bool (JI ⟨k,c,lo,size,ft,bu,fl,sp⟩ dim cls).fl,.int .i64 (JI ⟨k,c,lo,size,ft,bu,fl,sp⟩ dim cls).bu]) []) .no
 | _=>.no
open Go Go.Proofs
def Gg (N:Nat):Env:=DZ [] [] 15 N
theorem Wy (N:Nat) (l:LI) (i:Int):DS (Gg N) qM [.tmp 4] [[.z]] [.list false [.z] l,.i i]=(cond (ic (AG l)==0) (some ((.i 0),[])) (cond (decide (ic (AG l)=0)) none (cond (decide (0≤Int.tmod i (ic (AG l)))&&decide (Int.tmod i (ic (AG l)) < ic (AG l))) (some ((.i (IV.toInt (AI l (AD (Int.tmod i (ic (AG l)))) default))),[])) none))):=by kernel_rfl
def Gi (N:Nat):Env:=DZ [] [] 27 N
theorem Xb (N:Nat) (n w:Int):DS (Gi N) qO [.tmp 4] [[.bool]] [.i n,.i w]=(cond (decide (w < 1)) (some ((.bool false),[])) (cond (decide (w > 64)) (some ((.bool false),[])) (cond (w==64) (some ((.bool true),[])) (cond (decide (AA AB (w - 1) < 0)) none (cond (decide (n≥AA AB (0 - AA AB (1*2 ^ min (AD (AA AB (w - 1))) (AO AB))))) (some ((.bool (decide (n≤AA AB (AA AB (1*2 ^ min (AD (AA AB (w - 1))) (AO AB)) - 1)))),[])) (some ((.bool false),[]))))))):=by kernel_rfl
def Gk (N:Nat):Env:=DZ [(160,X7)] [] 66 N
theorem Xd (N:Nat) (u01:Bool) (u04 u00 n_At u02 u03:Int):DS (Gk N) qQ [.tmp 2] [[.bool]] [.agg [.bool u01,.i u04,.i u00,.i n_At,.i u02,.i u03]]=(cond u01 (cond (EU u04) (cond (u00==0) (cond (n_At==0) (cond (u02==0) (some ((.bool (u03==0)),[])) (some ((.bool false),[]))) (some ((.bool false),[]))) (some ((.bool false),[]))) (some ((.bool false),[]))) (cond (u04==0) (cond (decide (u00≥0)) (cond (decide (u00 < 4)) (cond (EU n_At) (cond (decide (u02≥1)) (cond (decide (u02 < 31)) (cond (decide (u03≥1)) (some ((.bool (decide (u03 < 31))),[])) (some ((.bool false),[]))) (some ((.bool false),[]))) (some ((.bool false),[]))) (some ((.bool false),[]))) (some ((.bool false),[]))) (some ((.bool false),[]))) (some ((.bool false),[])))):=by kernel_rfl
def Gj (N:Nat):Env:=DZ [(117,X8)] [] 32 N
theorem Xc (N:Nat) (u01:Bool) (u04 u00 n_At u02 u03:Int):DS (Gj N) qP [.tmp 2] [[.int .u64]] [.agg [.bool u01,.i u04,.i u00,.i n_At,.i u02,.i u03]]=(cond (!aZ u01 u04 u00 n_At u02 u03) (some ((.int .u64 0),[])) (cond u01 (some ((.int .u64 (AA AJ (ic (CF (A0 (AO AJ) 9223372036854775808 ||| A0 (AO AJ) (AA AJ (ic (CF (A0 (AO AJ) (AA AJ u04) &&& A0 (AO AJ) 4294967295))))))))),[])) (some ((.int .u64 (AA AJ (ic (CF (A0 (AO AJ) (AA AJ (ic (CF (A0 (AO AJ) (AA AJ (ic (CF (A0 (AO AJ) (AA AJ (ic (CF (A0 (AO AJ) (AA AJ n_At) &&& A0 (AO AJ) 4294967295)))) ||| A0 (AO AJ) (AA AJ (AA AJ u00*2 ^ min (AD 32) (AO AJ))))))) ||| A0 (AO AJ) (AA AJ (AA AJ u02*2 ^ min (AD 40) (AO AJ))))))) ||| A0 (AO AJ) (AA AJ (AA AJ u03*2 ^ min (AD 48) (AO AJ)))))))),[])))):=by kernel_rfl
def PQ (N:Nat):Env:=DZ [(17,NN),(38,PW)] [(3,⟨[1,4,5,9,10],[4,5],[]⟩)] 32 N
abbrev PO (l1:LI) (x9 x10 u00 u01 u02 u03 u04 u05 u06 u07 u08 u09 u0a u0b u0c u0d u0e u0f u0g u0h u0i u0j:Int):St:=⟨[(1,(.list false [.z] l1)),(4,(.ptr 4 0 0)),(5,(.ptr 5 0 0)),(9,(.i x9)),(10,(.i x10))],[(4,(some (.box [.i u00,.i u01,.i u02,.i u03,.i u04,.i u05,.i u06,.i u07,.i u08,.i u09]))),(5,(some (.box [.i u0a,.i u0b,.i u0c,.i u0d,.i u0e,.i u0f,.i u0g,.i u0h,.i u0i,.i u0j])))]⟩
theorem Wv (N:Nat) (u04 u03 u00 u01 u02:Int) (u05 l:LI):DS (PQ N) RF [.cell 4 36] [[.z,.z,.z,.z,.z,.z,.z,.z,.z,.z]] [.agg [.i u04,.i u03,.i u00,.i u01,.i u02,.list true [.z,.list false [.int .u64]] u05],.list false [.z] l]=(DT (PQ N) (DE RF [1,1,0,1,0,0]) ⟨[1,4,5,9,10],[4,5],[]⟩ N (PO l u04 0 0 0 0 0 0 0 0 0 0 0 0 0 0 0 0 0 0 0 0 0) (DK 0 (DM (PQ N) (DE RF [1,1,1]) (DP (PQ N) none [.cell 4 36] [[.z,.z,.z,.z,.z,.z,.z,.z,.z,.z]])))):=by kernel_rfl
theorem Cj (N:Nat) (l1:LI) (x9 x10 u00 u01 u02 u03 u04 u05 u06 u07 u08 u09 u0a u0b u0c u0d u0e u0f u0g u0h u0i u0j:Int) (again:St→DH) (k:Out→St→DH):E4 (PQ N) (DE RF [1,1,0,1,0,0]) (PO l1 x9 x10 u00 u01 u02 u03 u04 u05 u06 u07 u08 u09 u0a u0b u0c u0d u0e u0f u0g u0h u0i u0j) (EO again ⟨[1,4,5,9,10],[4,5],[]⟩ k)=(cond (decide (x10 < x9)) (cond (decide (0≤AA AB (2*x10))) (cond (decide (0≤AA AB (AA AB (2*x10)+1))) (cond (decide (x10=ic 0)) (again (PO l1 x9 (AA AB (x10+1)) u00 u01 u02 u03 u04 u05 u06 u07 u08 u09 (DL (D9 l1 (AA AB (2*x10))) (-2) 9) (AA AB (DL (D9 l1 (AA AB (2*x10))) (-2) 9+DL (D9 l1 (AA AB (AA AB (2*x10)+1))) 0 11)) u0c u0d u0e u0f u0g u0h u0i u0j)) (cond (decide (x10=ic 1)) (again (PO l1 x9 (AA AB (x10+1)) u00 u01 u02 u03 u04 u05 u06 u07 u08 u09 u0a u0b (DL (D9 l1 (AA AB (2*x10))) (-2) 9) (AA AB (DL (D9 l1 (AA AB (2*x10))) (-2) 9+DL (D9 l1 (AA AB (AA AB (2*x10)+1))) 0 11)) u0e u0f u0g u0h u0i u0j)) (cond (decide (x10=ic 2)) (again (PO l1 x9 (AA AB (x10+1)) u00 u01 u02 u03 u04 u05 u06 u07 u08 u09 u0a u0b u0c u0d (DL (D9 l1 (AA AB (2*x10))) (-2) 9) (AA AB (DL (D9 l1 (AA AB (2*x10))) (-2) 9+DL (D9 l1 (AA AB (AA AB (2*x10)+1))) 0 11)) u0g u0h u0i u0j)) (cond (decide (x10=ic 3)) (again (PO l1 x9 (AA AB (x10+1)) u00 u01 u02 u03 u04 u05 u06 u07 u08 u09 u0a u0b u0c u0d u0e u0f (DL (D9 l1 (AA AB (2*x10))) (-2) 9) (AA AB (DL (D9 l1 (AA AB (2*x10))) (-2) 9+DL (D9 l1 (AA AB (AA AB (2*x10)+1))) 0 11)) u0i u0j)) (cond (decide (x10=ic 4)) (again (PO l1 x9 (AA AB (x10+1)) u00 u01 u02 u03 u04 u05 u06 u07 u08 u09 u0a u0b u0c u0d u0e u0f u0g u0h (DL (D9 l1 (AA AB (2*x10))) (-2) 9) (AA AB (DL (D9 l1 (AA AB (2*x10))) (-2) 9+DL (D9 l1 (AA AB (AA AB (2*x10)+1))) 0 11)))) none))))) none) none) (k (.exit 0) (PO l1 x9 x10 u00 u01 u02 u03 u04 u05 u06 u07 u08 u09 u0a u0b u0c u0d u0e u0f u0g u0h u0i u0j))):=by kernel_rfl
theorem Mx (N:Nat) (l1:LI) (x9 x10 u00 u01 u02 u03 u04 u05 u06 u07 u08 u09 u0a u0b u0c u0d u0e u0f u0g u0h u0i u0j:Int):(DK 0 (DM (PQ N) (DE RF [1,1,1]) (DP (PQ N) none [.cell 4 36] [[.z,.z,.z,.z,.z,.z,.z,.z,.z,.z]]))) (.exit 0) (PO l1 x9 x10 u00 u01 u02 u03 u04 u05 u06 u07 u08 u09 u0a u0b u0c u0d u0e u0f u0g u0h u0i u0j)=(some ((.agg [.i u0a,.i u0b,.i u0c,.i u0d,.i u0e,.i u0f,.i u0g,.i u0h,.i u0i,.i u0j]),[])):=by kernel_rfl
open Go Go.Proofs
def Ge (N:Nat):Env:=DZ [(17,NN),(40,X3)] [] 58 N
theorem Wt (N:Nat) (u04 u01 a_Lo u05 u03 u00:Int) (u02:Bool) (u06:LI) (u0b u0a u07 u08 u09:Int) (u0c:LI):DS (Ge N) qK [.cell 4 38] [[.z,.z,.z,.z,.z,.z,.z,.z,.z,.z,.z,.z,.z,.z,.z,.bool,.z]] [.agg [.i u04,.i u01,.i a_Lo,.i u05,.i u03,.i u00,.bool u02,.list false [.z] u06],.agg [.i u0b,.i u0a,.i u07,.i u08,.i u09,.list true [.z,.list false [.int .u64]] u0c]]=(cond (decide (L8 0 (AA AB (u0a - 1))=0)) none (cond (decide (0≤u0b)&&decide (u0b≤4)) (cond (DL u04 1 3==2) (cond (decide (u0a < 2)) (some ((.agg [.i 1,.i (DL u01 0 (AA AB (u0a - 1))),.i (F7 u0b u06 0),.i (F8 u0b u06 0),.i (F7 u0b u06 1),.i (F8 u0b u06 1),.i (F7 u0b u06 2),.i (F8 u0b u06 2),.i (F7 u0b u06 3),.i (F8 u0b u06 3),.i 0,.i 0,.i (DL a_Lo (-9000) 9000),.i (AA AB (DL a_Lo (-9000) 9000+DL u05 0 18000)),.i 0,.bool false,.i (DL u00 0 65536)]),[])) (cond (DL u04 1 3==1) (some ((.agg [.i (DL u04 1 3),.i (DL u01 0 (AA AB (u0a - 1))),.i (F7 u0b u06 0),.i (F8 u0b u06 0),.i (F7 u0b u06 1),.i (F8 u0b u06 1),.i (F7 u0b u06 2),.i (F8 u0b u06 2),.i (F7 u0b u06 3),.i (F8 u0b u06 3),.i 0,.i 0,.i (DL a_Lo (-9000) 9000),.i (AA AB (DL a_Lo (-9000) 9000+DL u05 0 18000)),.i 0,.bool false,.i (DL u00 0 65536)]),[])) (some ((.agg [.i (DL u04 1 3),.i (DL u01 0 (AA AB (u0a - 1))),.i (F7 u0b u06 0),.i (F8 u0b u06 0),.i (F7 u0b u06 1),.i (F8 u0b u06 1),.i (F7 u0b u06 2),.i (F8 u0b u06 2),.i (F7 u0b u06 3),.i (F8 u0b u06 3),.i 0,.i 0,.i 0,.i 0,.i 0,.bool false,.i (DL u00 0 65536)]),[])))) (cond (DL u04 1 3==3) (cond (decide (L8 0 (AA AB (u0b - 1))=0)) none (cond (DL u04 1 3==1) (some ((.agg [.i (DL u04 1 3),.i (DL u01 0 (AA AB (u0a - 1))),.i (F7 u0b u06 0),.i (F8 u0b u06 0),.i (F7 u0b u06 1),.i (F8 u0b u06 1),.i (F7 u0b u06 2),.i (F8 u0b u06 2),.i (F7 u0b u06 3),.i (F8 u0b u06 3),.i 0,.i 0,.i (DL a_Lo (-9000) 9000),.i (AA AB (DL a_Lo (-9000) 9000+DL u05 0 18000)),.i (DL u03 0 (AA AB (u0b - 1))),.bool u02,.i (DL u00 0 65536)]),[])) (some ((.agg [.i (DL u04 1 3),.i (DL u01 0 (AA AB (u0a - 1))),.i (F7 u0b u06 0),.i (F8 u0b u06 0),.i (F7 u0b u06 1),.i (F8 u0b u06 1),.i (F7 u0b u06 2),.i (F8 u0b u06 2),.i (F7 u0b u06 3),.i (F8 u0b u06 3),.i 0,.i 0,.i 0,.i 0,.i (DL u03 0 (AA AB (u0b - 1))),.bool u02,.i (DL u00 0 65536)]),[])))) (cond (DL u04 1 3==1) (some ((.agg [.i (DL u04 1 3),.i (DL u01 0 (AA AB (u0a - 1))),.i (F7 u0b u06 0),.i (F8 u0b u06 0),.i (F7 u0b u06 1),.i (F8 u0b u06 1),.i (F7 u0b u06 2),.i (F8 u0b u06 2),.i (F7 u0b u06 3),.i (F8 u0b u06 3),.i 0,.i 0,.i (DL a_Lo (-9000) 9000),.i (AA AB (DL a_Lo (-9000) 9000+DL u05 0 18000)),.i 0,.bool false,.i (DL u00 0 65536)]),[])) (some ((.agg [.i (DL u04 1 3),.i (DL u01 0 (AA AB (u0a - 1))),.i (F7 u0b u06 0),.i (F8 u0b u06 0),.i (F7 u0b u06 1),.i (F8 u0b u06 1),.i (F7 u0b u06 2),.i (F8 u0b u06 2),.i (F7 u0b u06 3),.i (F8 u0b u06 3),.i 0,.i 0,.i 0,.i 0,.i 0,.bool false,.i (DL u00 0 65536)]),[]))))) none)):=by kernel_rfl
open Go Go.Proofs
theorem m9:DQ PR B0 38 PW:=by
 refine D1 [] [] PW [[.z]] Tryz.func38 Qp trivial ?_;intro vs r hwf h;unfold PW at h;split at h
 ·rename_i l i;cases hc:decide (0≤i) with
  | false=>rw [hc] at h; simp [R.get] at h
  | true=>
   rw [hc,R.get_br,DC,R.get_ok] at h;have hc:=A1 hc;refine ⟨0,?_⟩;rw [← h];refine (Wy 0 l i).trans ?_;unfold D9;cases h0:(ic (AG l)==0) with
   | true=>rfl
   | false=>
    rw [Q9] at h0;have h0':=BE h0;have hl:0 < (l.length:Int):=by simp only [ic] at h0'; omega
    have t0:=Int.tmod_nonneg (l.length:Int) hc;have t1:=Int.tmod_lt_of_pos i hl;rw [DD,h0,DD,AE (show 0≤Int.tmod i (ic (AG l)) from t0),AE (show Int.tmod i (ic (AG l)) < ic (AG l) from t1),CE,DC,DD]
 ·simp [R.get] at h
theorem zcm:DQ PR B0 160 X7:=by
 refine D1 [] [] X7 [[.bool]] Tryz.func160 Qs trivial ?_;intro vs r hwf h;unfold X7 at h;split at h
 ·rename_i n w;cases hc:decide (w=32) with
  | false=>rw [hc] at h; simp [R.get] at h
  | true=>
   rw [hc,R.get_br,DC,R.get_ok] at h;have hc:=A1 hc;subst hc;refine ⟨0,?_⟩;rw [← h];refine (Xb 0 n 32).trans ?_;have e1:AA AB (0 - AA AB (1*2 ^ min (AD (AA AB ((32:Int) - 1))) (AO AB))) = -2147483648:=by kernel_rfl
   have e2:AA AB (AA AB (1*2 ^ min (AD (AA AB ((32:Int) - 1))) (AO AB)) - 1)=2147483647:=by kernel_rfl
   have e3:decide (AA AB ((32:Int) - 1) < 0)=false:=by kernel_rfl
   rw [e1,e2,e3];unfold EU;have e4:decide (n ≥ -2147483648)=decide (-2147483648≤n):=rfl;rw [e4];cases decide (-2147483648≤n) <;> rfl
 ·simp [R.get] at h
theorem sY (a b:Bool):cond a (some (V.bool b,[])) (some (V.bool false,[]))=(some (V.bool (a&&b),[]):DH):=by cases a <;> rfl
theorem zcn:DQ PR B0 117 X8:=by
 refine D1 [(160,X7)] [] X8 [[.bool]] Tryz.func117 Qu ⟨zcm,trivial⟩ ?_;intro vs r hwf h;unfold X8 at h;split at h
 ·rename_i lf v f a l r';refine ⟨0,?_⟩;rw [← h];refine (Xd 0 lf v f a l r').trans ?_;simp only [R.get_ok,sY];unfold aZ;cases lf with
  | true=>rfl
  | false=>rfl
 ·simp [R.get] at h
theorem Aa:DQ PR B0 71 S3:=by
 refine D1 [(117,X8)] [] S3 [[.int .u64]] Tryz.func71 Qt ⟨zcn,trivial⟩ ?_;intro vs r hwf h;unfold S3 at h;split at h
 ·rename_i lf v f a l r';refine ⟨0,?_⟩;rw [← h];refine (Xc 0 lf v f a l r').trans ?_;unfold HR;cases aZ lf v f a l r' with
  | false=>rfl
  | true=>cases lf <;> rfl
 ·simp [R.get] at h
def KV (l:LI) (j:Int):Int:=DL (D9 l (2*j)) (-2) 9
def J8 (l:LI) (j:Int):Int:=DL (D9 l (2*j)) (-2) 9+DL (D9 l (2*j+1)) 0 11
def rgC (l:LI) (i:Nat):List V:=[.int .i64 (cond (BJ 0 i) (KV l 0) 0),.int .i64 (cond (BJ 0 i) (J8 l 0) 0),.int .i64 (cond (BJ 1 i) (KV l 1) 0),.int .i64 (cond (BJ 1 i) (J8 l 1) 0),.int .i64 (cond (BJ 2 i) (KV l 2) 0),.int .i64 (cond (BJ 2 i) (J8 l 2) 0),.int .i64 (cond (BJ 3 i) (KV l 3) 0),.int .i64 (cond (BJ 3 i) (J8 l 3) 0),.int .i64 0,.int .i64 0]
abbrev fS (l:LI) (D:Int) (i:Nat) (x:Int):St:=⟨[(1,(.list false [.z] l)),(4,(.ptr 4 0 0)),(5,(.ptr 5 0 0)),(9,(.int .i64 D)),(10,(.int .i64 x))],[(4,(some (.box [(.int .i64 0),(.int .i64 0),(.int .i64 0),(.int .i64 0),(.int .i64 0),(.int .i64 0),(.int .i64 0),(.int .i64 0),(.int .i64 0),(.int .i64 0)]))),(5,(some (.box (rgC l i))))]⟩
theorem zdr (l:LI) (j:Int):AA AB (DL (D9 l (2*j)) (-2) 9+DL (D9 l (2*j+1)) 0 11)=J8 l j:=by
 obtain ⟨_,a1,a2⟩:=JY (n:=D9 l (2*j)) (lo := -2) (hi:=9) (by omega) (by omega) (by omega);obtain ⟨_,b1,b2⟩:=JY (n:=D9 l (2*j+1)) (lo:=0) (hi:=11) (by omega) (by omega) (by omega);exact EC (by omega) (by omega)
theorem zbi (N:Nat) (l:LI) (D:Int) (i:Nat) (hi:(i:Int) < D) (h4:i < 4) (again:St→DH) (k:Out→St→DH) :
  E4 (PQ N) (DE RF [1,1,0,1,0,0]) (fS l D i (i:Int)) (EO again ⟨[1,4,5,9,10],[4,5],[]⟩ k)=again (fS l D (i+1) ((i+1:Nat):Int)):=by
 refine (Cj N l D i 0 0 0 0 0 0 0 0 0 0 (cond (BJ 0 i) (KV l 0) 0) (cond (BJ 0 i) (J8 l 0) 0) (cond (BJ 1 i) (KV l 1) 0) (cond (BJ 1 i) (J8 l 1) 0) (cond (BJ 2 i) (KV l 2) 0) (cond (BJ 2 i) (J8 l 2) 0) (cond (BJ 3 i) (KV l 3) 0) (cond (BJ 3 i) (J8 l 3) 0) 0 0 again k).trans ?_;have w2:AA AB (2*(i:Int))=2*(i:Int):=EC (by omega) (by omega);have w3:AA AB (2*(i:Int)+1)=2*(i:Int)+1:=EC (by omega) (by omega);rw [AE hi,DC,w2,w3,AE (show 0≤2*(i:Int) by omega),DC,AE (show 0≤2*(i:Int)+1 by omega),DC,zdr];have hi4:i=0∨i=1∨i=2∨i=3:=by omega
 rcases hi4 with rfl | rfl | rfl | rfl
 ·rw [show decide (((0:Nat):Int)=ic 0)=true from rfl,DC];rfl
 ·rw [show decide (((1:Nat):Int)=ic 0)=false from rfl,show decide (((1:Nat):Int)=ic 1)=true from rfl,DD,DC];rfl
 ·rw [show decide (((2:Nat):Int)=ic 0)=false from rfl,show decide (((2:Nat):Int)=ic 1)=false from rfl,show decide (((2:Nat):Int)=ic 2)=true from rfl,DD,DD,DC];rfl
 ·rw [show decide (((3:Nat):Int)=ic 0)=false from rfl,show decide (((3:Nat):Int)=ic 1)=false from rfl,show decide (((3:Nat):Int)=ic 2)=false from rfl,show decide (((3:Nat):Int)=ic 3)=true from rfl,DD,DD,DD,DC];rfl
theorem yT (N:Nat) (l:LI) (D:Nat) (hD:D≤4) (K:Out→St→DH):∀ (d i n:Nat),i+d=D→d < n →
  DT (PQ N) (DE RF [1,1,0,1,0,0]) ⟨[1,4,5,9,10],[4,5],[]⟩ n (fS l D i (i:Int)) K=K (.exit 0) (fS l D D (D:Int))
 | 0,i,n+1,hd,hn=>by
  have hi:i=D:=by omega
  subst hi;rw [D2];refine (Cj N l _ _ 0 0 0 0 0 0 0 0 0 0 (cond (BJ 0 i) (KV l 0) 0) (cond (BJ 0 i) (J8 l 0) 0) (cond (BJ 1 i) (KV l 1) 0) (cond (BJ 1 i) (J8 l 1) 0) (cond (BJ 2 i) (KV l 2) 0) (cond (BJ 2 i) (J8 l 2) 0) (cond (BJ 3 i) (KV l 3) 0) (cond (BJ 3 i) (J8 l 3) 0) 0 0 _ _).trans ?_;rw [AL (show ¬ (i:Int) < (i:Int) by omega),DD];rfl
 | d+1,i,n+1,hd,hn=>by
  rw [D2,zbi N l D i (by omega) (by omega)];exact yT N l D hD K d (i+1) n (by omega) (by omega)
 | _,_,0,_,h=>by omega
theorem zch:DQ PR B0 40 X3:=by
 refine D1 [(17,NN),(38,PW)] [(3,⟨[1,4,5,9,10],[4,5],[]⟩)] X3 [[.z,.z,.z,.z,.z,.z,.z,.z,.z,.z]] Tryz.func40 Qm
  ⟨fM,m9,trivial⟩ ?_
 intro vs r hwf h;unfold X3 at h;split at h
 ·rename_i d c b0 b1 b2 ts l;cases hc:(decide (0≤d)&&decide (d≤4)) with
  | false=>rw [hc] at h; simp [R.get] at h
  | true=>
   rw [hc,R.get_br,DC,R.get_ok] at h;simp only [AH,AQ] at hc;refine ⟨10,?_⟩;rw [← h];refine (Wv 10 d c b0 b1 b2 ts l).trans ?_;obtain ⟨D,rfl⟩:∃ D:Nat,d=D:=⟨d.toNat,by omega⟩;refine (yT 10 l D (by omega) _ D 0 10 (by omega) (by omega)).trans ?_;refine (Mx 10 l D D 0 0 0 0 0 0 0 0 0 0 (cond (BJ 0 D) (KV l 0) 0) (cond (BJ 0 D) (J8 l 0) 0) (cond (BJ 1 D) (KV l 1) 0) (cond (BJ 1 D) (J8 l 1) 0) (cond (BJ 2 D) (KV l 2) 0) (cond (BJ 2 D) (J8 l 2) 0) (cond (BJ 3 D) (KV l 3) 0) (cond (BJ 3 D) (J8 l 3) 0) 0 0).trans ?_;have hD:D=0∨D=1∨D=2∨D=3∨D=4:=by omega
   rcases hD with rfl | rfl | rfl | rfl | rfl <;> rfl
 ·simp [R.get] at h
theorem zcf:DQ PR B0 16 bY:=by
 refine D1 [(17,NN),(40,X3)] [] bY [[.z,.z,.z,.z,.z,.z,.z,.z,.z,.z,.z,.z,.z,.z,.z,.bool,.z]] Tryz.func16 Qk
  ⟨fM,zch,trivial⟩ ?_
 intro vs r hwf h;unfold bY at h;split at h
 ·rename_i k c lo size ft bu fl sp dim cls b0 b1 b2 ts;cases hc:((decide (1≤dim)&&decide (dim≤4))&&(decide (1≤cls)&&decide (cls≤3))) with
  | false=>rw [hc] at h; simp [R.get] at h
  | true=>
   rw [hc,R.get_br,DC,R.get_ok] at h;simp only [AH,AQ] at hc;obtain ⟨⟨d1,d4⟩,c1,c3⟩:=hc;refine ⟨0,?_⟩;rw [← h];refine (Wt 0 k c lo size ft bu fl sp dim cls b0 b1 b2 ts).trans ?_;have w1:AA AB (cls - 1)=cls - 1:=EC (by omega) (by omega);have w2:AA AB (dim - 1)=dim - 1:=EC (by omega) (by omega);obtain ⟨m1,_,_⟩:=JY (n:=c) (lo:=0) (hi:=cls - 1) (by omega) (by omega) (by omega);obtain ⟨m2,_,_⟩:=JY (n:=ft) (lo:=0) (hi:=dim - 1) (by omega) (by omega) (by omega);obtain ⟨_,l1,l2⟩:=JY (n:=lo) (lo := -9000) (hi:=9000) (by omega) (by omega) (by omega);obtain ⟨_,s1,s2⟩:=JY (n:=size) (lo:=0) (hi:=18000) (by omega) (by omega) (by omega);have w3:AA AB (DL lo (-9000) 9000+DL size 0 18000)=DL lo (-9000) 9000+DL size 0 18000:=EC (by omega) (by omega);rw [w1,w2,w3,m1,m2,AL (show ¬ (cls - 1 - 0+1=0) by omega),AL (show ¬ (dim - 1 - 0+1=0) by omega),AE (show 0≤dim by omega),AE (show dim≤4 by omega)];unfold JI V9 kO;obtain ⟨_,k1,k2⟩:=JY (n:=k) (lo:=1) (hi:=3) (by omega) (by omega) (by omega);generalize DL k 1 3=K at k1 k2;have hK:K=1∨K=2∨K=3:=by omega
   simp only;generalize decide (cls < 2)=cl;rcases hK with rfl | rfl | rfl <;> cases cl <;> rfl
 ·simp [R.get] at h
open Go
def PT:DO
 | [.int .i64 n,.int .i64 w]=>.br (decide (w=32)) (.ok (.bool (EU n)) []) .no
 | _=>.no
def S0:DO
 | [.int .i64 a,.int .i64 w]=>.br (decide (0≤a)&&decide (a < 64)) (.ok (.bool (decide (1≤w)&&decide (w≤64 - a))) []) .no
 | _=>.no
def UC (w:Int):Int:=(18446744073709551615:Int).fdiv (2 ^ (64 - w).toNat)
def S1:DO
 | [.int .i64 w]=>.br (decide (1≤w)&&decide (w≤64)) (.ok (.int .u64 (UC w)) []) .no
 | _=>.no
def Iq (a b:Int):Int:=IP (ic (CF (A0 (AO AJ) a &&& ~~~ (A0 (AO AJ) b))))
def N5 (x a w y:Int):Int:=aJ (Iq x (WT (UC w) a.toNat)) (cK (WT y a.toNat) (WT (UC w) a.toNat))
def HP (x a w:Int):Int:=cK (x.fdiv (2 ^ a.toNat)) (UC w)
def XN:DO
 | [.int .u64 x,.int .i64 a,.int .i64 w,.int .u64 y]=>.br (decide (0≤a)&&(decide (a < 64)&&(decide (1≤w)&&decide (w≤64 - a)))) (.ok (.int .u64 (N5 x a w y)) []) .no
 | _=>.no
def PU:DO
 | [.int .u64 x,.int .i64 a,.int .i64 w]=>.br (decide (0≤a)&&(decide (a < 64)&&(decide (1≤w)&&decide (w≤64 - a)))) (.ok (.int .u64 (HP x a w)) []) .no
 | _=>.no
def oO (n:Int):Int:=(E7 (n*2 ^ 32)).fdiv (2 ^ 32)
def XP:DO
 | [.int .i64 n,.int .i64 w]=>.br (decide (w=32)) (.ok (.int .i64 (oO n)) []) .no
 | _=>.no
def MO (x:Int):Int:=oO (E7 (HP x 0 32))
def XO:DO
 | [.int .u64 x,.int .i64 a,.int .i64 w]=>.br (decide (a=0)&&decide (w=32)) (.ok (.int .i64 (MO x)) []) .no
 | _=>.no
structure Nd where
 lf:Bool
 v:Int
 f:Int
 a:Int
 l:Int
 r:Int
def Nd.eq (x y:Nd):Bool:=(x.lf==y.lf)&&((x.v==y.v)&&((x.f==y.f)&&((x.a==y.a)&&((x.l==y.l)&&((x.r==y.r)&&true)))))
def Nd.zero:Nd:=⟨false,0,0,0,0,0⟩
def OV (n:Int):Bool:=decide (1≤n)&&decide (n < 31)
def YR:DO
 | [.int .i64 n]=>.ok (.bool (OV n)) []
 | _=>.no
def LJ (x:Nd):Bool:=
 cond x.lf (x.eq ⟨true,x.v,0,0,0,0⟩&&EU x.v)
  ((x.v==0)&&(decide (0≤x.f)&&(decide (x.f < 4)&&(EU x.a&&(OV x.l&&OV x.r)))))
def YP:DO
 | [.agg [.bool lf,.int .i64 v,.int .i64 f,.int .i64 a,.int .i64 l,.int .i64 r]]=>.ok (.bool (LJ ⟨lf,v,f,a,l,r⟩)) []
 | _=>.no
def H6 (x:Nd):Int:=
 cond (LJ x)
  (cond x.lf (N5 9223372036854775808 0 32 (IP x.v))
   (N5 (N5 (N5 (N5 0 0 32 (IP x.a)) 32 4 (IP x.f)) 40 8 (IP x.l)) 48 8 (IP x.r)))
  0
def S9:DO
 | [.agg [.bool lf,.int .i64 v,.int .i64 f,.int .i64 a,.int .i64 l,.int .i64 r]]=>.ok (.int .u64 (H6 ⟨lf,v,f,a,l,r⟩)) []
 | _=>.no
def UL (w:Int):Nd:=
 cond (HP w 63 1==0) ⟨false,0,E7 (HP w 32 4),MO w,E7 (HP w 40 8),E7 (HP w 48 8)⟩ ⟨true,MO w,0,0,0,0⟩
def FU (w:Int):Bool:=!(w==0)&&(H6 (UL w)==w)
def DF (w:Int):Nd:=cond (FU w) (UL w) Nd.zero
def K4:DO
 | [.int .u64 w]=>.ok (.tup [.agg [.bool (DF w).lf,.int .i64 (DF w).v,.int .i64 (DF w).f,.int .i64 (DF w).a,.int .i64 (DF w).l,.int .i64 (DF w).r],.bool (FU w)]) []
 | _=>.no
def YQ:DO
 | [.int .i64 a,.int .i64 w,.bor [.int .u64 x]]=>.br (decide (0≤a)&&(decide (a < 64)&&(decide (1≤w)&&decide (w≤64 - a)))) (.ok (.int .i64 (E7 (HP x a w))) [[.int .u64 x]]) .no
 | _=>.no
def J3 (x:Nd) (j:Nat):Nat:=cond x.lf 0 ((if x.l=(j:Int) then 1 else 0)+(if x.r=(j:Int) then 1 else 0))
def H4 (l:LI) (j:Nat):Nat:=(l.map fun w=>J3 (DF w.toInt) j).sum
def MJ (dim n:Int) (i:Nat) (x:Nd):Bool:=
 cond x.lf true (!(decide (x.f≥dim))&&(!(x.l==x.r)&&(!(decide (min x.l x.r≤(i:Int)))&&!(decide (max x.l x.r≥n)))))
def JF (dim n:Int):Nat→LI→Bool
 | _,[]=>true
 | i,w :: r=>(FU w.toInt&&MJ dim n i (DF w.toInt))&&JF dim n (i+1) r
def WH (l:LI):Bool:=(vav (l.length - 1)).all fun j=>H4 l (j+1)==1
def GC (l:LI) (dim:Int):Bool:=(BW 1 l.length&&BW l.length 31)&&(JF dim (ic l.length) 0 l&&WH l)
def TO:DO
 | [.list false [.int .u64] l,.int .i64 dim]=>.ok (.bool (GC l dim)) []
 | _=>.no
structure Md where
 d:Int
 c:Int
 b0:Int
 b1:Int
 b2:Int
 ts:LI
def GY (d c:Int) (t:IV):Bool:=!(decide ((t.cell 0).toInt < 0))&&(!(decide ((t.cell 0).toInt≥c))&&GC (t.cell 1).toList d)
def G5 (c j b:Int):Bool:=EU b&&!(decide (j≥c)&&!(b==0))
def EQ (m:Md):Bool:=
 (!(decide (m.d < 1))&&(!(decide (m.d > 4))&&(!(decide (m.c < 1))&&(!(decide (m.c > 3))&&BW m.ts.length 8)))) &&
  ((G5 m.c 0 m.b0&&(G5 m.c 1 m.b1&&G5 m.c 2 m.b2))&&m.ts.all (GY m.d m.c))
abbrev LA:List Kd:=[.z,.list false [.int .u64]]
def S8:DO
 | [.agg [.int .i64 k,.list false [.int .u64] l],.bor [.int .i64 d,.int .i64 c,.int .i64 b0,.int .i64 b1,.int .i64 b2,.list true [.z,.list false [.int .u64]] ts]]=>
  .ok (.bool (!(GY d c (.agg [.int k,.list l])))) [[.int .i64 d,.int .i64 c,.int .i64 b0,.int .i64 b1,.int .i64 b2,.list true LA ts]]
 | _=>.no
def T5 (d c:Int):LI→Int→Int
 | [],_ => -1
 | t :: r,i=>cond (GY d c t) (T5 d c r (i+1)) i
def Y4:DO
 | [.list true [.z,.list false [.int .u64]] l,.clo 95 [.bor [.int .i64 d,.int .i64 c,.int .i64 b0,.int .i64 b1,.int .i64 b2,.list true [.z,.list false [.int .u64]] ts]]]=>
  .ok (.int .i64 (T5 d c l 0)) [[.int .i64 d,.int .i64 c,.int .i64 b0,.int .i64 b1,.int .i64 b2,.list true LA ts]]
 | _=>.no
def Y3:DO
 | [.list true [.z,.list false [.int .u64]] l,.clo 95 [.bor [.int .i64 d,.int .i64 c,.int .i64 b0,.int .i64 b1,.int .i64 b2,.list true [.z,.list false [.int .u64]] ts]]]=>
  .ok (.bool (!(l.all (GY d c)))) [[.int .i64 d,.int .i64 c,.int .i64 b0,.int .i64 b1,.int .i64 b2,.list true LA ts]]
 | _=>.no
def K3:DO
 | [.agg [.int .i64 d,.int .i64 c,.int .i64 b0,.int .i64 b1,.int .i64 b2,.list true [.z,.list false [.int .u64]] ts]]=>.ok (.bool (EQ ⟨d,c,b0,b1,b2,ts⟩)) []
 | _=>.no
abbrev L7:BA:=⟨#[102,111,114,101,115,116]⟩
abbrev IC:BA:=⟨#[98,105,97,115]⟩
abbrev MR:BA:=⟨#[116,114,101,101]⟩
abbrev QS:BA:=⟨#[108,101,97,102]⟩
abbrev gF:BA:=⟨#[105,102]⟩
abbrev oG:BA:=⟨#[60,61]⟩
abbrev oH:BA:=⟨#[116,104,101,110]⟩
abbrev oD:BA:=⟨#[101,108,115,101]⟩
abbrev NI:BA:=⟨#[10]⟩
def E8 (ws:List BA):BA:=GB ws GS++NI
def FO:List (List BA)→BA
 | []=>CH
 | l :: r=>E8 l++FO r
def KT (x:Nd):List BA:=
 cond x.lf [QS,DN x.v] [gF,DJ x.f,oG,DN x.a,oH,DJ x.l,oD,DJ x.r]
def G7 (l:LI):List (List BA):=l.map fun w=>KT (DF w.toInt)
def QQ (t:IV):List (List BA):=[MR,DJ (t.cell 0).toInt,DJ (ic (t.cell 1).toList.length)] :: G7 (t.cell 1).toList
def F6:LI→List (List BA)
 | []=>[]
 | t :: r=>QQ t++F6 r
def QF (m:Md):List (List BA):=[[L7,DJ m.d,DJ m.c],IC :: ([m.b0,m.b1,m.b2].take m.c.toNat).map DN]
def KQ (m:Md):List (List BA):=QF m++F6 m.ts
def FI (m:Md):BA:=cond (EQ m) (FO (KQ m)) W3
def E5 (s:BA) (most:Int):Int:=cond (MD s&&(!(decide (FP s < 0))&&!(decide (FP s > most)))) (FP s) 0
def EK (ls:LI):LI:=match ls with | []=>[] | l :: _=>GU l.toStr
def L0 (l:LI):Nd:=
 cond ((DU l 0).toList==QS.toList) ⟨true,FR (DU l 1),0,0,0,0⟩ ⟨false,0,E5 (DU l 1) 4,FR (DU l 3),E5 (DU l 5) 31,E5 (DU l 7) 31⟩
def LF (ls:LI) (k:Nat):LI:=(vav k).map fun i=>.int (H6 (L0 (EK (ls.drop i))))
def LE (ls:LI):Nat:=(E5 (DU (EK ls) 2) 31).toNat
def WO (ls:LI):IV:=.agg [.int (E5 (DU (EK ls) 1) 3),.list (LF (ls.drop 1) (LE ls))]
def J7:Nat→LI→LI
 | 0,_=>[]
 | n+1,ls=>match ls with
  | []=>[]
  | l :: r=>WO (l :: r) :: J7 n (r.drop (LE (l :: r)))
def J6 (ls:LI) (c:Int) (j:Nat):Int:=cond (decide ((j:Int) < c)) (FR (DU (EK (ls.drop 1)) (1+j))) 0
def WN (ls:LI):Int:=E5 (DU (EK ls) 2) 3
def mG (ls:LI):Md:=⟨E5 (DU (EK ls) 1) 4,WN ls,J6 ls (WN ls) 0,J6 ls (WN ls) 1,J6 ls (WN ls) 2,J7 9 (ls.drop 2)⟩
def QE (s t:BA):Bool:=decide (t.size≤s.size)&&(s.extract (s.size - t.size) s.size).toList==t.toList
def HM (s t:BA):BA:=cond (QE s t) (s.extract 0 (s.size - t.size)) s
def W0 (s:BA):BA:=HM s NI
def RS (s:BA):LI:=(D5 (W0 s) NI).map IV.str
def VT (s:BA):Md:=mG (RS s)
def Md.zero:Md:=⟨0,0,0,0,0,[]⟩
def L6 (s:BA):Bool:=!(s.toList==W3.toList)&&(FI (VT s)).toList==s.toList
def ER (s:BA):Md:=cond (L6 s) (VT s) Md.zero
def JH (l:LI):Bool:=l.all fun x=>decide (x.toStr.size < 4294967281)
def Y7:DO
 | [.bor [.bld s],.list false [.str] ws]=>.br (BW ws.length 1000&&decide (s.size+(E8 (ws.map IV.toStr)).size≤1000000000)) (.ok (.tup []) [[.bld (s++E8 (ws.map IV.toStr))]]) .no
 | _=>.no
def PZ:DO
 | [.agg [.int .i64 d,.int .i64 c,.int .i64 b0,.int .i64 b1,.int .i64 b2,.list true [.z,.list false [.int .u64]] ts]]=>.ok (.str (FI ⟨d,c,b0,b1,b2,ts⟩)) []
 | _=>.no
def TL:DO
 | [.bor [.list false [.str] ls]]=>.br (JH ls) (.ok (.list false [.str] (EK ls)) [[.list false [.str] (ls.drop 1)]]) .no
 | _=>.no
def TN:DO
 | [.list false [.str] l,.int .i64 i]=>.br (decide (0≤i)) (.ok (.str (DU l i.toNat)) []) .no
 | _=>.no
def TK:DO
 | [.str s,.int .i64 most]=>.ok (.int .i64 (E5 s most)) []
 | _=>.no
def TM:DO
 | [.str s]=>.br (decide (s.size < 4294967281)) (.ok (.int .i64 (FR s)) []) .no
 | _=>.no
def Y8:DO
 | [.bor [.list false [.str] ls]]=>.br (JH ls) (.ok (.int .u64 (H6 (L0 (EK ls)))) [[.list false [.str] (ls.drop 1)]]) .no
 | _=>.no
def YJ:DO
 | [.str s,.str t]=>.ok (.bool (QE s t)) []
 | _=>.no
def YK:DO
 | [.str s,.str t]=>.ok (.str (HM s t)) []
 | _=>.no
def TH:DO
 | [.str s,.str t]=>.ok (.str (HM s t)) []
 | _=>.no
def TJ:DO
 | [.str s]=>.br (decide (s.size < 4294967281)) (.ok (.tup [.agg [.int .i64 (ER s).d,.int .i64 (ER s).c,.int .i64 (ER s).b0,.int .i64 (ER s).b1,.int .i64 (ER s).b2,.list true LA (ER s).ts],.bool (L6 s)]) []) .no
 | _=>.no
open Go Go.Proofs
def Fq (N:Nat):Env:=DZ [] [] 25 N
theorem Wa (N:Nat) (n w:Int):DS (Fq N) p8 [.tmp 4] [[.bool]] [.i n,.i w]=(cond (decide (w < 1)) (some ((.bool false),[])) (cond (decide (w > 64)) (some ((.bool false),[])) (cond (decide (AA AJ (AA AB (w - 1)) < 0)) none (cond (vaR n (2 ^ min (AD (AA AJ (AA AB (w - 1)))) (AO AB))==0) (some ((.bool true),[])) (cond (decide (AA AJ (AA AB (w - 1)) < 0)) none (some ((.bool (vaR n (2 ^ min (AD (AA AJ (AA AB (w - 1)))) (AO AB)) == -1)),[]))))))):=by kernel_rfl
def Fw (N:Nat):Env:=DZ [] [] 21 N
theorem We (N:Nat) (n w:Int):DS (Fw N) qC [.tmp 4] [[.z]] [.i n,.i w]=(cond (decide (w < 1)) (some ((.i n),[])) (cond (decide (w≥64)) (some ((.i n),[])) (cond (decide (AA AJ (AA AB (64 - w)) < 0)) none (cond (decide (AA AJ (AA AB (64 - w)) < 0)) none (some ((.i (vaR (AA AB (n*2 ^ min (AD (AA AJ (AA AB (64 - w)))) (AO AB))) (2 ^ min (AD (AA AJ (AA AB (64 - w)))) (AO AB)))),[])))))):=by kernel_rfl
def Fx (N:Nat):Env:=DZ [] [] 21 N
theorem Wf (N:Nat) (atv w:Int):DS (Fx N) qD [.tmp 4] [[.bool]] [.i atv,.i w]=(cond (decide (atv≥0)) (cond (decide (atv < 64)) (cond (decide (w≥1)) (some ((.bool (decide (w≤AA AB (64 - atv)))),[])) (some ((.bool false),[]))) (some ((.bool false),[]))) (some ((.bool false),[]))):=by kernel_rfl
def Fy (N:Nat):Env:=DZ [] [] 7 N
theorem Wg (N:Nat) (w:Int):DS (Fy N) qE [.tmp 2] [[.int .u64]] [.i w]=(cond (decide (AA AJ (AA AB (64 - w)) < 0)) none (some ((.int .u64 (vaR 18446744073709551615 (2 ^ min (AD (AA AJ (AA AB (64 - w)))) (AO AJ)))),[]))):=by kernel_rfl
def Fu (N:Nat):Env:=DZ [(149,S0),(150,S1)] [] 30 N
theorem Wc (N:Nat) (x atv w y:Int):DS (Fu N) qA [.tmp 8] [[.int .u64]] [.int .u64 x,.i atv,.i w,.int .u64 y]=(cond (decide (0≤atv)&&decide (atv < 64)) (cond (! (decide (1≤w)&&decide (w≤64 - atv))) (some ((.int .u64 x),[])) (cond (decide (1≤w)&&decide (w≤64)) (cond (decide (AA AJ atv < 0)) none (cond (decide (AA AJ atv < 0)) none (some ((.int .u64 (AA AJ (ic (CF (A0 (AO AJ) (AA AJ (ic (CF (A0 (AO AJ) x &&& ~~~A0 (AO AJ) (AA AJ (UC w*2 ^ min (AD (AA AJ atv)) (AO AJ))))))) ||| A0 (AO AJ) (AA AJ (ic (CF (A0 (AO AJ) (AA AJ (y*2 ^ min (AD (AA AJ atv)) (AO AJ))) &&& A0 (AO AJ) (AA AJ (UC w*2 ^ min (AD (AA AJ atv)) (AO AJ)))))))))))),[])))) none)) none):=by kernel_rfl
def Fs (N:Nat):Env:=DZ [(149,S0),(150,S1)] [] 18 N
theorem Wb (N:Nat) (x atv w:Int):DS (Fs N) p9 [.tmp 6] [[.int .u64]] [.int .u64 x,.i atv,.i w]=(cond (decide (0≤atv)&&decide (atv < 64)) (cond (! (decide (1≤w)&&decide (w≤64 - atv))) (some ((.int .u64 0),[])) (cond (decide (AA AJ atv < 0)) none (cond (decide (1≤w)&&decide (w≤64)) (some ((.int .u64 (AA AJ (ic (CF (A0 (AO AJ) (vaR x (2 ^ min (AD (AA AJ atv)) (AO AJ))) &&& A0 (AO AJ) (UC w)))))),[])) none))) none):=by kernel_rfl
def Fv (N:Nat):Env:=DZ [(99,PU),(148,XP)] [] 14 N
theorem Wd (N:Nat) (x atv w:Int):DS (Fv N) qB [.tmp 6] [[.z]] [.int .u64 x,.i atv,.i w]=(cond (decide (0≤atv)&&(decide (atv < 64)&&(decide (1≤w)&&decide (w≤64 - atv)))) (cond (decide (w=32)) (some ((.i (oO (AA AB (HP x atv w)))),[])) none) none):=by kernel_rfl
def Hi (N:Nat):Env:=DZ [] [] 9 N
theorem Yh (N:Nat) (n:Int):DS (Hi N) rN [.tmp 2] [[.bool]] [.i n]=(cond (decide (n≥1)) (some ((.bool (decide (n < 31))),[])) (some ((.bool false),[]))):=by kernel_rfl
def Hf (N:Nat):Env:=DZ [(93,PT),(190,YR)] [] 43 N
theorem Ye (N:Nat) (u01:Bool) (u04 u00 n_At u02 u03:Int):DS (Hf N) rK [.tmp 2] [[.bool]] [.agg [.bool u01,.i u04,.i u00,.i n_At,.i u02,.i u03]]=(cond u01 (cond (u01==true&&(u04==u04&&(u00==0&&(n_At==0&&(u02==0&&(u03==0&&true)))))) (some ((.bool (EU u04)),[])) (some ((.bool false),[]))) (cond (u04==0) (cond (decide (u00≥0)) (cond (decide (u00 < 4)) (cond (EU n_At) (cond (OV u02) (some ((.bool (OV u03)),[])) (some ((.bool false),[]))) (some ((.bool false),[]))) (some ((.bool false),[]))) (some ((.bool false),[]))) (some ((.bool false),[])))):=by kernel_rfl
def He (N:Nat):Env:=DZ [(146,XN),(145,YP)] [] 32 N
theorem Yd (N:Nat) (u01:Bool) (u04 u00 n_At u02 u03:Int):DS (He N) rJ [.tmp 2] [[.int .u64]] [.agg [.bool u01,.i u04,.i u00,.i n_At,.i u02,.i u03]]=(cond (!LJ {lf:=u01,v:=u04,f:=u00,a:=n_At,l:=u02,r:=u03}) (some ((.int .u64 0),[])) (cond u01 (some ((.int .u64 (N5 9223372036854775808 0 32 (AA AJ u04))),[])) (some ((.int .u64 (N5 (N5 (N5 (N5 0 0 32 (AA AJ n_At)) 32 4 (AA AJ u00)) 40 8 (AA AJ u02)) 48 8 (AA AJ u03))),[])))):=by kernel_rfl
def Hh (N:Nat):Env:=DZ [(99,PU)] [] 11 N
theorem Yg (N:Nat) (a w x:Int):DS (Hh N) rM [.tmp 5] [[.z]] [.i a,.i w,.bor [.int .u64 x]]=(cond (decide (0≤a)&&(decide (a < 64)&&(decide (1≤w)&&decide (w≤64 - a)))) (some ((.i (AA AB (HP x a w))),[[.int .u64 x]])) none):=by kernel_rfl
def Hg (N:Nat):Env:=DZ [(99,PU),(98,XO),(92,S9),(100,YQ)] [] 33 N
theorem Yf (N:Nat) (w:Int):DS (Hg N) rL [.cell 2 111,.tmp 3] [[.bool,.z,.z,.z,.z,.z],[.bool]] [.int .u64 w]=(cond (HP w 63 1==0) (cond (w==0) (some ((.tup [.agg [.bool false,.i 0,.i 0,.i 0,.i 0,.i 0],.bool false]),[])) (cond (H6 {lf:=false,v:=0,f:=E7 (HP w 32 4),a:=MO w,l:=E7 (HP w 40 8),r:=E7 (HP w 48 8)} != w) (some ((.tup [.agg [.bool false,.i 0,.i 0,.i 0,.i 0,.i 0],.bool false]),[])) (some ((.tup [.agg [.bool false,.i 0,.i (E7 (HP w 32 4)),.i (MO w),.i (E7 (HP w 40 8)),.i (E7 (HP w 48 8))],.bool true]),[])))) (cond (w==0) (some ((.tup [.agg [.bool false,.i 0,.i 0,.i 0,.i 0,.i 0],.bool false]),[])) (cond (H6 {lf:=true,v:=MO w,f:=0,a:=0,l:=0,r:=0} != w) (some ((.tup [.agg [.bool false,.i 0,.i 0,.i 0,.i 0,.i 0],.bool false]),[])) (some ((.tup [.agg [.bool true,.i (MO w),.i 0,.i 0,.i 0,.i 0],.bool true]),[]))))):=by kernel_rfl
open Go Go.Proofs
theorem n8 {n:Int} (h0:0≤n) (h1:n < 18446744073709551616):AA AJ n=n:=by
 rw [gB];omega
theorem m5:DQ PR B0 93 PT:=by
 refine D1 [] [] PT [[.bool]] Tryz.func93 Pl trivial ?_;intro vs r hwf h;unfold PT at h;split at h
 ·rename_i n w;cases hc:decide (w=32) with
  | false=>rw [hc] at h; simp [R.get] at h
  | true=>
   rw [hc,R.get_br,DC,R.get_ok] at h;have hc:=A1 hc;subst hc;refine ⟨0,?_⟩;rw [← h];refine (Wa 0 n 32).trans ?_;have e3:decide (AA AJ (AA AB ((32:Int) - 1)) < 0)=false:=by kernel_rfl
   have e4:(2:Int) ^ min (AD (AA AJ (AA AB ((32:Int) - 1)))) (AO AB)=2147483648:=by kernel_rfl
   rw [e3,e4,AL (show ¬ (32:Int) < 1 by omega),AL (show ¬ (32:Int) > 64 by omega),DD,DD,DD,DD];have h0:=Int.fdiv_mul_add_fmod n 2147483648;have h1:=Int.fmod_nonneg_of_pos n (show (0:Int) < 2147483648 by omega);have h2:=Int.fmod_lt_of_pos n (show (0:Int) < 2147483648 by omega);generalize vaR n 2147483648=q at h0 ⊢;generalize Int.fmod n 2147483648=m at h0 h1 h2;unfold EU;rw [Q9,Q9];cases hq:decide (q=0) with
   | true=>
    have hq:=A1 hq;rw [AE (show -2147483648≤n by omega),AE (show n≤2147483647 by omega)];rfl
   | false=>
    have hq:=BE hq;cases hp:decide (q = -1) with
    | true=>
     have hp:=A1 hp;rw [AE (show -2147483648≤n by omega),AE (show n≤2147483647 by omega)];rfl
    | false=>
     have hp:=BE hp;rw [DD];congr 3
     symm
     rw [Bool.and_eq_false_iff,BQ,BQ];omega
 ·simp [R.get] at h
theorem zb2:DQ PR B0 148 XP:=by
 refine D1 [] [] XP [[.z]] Tryz.func148 Pp trivial ?_;intro vs r hwf h;unfold XP at h;split at h
 ·rename_i n w;cases hc:decide (w=32) with
  | false=>rw [hc] at h; simp [R.get] at h
  | true=>
   rw [hc,R.get_br,DC,R.get_ok] at h;have hc:=A1 hc;subst hc;refine ⟨0,?_⟩;rw [← h];refine (We 0 n 32).trans ?_;have e3:decide (AA AJ (AA AB ((64:Int) - 32)) < 0)=false:=by kernel_rfl
   have e4:min (AD (AA AJ (AA AB ((64:Int) - 32)))) (AO AB)=32:=by kernel_rfl
   rw [e3,e4,AL (show ¬ (32:Int) < 1 by omega),AL (show ¬ (32:Int)≥64 by omega),DD,DD,DD,DD];rfl
 ·simp [R.get] at h
theorem z6:DQ PR B0 149 S0:=by
 refine D1 [] [] S0 [[.bool]] Tryz.func149 Pq trivial ?_;intro vs r hwf h;unfold S0 at h;split at h
 ·rename_i a w;cases hc:(decide (0≤a)&&decide (a < 64)) with
  | false=>rw [hc] at h; simp [R.get] at h
  | true=>
   rw [hc,R.get_br,DC,R.get_ok] at h;rw [AH,AQ,AQ] at hc;refine ⟨0,?_⟩;rw [← h];refine (Wf 0 a w).trans ?_;have e:AA AB (64 - a)=64 - a:=EC (by omega) (by omega);have e1:decide (w≥1)=decide (1≤w):=rfl;rw [AE (show a≥0 by omega),AE hc.2,DC,DC,e,e1];cases decide (1≤w) <;> rfl
 ·simp [R.get] at h
theorem z7:DQ PR B0 150 S1:=by
 refine D1 [] [] S1 [[.int .u64]] Tryz.func150 Pr trivial ?_;intro vs r hwf h;unfold S1 at h;split at h
 ·rename_i w;cases hc:(decide (1≤w)&&decide (w≤64)) with
  | false=>rw [hc] at h; simp [R.get] at h
  | true=>
   rw [hc,R.get_br,DC,R.get_ok] at h;rw [AH,AQ,AQ] at hc;refine ⟨0,?_⟩;rw [← h];refine (Wg 0 w).trans ?_;have e:AA AB (64 - w)=64 - w:=EC (by omega) (by omega);have e2:AA AJ (64 - w)=64 - w:=n8 (by omega) (by omega);have e3:min (64 - w).toNat (AO AJ)=(64 - w).toNat:=by
    have:AO AJ=64:=rfl
    omega
   rw [e,e2,e3,AL (show ¬ (64 - w < 0) by omega),DD];rfl
 ·simp [R.get] at h
theorem t8 {a w:Int} (hc:(decide (0≤a)&&(decide (a < 64)&&(decide (1≤w)&&decide (w≤64 - a))))=true):0≤a∧a < 64∧1≤w∧w≤64 - a:=by
 simpa only [AH,AQ] using hc
theorem zb0:DQ PR B0 146 XN:=by
 refine D1 [(149,S0),(150,S1)] [] XN [[.int .u64]] Tryz.func146 Pn ⟨z6,z7,trivial⟩ ?_;intro vs r hwf h;unfold XN at h;split at h
 ·rename_i x a w y;cases hc:(decide (0≤a)&&(decide (a < 64)&&(decide (1≤w)&&decide (w≤64 - a)))) with
  | false=>rw [hc] at h; simp [R.get] at h
  | true=>
   rw [hc,R.get_br,DC,R.get_ok] at h;obtain ⟨h1,h2,h3,h4⟩:=t8 hc;refine ⟨0,?_⟩;rw [← h];refine (Wc 0 x a w y).trans ?_;have e2:AA AJ a=a:=n8 (by omega) (by omega);have e3:min a.toNat (AO AJ)=a.toNat:=by
    have:AO AJ=64:=rfl
    omega
   rw [e2,e3,AE h1,AE h2,AE h3,AE h4,AE (show w≤64 by omega),AL (show ¬ a < 0 by omega)];simp only [B1,A2,DC,DD];rfl
 ·simp [R.get] at h
theorem m6:DQ PR B0 99 PU:=by
 refine D1 [(149,S0),(150,S1)] [] PU [[.int .u64]] Tryz.func99 Pm ⟨z6,z7,trivial⟩ ?_;intro vs r hwf h;unfold PU at h;split at h
 ·rename_i x a w;cases hc:(decide (0≤a)&&(decide (a < 64)&&(decide (1≤w)&&decide (w≤64 - a)))) with
  | false=>rw [hc] at h; simp [R.get] at h
  | true=>
   rw [hc,R.get_br,DC,R.get_ok] at h;obtain ⟨h1,h2,h3,h4⟩:=t8 hc;refine ⟨0,?_⟩;rw [← h];refine (Wb 0 x a w).trans ?_;have e2:AA AJ a=a:=n8 (by omega) (by omega);have e3:min a.toNat (AO AJ)=a.toNat:=by
    have:AO AJ=64:=rfl
    omega
   rw [e2,e3,AE h1,AE h2,AE h3,AE h4,AE (show w≤64 by omega),AL (show ¬ a < 0 by omega)];simp only [B1,A2,DC,DD];rfl
 ·simp [R.get] at h
theorem zb1:DQ PR B0 98 XO:=by
 refine D1 [(99,PU),(148,XP)] [] XO [[.z]] Tryz.func98 Po ⟨m6,zb2,trivial⟩ ?_;intro vs r hwf h;unfold XO at h;split at h
 ·rename_i x a w;cases hc:(decide (a=0)&&decide (w=32)) with
  | false=>rw [hc] at h; simp [R.get] at h
  | true=>
   rw [hc,R.get_br,DC,R.get_ok] at h;rw [AH,AQ,AQ] at hc;obtain ⟨rfl,rfl⟩:=hc;refine ⟨0,?_⟩;rw [← h];refine (Wd 0 x 0 32).trans ?_;rfl
 ·simp [R.get] at h
theorem zcJ:DQ PR B0 190 YR:=by
 refine D1 [] [] YR [[.bool]] Tryz.func190 Sb trivial ?_;intro vs r hwf h;unfold YR at h;split at h
 ·rename_i n;refine ⟨0,?_⟩;rw [R.get_ok] at h;rw [← h];refine (Yh 0 n).trans ?_;unfold OV;have e1:decide (n≥1)=decide (1≤n):=rfl;rw [e1];cases decide (1≤n) <;> rfl
 ·simp [R.get] at h
theorem zcH:DQ PR B0 145 YP:=by
 refine D1 [(93,PT),(190,YR)] [] YP [[.bool]] Tryz.func145 Ry ⟨m5,zcJ,trivial⟩ ?_;intro vs r hwf h;unfold YP at h;split at h
 ·rename_i lf v f a l r';refine ⟨0,?_⟩;rw [← h];refine (Ye 0 lf v f a l r').trans ?_;simp only [R.get_ok,sY];unfold LJ;cases lf with
  | true=>rfl
  | false=>rfl
 ·simp [R.get] at h
theorem Aj:DQ PR B0 92 S9:=by
 refine D1 [(146,XN),(145,YP)] [] S9 [[.int .u64]] Tryz.func92 Rx ⟨zb0,zcH,trivial⟩ ?_;intro vs r hwf h;unfold S9 at h;split at h
 ·rename_i lf v f a l r';refine ⟨0,?_⟩;rw [← h];refine (Yd 0 lf v f a l r').trans ?_;unfold H6;cases LJ ⟨lf,v,f,a,l,r'⟩ with
  | false=>rfl
  | true=>cases lf <;> rfl
 ·simp [R.get] at h
theorem zcI:DQ PR B0 100 YQ:=by
 refine D1 [(99,PU)] [] YQ [[.z]] Tryz.func100 Sa ⟨m6,trivial⟩ ?_;intro vs r hwf h;unfold YQ at h;split at h
 ·rename_i a w x;cases hc:(decide (0≤a)&&(decide (a < 64)&&(decide (1≤w)&&decide (w≤64 - a)))) with
  | false=>rw [hc] at h; simp [R.get] at h
  | true=>
   rw [hc,R.get_br,DC,R.get_ok] at h;refine ⟨0,?_⟩;rw [← h];refine (Yg 0 a w x).trans ?_;rw [hc];rfl
 ·simp [R.get] at h
theorem WW:DQ PR B0 55 K4:=by
 refine D1 [(99,PU),(98,XO),(92,S9),(100,YQ)] [] K4 [[.bool,.z,.z,.z,.z,.z],[.bool]] Tryz.func55 Rz ⟨m6,zb1,Aj,zcI,trivial⟩ ?_;intro vs r hwf h;unfold K4 at h;split at h
 ·rename_i w;refine ⟨0,?_⟩;rw [← h];refine (Yf 0 w).trans ?_;rw [R.get_ok];unfold DF FU UL;cases (HP w 63 1==0) with
  | true=>
   simp only [CO];cases hw:(w==0) with
   | true=>rfl
   | false=>
    simp only [B9,BB,BH];have e:(H6 ⟨false,0,E7 (HP w 32 4),MO w,E7 (HP w 40 8),E7 (HP w 48 8)⟩ != w)=!(H6 ⟨false,0,E7 (HP w 32 4),MO w,E7 (HP w 40 8),E7 (HP w 48 8)⟩==w):=rfl;rw [e];cases (H6 ⟨false,0,E7 (HP w 32 4),MO w,E7 (HP w 40 8),E7 (HP w 48 8)⟩==w) <;> rfl
  | false=>
   simp only [B9];cases hw:(w==0) with
   | true=>rfl
   | false=>
    simp only [B9,BB,BH];have e:(H6 ⟨true,MO w,0,0,0,0⟩ != w)=!(H6 ⟨true,MO w,0,0,0,0⟩==w):=rfl;rw [e];cases (H6 ⟨true,MO w,0,0,0,0⟩==w) <;> rfl
 ·simp [R.get] at h
open Go Go.Proofs
def HD (N:Nat):Env:=DZ [(55,K4)] [(5,⟨[0,1,4,5,23,24,25],[22],[]⟩),(17,⟨[4,85,86,87],[22],[]⟩)] 94 N
abbrev MU (l0:LI) (x1:Int) (b4:Bool) (n5:Nat) (l23:LI) (x24 x25:Int) (lo22:LI):St:=⟨[(0,(.list false [.int .u64] l0)),(1,(.i x1)),(4,(.bool b4)),(5,(.row 22 0 n5)),(23,(.list false [.int .u64] l23)),(24,(.i x24)),(25,(.i x25))],[(22,(some (.row true 3 false [.z] lo22)))]⟩
abbrev SX (b4:Bool) (n85:Nat) (x86 x87:Int) (lo22:LI):St:=⟨[(4,(.bool b4)),(85,(.row 22 1 n85)),(86,(.i x86)),(87,(.i x87))],[(22,(some (.row true 3 false [.z] lo22)))]⟩
theorem Zr (N:Nat) (l:LI) (a1:Int):DS (HD N) KJ [.tmp 4] [[.bool]] [.list false [.int .u64] l,.i a1]=(cond (decide (ic (AG l) < 1)) (some ((.bool false),[])) (cond (decide (ic (AG l) > 31)) (some ((.bool false),[])) (cond (BJ 0 (TI.size (Env.tyd (HD N) 3))&&(BJ 3 1000000&&decide (0≤ic (AG l)))&&(decide (ic (AG l)=ic (AG l))&&decide (ic (AG l)*ic (TI.bytes (Env.tyd (HD N) 3))≤ic D6))) (DT (HD N) (DE KJ [1,1,1,0,1,0,0]) ⟨[0,1,4,5,23,24,25],[22],[]⟩ N (MU l a1 false (AD (ic (AG l))) l (ic (AG l)) 0 (BG (AD (ic (AG l))) (IV.int 0))) (DK 0 (DM (HD N) (DE KJ [1,1,1,1]) (DP (HD N) none [.tmp 4] [[.bool]])))) none))):=by kernel_rfl
theorem De (N:Nat) (l0:LI) (x1:Int) (b4:Bool) (n5:Nat) (l23:LI) (x24 x25:Int) (lo22:LI) (again:St→DH) (k:Out→St→DH):E4 (HD N) (DE KJ [1,1,1,0,1,0,0]) (MU l0 x1 b4 n5 l23 x24 x25 lo22) (EO again ⟨[0,1,4,5,23,24,25],[22],[]⟩ k)=(cond (decide (x25 < x24)) (cond (decide (0≤x25)&&decide (x25 < ic (AG l23))) (cond (!FU (IV.toInt (AI l23 (AD x25) default))) (k .ret (MU l0 x1 false n5 l23 x24 x25 lo22)) (cond (Nd.lf (DF (IV.toInt (AI l23 (AD x25) default)))) (again (MU l0 x1 b4 n5 l23 x24 (AA AB (x25+1)) lo22)) (cond (decide (Nd.f (DF (IV.toInt (AI l23 (AD x25) default)))≥x1)) (k .ret (MU l0 x1 false n5 l23 x24 x25 lo22)) (cond (Nd.l (DF (IV.toInt (AI l23 (AD x25) default)))==Nd.r (DF (IV.toInt (AI l23 (AD x25) default)))) (k .ret (MU l0 x1 false n5 l23 x24 x25 lo22)) (cond (decide (min (Nd.l (DF (IV.toInt (AI l23 (AD x25) default)))) (Nd.r (DF (IV.toInt (AI l23 (AD x25) default))))≤x25)) (k .ret (MU l0 x1 false n5 l23 x24 x25 lo22)) (cond (decide (max (Nd.l (DF (IV.toInt (AI l23 (AD x25) default)))) (Nd.r (DF (IV.toInt (AI l23 (AD x25) default))))≥ic (AG l0))) (k .ret (MU l0 x1 false n5 l23 x24 x25 lo22)) (cond (decide (0≤Nd.l (DF (IV.toInt (AI l23 (AD x25) default))))&&decide (Nd.l (DF (IV.toInt (AI l23 (AD x25) default))) < ic (n5 - 0))) (cond (decide (0≤Nd.l (DF (IV.toInt (AI l23 (AD x25) default))))&&decide (Nd.l (DF (IV.toInt (AI l23 (AD x25) default))) < ic (n5 - 0))) (cond (decide (0≤Nd.r (DF (IV.toInt (AI l23 (AD x25) default))))&&decide (Nd.r (DF (IV.toInt (AI l23 (AD x25) default))) < ic (n5 - 0))) (cond (decide (0≤Nd.r (DF (IV.toInt (AI l23 (AD x25) default))))&&decide (Nd.r (DF (IV.toInt (AI l23 (AD x25) default))) < ic (n5 - 0))) (again (MU l0 x1 b4 n5 l23 x24 (AA AB (x25+1)) (List.set (List.set lo22 (0+AD (Nd.l (DF (IV.toInt (AI l23 (AD x25) default))))) (MN false [Kd.int AB] (AI lo22 (0+AD (Nd.l (DF (IV.toInt (AI l23 (AD x25) default))))) default) 0 [IV.int (AA AB (IV.toInt (AI lo22 (0+AD (Nd.l (DF (IV.toInt (AI l23 (AD x25) default))))) default)+1))])) (0+AD (Nd.r (DF (IV.toInt (AI l23 (AD x25) default))))) (MN false [Kd.int AB] (AI (List.set lo22 (0+AD (Nd.l (DF (IV.toInt (AI l23 (AD x25) default))))) (MN false [Kd.int AB] (AI lo22 (0+AD (Nd.l (DF (IV.toInt (AI l23 (AD x25) default))))) default) 0 [IV.int (AA AB (IV.toInt (AI lo22 (0+AD (Nd.l (DF (IV.toInt (AI l23 (AD x25) default))))) default)+1))])) (0+AD (Nd.r (DF (IV.toInt (AI l23 (AD x25) default))))) default) 0 [IV.int (AA AB (IV.toInt (AI (List.set lo22 (0+AD (Nd.l (DF (IV.toInt (AI l23 (AD x25) default))))) (MN false [Kd.int AB] (AI lo22 (0+AD (Nd.l (DF (IV.toInt (AI l23 (AD x25) default))))) default) 0 [IV.int (AA AB (IV.toInt (AI lo22 (0+AD (Nd.l (DF (IV.toInt (AI l23 (AD x25) default))))) default)+1))])) (0+AD (Nd.r (DF (IV.toInt (AI l23 (AD x25) default))))) default)+1))])))) none) none) none) none))))))) none) (k (.exit 0) (MU l0 x1 b4 n5 l23 x24 x25 lo22))):=by kernel_rfl
theorem Oh (N:Nat) (l0:LI) (x1:Int) (b4:Bool) (n5:Nat) (l23:LI) (x24 x25:Int) (lo22:LI):(DK 0 (DM (HD N) (DE KJ [1,1,1,1]) (DP (HD N) none [.tmp 4] [[.bool]]))) (.exit 0) (MU l0 x1 b4 n5 l23 x24 x25 lo22)=(cond (decide (0≤1)&&decide (1≤ic (n5 - 0))) (DT (HD N) (DE KJ [1,1,1,1,0,1,0,0]) ⟨[4,85,86,87],[22],[]⟩ N (SX b4 (0+(n5 - 0)) (ic (0+(n5 - 0) - 1)) 0 lo22) (DK 2 (DM (HD N) (DE KJ [1,1,1,1,1]) (DP (HD N) none [.tmp 4] [[.bool]])))) none):=by kernel_rfl
theorem Oi (N:Nat) (l0:LI) (x1:Int) (b4:Bool) (n5:Nat) (l23:LI) (x24 x25:Int) (lo22:LI):(DK 0 (DM (HD N) (DE KJ [1,1,1,1]) (DP (HD N) none [.tmp 4] [[.bool]]))) .ret (MU l0 x1 b4 n5 l23 x24 x25 lo22)=(some ((.bool b4),[])):=by kernel_rfl
theorem Df (N:Nat) (b4:Bool) (n85:Nat) (x86 x87:Int) (lo22:LI) (again:St→DH) (k:Out→St→DH):E4 (HD N) (DE KJ [1,1,1,1,0,1,0,0]) (SX b4 n85 x86 x87 lo22) (EO again ⟨[4,85,86,87],[22],[]⟩ k)=(cond (decide (x87 < x86)) (cond (decide (0≤x87)&&decide (x87 < ic (n85 - 1))) (cond (IV.toInt (AI lo22 (1+AD x87) default) != 1) (k .ret (SX false n85 x86 x87 lo22)) (again (SX b4 n85 x86 (AA AB (x87+1)) lo22))) none) (k (.exit 2) (SX b4 n85 x86 x87 lo22))):=by kernel_rfl
theorem Oj (N:Nat) (b4:Bool) (n85:Nat) (x86 x87:Int) (lo22:LI):(DK 2 (DM (HD N) (DE KJ [1,1,1,1,1]) (DP (HD N) none [.tmp 4] [[.bool]]))) (.exit 2) (SX b4 n85 x86 x87 lo22)=(some ((.bool true),[])):=by kernel_rfl
theorem Ok (N:Nat) (b4:Bool) (n85:Nat) (x86 x87:Int) (lo22:LI):(DK 2 (DM (HD N) (DE KJ [1,1,1,1,1]) (DP (HD N) none [.tmp 4] [[.bool]]))) .ret (SX b4 n85 x86 x87 lo22)=(some ((.bool b4),[])):=by kernel_rfl
def Hd (N:Nat):Env:=DZ [(96,TO)] [] 22 N
theorem Ya (N:Nat) (k:Int) (l:LI) (d c b0 b1 b2:Int) (ts:LI):DS (Hd N) rI [.tmp 3] [[.bool]] [.agg [.i k,.list false [.int .u64] l],.bor [.i d,.i c,.i b0,.i b1,.i b2,.list true [.z,.list false [.int .u64]] ts]]=(cond (decide (k < 0)) (some ((.bool true),[[.i d,.i c,.i b0,.i b1,.i b2,.list true [.z,.list false [.int .u64]] ts]])) (cond (decide (k≥c)) (some ((.bool true),[[.i d,.i c,.i b0,.i b1,.i b2,.list true [.z,.list false [.int .u64]] ts]])) (some ((.bool (!GC l d)),[[.i d,.i c,.i b0,.i b1,.i b2,.list true [.z,.list false [.int .u64]] ts]])))):=by kernel_rfl
def MX (N:Nat):Env:=DZ [(95,S8)] [(2,⟨[0,1,4,7,8],[900000],[]⟩)] 19 N
abbrev ST (l0:LI) (x4 x7 x8 u01 u02 u03 u04 u05:Int) (u00:LI):St:=⟨[(0,(.list true [.z,.list false [.int .u64]] l0)),(1,(.clo 95 [.ptr 900000 0 0])),(4,(.i x4)),(7,(.i x7)),(8,(.i x8))],[(900000,(some (.box [.i u01,.i u02,.i u03,.i u04,.i u05,.list true [.z,.list false [.int .u64]] u00])))]⟩
theorem Zb (N:Nat) (l:LI) (d c b0 b1 b2:Int) (ts:LI):DS (MX N) P5 [.tmp 4] [[.z]] [.list true [.z,.list false [.int .u64]] l,.clo 95 [.bor [.i d,.i c,.i b0,.i b1,.i b2,.list true [.z,.list false [.int .u64]] ts]]]=(DT (MX N) (DE P5 [1,0,1,0,0]) ⟨[0,1,4,7,8],[900000],[]⟩ N (ST l 0 (ic (AG l)) 0 d c b0 b1 b2 ts) (DK 0 (DM (MX N) (DE P5 [1,1]) (DP (MX N) (some [.i d,.i c,.i b0,.i b1,.i b2,.list true [.z,.list false [.int .u64]] ts]) [.tmp 4] [[.z]])))):=by kernel_rfl
theorem Cz (N:Nat) (l0:LI) (x4 x7 x8 u01 u02 u03 u04 u05:Int) (u00:LI) (again:St→DH) (k:Out→St→DH):E4 (MX N) (DE P5 [1,0,1,0,0]) (ST l0 x4 x7 x8 u01 u02 u03 u04 u05 u00) (EO again ⟨[0,1,4,7,8],[900000],[]⟩ k)=(cond (decide (x8 < x7)) (cond (decide (0≤x8)&&decide (x8 < ic (AG l0))) (cond (!GY u01 u02 (IV.agg [IV.int (IV.toInt (IV.cell (AI l0 (AD x8) default) 0)),IV.list (IV.toList (IV.cell (AI l0 (AD x8) default) 1))])) (k .ret (ST l0 x8 x7 x8 u01 u02 u03 u04 u05 u00)) (again (ST l0 x4 x7 (AA AB (x8+1)) u01 u02 u03 u04 u05 u00))) none) (k (.exit 0) (ST l0 x4 x7 x8 u01 u02 u03 u04 u05 u00))):=by kernel_rfl
theorem Nv (N:Nat) (d c b0 b1 b2:Int) (ts l0:LI) (x4 x7 x8 u01 u02 u03 u04 u05:Int) (u00:LI):(DK 0 (DM (MX N) (DE P5 [1,1]) (DP (MX N) (some [.i d,.i c,.i b0,.i b1,.i b2,.list true [.z,.list false [.int .u64]] ts]) [.tmp 4] [[.z]]))) (.exit 0) (ST l0 x4 x7 x8 u01 u02 u03 u04 u05 u00)=(some ((.i (-1)),[[.i u01,.i u02,.i u03,.i u04,.i u05,.list true [.z,.list false [.int .u64]] u00]])):=by kernel_rfl
theorem Nw (N:Nat) (d c b0 b1 b2:Int) (ts l0:LI) (x4 x7 x8 u01 u02 u03 u04 u05:Int) (u00:LI):(DK 0 (DM (MX N) (DE P5 [1,1]) (DP (MX N) (some [.i d,.i c,.i b0,.i b1,.i b2,.list true [.z,.list false [.int .u64]] ts]) [.tmp 4] [[.z]]))) .ret (ST l0 x4 x7 x8 u01 u02 u03 u04 u05 u00)=(some ((.i x4),[[.i u01,.i u02,.i u03,.i u04,.i u05,.list true [.z,.list false [.int .u64]] u00]])):=by kernel_rfl
def Hs (N:Nat):Env:=DZ [(147,Y4)] [] 9 N
theorem Za (N:Nat) (l:LI) (d c b0 b1 b2:Int) (ts:LI):DS (Hs N) rX [.tmp 4] [[.bool]] [.list true [.z,.list false [.int .u64]] l,.clo 95 [.bor [.i d,.i c,.i b0,.i b1,.i b2,.list true [.z,.list false [.int .u64]] ts]]]=(some ((.bool (decide (T5 d c l 0≥0))),[[.i d,.i c,.i b0,.i b1,.i b2,.list true [.z,.list false [.int .u64]] ts]])):=by kernel_rfl
def L9 (N:Nat):Env:=DZ [(93,PT),(95,S8),(94,Y3)] [(4,⟨[1,2,30,31],[1,53005],[]⟩)] 54 N
abbrev JZ (b2:Bool) (u01 u02 u03 x31 u04 u05 u06 u07 u08:Int) (u00:LI):St:=⟨[(1,(.ptr 1 0 0)),(2,(.bool b2)),(30,(.agg [.i u01,.i u02,.i u03])),(31,(.i x31))],[(1,(some (.box [.i u04,.i u05,.i u06,.i u07,.i u08,.list true [.z,.list false [.int .u64]] u00]))),(53005,none)]⟩
theorem Xz (N:Nat) (u04 u03 u00 u01 u02:Int) (u05:LI):DS (L9 N) OU [.tmp 2] [[.bool]] [.agg [.i u04,.i u03,.i u00,.i u01,.i u02,.list true [.z,.list false [.int .u64]] u05]]=(cond (decide (u04 < 1)) (some ((.bool false),[])) (cond (decide (u04 > 4)) (some ((.bool false),[])) (cond (decide (u03 < 1)) (some ((.bool false),[])) (cond (decide (u03 > 3)) (some ((.bool false),[])) (cond (decide (ic (AG u05) > 8)) (some ((.bool false),[])) (DT (L9 N) (DE OU [1,1,0,1,0,0]) ⟨[1,2,30,31],[1,53005],[]⟩ N (JZ false u00 u01 u02 0 u04 u03 u00 u01 u02 u05) (DK 0 (DM (L9 N) (DE OU [1,1,1]) (DP (L9 N) none [.tmp 2] [[.bool]]))))))))):=by kernel_rfl
theorem Cs (N:Nat) (b2:Bool) (u01 u02 u03 x31 u04 u05 u06 u07 u08:Int) (u00:LI) (again:St→DH) (k:Out→St→DH):E4 (L9 N) (DE OU [1,1,0,1,0,0]) (JZ b2 u01 u02 u03 x31 u04 u05 u06 u07 u08 u00) (EO again ⟨[1,2,30,31],[1,53005],[]⟩ k)=(cond (decide (x31 < 3)) (cond (decide (x31=ic 0)) (cond (!EU u01) (k .ret (JZ false u01 u02 u03 x31 u04 u05 u06 u07 u08 u00)) (cond (decide (x31≥u05)) (cond (u01 != 0) (k .ret (JZ false u01 u02 u03 x31 u04 u05 u06 u07 u08 u00)) (again (JZ b2 u01 u02 u03 (AA AB (x31+1)) u04 u05 u06 u07 u08 u00))) (again (JZ b2 u01 u02 u03 (AA AB (x31+1)) u04 u05 u06 u07 u08 u00)))) (cond (decide (x31=ic 1)) (cond (!EU u02) (k .ret (JZ false u01 u02 u03 x31 u04 u05 u06 u07 u08 u00)) (cond (decide (x31≥u05)) (cond (u02 != 0) (k .ret (JZ false u01 u02 u03 x31 u04 u05 u06 u07 u08 u00)) (again (JZ b2 u01 u02 u03 (AA AB (x31+1)) u04 u05 u06 u07 u08 u00))) (again (JZ b2 u01 u02 u03 (AA AB (x31+1)) u04 u05 u06 u07 u08 u00)))) (cond (decide (x31=ic 2)) (cond (!EU u03) (k .ret (JZ false u01 u02 u03 x31 u04 u05 u06 u07 u08 u00)) (cond (decide (x31≥u05)) (cond (u03 != 0) (k .ret (JZ false u01 u02 u03 x31 u04 u05 u06 u07 u08 u00)) (again (JZ b2 u01 u02 u03 (AA AB (x31+1)) u04 u05 u06 u07 u08 u00))) (again (JZ b2 u01 u02 u03 (AA AB (x31+1)) u04 u05 u06 u07 u08 u00)))) none))) (k (.exit 0) (JZ b2 u01 u02 u03 x31 u04 u05 u06 u07 u08 u00))):=by kernel_rfl
theorem Nj (N:Nat) (b2:Bool) (u01 u02 u03 x31 u04 u05 u06 u07 u08:Int) (u00:LI):(DK 0 (DM (L9 N) (DE OU [1,1,1]) (DP (L9 N) none [.tmp 2] [[.bool]]))) (.exit 0) (JZ b2 u01 u02 u03 x31 u04 u05 u06 u07 u08 u00)=(some ((.bool (!!List.all u00 (GY u04 u05))),[])):=by kernel_rfl
theorem Nk (N:Nat) (b2:Bool) (u01 u02 u03 x31 u04 u05 u06 u07 u08:Int) (u00:LI):(DK 0 (DM (L9 N) (DE OU [1,1,1]) (DP (L9 N) none [.tmp 2] [[.bool]]))) .ret (JZ b2 u01 u02 u03 x31 u04 u05 u06 u07 u08 u00)=(some ((.bool b2),[])):=by kernel_rfl
open Go Go.Proofs
theorem wJ {l:LI} {i:Nat} {w:IV} (h:l[i]?=some w) (j:Nat):H4 (l.take (i+1)) j=H4 (l.take i) j+J3 (DF w.toInt) j:=by
 unfold H4;rw [List.take_add_one,h];simp
theorem Vq (x:Nd) (j:Nat):J3 x j≤2:=by
 unfold J3;cases x.lf
 ·simp only [B9];split <;> split <;> omega
 ·simp only [CO];omega
theorem wH:∀ (l:LI) (j:Nat),H4 l j≤2*l.length
 | [],_=>AY _
 | w :: l,j=>by
  have:=wH l j
  have:=Vq (DF w.toInt) j
  unfold H4 at *;simp only [AZ,List.sum_cons,AN];omega
def NM (l:LI) (i:Nat):LI:=(vav l.length).map fun j=>IV.int (H4 (l.take i) j:Nat)
theorem XH (l:LI) (i:Nat):(NM l i).length=l.length:=by simp [NM]
theorem VE (l:LI) (i:Nat) {j:Nat} (h:j < l.length):(NM l i)[j]?=some (IV.int (H4 (l.take i) j:Nat)):=by
 unfold NM;rw [B5,List.getElem?_range h];rfl
theorem Il (l:LI):NM l 0=BG l.length (IV.int 0):=by
 apply List.ext_getElem?;intro j;by_cases h:j < l.length
 ·rw [VE l 0 h,List.getElem?_replicate,BL h];simp [H4]
 ·rw [BM (by rw [XH]; omega),BM (by simp; omega)]
theorem Ik {l:LI} {i:Nat} {w:IV} (h:l[i]?=some w) (hl:(DF w.toInt).lf=true):NM l (i+1)=NM l i:=by
 unfold NM;congr 1
 funext j
 rw [wJ h];unfold J3;rw [hl];rfl
theorem Ij {l:LI} {i:Nat} {w:IV} (h:l[i]?=some w) (hl:(DF w.toInt).lf=false) (hn:l.length≤31) {a b:Nat} (ha:(DF w.toInt).l=(a:Int)) (hb:(DF w.toInt).r=(b:Int)) (hab:a≠b) (al:a < l.length) (bl:b < l.length) :
  ((NM l i).set a (IV.int (AA AB (((NM l i).getD a default).toInt+1)))).set b (IV.int (AA AB ((((NM l i).set a (IV.int (AA AB (((NM l i).getD a default).toInt+1)))).getD b default).toInt+1)))=NM l (i+1):=by
 have hil:i < l.length:=(BN.1 h).1;have hsm:∀ j,H4 (l.take i) j≤62:=fun j=>by
  have:=wH (l.take i) j
  rw [A8] at this;omega
 have ga:((NM l i).getD a default).toInt=(H4 (l.take i) a:Nat):=by
  rw [BO,VE l i al];rfl
 have gb:(((NM l i).set a (IV.int (AA AB (((NM l i).getD a default).toInt+1)))).getD b default).toInt=(H4 (l.take i) b:Nat):=by
  rw [BO,va4 hab,VE l i bl];rfl
 rw [gb,ga,EC (by omega) (by have:=hsm a; omega),EC (by omega) (by have:=hsm b; omega)];apply List.ext_getElem?;intro j;by_cases hj:j < l.length
 ·rw [VE l (i+1) hj,wJ h];have e:J3 (DF w.toInt) j=(if a=j then 1 else 0)+(if b=j then 1 else 0):=by
   unfold J3;rw [hl,ha,hb,B9];have e1:((a:Int)=(j:Int))↔a=j:=by omega
   have e2:((b:Int)=(j:Int))↔b=j:=by omega
   simp only [e1,e2]
  rw [e];by_cases h1:b=j
  ·subst h1;rw [List.getElem?_set_self (by rw [vay,XH]; exact bl),A4 hab,BL rfl];congr 2
  ·rw [va4 h1];by_cases h2:a=j
   ·subst h2;rw [List.getElem?_set_self (by rw [XH]; exact al),BL rfl,A4 h1];congr 2
   ·rw [va4 h2,VE l i hj,A4 h1,A4 h2];congr 2
 ·rw [BM (by rw [vay,vay,XH]; omega),BM (by rw [XH]; omega)]
abbrev gM (l:LI) (dim:Int) (b:Bool) (i:Int) (nm:LI):St:=
 ⟨[(0,(.list false [(.int .u64)] l)),(1,(.int .i64 dim)),(4,(.bool b)),(5,(.row 22 0 l.length)),(23,(.list false [(.int .u64)] l)),(24,(.int .i64 (ic l.length))),(25,(.int .i64 i))],[(22,(some (.row true 3 false [.z] nm)))]⟩
theorem n7 (N:Nat) (l:LI) (dim:Int) (hl:l.length≤31) (K:Out→St→DH) (hK:∀ i nm,K .ret (gM l dim false i nm)=some (.bool false,[])):∀ (d i n:Nat),i+d=l.length→d < n →
  DT (HD N) (DE KJ [1,1,1,0,1,0,0]) ⟨[0,1,4,5,23,24,25],[22],[]⟩ n (gM l dim false (i:Int) (NM l i)) K =
   cond (JF dim (ic l.length) i (l.drop i)) (K (.exit 0) (gM l dim false (ic l.length) (NM l l.length))) (some (.bool false,[]))
 | d,i,0,_,h=>absurd h (by omega)
 | 0,i,n+1,hd,_=>by
  have hi:i=l.length:=by omega
  subst hi;rw [D2,De];rw [AL (show ¬ ((l.length:Nat):Int) < ic l.length by simp only [ic]; omega),DD,vas];rfl
 | d+1,i,n+1,hd,hn=>by
  have hil:i < l.length:=by omega
  have hw:l[i]?=some l[i]:=A6 hil;rw [D2,De,A9 hil];have hg:l.getD (AD (i:Int)) default=l[i]:=by
   rw [BD,BO,hw];rfl
  rw [hg];generalize l[i]=w at hw ⊢;have ei:AA AB ((i:Int)+1)=((i+1:Nat):Int):=by
   rw [EC (by omega) (by omega)];omega
  rw [ei,AE (show (i:Int) < ic l.length by simp only [ic]; omega),DC,AE (show (0:Int)≤(i:Int) by omega),B1,DC];unfold JF;cases hb:FU w.toInt with
  | false=>
   simp only [BB,DC,BV,DD];exact hK (i:Int) (NM l i)
  | true=>
   simp only [A2,DD,BH];unfold MJ;cases hlf:(DF w.toInt).lf with
   | true=>
    simp only [DC,BH];rw [← Ik hw hlf];exact n7 N l dim hl K hK d (i+1) n (by omega) (by omega)
   | false=>
    simp only [DD];cases h1:decide ((DF w.toInt).f≥dim) with
    | true=>
     simp only [DC,A2,BV,DD];exact hK (i:Int) (NM l i)
    | false=>
    cases h2:((DF w.toInt).l==(DF w.toInt).r) with
    | true=>
     simp only [DC,DD,A2,BB,BV,vau];exact hK (i:Int) (NM l i)
    | false=>
    cases h3:decide (min (DF w.toInt).l (DF w.toInt).r≤(i:Int)) with
    | true=>
     simp only [DC,DD,A2,BB,BV,vau];exact hK (i:Int) (NM l i)
    | false=>
    cases h4:decide (max (DF w.toInt).l (DF w.toInt).r≥ic l.length) with
    | true=>
     simp only [DC,DD,A2,BB,BV,vau];exact hK (i:Int) (NM l i)
    | false=>
     have g2:(DF w.toInt).l≠(DF w.toInt).r:=BR.1 h2;have g3:=BE h3;have g4:=BE h4;simp only [ic] at g4;obtain ⟨a,ha⟩:∃ a:Nat,(DF w.toInt).l=(a:Int):=⟨(DF w.toInt).l.toNat,by omega⟩;obtain ⟨b,hb'⟩:∃ b:Nat,(DF w.toInt).r=(b:Int):=⟨(DF w.toInt).r.toNat,by omega⟩;have hab:a≠b:=fun e=>g2 (by rw [ha,hb',e])
     have al:a < l.length:=by omega
     have bl:b < l.length:=by omega
     have hN:=Ij hw hlf hl ha hb' hab al bl;rw [ha,hb'];rw [AE (show (0:Int)≤(a:Int) by omega),AE (show (0:Int)≤(b:Int) by omega),AE (show (a:Int) < ic (l.length - 0) by simp only [ic]; omega),AE (show (b:Int) < ic (l.length - 0) by simp only [ic]; omega)];simp only [DC,DD,BB,B1,BH,BD,BF];refine Eq.trans ?_ (n7 N l dim hl K hK d (i+1) n (by omega) (by omega));rw [← hN];rfl
abbrev zd8 (l:LI) (b:Bool) (j:Int):St:=
 ⟨[(4,(.bool b)),(85,(.row 22 1 (0+(l.length - 0)))),(86,(.int .i64 (ic (0+(l.length - 0) - 1)))),(87,(.int .i64 j))],[(22,(some (.row true 3 false [.z] (NM l l.length))))]⟩
theorem xE (N:Nat) (l:LI) (hl:l.length≤31):∀ (d j n:Nat),j+d=l.length - 1→d < n →
  DT (HD N) (DE KJ [1,1,1,1,0,1,0,0]) ⟨[4,85,86,87],[22],[]⟩ n (zd8 l false (j:Int)) (DK 2 (DM (HD N) (DE KJ [1,1,1,1,1]) (DP (HD N) none [(CA 4)] [[.bool]]))) =
   some (.bool ((List.range' j d).all fun j=>H4 l (j+1)==1),[])
 | d,j,0,_,h=>absurd h (by omega)
 | 0,j,n+1,hd,_=>by
  rw [D2,Df,AL (show ¬ (j:Int) < ic (0+(l.length - 0) - 1) by simp only [ic]; omega),DD];exact Oj N false _ _ _ _
 | d+1,j,n+1,hd,hn=>by
  have ej:AA AB ((j:Int)+1)=((j+1:Nat):Int):=by
   rw [EC (by omega) (by omega)];omega
  rw [D2,Df,ej,AE (show (j:Int) < ic (0+(l.length - 0) - 1) by simp only [ic]; omega),DC,AE (show (0:Int)≤(j:Int) by omega),B1,DC];have hg:((NM l l.length).getD (1+AD (j:Int)) default).toInt=(H4 l (j+1):Nat):=by
   rw [BD,Nat.add_comm 1 j,BO,VE l l.length (by omega),BS];rfl
  rw [hg,List.range'_succ,vaU];have e:(((H4 l (j+1):Nat):Int) != 1)=!(H4 l (j+1)==1):=by
   show (!(((H4 l (j+1):Nat):Int)==1))=_;congr 1;rw [va6,B3,B3];omega
  rw [e];cases (H4 l (j+1)==1) with
  | false=>
   rw [BB,DC];exact Ok N false _ _ _ _
  | true=>
   rw [A2,DD,BH];exact xE N l hl d (j+1) n (by omega) (by omega)
theorem zdH (N:Nat) (l:LI) (dim:Int) (hl:l.length≤31) (h1:1≤l.length) (hN:40≤N) (i:Int) :
  (DK 0 (DM (HD N) (DE KJ [1,1,1,1]) (DP (HD N) none [(CA 4)] [[.bool]]))) (.exit 0) (gM l dim false i (NM l l.length))=some (.bool (WH l),[]):=by
 refine (Oh N l dim false l.length l (ic l.length) i (NM l l.length)).trans ?_;rw [AE (show (0:Nat)≤1 by omega),AE (show (1:Int)≤ic (l.length - 0) by simp only [ic]; omega),B1,DC]
 have:=xE N l hl (l.length - 1) 0 N (by omega) (by omega)
 refine this.trans ?_;unfold WH;rw [List.range_eq_range']
theorem Bd:DQ PR B0 96 TO:=by
 refine D1 [(55,K4)] [(5,⟨[0,1,4,5,23,24,25],[22],[]⟩),(17,⟨[4,85,86,87],[22],[]⟩)] TO [[.bool]] Tryz.func96 Tl ⟨WW,trivial⟩ ?_;intro vs r hwf h;unfold TO at h;split at h
 ·rename_i l dim;refine ⟨40,?_⟩;rw [R.get_ok] at h;rw [← h];refine (Zr 40 l dim).trans ?_;unfold GC;by_cases h1:1≤l.length
  ·by_cases h2:l.length≤31
   ·have eb:ic (TI.bytes (Env.tyd (HD 40) 3))=8:=rfl;rw [AL (show ¬ ic l.length < 1 by simp only [ic]; omega),AL (show ¬ ic l.length > 31 by simp only [ic]; omega),DD,DD,eb,
     AE (show (0:Int)≤ic l.length by simp only [ic]; omega),AE (show ic l.length=ic l.length from rfl),AE (show ic l.length*8≤ic D6 by unfold D6; simp only [ic]; omega)]
    have e0:(BJ 0 (TI.size (Env.tyd (HD 40) 3))&&(BJ 3 1000000&&true)&&(true&&true))=true:=rfl;have e1:AD (ic l.length)=l.length:=by simp only [ic]; omega
    rw [e0,DC,e1,← Il,C2 h1,C2 h2];refine (n7 40 l dim h2 _ (fun i nm=>?_) l.length 0 40 (by omega) (by omega)).trans ?_
    ·exact Oi 40 l dim false l.length l (ic l.length) i nm
    ·rw [B4,zdH 40 l dim h2 h1 (by omega)];cases JF dim (ic l.length) 0 l <;> rfl
   ·have e:BW l.length 31=false:=by
     cases hb:BW l.length 31 with
     | false=>rfl
     | true=>exact absurd (AM hb) h2
    rw [AL (show ¬ ic l.length < 1 by simp only [ic]; omega),AE (show ic l.length > 31 by simp only [ic]; omega),DD,DC,e,vau,BV]
  ·have e:BW 1 l.length=false:=by
    cases hb:BW 1 l.length with
    | false=>rfl
    | true=>exact absurd (AM hb) h1
   rw [AE (show ic l.length < 1 by simp only [ic]; omega),DC,e,BV,BV]
 ·simp [R.get] at h
theorem Ai:DQ PR B0 95 S8:=by
 refine D1 [(96,TO)] [] S8 [[.bool]] Tryz.func95 Ru ⟨Bd,trivial⟩ ?_;intro vs r hwf h;unfold S8 at h;split at h
 ·rename_i k l d c b0 b1 b2 ts;refine ⟨0,?_⟩;rw [R.get_ok] at h;rw [← h];refine (Ya 0 k l d c b0 b1 b2 ts).trans ?_;have e:GY d c (.agg [.int k,.list l])=(!(decide (k < 0))&&(!(decide (k≥c))&&GC l d)):=rfl;rw [e];cases decide (k < 0) with
  | true=>rfl
  | false=>
   cases decide (k≥c) with
   | true=>rfl
   | false=>rfl
 ·simp [R.get] at h
abbrev zd3 (l:LI) (d c b0 b1 b2:Int) (ts:LI) (r i:Int):St:=
 ⟨[(0,(.list true [.z,(.list false [(.int .u64)])] l)),(1,(.clo 95 [(.ptr 900000 0 0)])),(4,(.int .i64 r)),(7,(.int .i64 (ic l.length))),(8,(.int .i64 i))],[(900000,(some (.box [(.int .i64 d),(.int .i64 c),(.int .i64 b0),(.int .i64 b1),(.int .i64 b2),(.list true [.z,(.list false [(.int .u64)])] ts)])))]⟩
theorem zdE (d c:Int) (t:IV):GY d c (.agg [.int (IV.toInt (IV.cell t 0)),.list (IV.toList (IV.cell t 1))])=GY d c t:=rfl
theorem uW (N:Nat) (l:LI) (hl:l.length≤strMax) (d c b0 b1 b2:Int) (ts:LI):∀ (m i n:Nat),i+m=l.length→m < n →
  DT (MX N) (DE P5 [1,0,1,0,0]) ⟨[0,1,4,7,8],[900000],[]⟩ n (zd3 l d c b0 b1 b2 ts 0 (i:Int)) (DK 0 (DM (MX N) (DE P5 [1,1]) (DP (MX N) (some [(.int .i64 d),(.int .i64 c),(.int .i64 b0),(.int .i64 b1),(.int .i64 b2),(.list true [.z,(.list false [(.int .u64)])] ts)]) [(CA 4)] [[.z]]))) =
   some (.int .i64 (T5 d c (l.drop i) (i:Int)),[[(.int .i64 d),(.int .i64 c),(.int .i64 b0),(.int .i64 b1),(.int .i64 b2),(.list true LA ts)]])
 | m,i,0,_,h=>absurd h (by omega)
 | 0,i,n+1,hd,_=>by
  have hi:i=l.length:=by omega
  subst hi;rw [D2,Cz,AL (show ¬ ((l.length:Nat):Int) < ic l.length by simp only [ic]; omega),DD,vas];exact Nv N d c b0 b1 b2 ts l 0 (ic l.length) (l.length:Int) d c b0 b1 b2 ts
 | m+1,i,n+1,hd,hn=>by
  have hil:i < l.length:=by omega
  have m':strMax=140737488355327:=rfl;have ei:AA AB ((i:Int)+1)=((i+1:Nat):Int):=by
   rw [EC (by omega) (by omega)];omega
  have hg:l.getD (AD (i:Int)) default=l[i]:=by
   rw [BD,BO,A6 hil];rfl
  rw [D2,Cz,ei,hg,zdE,AE (show (i:Int) < ic l.length by simp only [ic]; omega),DC,AE (show (0:Int)≤(i:Int) by omega),B1,DC,A9 hil,T5];cases GY d c l[i] with
  | true=>
   rw [A2,DD,DC];exact uW N l hl d c b0 b1 b2 ts m (i+1) n (by omega) (by omega)
  | false=>
   rw [BB,DC,DD];exact Nw N d c b0 b1 b2 ts l (i:Int) (ic l.length) (i:Int) d c b0 b1 b2 ts
theorem zcY:DQ PR B0 147 Y4:=by
 refine D1 [(95,S8)] [(2,⟨[0,1,4,7,8],[900000],[]⟩)] Y4 [[.z]] Tryz.func147 Sv ⟨Ai,trivial⟩ ?_;intro vs r hwf h;unfold Y4 at h;split at h
 ·rename_i l d c b0 b1 b2 ts;refine ⟨l.length+1,?_⟩;rw [R.get_ok] at h;rw [← h];refine (Zb (l.length+1) l d c b0 b1 b2 ts).trans ?_;have hl:l.length≤strMax:=by
   have hb:=hwf (by simp [KU])
   have:=hb.1
   simp only [PL,wfL] at this;exact this.1
  exact uW (l.length+1) l hl d c b0 b1 b2 ts l.length 0 (l.length+1) (by omega) (by omega)
 ·simp [R.get] at h
theorem uT (d c:Int):∀ (l:LI) (i:Nat),decide (T5 d c l (i:Int)≥0)=!(l.all (GY d c))
 | [],i=>rfl
 | t :: l,i=>by
  unfold T5;rw [vaU];cases GY d c t with
  | true=>
   rw [DC,BH];exact uT d c l (i+1)
  | false=>
   rw [DD,BV,AE (show (i:Int)≥0 by omega)];rfl
theorem zcX:DQ PR B0 94 Y3:=by
 refine D1 [(147,Y4)] [] Y3 [[.bool]] Tryz.func94 Su ⟨zcY,trivial⟩ ?_;intro vs r hwf h;unfold Y3 at h;split at h
 ·rename_i l d c b0 b1 b2 ts;refine ⟨0,?_⟩;rw [R.get_ok] at h;rw [← h];refine (Za 0 l d c b0 b1 b2 ts).trans ?_
  have:=uT d c l 0
  rw [show ((0:Nat):Int)=0 from rfl] at this;rw [this]
 ·simp [R.get] at h
abbrev W7 (d c b0 b1 b2:Int) (ts:LI) (b:Bool) (i:Int):St:=
 ⟨[(1,(.ptr 1 0 0)),(2,(.bool b)),(30,(.agg [(.int .i64 b0),(.int .i64 b1),(.int .i64 b2)])),(31,(.int .i64 i))],[(1,(some (.box [(.int .i64 d),(.int .i64 c),(.int .i64 b0),(.int .i64 b1),(.int .i64 b2),(.list true [.z,(.list false [(.int .u64)])] ts)]))),(53005,none)]⟩
theorem Jn (c j b:Int) {α:Type _} (x y:α):cond (!EU b) y (cond (decide (j≥c)) (cond (b != 0) y x) x)=cond (G5 c j b) x y:=by
 unfold G5;have e:(b != 0)=!(b==0):=rfl;rw [e];cases EU b <;> cases decide (j≥c) <;> cases (b==0) <;> rfl
theorem g8 (N:Nat) (d c b0 b1 b2:Int) (ts:LI) (j:Nat) (b:Int) (h:(j=0∧b=b0)∨(j=1∧b=b1)∨(j=2∧b=b2)) (again:St→DH) (k:Out→St→DH) :
  E4 (L9 N) (DE OU [1,1,0,1,0,0]) (W7 d c b0 b1 b2 ts false (j:Int)) (EO again ⟨[1,2,30,31],[1,53005],[]⟩ k) =
   cond (G5 c (j:Int) b) (again (W7 d c b0 b1 b2 ts false ((j+1:Nat):Int))) (k .ret (W7 d c b0 b1 b2 ts false (j:Int))):=by
 rw [Cs];have ej:AA AB ((j:Int)+1)=((j+1:Nat):Int):=by
  rw [EC (by omega) (by omega)];omega
 rw [ej,← Jn,AE (show (j:Int) < 3 by omega),DC];rcases h with ⟨rfl,rfl⟩ | ⟨rfl,rfl⟩ | ⟨rfl,rfl⟩ <;> rfl
theorem WV:DQ PR B0 53 K3:=by
 refine D1 [(93,PT),(95,S8),(94,Y3)] [(4,⟨[1,2,30,31],[1,53005],[]⟩)] K3 [[.bool]] Tryz.func53 Rt ⟨m5,Ai,zcX,trivial⟩ ?_;intro vs r hwf h;unfold K3 at h;split at h
 ·rename_i d c b0 b1 b2 ts;refine ⟨6,?_⟩;rw [R.get_ok] at h;rw [← h];refine (Xz 6 d c b0 b1 b2 ts).trans ?_;have run:DT (L9 6) (DE OU [1,1,0,1,0,0]) ⟨[1,2,30,31],[1,53005],[]⟩ 6 (W7 d c b0 b1 b2 ts false 0) (DK 0 (DM (L9 6) (DE OU [1,1,1]) (DP (L9 6) none [(CA 2)] [[.bool]]))) =
    some (.bool ((G5 c 0 b0&&(G5 c 1 b1&&G5 c 2 b2))&&ts.all (GY d c)),[]):=by
   have e0:W7 d c b0 b1 b2 ts false 0=W7 d c b0 b1 b2 ts false ((0:Nat):Int):=rfl;have R2:=fun j=>Nk 6 false b0 b1 b2 j d c b0 b1 b2 ts
   have R1:=fun j=>Nj 6 false b0 b1 b2 j d c b0 b1 b2 ts
   rw [e0,D2,g8 6 d c b0 b1 b2 ts 0 b0 (by simp),R2];cases h0:G5 c ((0:Nat):Int) b0 with
   | false=>rfl
   | true=>
    rw [DC,D2,g8 6 d c b0 b1 b2 ts 1 b1 (by simp),R2];cases h1:G5 c ((1:Nat):Int) b1 with
    | false=>rfl
    | true=>
     rw [DC,D2,g8 6 d c b0 b1 b2 ts 2 b2 (by simp),R2];cases h2:G5 c ((2:Nat):Int) b2 with
     | false=>rfl
     | true=>
      rw [DC,D2,Cs,AL (show ¬ ((2+1:Nat):Int) < 3 by omega),DD,R1,Bool.not_not];rfl
  unfold EQ;cases decide (d < 1) with
  | true=>rfl
  | false=>
  cases decide (d > 4) with
  | true=>rfl
  | false=>
  cases decide (c < 1) with
  | true=>rfl
  | false=>
  cases decide (c > 3) with
  | true=>rfl
  | false=>
   simp only [DD,BB,BH];by_cases h8:ts.length≤8
   ·rw [AL (show ¬ ic ts.length > 8 by simp only [ic]; omega),DD,C2 h8,BH];exact run
   ·have e:BW ts.length 8=false:=by
     cases hb:BW ts.length 8 with
     | false=>rfl
     | true=>exact absurd (AM hb) h8
    rw [AE (show ic ts.length > 8 by simp only [ic]; omega),DC,e,BV]
 ·simp [R.get] at h
open Go Go.Proofs
def Gs (N:Nat):Env:=DZ [(44,PX),(144,YD),(84,S5),(104,VH),(57,cF),(86,VJ)] [] 76 N
theorem Xk (N:Nat) (s:BA):DS (Gs N) qY [.tmp 2,.tmp 3] [[.z],[.bool]] [.str s] =
 (cond (decide (AF (GJ s { data:=#[45] }) < 4294967281))
 (cond (decide (ic (AF (GQ (GJ s { data:=#[45] }) { data:=#[46] })) > 8))
 (some ((.tup [.i 0,.bool false]),[]))
 (cond (decide (0≤AA AB (8 - ic (AF (GQ (GJ s { data:=#[45] }) { data:=#[46] }))))&&decide (AF { data:=#[48] }*AD (AA AB (8 - ic (AF (GQ (GJ s { data:=#[45] }) { data:=#[46] }))))≤strMax))
 (cond (decide (AF (GQ (GJ s { data:=#[45] }) { data:=#[46] })+AF (HA { data:=#[48] } (AD (AA AB (8 - ic (AF (GQ (GJ s { data:=#[45] }) { data:=#[46] }))))))≤strMax))
 (cond (!IF (cutL (GJ s { data:=#[45] }) { data:=#[46] }))
 (some ((.tup [.i 0,.bool false]),[]))
 (cond (!IF (GQ (GJ s { data:=#[45] }) { data:=#[46] }++HA { data:=#[48] } (AD (AA AB (8 - ic (AF (GQ (GJ s { data:=#[45] }) { data:=#[46] })))))))
 (some ((.tup [.i 0,.bool false]),[]))
 (cond (decide (F5 (cutL (GJ s { data:=#[45] }) { data:=#[46] }) > 36028797018963968))
 (some ((.tup [.i 0,.bool false]),[]))
 (cond (Int.tmod (F5 (GQ (GJ s { data:=#[45] }) { data:=#[46] }++HA { data:=#[48] } (AD (AA AB (8 - ic (AF (GQ (GJ s { data:=#[45] }) { data:=#[46] }))))))) 390625 != 0)
 (some ((.tup [.i 0,.bool false]),[]))
 (cond (RO s { data:=#[45] })
 (cond (A3 (DN (AA AB (AA AJ (0 - AA AJ (AA AJ (F5 (cutL (GJ s { data:=#[45] }) { data:=#[46] })*2 ^ min (AD 8) (AO AJ))+AA AJ (Int.tdiv (F5 (GQ (GJ s { data:=#[45] }) { data:=#[46] }++HA { data:=#[48] } (AD (AA AB (8 - ic (AF (GQ (GJ s { data:=#[45] }) { data:=#[46] }))))))) 390625))))))==A3 s)
 (some ((.tup [(.i (AA AB (AA AJ (0 - AA AJ (AA AJ (F5 (cutL (GJ s { data:=#[45] }) { data:=#[46] })*2 ^ min (AD 8) (AO AJ))+AA AJ (Int.tdiv (F5 (GQ (GJ s { data:=#[45] }) { data:=#[46] }++HA { data:=#[48] } (AD (AA AB (8 - ic (AF (GQ (GJ s { data:=#[45] }) { data:=#[46] }))))))) 390625)))))),.bool true]),[]))
 (some ((.tup [.i 0,.bool false]),[])))
 (cond (A3 (DN (AA AB (AA AJ (AA AJ (F5 (cutL (GJ s { data:=#[45] }) { data:=#[46] })*2 ^ min (AD 8) (AO AJ))+AA AJ (Int.tdiv (F5 (GQ (GJ s { data:=#[45] }) { data:=#[46] }++HA { data:=#[48] } (AD (AA AB (8 - ic (AF (GQ (GJ s { data:=#[45] }) { data:=#[46] }))))))) 390625)))))==A3 s)
 (some ((.tup [(.i (AA AB (AA AJ (AA AJ (F5 (cutL (GJ s { data:=#[45] }) { data:=#[46] })*2 ^ min (AD 8) (AO AJ))+AA AJ (Int.tdiv (F5 (GQ (GJ s { data:=#[45] }) { data:=#[46] }++HA { data:=#[48] } (AD (AA AB (8 - ic (AF (GQ (GJ s { data:=#[45] }) { data:=#[46] }))))))) 390625))))),.bool true]),[]))
 (some ((.tup [.i 0,.bool false]),[]))))))))
 none)
 none))
 none):=by kernel_rfl
open Go Go.Proofs
theorem Ac:DQ PR B0 84 S5:=by
 refine D1 [] [(3,⟨[0,1,2],[],[]⟩)] S5 [[.int .u64]] Tryz.func84 Re trivial ?_;intro vs r hwf h;unfold S5 at h;split at h
 ·refine ⟨9,?_⟩;rw [← h];show DS (Gu 9) q9 [.tmp 0] [[.int .u64]] []=_
  kernel_rfl
 ·simp [R.get] at h
theorem za9 {s:BA} (h:IF s=true):0 < s.size:=by
 unfold IF at h;split at h
 ·rename_i v hv
  have:s.data.toList≠[]:=fun e=>by rw [e] at hv; cases hv
  rw [QN];exact List.length_pos_iff.2 this
 ·cases h
theorem za8 {s:BA} (h:IF s=true):(AI s.data.toList 0 0).toNat≠43:=by
 unfold IF at h;split at h
 ·rename_i v hv;revert hv;cases s.data.toList with
  | nil=>intro _; decide
  | cons c r=>
   intro hv he;have he:c.toNat=43:=he;unfold Lib.parseMag at hv;rw [A4 (by simp),vbz,A4 (by omega)] at hv;cases hv
 ·cases h
theorem zcs:DQ PR B0 144 YD:=by
 refine D1 [(189,cE)] [] YD [[.int .u64],[.bool]] Tryz.func144 Rd ⟨zc3,trivial⟩ ?_;intro vs r hwf h;unfold YD at h;split at h
 ·rename_i s;refine ⟨0,?_⟩;rw [← h];refine (Xl 0 s).trans ?_;simp only [R.get_ok];cases hp:IF s with
  | false=>simp only [DD]
  | true=>
   have h1:(decide (0≤0)&&decide (0 < ic (AF s)))=true:=by
    have:=za9 hp
    simp [ic]; omega
   have h2:(ic (UInt8.toNat (AI (Array.toList (ByteArray.data s)) (AD 0) 0)) != 43)=true:=by
    have:=za8 hp
    rw [pP];simp only [ic,Int.toNat_zero];simp only [BY,BQ];omega
   rw [h1,h2];simp only [DC]
 ·simp [R.get] at h
theorem oP {n:Int} (h0:0≤n) (h1:n < 18446744073709551616):AA .u64 n=n:=by rw [va9]; omega
theorem zd0 {n:Int} (h0:n < 0) (h1 : -9223372036854775808≤n):AA .u64 (0 - AA .u64 n)=(n.natAbs:Int):=by rw [va9,va9]; omega
theorem zd1 {n:Int} (h0:¬ n < 0) (h1:n≤9223372036854775807):AA .u64 n=(n.natAbs:Int):=by rw [va9]; omega
theorem o0 (u:Nat) (h:u < 18446744073709551616):AA .u64 (ic (CF (A0 (AO AJ) (u:Int) &&& A0 (AO AJ) 255)))=((u % 256:Nat):Int):=by
 have e:CF (A0 (AO AJ) (u:Int) &&& A0 (AO AJ) 255)=u % 256:=by
  have h1:(A0 (AO AJ) (u:Int)).toNat=u:=by
   show (A0 64 (u:Int)).toNat=u;rw [BitVec.toNat_ofInt];omega
  have h2:(A0 (AO AJ) 255).toNat=2 ^ 8 - 1:=by rfl
  rw [BitVec.toNat_and,h1,h2,Nat.and_two_pow_sub_one_eq_mod]
 rw [e];exact oP (by simp [ic]; omega) (by simp [ic]; omega)
theorem zV (u:Nat):vaR (u:Int) (2 ^ min (AD 8) (AO AJ))=((u / 256:Nat):Int):=by
 have e:(2:Int) ^ min (AD 8) (AO AJ)=((256:Nat):Int):=rfl;rw [e,Int.fdiv_eq_ediv_of_nonneg _ (by omega)];rfl
theorem wG {r:Nat} (h:r < 256):AA .u64 ((r:Int)*390625)=((r*390625:Nat):Int):=by
 rw [oP (by omega) (by omega)];omega
theorem lC (u:Nat):ET (u:Int)=⟨(CD u).toArray⟩:=rfl
theorem Lo:(vav 256).all (fun r=>BW (CD (r*390625)).length 8)=true:=by kernel_rfl
theorem Ln {r:Nat} (h:r < 256):(CD (r*390625)).length≤8:=by
 have:=CP.1 Lo r (vaH.2 h)
 exact AM this
theorem tD (l:List UInt8):(⟨l.toArray⟩:BA).data.toList=l:=rfl
theorem ZO (s t:BA):(s++t).data.toList=s.data.toList++t.data.toList:=by simp
theorem zbS (l:List UInt8):(⟨l.toArray⟩:BA).size=l.length:=by rw [QN]
theorem yF {u:Nat} (hu:u < 18446744073709551616) (sg:BA) (hsg:sg.size≤1) (K:BA) (hK:K=sg++⟨(H7 u).toArray⟩) :
  (cond (decide (AF sg+AF (ET ((u / 256:Nat):Int))≤strMax))
   (cond (((u % 256:Nat):Int)==0)
    (some ((.str (sg++ET ((u / 256:Nat):Int))),[]))
    (cond (decide (AF (sg++ET ((u / 256:Nat):Int))+AF { data:=#[46] }≤strMax))
     (cond (decide (0≤AA AB (8 - ic (AF (ET ((u % 256*390625:Nat):Int)))))&&decide (AF { data:=#[48] }*AD (AA AB (8 - ic (AF (ET ((u % 256*390625:Nat):Int)))))≤strMax))
      (cond (decide (AF (HA { data:=#[48] } (AD (AA AB (8 - ic (AF (ET ((u % 256*390625:Nat):Int)))))))+AF (ET ((u % 256*390625:Nat):Int))≤strMax))
       (cond (decide (AF (sg++ET ((u / 256:Nat):Int)++{ data:=#[46] })+AF (NG (HA { data:=#[48] } (AD (AA AB (8 - ic (AF (ET ((u % 256*390625:Nat):Int))))))++ET ((u % 256*390625:Nat):Int)) { data:=#[48] })≤strMax))
        (some ((.str (sg++ET ((u / 256:Nat):Int)++{ data:=#[46] }++NG (HA { data:=#[48] } (AD (AA AB (8 - ic (AF (ET ((u % 256*390625:Nat):Int))))))++ET ((u % 256*390625:Nat):Int)) { data:=#[48] })),[]))
        none)
       none)
      none)
     none))
   none)=(some (V.str K,[]):DH):=by
 have hr:u % 256 < 256:=by omega
 have l1:(ET ((u / 256:Nat):Int)).size≤20:=lD (by omega) (by omega);have l2:(ET ((u % 256*390625:Nat):Int)).size=(CD (u % 256*390625)).length:=by rw [lC,zbS]
 have l3:=Ln hr;generalize hD:CD (u % 256*390625)=D at l2 l3;have e8:AA AB (8 - ic (AF (ET ((u % 256*390625:Nat):Int))))=((8 - D.length:Nat):Int):=by
  rw [l2,EC (by simp [ic]; omega) (by simp [ic]; omega)];simp only [ic];omega
 rw [e8];simp only [BD];have s46:AF { data:=#[46] }=1:=rfl;have s48:AF { data:=#[48] }=1:=rfl;have l4:(HA { data:=#[48] } (8 - D.length)).size=8 - D.length:=by rw [mI,s48]; omega
 have l5:=Ei (HA { data:=#[48] } (8 - D.length)++ET ((u % 256*390625:Nat):Int)) { data:=#[48] };rw [AP,l4,l2] at l5;rw [AE (show AF sg+AF (ET ((u / 256:Nat):Int))≤strMax by unfold strMax; omega),
  AE (show AF (sg++ET ((u / 256:Nat):Int))+AF { data:=#[46] }≤strMax by rw [AP,s46]; unfold strMax; omega),
  AE (show (0:Int)≤((8 - D.length:Nat):Int) by omega),
  AE (show AF { data:=#[48] }*(8 - D.length)≤strMax by rw [s48]; unfold strMax; omega),
  AE (show AF (HA { data:=#[48] } (8 - D.length))+AF (ET ((u % 256*390625:Nat):Int))≤strMax by rw [l4,l2]; unfold strMax; omega),
  AE (show AF (sg++ET ((u / 256:Nat):Int)++{ data:=#[46] })+AF (NG (HA { data:=#[48] } (8 - D.length)++ET ((u % 256*390625:Nat):Int)) { data:=#[48] })≤strMax by rw [AP,AP,s46]; unfold strMax; omega)]
 simp only [DC,CE];subst hK;by_cases h0:u % 256=0
 ·have e0:(((u % 256:Nat):Int)==0)=true:=by rw [Q9]; exact AE (by omega)
  rw [e0,DC]
  have:sg++ET ((u / 256:Nat):Int)=sg++⟨(H7 u).toArray⟩:=by
   apply RA;rw [ZO,ZO,lC,tD,tD,H7,BL h0,vak]
  rw [this]
 ·have e0:(((u % 256:Nat):Int)==0)=false:=by rw [Q9]; exact AL (by omega)
  rw [e0,DD]
  have:sg++ET ((u / 256:Nat):Int)++{ data:=#[46] }++NG (HA { data:=#[48] } (8 - D.length)++ET ((u % 256*390625:Nat):Int)) { data:=#[48] }=sg++⟨(H7 u).toArray⟩:=by
   apply RA;simp only [ZO,lC,H7,A4 h0,NG,HA,J2,hD,vbj];rfl
  rw [this]
theorem nA:DQ PR B0 44 PX:=by
 refine D1 [(84,S5),(83,cD),(86,VJ),(85,cG)] [] PX [[.str]] Tryz.func44 Rb ⟨Ac,zc2,Aw,zc5,trivial⟩ ?_;intro vs r hwf h;unfold PX at h;split at h
 ·rename_i n;refine ⟨0,?_⟩;rw [← h];refine (Xj 0 n).trans ?_;simp only [R.get_ok];have hb:=(hwf (by simp [KU])).1;simp only [PL,wfL] at hb;obtain ⟨h0,h1⟩:=hb;have e0:AB.min = -9223372036854775808:=rfl;have e1:AB.max=9223372036854775807:=rfl;rw [e0] at h0;rw [e1] at h1;have hu:n.natAbs < 18446744073709551616:=by omega
  by_cases hn:n < 0
  ·rw [AE hn,DC,zd0 hn h0,zV,o0 _ hu,wG (by omega)];exact yF hu ⟨#[45]⟩ (by decide) _ (by apply RA; rw [ZO]; unfold DN PD; rw [BL hn]; rfl)
  ·rw [AL hn,DD,zd1 hn h1,zV,o0 _ hu,wG (by omega)];exact yF hu ⟨#[]⟩ (by decide) _ (by apply RA; rw [ZO]; unfold DN PD; rw [A4 hn]; rfl)
 ·simp [R.get] at h
open Go Go.Proofs
theorem Ab:DQ PR B0 91 S4:=by
 refine D1 [(44,PX),(144,YD),(84,S5),(104,VH),(57,cF),(86,VJ)] [] S4 [[.z],[.bool]] Tryz.func91 Rc
  ⟨nA,zcs,Ac,Au,zc4,Aw,trivial⟩ ?_
 intro vs r hwf h;unfold S4 at h;split at h
 ·rename_i s;refine ⟨0,?_⟩;cases hs:decide (s.size < 4294967281) with
  | false=>rw [hs] at h; simp [R.get] at h
  | true=>
   rw [hs,R.get_br,DC,R.get_ok] at h;have hs:=A1 hs;rw [← h];refine (Xk 0 s).trans ?_;have hz:=Eh s { data:=#[45] };rw [AE (show AF (GJ s { data:=#[45] }) < 4294967281 by omega),DC];have eW:cutL (GJ s { data:=#[45] }) { data:=#[46] }=NS s:=rfl;have eP:GQ (GJ s { data:=#[45] }) { data:=#[46] }=IK s:=rfl;have eM:RO s { data:=#[45] }=RO s U3:=rfl;rw [eW,eP,eM];unfold FR;by_cases h8:(IK s).size≤8
   ·have c1:decide (ic (AF (IK s)) > 8)=false:=AL (by simp only [ic]; omega);have e8:AA AB (8 - ic (AF (IK s)))=((8 - (IK s).size:Nat):Int):=by
     rw [EC (by simp only [ic]; omega) (by simp only [ic]; omega)];simp only [ic];omega
    rw [c1,DD,e8];simp only [BD];have s48:AF { data:=#[48] }=1:=rfl;have eF:IK s++HA { data:=#[48] } (8 - (IK s).size)=LU s:=rfl;have l4:(HA { data:=#[48] } (8 - (IK s).size)).size=8 - (IK s).size:=by rw [mI,s48]; omega
    rw [AE (show (0:Int)≤((8 - (IK s).size:Nat):Int) by omega),AE (show AF { data:=#[48] }*(8 - (IK s).size)≤strMax by rw [s48]; unfold strMax; omega),CE,DC,
     AE (show AF (IK s)+AF (HA { data:=#[48] } (8 - (IK s).size))≤strMax by rw [l4]; unfold strMax; omega),DC,eF]
    have hw:=mD (NS s);have hf:=mD (LU s);have b0:AJ.min=0:=rfl;have b1:AJ.max=18446744073709551615:=rfl;rw [b0,b1] at hw hf;have em:Int.tmod (F5 (LU s)) 390625=F5 (LU s) % 390625:=Int.tmod_eq_emod_of_nonneg hf.1;have ed:AA AJ (Int.tdiv (F5 (LU s)) 390625)=F5 (LU s) / 390625:=by
     rw [Int.tdiv_eq_ediv_of_nonneg hf.1,oP (by omega) (by omega)]
    have e2:(2:Int) ^ min (AD 8) (AO AJ)=256:=rfl;rw [em,ed,e2];have eS:AA AJ (AA AJ (F5 (NS s)*256)+F5 (LU s) / 390625)=NR s:=rfl;rw [eS];unfold TZ;rw [AE h8,iY,i6,pP];cases hp1:IF (NS s) with
    | false=>simp only [BB,DC,DD,BV,vau]
    | true=>
     cases hp2:IF (LU s) with
     | false=>simp only [BB,A2,DC,DD,BV,vau]
     | true=>
      simp only [A2,DD,BH];cases hc:decide (36028797018963968 < F5 (NS s)) with
      | true=>simp only [A2,DC,DD,BV]
      | false=>
       cases hd:decide (F5 (LU s) % 390625=0) with
       | false=>simp only [BB,DC,DD,BV,BH]
       | true=>
        simp only [BB,A2,DD,BH];unfold ZP;cases hm:RO s U3 with
        | false=>
         simp only [DD];rw [show AA AB (NR s)=E7 (NR s) from rfl,cU];cases decide (DN (E7 (NR s))=s) <;> simp only [DC,DD]
        | true=>
         simp only [DC];rw [show AA AB (AA AJ (0 - NR s))=E7 (IP (0 - NR s)) from rfl,cU];cases decide (DN (E7 (IP (0 - NR s)))=s) <;> simp only [DC,DD]
   ·have c1:decide (ic (AF (IK s)) > 8)=true:=AE (by simp only [ic]; omega);rw [c1,DC];unfold TZ;rw [AL h8,BV,DD]
 ·simp [R.get] at h
open Go Go.Proofs
def HU (N:Nat):Env:=DZ [(44,PX),(53,K3),(55,K4),(43,OR),(56,Q5),(54,Y7)] [(7,⟨[1,2,3,4,28,29,30],[1,3,500],[⟨.tmp 4,500,9,false,[.str]⟩]⟩),(13,⟨[2,3,43,44,45],[3],[]⟩),(17,⟨[2,3,43,44,45,59,60,61],[3],[]⟩)] 94 N
abbrev SW (s2:BA) (n4 n28:Nat) (x29 x30 u02 u03 u04 u05 u06:Int) (u00:LI) (so3:BA) (u01:LI):St:=⟨[(1,(.ptr 1 0 0)),(2,(.str s2)),(3,(.ptr 3 0 0)),(4,(.row 500 0 n4)),(28,(.bview 1 2 3 1 n28)),(29,(.i x29)),(30,(.i x30))],[(1,(some (.box [.i u02,.i u03,.i u04,.i u05,.i u06,.list true [.z,.list false [.int .u64]] u00]))),(3,(some (.bld so3))),(500,(some (.row true 9 false [.str] u01)))]⟩
abbrev XF (s2:BA) (l43:LI) (x44 x45:Int) (so3:BA):St:=⟨[(2,(.str s2)),(3,(.ptr 3 0 0)),(43,(.list true [.z,.list false [.int .u64]] l43)),(44,(.i x44)),(45,(.i x45))],[(3,(some (.bld so3)))]⟩
abbrev VB (s2:BA) (l43:LI) (x44 x45:Int) (l59:LI) (x60 x61:Int) (so3:BA):St:=⟨[(2,(.str s2)),(3,(.ptr 3 0 0)),(43,(.list true [.z,.list false [.int .u64]] l43)),(44,(.i x44)),(45,(.i x45)),(59,(.list false [.int .u64] l59)),(60,(.i x60)),(61,(.i x61))],[(3,(some (.bld so3)))]⟩
theorem Zk (N:Nat) (u04 u03 u00 u01 u02:Int) (u05:LI):DS (HU N) JO [.tmp 2] [[.str]] [.agg [.i u04,.i u03,.i u00,.i u01,.i u02,.list true [.z,.list false [.int .u64]] u05]]=(cond (!EQ {d:=u04,c:=u03,b0:=u00,b1:=u01,b2:=u02,ts:=u05}) (some ((.str ({data:=#[]})),[])) (cond (BW (AG (AR 0 (AK 3 [IV.str {data:=#[102,111,114,101,115,116]},IV.str (DJ u04),IV.str (DJ u03)]))) 1000&&decide (AF CH+AF (E8 (A5 IV.toStr (AR 0 (AK 3 [IV.str {data:=#[102,111,114,101,115,116]},IV.str (DJ u04),IV.str (DJ u03)]))))≤1000000000)) (cond (decide (0≤u03)&&decide (u03≤ic 3)) (DT (HU N) (DE JO [1,1,1,1,1,0,1,0,0]) ⟨[1,2,3,4,28,29,30],[1,3,500],[⟨(.tmp 4),500,9,false,[.str]⟩]⟩ N (SW ({data:=#[]}) 1 (AD u03) (ic (AD u03)) 0 u04 u03 u00 u01 u02 u05 (CH++E8 (A5 IV.toStr (AR 0 (AK 3 [IV.str {data:=#[102,111,114,101,115,116]},IV.str (DJ u04),IV.str (DJ u03)])))) [(IV.str {data:=#[98,105,97,115]})]) (DK 0 (DM (HU N) (DE JO [1,1,1,1,1,1]) (DP (HU N) none [.tmp 2] [[.str]])))) none) none)):=by kernel_rfl
theorem fV (N:Nat) (s2:BA) (n4 n28:Nat) (x29 x30 u02 u03 u04 u05 u06:Int) (u00:LI) (so3:BA) (u01:LI) (again:St→DH) (k:Out→St→DH):E4 (HU N) (DE JO [1,1,1,1,1,0,1,0,0]) (SW s2 n4 n28 x29 x30 u02 u03 u04 u05 u06 u00 so3 u01) (EO again ⟨[1,2,3,4,28,29,30],[1,3,500],[⟨(.tmp 4),500,9,false,[.str]⟩]⟩ k)=(cond (decide (x30 < x29)) (cond (decide (x30 < ic n28)) (cond (decide (x30=ic 0)) (cond (decide ((n4+AG (AR 0 (AK 1 [IV.str (DN u04)])))*TI.bytes (Env.tyd (HU N) 9)≤D6)) (again (SW s2 (n4+AG (AR 0 (AK 1 [IV.str (DN u04)]))) n28 x29 (AA AB (x30+1)) u02 u03 u04 u05 u06 u00 so3 (AK n4 u01++AR 0 (AK 1 [IV.str (DN u04)])))) none) (cond (decide (x30=ic 1)) (cond (decide ((n4+AG (AR 0 (AK 1 [IV.str (DN u05)])))*TI.bytes (Env.tyd (HU N) 9)≤D6)) (again (SW s2 (n4+AG (AR 0 (AK 1 [IV.str (DN u05)]))) n28 x29 (AA AB (x30+1)) u02 u03 u04 u05 u06 u00 so3 (AK n4 u01++AR 0 (AK 1 [IV.str (DN u05)])))) none) (cond (decide (x30=ic 2)) (cond (decide ((n4+AG (AR 0 (AK 1 [IV.str (DN u06)])))*TI.bytes (Env.tyd (HU N) 9)≤D6)) (again (SW s2 (n4+AG (AR 0 (AK 1 [IV.str (DN u06)]))) n28 x29 (AA AB (x30+1)) u02 u03 u04 u05 u06 u00 so3 (AK n4 u01++AR 0 (AK 1 [IV.str (DN u06)])))) none) none))) none) (k (.exit 0) (SW s2 n4 n28 x29 x30 u02 u03 u04 u05 u06 u00 so3 u01))):=by kernel_rfl
theorem Od (N:Nat) (s2:BA) (n4 n28:Nat) (x29 x30 u02 u03 u04 u05 u06:Int) (u00:LI) (so3:BA) (u01:LI):(DK 0 (DM (HU N) (DE JO [1,1,1,1,1,1]) (DP (HU N) none [.tmp 2] [[.str]]))) (.exit 0) (SW s2 n4 n28 x29 x30 u02 u03 u04 u05 u06 u00 so3 u01)=(cond (BW (AG (AR 0 (AK n4 u01))) 1000&&decide (AF so3+AF (E8 (A5 IV.toStr (AR 0 (AK n4 u01))))≤1000000000)) (DT (HU N) (DE JO [1,1,1,1,1,1,1,0,1,0,0]) ⟨[2,3,43,44,45],[3],[]⟩ N (XF s2 u00 (ic (AG u00)) 0 (so3++E8 (A5 IV.toStr (AR 0 (AK n4 u01))))) (DK 2 (DM (HU N) (DE JO [1,1,1,1,1,1,1,1]) (DP (HU N) none [.tmp 2] [[.str]])))) none):=by kernel_rfl
theorem Dc (N:Nat) (s2:BA) (l43:LI) (x44 x45:Int) (so3:BA) (again:St→DH) (k:Out→St→DH):E4 (HU N) (DE JO [1,1,1,1,1,1,1,0,1,0,0]) (XF s2 l43 x44 x45 so3) (EO again ⟨[2,3,43,44,45],[3],[]⟩ k)=(cond (decide (x45 < x44)) (cond (decide (0≤x45)&&decide (x45 < ic (AG l43))) (cond (BW (AG (AR 0 (AK 3 [IV.str {data:=#[116,114,101,101]},IV.str (DJ (IV.toInt (IV.cell (AI l43 (AD x45) default) 0))),IV.str (DJ (ic (AG (IV.toList (IV.cell (AI l43 (AD x45) default) 1)))))]))) 1000&&decide (AF so3+AF (E8 (A5 IV.toStr (AR 0 (AK 3 [IV.str {data:=#[116,114,101,101]},IV.str (DJ (IV.toInt (IV.cell (AI l43 (AD x45) default) 0))),IV.str (DJ (ic (AG (IV.toList (IV.cell (AI l43 (AD x45) default) 1)))))]))))≤1000000000)) (DT (HU N) (DE JO [1,1,1,1,1,1,1,0,1,0,0,1,1,0,0,1,1,1,0,0]) ⟨[2,3,43,44,45,59,60,61],[3],[]⟩ N (VB s2 l43 x44 x45 (IV.toList (IV.cell (AI l43 (AD x45) default) 1)) (ic (AG (IV.toList (IV.cell (AI l43 (AD x45) default) 1)))) 0 (so3++E8 (A5 IV.toStr (AR 0 (AK 3 [IV.str {data:=#[116,114,101,101]},IV.str (DJ (IV.toInt (IV.cell (AI l43 (AD x45) default) 0))),IV.str (DJ (ic (AG (IV.toList (IV.cell (AI l43 (AD x45) default) 1)))))]))))) (DK 4 (DK 3 (DM (HU N) (DE JO [1,1,1,1,1,1,1,0,1,0,0,1,1,1]) (EO again ⟨[2,3,43,44,45],[3],[]⟩ k))))) none) none) (k (.exit 2) (XF s2 l43 x44 x45 so3))):=by kernel_rfl
theorem Dd (N:Nat) (s2:BA) (l43:LI) (x44 x45:Int) (l59:LI) (x60 x61:Int) (so3:BA) (again:St→DH) (k:Out→St→DH):E4 (HU N) (DE JO [1,1,1,1,1,1,1,0,1,0,0,1,1,0,0,1,1,1,0,0]) (VB s2 l43 x44 x45 l59 x60 x61 so3) (EO again ⟨[2,3,43,44,45,59,60,61],[3],[]⟩ k)=(cond (decide (x61 < x60)) (cond (decide (0≤x61)&&decide (x61 < ic (AG l59))) (cond (Nd.lf (DF (IV.toInt (AI l59 (AD x61) default)))) (cond (BW (AG (AR 0 (AK 2 [IV.str {data:=#[108,101,97,102]},IV.str (DN (Nd.v (DF (IV.toInt (AI l59 (AD x61) default)))))]))) 1000&&decide (AF so3+AF (E8 (A5 IV.toStr (AR 0 (AK 2 [IV.str {data:=#[108,101,97,102]},IV.str (DN (Nd.v (DF (IV.toInt (AI l59 (AD x61) default)))))]))))≤1000000000)) (again (VB s2 l43 x44 x45 l59 x60 (AA AB (x61+1)) (so3++E8 (A5 IV.toStr (AR 0 (AK 2 [IV.str {data:=#[108,101,97,102]},IV.str (DN (Nd.v (DF (IV.toInt (AI l59 (AD x61) default)))))])))))) none) (cond (BW (AG (AR 0 (AK 8 [IV.str {data:=#[105,102]},IV.str (DJ (Nd.f (DF (IV.toInt (AI l59 (AD x61) default))))),IV.str {data:=#[60,61]},IV.str (DN (Nd.a (DF (IV.toInt (AI l59 (AD x61) default))))),IV.str {data:=#[116,104,101,110]},IV.str (DJ (Nd.l (DF (IV.toInt (AI l59 (AD x61) default))))),IV.str {data:=#[101,108,115,101]},IV.str (DJ (Nd.r (DF (IV.toInt (AI l59 (AD x61) default)))))]))) 1000&&decide (AF so3+AF (E8 (A5 IV.toStr (AR 0 (AK 8 [IV.str {data:=#[105,102]},IV.str (DJ (Nd.f (DF (IV.toInt (AI l59 (AD x61) default))))),IV.str {data:=#[60,61]},IV.str (DN (Nd.a (DF (IV.toInt (AI l59 (AD x61) default))))),IV.str {data:=#[116,104,101,110]},IV.str (DJ (Nd.l (DF (IV.toInt (AI l59 (AD x61) default))))),IV.str {data:=#[101,108,115,101]},IV.str (DJ (Nd.r (DF (IV.toInt (AI l59 (AD x61) default)))))]))))≤1000000000)) (again (VB s2 l43 x44 x45 l59 x60 (AA AB (x61+1)) (so3++E8 (A5 IV.toStr (AR 0 (AK 8 [IV.str {data:=#[105,102]},IV.str (DJ (Nd.f (DF (IV.toInt (AI l59 (AD x61) default))))),IV.str {data:=#[60,61]},IV.str (DN (Nd.a (DF (IV.toInt (AI l59 (AD x61) default))))),IV.str {data:=#[116,104,101,110]},IV.str (DJ (Nd.l (DF (IV.toInt (AI l59 (AD x61) default))))),IV.str {data:=#[101,108,115,101]},IV.str (DJ (Nd.r (DF (IV.toInt (AI l59 (AD x61) default)))))])))))) none)) none) (k (.exit 4) (VB s2 l43 x44 x45 l59 x60 x61 so3))):=by kernel_rfl
theorem Oe (N:Nat) (s2:BA) (l43:LI) (x44 x45:Int) (so3:BA):(DK 2 (DM (HU N) (DE JO [1,1,1,1,1,1,1,1]) (DP (HU N) none [.tmp 2] [[.str]]))) (.exit 2) (XF s2 l43 x44 x45 so3)=(some ((.str so3),[])):=by kernel_rfl
theorem Og (N:Nat) (again:St→DH) (k:Out→St→DH) (s2:BA) (l43:LI) (x44 x45:Int) (l59:LI) (x60 x61:Int) (so3:BA):(DK 4 (DK 3 (DM (HU N) (DE JO [1,1,1,1,1,1,1,0,1,0,0,1,1,1]) (EO again ⟨[2,3,43,44,45],[3],[]⟩ k)))) (.exit 4) (VB s2 l43 x44 x45 l59 x60 x61 so3)=(again (XF s2 l43 x44 (AA AB (x45+1)) so3)):=by kernel_rfl
def Ia (N:Nat):Env:=DZ [(97,VG),(60,Q6),(45,VI)] [] 10 N
theorem Zm (N:Nat) (b:BA) (u00:LI):DS (Ia N) sC [] [] [.bor [.bld b],.list false [.str] u00]=(cond (decide (AG u00≤strMax)&&decide (AF (GB (A5 IV.toStr u00) {data:=#[32]})≤strMax)) (cond (decide (AF b+AF (GB (A5 IV.toStr u00) {data:=#[32]})≤strMax)) (cond (decide (AF (b++GB (A5 IV.toStr u00) {data:=#[32]})+1≤strMax)) (some ((.tup []),[[(.bld (ByteArray.push (b++GB (A5 IV.toStr u00) {data:=#[32]}) (LP 10)))]])) none) none) none):=by kernel_rfl
def Ib (N:Nat):Env:=DZ [(46,OS)] [] 26 N
theorem Zn (N:Nat) (u00:LI):DS (Ib N) sD [.tmp 2] [[.list false [.str]]] [.bor [.list false [.str] u00]]=(cond (ic (AG u00)==0) (some ((.list false [.str] []),[[.list false [.str] u00]])) (cond (decide (0≤0)&&decide (0 < ic (AG u00))) (cond (decide (0≤1)&&decide (1≤ic (AG u00))) (cond (decide (AF (IV.toStr (AI u00 (AD 0) default)) < 4294967281)&&decide (1≤AF {data:=#[32]})) (some ((.list false [.str] (A5 IV.str (D5 (IV.toStr (AI u00 (AD 0) default)) {data:=#[32]}))),[[.list false [.str] (AR (AD 1) (AK (AG u00) u00))]])) none) none) none)):=by kernel_rfl
def Ie (N:Nat):Env:=DZ [] [] 13 N
theorem Zq (N:Nat) (l:LI) (i:Int):DS (Ie N) sG [.tmp 4] [[.str]] [.list false [.str] l,.i i]=(cond (decide (i≥ic (AG l))) (some ((.str ({data:=#[]})),[])) (cond (decide (0≤i)&&decide (i < ic (AG l))) (some ((.str (IV.toStr (AI l (AD i) default))),[])) none)):=by kernel_rfl
def Hz (N:Nat):Env:=DZ [(90,VF)] [] 24 N
theorem Zl (N:Nat) (s:BA) (most:Int):DS (Hz N) sB [.tmp 4] [[.z]] [.str s,.i most]=(cond (!MD s) (some ((.i 0),[])) (cond (decide (FP s < 0)) (some ((.i 0),[])) (cond (decide (FP s > most)) (some ((.i 0),[])) (some ((.i (FP s)),[]))))):=by kernel_rfl
def Id (N:Nat):Env:=DZ [(91,S4)] [] 11 N
theorem Zp (N:Nat) (s:BA):DS (Id N) sF [.tmp 2] [[.z]] [.str s]=(cond (decide (AF s < 4294967281)) (some ((.i (FR s)),[])) none):=by kernel_rfl
def Ic (N:Nat):Env:=DZ [(92,S9),(49,TK),(48,TL),(51,TM),(50,TN)] [] 28 N
theorem Zo (N:Nat) (u00:LI):DS (Ic N) sE [.tmp 2] [[.int .u64]] [.bor [.list false [.str] u00]]=(cond (JH u00) (cond (A3 (DU (EK u00) (AD 0))==A3 {data:=#[108,101,97,102]}) (cond (decide (AF (DU (EK u00) (AD 1)) < 4294967281)) (some ((.int .u64 (H6 {lf:=true,v:=FR (DU (EK u00) (AD 1)),f:=0,a:=0,l:=0,r:=0})),[[.list false [.str] (AR 1 u00)]])) none) (cond (decide (AF (DU (EK u00) (AD 3)) < 4294967281)) (some ((.int .u64 (H6 {lf:=false,v:=0,f:=E5 (DU (EK u00) (AD 1)) 4,a:=FR (DU (EK u00) (AD 3)),l:=E5 (DU (EK u00) (AD 5)) 31,r:=E5 (DU (EK u00) (AD 7)) 31})),[[.list false [.str] (AR 1 u00)]])) none)) none):=by kernel_rfl
def Ha (N:Nat):Env:=DZ [] [] 21 N
theorem Xv (N:Nat) (s u00:BA):DS (Ha N) rF [.tmp 4] [[.bool]] [.str s,.str u00]=(cond (decide (ic (AF s)≥ic (AF u00))) (cond (decide (0≤AA AB (ic (AF s) - ic (AF u00)))&&decide (AA AB (ic (AF s) - ic (AF u00))≤ic (AF s))) (some ((.bool (A3 (BP s (AD (AA AB (ic (AF s) - ic (AF u00)))) (AF s))==A3 u00)),[])) none) (some ((.bool false),[]))):=by kernel_rfl
def Hb (N:Nat):Env:=DZ [(141,YJ)] [] 16 N
theorem Xw (N:Nat) (s u00:BA):DS (Hb N) rG [.tmp 4] [[.str]] [.str s,.str u00]=(cond (QE s u00) (cond (decide (0≤AA AB (ic (AF s) - ic (AF u00)))&&decide (AA AB (ic (AF s) - ic (AF u00))≤ic (AF s))) (some ((.str (BP s 0 (AD (AA AB (ic (AF s) - ic (AF u00)))))),[])) none) (some ((.str s),[]))):=by kernel_rfl
def Hy (N:Nat):Env:=DZ [(89,YK)] [] 8 N
theorem Zi (N:Nat) (s u00:BA):DS (Hy N) sA [.tmp 4] [[.str]] [.str s,.str u00]=(some ((.str (HM s u00)),[])):=by kernel_rfl
open Go Go.Proofs
theorem Ug (l:List BA) (h:∀ w∈l,w.size≤100):(GB l GS).size≤101*l.length:=by
 have hs:(GB l GS).size=(Lib.join (l.map (·.data.toList)) [32]).length:=by
  show (Array.size (List.toArray _))=_;rw [vad]
 rw [hs];cases l with
 | nil=>simp [Lib.join_nil]
 | cons x r=>
  rw [AZ,Lib.join_length]
  have:∀ (r:List BA),(∀ w∈r,w.size≤100)→Lib.lens (r.map (·.data.toList))≤100*r.length:=fun r=>by
   induction r with
   | nil=>intro _; simp [Lib.lens]
   | cons y r ih=>
    intro h;have h1:=h y (AT ..);rw [QN] at h1;have h2:=ih (fun w hw=>h w (AX _ hw));rw [AZ,AN];simp only [Lib.lens,AZ,List.sum_cons] at h2 ⊢;omega
  have:=this (x :: r) h
  rw [AZ] at this;simp only [AN,B7,A7] at this ⊢;omega
theorem Z8 (ws:List BA) (hl:ws.length≤8) (h:∀ w∈ws,w.size≤100):(E8 ws).size≤809:=by
 unfold E8
 have:=Ug ws h
 rw [AP];have e:AF NI=1:=rfl;rw [e];omega
theorem nU:∀ (a b:List (List BA)),FO (a++b)=FO a++FO b
 | [],b=>by
  show FO b=CH++FO b;rw [ByteArray.empty_append]
 | l :: a,b=>by
  rw [vaa,FO,FO,nU a b,C3]
theorem nW:∀ (L:List (List BA)),(∀ l∈L,l.length≤8∧∀ w∈l,w.size≤100)→(FO L).size≤809*L.length
 | [],_=>by
  have:AF (FO [])=0:=rfl
  omega
 | l :: L,h=>by
  have h1:=Z8 l (h l (AT ..)).1 (h l (AT ..)).2;have h2:=nW L fun x hx=>h x (AX _ hx)
  rw [FO,AP,AN];omega
theorem T9 {n:Int} (h:E2 n):(DJ n).size≤100:=by
 have:=ZZ h.1 h.2
 omega
theorem aQ {n:Int} (h:E2 n):(DN n).size≤100:=by
 have:=(WL n h).2
 omega
theorem jP {n:Int} (h:EU n=true) : -2147483648≤n∧n≤2147483647:=by
 unfold EU at h
 rwa [AH,AQ,AQ] at h
structure Nd.In (x:Nd):Prop where
 v : -2147483648≤x.v∧x.v≤2147483647
 f:0≤x.f∧x.f < 4
 a : -2147483648≤x.a∧x.a≤2147483647
 l:0≤x.l∧x.l < 31
 r:0≤x.r∧x.r < 31
 lf:x.lf=true→x.f=0∧x.a=0∧x.l=0∧x.r=0
 fk:x.lf=false→x.v=0
theorem zbn {x:Nd} (h:LJ x=true):x.In:=by
 obtain ⟨lf,v,f,a,l,r⟩:=x;unfold LJ at h;cases lf with
 | true=>
  simp only [CO,AH,Nd.eq,B3] at h;obtain ⟨⟨_,_,h1,h2,h3,h4,_⟩,hv⟩:=h;subst h1 h2 h3 h4;have z4:(0:Int)≤0∧(0:Int) < 4:=by decide
  have z31:(0:Int)≤0∧(0:Int) < 31:=by decide
  have zf:(-2147483648:Int)≤0∧(0:Int)≤2147483647:=by decide
  exact ⟨jP hv,z4,zf,z31,z31,fun _=>⟨rfl,rfl,rfl,rfl⟩,fun h=>Bool.noConfusion h⟩
 | false=>
  simp only [B9,AH,B3,AQ,OV] at h;obtain ⟨hv,hf0,hf1,ha,⟨hl0,hl1⟩,hr0,hr1⟩:=h;subst hv;have zf:(-2147483648:Int)≤0∧(0:Int)≤2147483647:=by decide
  have l0:(0:Int)≤l:=by omega
  have r0:(0:Int)≤r:=by omega
  exact ⟨zf,⟨hf0,hf1⟩,jP ha,⟨l0,hl1⟩,⟨r0,hr1⟩,fun h=>Bool.noConfusion h,fun _=>rfl⟩
theorem wO {x:Nd} (h:x.In):(KT x).length≤8∧∀ w∈KT x,w.size≤100:=by
 have hv:E2 x.v:=by have:=h.v; unfold E2; omega
 have hf:E2 x.f:=by have:=h.f; unfold E2; omega
 have ha:E2 x.a:=by have:=h.a; unfold E2; omega
 have hl:E2 x.l:=by have:=h.l; unfold E2; omega
 have hr:E2 x.r:=by have:=h.r; unfold E2; omega
 unfold KT;cases x.lf with
 | true=>
  refine ⟨by simp,fun w hw=>?_⟩;simp only [CO,AU,CL,C1] at hw;rcases hw with rfl | rfl
  ·decide
  ·exact aQ hv
 | false=>
  refine ⟨by simp,fun w hw=>?_⟩;simp only [B9,AU,CL,C1] at hw;rcases hw with rfl | rfl | rfl | rfl | rfl | rfl | rfl | rfl
  ·decide
  ·exact T9 hf
  ·decide
  ·exact aQ ha
  ·decide
  ·exact T9 hl
  ·decide
  ·exact T9 hr
theorem wS {dim n:Int}:∀ {l:LI} {i:Nat},JF dim n i l=true→∀ w∈l,FU w.toInt=true
 | [],_,_,w,hw=>by cases hw
 | x :: l,i,h,w,hw=>by
  unfold JF at h;rw [AH,AH] at h;rcases AU.1 hw with rfl | hw
  ·exact h.1.1
  ·exact wS h.2 w hw
theorem wN {w:Int} (h:FU w=true):(DF w).In:=by
 have hn:DF w=UL w:=by unfold DF; rw [h]; rfl
 unfold FU at h;simp only [AH,BY,B3,BR] at h;rw [hn];apply zbn;cases hr:LJ (UL w) with
 | true=>rfl
 | false=>
  have:=h.2
  unfold H6 at this;rw [hr] at this;exact absurd this.symm h.1
theorem zc6:DQ PR B0 54 Y7:=by
 refine D1 [(97,VG),(60,Q6),(45,VI)] [] Y7 [] Tryz.func54 Tg ⟨As,nD,Av,trivial⟩ ?_;intro vs r hwf h;unfold Y7 at h;split at h
 ·rename_i s ws;cases hc:(BW ws.length 1000&&decide (s.size+(E8 (ws.map IV.toStr)).size≤1000000000)) with
  | false=>rw [hc] at h; simp [R.get] at h
  | true=>
   rw [hc,R.get_br,DC,R.get_ok] at h;rw [AH,AQ] at hc;have h1:=AM hc.1;have h2:=hc.2;have m:strMax=140737488355327:=rfl;refine ⟨0,?_⟩;rw [← h];refine (Zm 0 s ws).trans ?_;have e:ByteArray.push (s++GB (ws.map IV.toStr) GS) (LP 10)=s++E8 (ws.map IV.toStr):=by
    apply RA;unfold E8;simp;rfl
   have e2:(E8 (ws.map IV.toStr)).size=(GB (ws.map IV.toStr) GS).size+1:=by
    unfold E8;rw [AP];rfl
   rw [e2] at h2;rw [AE (show ws.length≤strMax by omega),AE (show (GB (ws.map IV.toStr) GS).size≤strMax by omega),AE (show s.size+(GB (ws.map IV.toStr) GS).size≤strMax by omega),
    AE (show AF (s++GB (ws.map IV.toStr) GS)+1≤strMax by rw [AP]; omega),B1,DC,DC,DC,e]
 ·simp [R.get] at h
theorem Vb (s:BA) (hs:s.size < 4294967281):∀ i,(DU (GU s) i).size < 4294967281:=by
 intro i;unfold DU;rw [BO];cases h:(GU s)[i]? with
 | none=>decide
 | some x=>
  have hx:x∈GU s:=vag h;unfold GU at hx;obtain ⟨w,hw,rfl⟩:=CY.1 hx
  have:=(US GS _ s).2 w hw
  exact Nat.lt_of_le_of_lt this hs
theorem k8 {ls:LI} (h:JH ls=true) (i:Nat):(DU (EK ls) i).size < 4294967281:=by
 unfold JH at h;cases ls with
 | nil=>
  show AF (IV.toStr (AI [] i default)) < _;rw [List.getD_nil];decide
 | cons l r=>
  rw [vaU,AH,AQ] at h;exact Vb _ h.1 i
theorem UI {ls:LI} (h:JH ls=true) (k:Nat):JH (ls.drop k)=true:=by
 unfold JH at h ⊢;rw [CP] at h ⊢;exact fun x hx=>h x (va1 hx)
theorem Ba:DQ PR B0 48 TL:=by
 refine D1 [(46,OS)] [] TL [[.list false [.str]]] Tryz.func48 Th ⟨fP,trivial⟩ ?_;intro vs r hwf h;unfold TL at h;split at h
 ·rename_i ls;cases hc:JH ls with
  | false=>rw [hc] at h; simp [R.get] at h
  | true=>
   rw [hc,R.get_br,DC,R.get_ok] at h;refine ⟨0,?_⟩;rw [← h];refine (Zn 0 ls).trans ?_;cases ls with
   | nil=>rfl
   | cons l r=>
    unfold JH at hc;rw [vaU,AH] at hc;have e0:(ic (AG (l :: r))==0)=false:=by
     rw [Q9];exact AL (by simp only [ic,AN]; omega)
    have e1:IV.toStr (AI (l :: r) (AD 0) default)=l.toStr:=rfl;have e2:AR (AD 1) (AK (AG (l :: r)) (l :: r))=AR 1 (l :: r):=by rw [BS]; rfl
    have e3:decide (1≤AF GS)=true:=rfl;rw [e0,e1,e2,e3,hc.1,DD];simp only [AE (show (0:Int) < ic (AG (l :: r)) by simp only [ic,AN]; omega),AE (show (1:Int)≤ic (AG (l :: r)) by simp only [ic,AN]; omega)];rfl
 ·simp [R.get] at h
theorem Bc:DQ PR B0 50 TN:=by
 refine D1 [] [] TN [[.str]] Tryz.func50 Tk trivial ?_;intro vs r hwf h;unfold TN at h;split at h
 ·rename_i l i;cases hc:decide (0≤i) with
  | false=>rw [hc] at h; simp [R.get] at h
  | true=>
   rw [hc,R.get_br,DC,R.get_ok] at h;have h0:=A1 hc;refine ⟨0,?_⟩;rw [← h];refine (Zq 0 l i).trans ?_;cases hi:decide (i≥ic l.length) with
   | true=>
    have hi:=A1 hi;simp only [ic] at hi;have e:DU l i.toNat=CH:=by
     unfold DU;rw [BO,BM (by omega)];rfl
    rw [e,DC];rfl
   | false=>
    have hi:=BE hi;rw [DD,AE h0,AE (show i < ic l.length by omega),B1,DC];rfl
 ·simp [R.get] at h
theorem Az:DQ PR B0 49 TK:=by
 refine D1 [(90,VF)] [] TK [[.z]] Tryz.func49 Tf ⟨Ar,trivial⟩ ?_;intro vs r hwf h;unfold TK at h;split at h
 ·rename_i s most;refine ⟨0,?_⟩;rw [R.get_ok] at h;rw [← h];refine (Zl 0 s most).trans ?_;unfold E5;cases MD s <;> cases decide (FP s < 0) <;> cases decide (FP s > most) <;> rfl
 ·simp [R.get] at h
theorem Bb:DQ PR B0 51 TM:=by
 refine D1 [(91,S4)] [] TM [[.z]] Tryz.func51 Tj ⟨Ab,trivial⟩ ?_;intro vs r hwf h;unfold TM at h;split at h
 ·rename_i s;cases hc:decide (s.size < 4294967281) with
  | false=>rw [hc] at h; simp [R.get] at h
  | true=>
   rw [hc,R.get_br,DC,R.get_ok] at h;refine ⟨0,?_⟩;rw [← h];refine (Zp 0 s).trans ?_;rw [hc,DC]
 ·simp [R.get] at h
theorem zc7:DQ PR B0 52 Y8:=by
 refine D1 [(92,S9),(49,TK),(48,TL),(51,TM),(50,TN)] [] Y8 [[.int .u64]] Tryz.func52 Ti ⟨Aj,Az,Ba,Bb,Bc,trivial⟩ ?_;intro vs r hwf h;unfold Y8 at h;split at h
 ·rename_i ls;cases hc:JH ls with
  | false=>rw [hc] at h; simp [R.get] at h
  | true=>
   rw [hc,R.get_br,DC,R.get_ok] at h;refine ⟨0,?_⟩;rw [← h];refine (Zo 0 ls).trans ?_;rw [hc,DC,AE (k8 hc (AD 1)),AE (k8 hc (AD 3)),DC,DC];unfold L0;have e:(A3 (DU (EK ls) (AD 0))==A3 { data:=#[108,101,97,102] })=((DU (EK ls) 0).toList==QS.toList):=rfl;rw [e];cases ((DU (EK ls) 0).toList==QS.toList) <;> rfl
 ·simp [R.get] at h
theorem zcy:DQ PR B0 141 YJ:=by
 refine D1 [] [] YJ [[.bool]] Tryz.func141 Ro trivial ?_;intro vs r hwf h;unfold YJ at h;split at h
 ·rename_i s t;refine ⟨0,?_⟩;rw [R.get_ok] at h;rw [← h];refine (Xv 0 s t).trans ?_;have hb:=hwf (by simp [KU]);have hs:s.size≤strMax:=hb.1;have m:strMax=140737488355327:=rfl;unfold QE;by_cases hl:t.size≤s.size
  ·have e:AA AB (ic s.size - ic t.size)=((s.size - t.size:Nat):Int):=by
    rw [EC (by simp only [ic]; omega) (by simp only [ic]; omega)];simp only [ic];omega
   rw [e,AE (show ic s.size≥ic t.size by simp only [ic]; omega),DC,AE (show (0:Int)≤((s.size - t.size:Nat):Int) by omega),AE (show ((s.size - t.size:Nat):Int)≤ic s.size by simp only [ic]; omega),B1,DC,AE hl,BH,BD]
  ·rw [AL (show ¬ ic s.size≥ic t.size by simp only [ic]; omega),DD,AL hl,BV]
 ·simp [R.get] at h
theorem zcz:DQ PR B0 89 YK:=by
 refine D1 [(141,YJ)] [] YK [[.str]] Tryz.func89 Rq ⟨zcy,trivial⟩ ?_;intro vs r hwf h;unfold YK at h;split at h
 ·rename_i s t;refine ⟨0,?_⟩;rw [R.get_ok] at h;rw [← h];refine (Xw 0 s t).trans ?_;have hb:=hwf (by simp [KU]);have hs:s.size≤strMax:=hb.1;have m:strMax=140737488355327:=rfl;unfold HM;cases hh:QE s t with
  | false=>rfl
  | true=>
   have hl:t.size≤s.size:=by
    unfold QE at hh;rw [AH,AQ] at hh;exact hh.1
   have e:AA AB (ic s.size - ic t.size)=((s.size - t.size:Nat):Int):=by
    rw [EC (by simp only [ic]; omega) (by simp only [ic]; omega)];simp only [ic];omega
   rw [e,DC,DC,AE (show (0:Int)≤((s.size - t.size:Nat):Int) by omega),AE (show ((s.size - t.size:Nat):Int)≤ic s.size by simp only [ic]; omega),B1,DC,BD]
 ·simp [R.get] at h
theorem Ax:DQ PR B0 47 TH:=by
 refine D1 [(89,YK)] [] TH [[.str]] Tryz.func47 Tc ⟨zcz,trivial⟩ ?_;intro vs r hwf h;unfold TH at h;split at h
 ·rename_i s t;refine ⟨0,?_⟩;rw [R.get_ok] at h;rw [← h];exact Zi 0 s t
 ·simp [R.get] at h
abbrev Fh (ts:LI) (i:Int) (l:LI) (j:Int) (so:BA):St:=
 ⟨[(2,(.str { data:=#[] })),(3,(.ptr 3 0 0)),(43,(.list true [.z,(.list false [(.int .u64)])] ts)),(44,(.int .i64 (ic ts.length))),(45,(.int .i64 i)),(59,(.list false [(.int .u64)] l)),(60,(.int .i64 (ic l.length))),(61,(.int .i64 j))],[(3,(some (.bld so)))]⟩
theorem wV (N:Nat) (ts:LI) (i:Int) (l:LI) (hl:l.length≤31) (hn:∀ w∈l,FU w.toInt=true) (K:Out→St→DH):∀ (d j n:Nat) (so:BA),j+d=l.length→d < n→so.size+809*d≤1000000000 →
  DT (HU N) (DE JO [1,1,1,1,1,1,1,0,1,0,0,1,1,0,0,1,1,1,0,0]) ⟨[2,3,43,44,45,59,60,61],[3],[]⟩ n (Fh ts i l (j:Int) so) K =
   K (.exit 4) (Fh ts i l (ic l.length) (so++FO (G7 (l.drop j))))
 | d,j,0,_,_,h,_=>absurd h (by omega)
 | 0,j,n+1,so,hd,_,_=>by
  have hj:j=l.length:=by omega
  subst hj;rw [D2,Dd,AL (show ¬ ((l.length:Nat):Int) < ic l.length by simp only [ic]; omega),DD,vas];have e:so++FO (G7 [])=so:=by
   show so++CH=so;rw [ByteArray.append_empty]
  rw [e]
 | d+1,j,n+1,so,hd,hn',hz=>by
  have hjl:j < l.length:=by omega
  have ej:AA AB ((j:Int)+1)=((j+1:Nat):Int):=by
   rw [EC (by omega) (by omega)];omega
  have hg:l.getD (AD (j:Int)) default=l[j]:=by
   rw [BD,BO,A6 hjl];rfl
  have hin:=wN (hn l[j] (CX hjl));have hw:=wO hin;have hls:=Z8 _ hw.1 hw.2;rw [D2,Dd,ej,hg,AE (show (j:Int) < ic l.length by simp only [ic]; omega),DC,AE (show (0:Int)≤(j:Int) by omega),B1,DC,A9 hjl];have hr:FO (G7 (l[j] :: l.drop (j+1)))=E8 (KT (DF l[j].toInt))++FO (G7 (l.drop (j+1))):=rfl;rw [hr,← C3];have ih:=wV N ts i l hl hn K d (j+1) n (so++E8 (KT (DF l[j].toInt))) (by omega) (by omega) (by rw [AP]; omega);rw [← ih];have hsz:decide (so.size+(E8 (KT (DF l[j].toInt))).size≤1000000000)=true:=AE (by omega);revert hsz;unfold KT;cases (DF l[j].toInt).lf with
  | true=>
   intro hsz;have hsz:decide (AF so+AF (E8 [QS,DN (DF l[j].toInt).v])≤1000000000)=true:=hsz;have e:A5 IV.toStr (AR 0 (AK 2 [IV.str { data:=#[108,101,97,102] },IV.str (DN (Nd.v (DF (IV.toInt l[j]))))]))=[QS,DN (DF l[j].toInt).v]:=rfl;rw [DC,e,hsz];rfl
  | false=>
   intro hsz;have hsz:decide (AF so+AF (E8 [gF,DJ (DF l[j].toInt).f,oG,DN (DF l[j].toInt).a,oH,DJ (DF l[j].toInt).l,oD,DJ (DF l[j].toInt).r])≤1000000000)=true:=hsz;have e:A5 IV.toStr (AR 0 (AK 8 [IV.str { data:=#[105,102] },IV.str (DJ (Nd.f (DF (IV.toInt l[j])))),IV.str { data:=#[60,61] },IV.str (DN (Nd.a (DF (IV.toInt l[j])))),IV.str { data:=#[116,104,101,110] },IV.str (DJ (Nd.l (DF (IV.toInt l[j])))),IV.str { data:=#[101,108,115,101] },IV.str (DJ (Nd.r (DF (IV.toInt l[j]))))]))=[gF,DJ (DF l[j].toInt).f,oG,DN (DF l[j].toInt).a,oH,DJ (DF l[j].toInt).l,oD,DJ (DF l[j].toInt).r]:=rfl;rw [DD,e,hsz];rfl
theorem Dy {d c:Int} {t:IV} (h:GY d c t=true):0≤(t.cell 0).toInt∧(t.cell 0).toInt < c∧1≤(t.cell 1).toList.length∧(t.cell 1).toList.length≤31∧∀ w∈(t.cell 1).toList,FU w.toInt=true:=by
 unfold GY GC at h;simp only [AH,BY,BQ] at h;obtain ⟨h1,h2,⟨h3,h4⟩,h5,_⟩:=h;exact ⟨by omega,by omega,AM h3,AM h4,wS h5⟩
theorem Ea {d c:Int} {t:IV} (hc:c≤3) (h:GY d c t=true):(∀ l∈QQ t,l.length≤8∧∀ w∈l,w.size≤100)∧(QQ t).length≤32:=by
 obtain ⟨h1,h2,h3,h4,h5⟩:=Dy h;constructor
 ·intro l hl;unfold QQ at hl;rcases AU.1 hl with rfl | hl
  ·refine ⟨by simp,fun w hw=>?_⟩;simp only [AU,CL,C1] at hw;rcases hw with rfl | rfl | rfl
   ·decide
   ·exact T9 (by unfold E2; omega)
   ·exact T9 (by unfold E2; simp only [ic]; omega)
  ·unfold G7 at hl;obtain ⟨w,hw,rfl⟩:=CY.1 hl;exact wO (wN (h5 w hw))
 ·unfold QQ G7;rw [AN,B7];omega
abbrev Fi (ts:LI) (i:Int) (so:BA):St:=
 ⟨[(2,(.str { data:=#[] })),(3,(.ptr 3 0 0)),(43,(.list true [.z,(.list false [(.int .u64)])] ts)),(44,(.int .i64 (ic ts.length))),(45,(.int .i64 i))],[(3,(some (.bld so)))]⟩
theorem Ee (N:Nat) (hN:40≤N) (d c:Int) (hc:c≤3) (ts:LI) (hl:ts.length≤8) (ht:ts.all (GY d c)=true) (K:Out→St→DH):∀ (m i n:Nat) (so:BA),i+m=ts.length→m < n→so.size+30000*m≤1000000000 →
  DT (HU N) (DE JO [1,1,1,1,1,1,1,0,1,0,0]) ⟨[2,3,43,44,45],[3],[]⟩ n (Fi ts (i:Int) so) K =
   K (.exit 2) (Fi ts (ic ts.length) (so++FO (F6 (ts.drop i))))
 | m,i,0,_,_,h,_=>absurd h (by omega)
 | 0,i,n+1,so,hd,_,_=>by
  have hi:i=ts.length:=by omega
  subst hi;rw [D2,Dc,AL (show ¬ ((ts.length:Nat):Int) < ic ts.length by simp only [ic]; omega),DD,vas];have e:so++FO (F6 [])=so:=by
   show so++CH=so;rw [ByteArray.append_empty]
  rw [e]
 | m+1,i,n+1,so,hd,hn,hz=>by
  have hil:i < ts.length:=by omega
  have ei:AA AB ((i:Int)+1)=((i+1:Nat):Int):=by
   rw [EC (by omega) (by omega)];omega
  have hg:ts.getD (AD (i:Int)) default=ts[i]:=by
   rw [BD,BO,A6 hil];rfl
  have hok:=CP.1 ht ts[i] (CX hil);have hw:=Ea hc hok;have hts:=nW _ hw.1;obtain ⟨h1,h2,h3,h4,h5⟩:=Dy hok;have hh:∀ w∈[MR,DJ (ts[i].cell 0).toInt,DJ (ic (ts[i].cell 1).toList.length)],w.size≤100:=(hw.1 _ (by unfold QQ; exact AT ..)).2;have hls:=Z8 _ (by simp) hh;have e:A5 IV.toStr (AR 0 (AK 3 [IV.str { data:=#[116,114,101,101] },IV.str (DJ (IV.toInt (IV.cell ts[i] 0))),IV.str (DJ (ic (AG (IV.toList (IV.cell ts[i] 1)))))]))=[MR,DJ (ts[i].cell 0).toInt,DJ (ic (ts[i].cell 1).toList.length)]:=rfl;have el:BW (AG (AR 0 (AK 3 [IV.str { data:=#[116,114,101,101] },IV.str (DJ (IV.toInt (IV.cell ts[i] 0))),IV.str (DJ (ic (AG (IV.toList (IV.cell ts[i] 1)))))]))) 1000=true:=rfl;rw [D2,Dc,hg,e,el,AE (show (i:Int) < ic ts.length by simp only [ic]; omega),DC,AE (show (0:Int)≤(i:Int) by omega),B1,DC,
   AE (show so.size+(E8 [MR,DJ (ts[i].cell 0).toInt,DJ (ic (ts[i].cell 1).toList.length)]).size≤1000000000 by omega),B1,DC]
  refine (wV N ts (i:Int) (ts[i].cell 1).toList h4 h5 _ (ts[i].cell 1).toList.length 0 N (so++E8 [MR,DJ (ts[i].cell 0).toInt,DJ (ic (ts[i].cell 1).toList.length)]) (by omega) (by omega) (by rw [AP]; omega)).trans ?_;rw [Og,ei,B4,A9 hil];have hr:FO (F6 (ts[i] :: ts.drop (i+1)))=(E8 [MR,DJ (ts[i].cell 0).toInt,DJ (ic (ts[i].cell 1).toList.length)]++FO (G7 (ts[i].cell 1).toList))++FO (F6 (ts.drop (i+1))):=by
   rw [F6,nU];rfl
  rw [hr,← C3 (a:=so),← C3 (a:=so)];have hsz:(E8 [MR,DJ (ts[i].cell 0).toInt,DJ (ic (ts[i].cell 1).toList.length)]++FO (G7 (ts[i].cell 1).toList)).size≤26000:=by
   have:FO (QQ ts[i])=E8 [MR,DJ (ts[i].cell 0).toInt,DJ (ic (ts[i].cell 1).toList.length)]++FO (G7 (ts[i].cell 1).toList):=rfl
   rw [← this]
   have:=hw.2
   omega
  exact Ee N hN d c hc ts hl ht K m (i+1) n _ (by omega) (by omega) (by rw [C3,AP]; omega)
abbrev W8 (d c b0 b1 b2:Int) (ts:LI) (C:Nat) (so:BA) (ws:LI) (n:Nat) (i:Int):St:=
 ⟨[(1,(.ptr 1 0 0)),(2,(.str { data:=#[] })),(3,(.ptr 3 0 0)),(4,(.row 500 0 n)),(28,(.bview 1 2 3 1 C)),(29,(.int .i64 (ic C))),(30,(.int .i64 i))],[(1,(some (.box [(.int .i64 d),(.int .i64 c),(.int .i64 b0),(.int .i64 b1),(.int .i64 b2),(.list true [.z,(.list false [(.int .u64)])] ts)]))),(3,(some (.bld so))),(500,(some (.row true 9 false [.str] ws)))]⟩
theorem gJ (N:Nat) (d c b0 b1 b2:Int) (ts:LI) (C:Nat) (so:BA) (ws:LI) (n i:Nat) (b:Int) (hi:i < C) (hn:n≤10) (h:(i=0∧b=b0)∨(i=1∧b=b1)∨(i=2∧b=b2)) (again:St→DH) (k:Out→St→DH) :
  E4 (HU N) (DE JO [1,1,1,1,1,0,1,0,0]) (W8 d c b0 b1 b2 ts C so ws n (i:Int)) (EO again ⟨[1,2,3,4,28,29,30],[1,3,500],[⟨.tmp 4,500,9,false,[.str]⟩]⟩ k) =
   again (W8 d c b0 b1 b2 ts C so (ws.take n++[.str (DN b)]) (n+1) ((i+1:Nat):Int)):=by
 rw [fV];have ei:AA AB ((i:Int)+1)=((i+1:Nat):Int):=by
  rw [EC (by omega) (by omega)];omega
 have eb:TI.bytes (Env.tyd (HU N) 9)=16:=rfl;have e1:∀ x:IV,AG (AR 0 (AK 1 [x]))=1:=fun x=>rfl
 rw [ei,eb,e1,e1,e1,AE (show (i:Int) < ic C by simp only [ic]; omega),DC,DC,AE (show (n+1)*16≤D6 by unfold D6; omega)];rcases h with ⟨rfl,rfl⟩ | ⟨rfl,rfl⟩ | ⟨rfl,rfl⟩ <;> rfl
theorem zdX (N:Nat) (hN:10≤N) (d b0 b1 b2:Int) (ts:LI) (C:Nat) (h1:1≤C) (h3:C≤3) (so:BA) (K:Out→St→DH) :
  DT (HU N) (DE JO [1,1,1,1,1,0,1,0,0]) ⟨[1,2,3,4,28,29,30],[1,3,500],[⟨.tmp 4,500,9,false,[.str]⟩]⟩ N (W8 d (C:Int) b0 b1 b2 ts C so [.str IC] 1 0) K =
   K (.exit 0) (W8 d (C:Int) b0 b1 b2 ts C so ((IC :: (([b0,b1,b2].take C).map DN)).map IV.str) (1+C) (C:Int)):=by
 obtain ⟨M,rfl⟩:∃ M,N=M+4:=⟨N - 4,by omega⟩;have e0:W8 d (C:Int) b0 b1 b2 ts C so [.str IC] 1 0=W8 d (C:Int) b0 b1 b2 ts C so [.str IC] 1 ((0:Nat):Int):=rfl;rw [e0,D2,gJ (M+4) d (C:Int) b0 b1 b2 ts C so _ 1 0 b0 (by omega) (by omega) (by simp)]
 match C,h1,h3 with
 | 1,_,_=>
  rw [D2,fV,AL (show ¬ ((0+1:Nat):Int) < ic 1 by decide),DD];rfl
 | 2,_,_=>
  rw [D2,gJ (M+4) d _ b0 b1 b2 ts 2 so _ _ 1 b1 (by omega) (by omega) (by simp),D2,fV,AL (show ¬ ((1+1:Nat):Int) < ic 2 by decide),DD];rfl
 | 3,_,_=>
  rw [D2,gJ (M+4) d _ b0 b1 b2 ts 3 so _ _ 1 b1 (by omega) (by omega) (by simp),D2,gJ (M+4) d _ b0 b1 b2 ts 3 so _ _ 2 b2 (by omega) (by omega) (by simp),D2,fV,AL (show ¬ ((2+1:Nat):Int) < ic 3 by decide),DD];rfl
theorem kZ {m:Md} (h:EQ m=true):(1≤m.d∧m.d≤4)∧(1≤m.c∧m.c≤3)∧m.ts.length≤8∧(G5 m.c 0 m.b0=true∧G5 m.c 1 m.b1=true∧G5 m.c 2 m.b2=true)∧m.ts.all (GY m.d m.c)=true:=by
 unfold EQ at h;simp only [AH,BY,BQ] at h;obtain ⟨⟨h1,h2,h3,h4,h5⟩,⟨h6,h7,h8⟩,h9⟩:=h;exact ⟨⟨by omega,by omega⟩,⟨by omega,by omega⟩,AM h5,⟨h6,h7,h8⟩,h9⟩
theorem gZ {c j b:Int} (h:G5 c j b=true):(-2147483648≤b∧b≤2147483647)∧(c≤j→b=0):=by
 unfold G5 at h;rw [AH] at h;refine ⟨jP h.1,fun hj=>?_⟩
 have:=h.2
 rw [AE (show j≥c from hj)] at this;simpa using this
theorem uQ {m:Md} (h:EQ m=true):∀ l∈QF m,l.length≤8∧∀ w∈l,w.size≤100:=by
 obtain ⟨hd,hc,_,⟨g0,g1,g2⟩,_⟩:=kZ h;have i0:=(gZ g0).1;have i1:=(gZ g1).1;have i2:=(gZ g2).1;intro l hl;unfold QF at hl;simp only [AU,CL,C1] at hl;rcases hl with rfl | rfl
 ·refine ⟨by simp,fun w hw=>?_⟩;simp only [AU,CL,C1] at hw;rcases hw with rfl | rfl | rfl
  ·decide
  ·exact T9 (by unfold E2; omega)
  ·exact T9 (by unfold E2; omega)
 ·refine ⟨by simp only [AN,B7,A8,A7]; omega,fun w hw=>?_⟩;rcases AU.1 hw with rfl | hw
  ·decide
  ·obtain ⟨b,hb,rfl⟩:=CY.1 hw;have hb:=va2 hb;simp only [AU,CL,C1] at hb;rcases hb with rfl | rfl | rfl
   ·exact aQ (by unfold E2; omega)
   ·exact aQ (by unfold E2; omega)
   ·exact aQ (by unfold E2; omega)
set_option maxHeartbeats 1000000 in
theorem nE:DQ PR B0 20 PZ:=by
 refine D1 [(44,PX),(53,K3),(55,K4),(43,OR),(56,Q5),(54,Y7)] [(7,⟨[1,2,3,4,28,29,30],[1,3,500],[⟨.tmp 4,500,9,false,[.str]⟩]⟩),(13,⟨[2,3,43,44,45],[3],[]⟩),(17,⟨[2,3,43,44,45,59,60,61],[3],[]⟩)] PZ [[.str]] Tryz.func20 Te ⟨nA,WV,WW,fO,nC,zc6,trivial⟩ ?_;intro vs r hwf h;unfold PZ at h;split at h
 ·rename_i d c b0 b1 b2 ts;refine ⟨40,?_⟩;rw [R.get_ok] at h;rw [← h];refine (Zk 40 d c b0 b1 b2 ts).trans ?_;unfold FI;cases hm:EQ ⟨d,c,b0,b1,b2,ts⟩ with
  | false=>rfl
  | true=>
   obtain ⟨hd,hc,hl,_,ht⟩:=kZ hm;simp only at hd hc hl ht;have hh:=uQ hm;have hh1:=hh _ (List.mem_cons_self ..);have hh2:=hh _ (List.mem_cons_of_mem _ (List.mem_cons_self ..));have z1:=Z8 _ hh1.1 hh1.2;have z2:=Z8 _ hh2.1 hh2.2;obtain ⟨C,rfl⟩:∃ C:Nat,c=(C:Int):=⟨c.toNat,by omega⟩;have e1:List.map IV.toStr (List.drop 0 (List.take 3 [IV.str { data:=#[102,111,114,101,115,116] },IV.str (DJ d),IV.str (DJ (C:Int))]))=[L7,DJ d,DJ (C:Int)]:=rfl;have e2:Nat.ble (List.length (List.drop 0 (List.take 3 [IV.str { data:=#[102,111,114,101,115,116] },IV.str (DJ d),IV.str (DJ (C:Int))]))) 1000=true:=rfl;have e3:ByteArray.size ByteArray.empty=0:=rfl;have z1:(E8 [L7,DJ d,DJ (C:Int)]).size≤809:=z1;rw [Bool.not_true,DD,DC,e1,e2,e3,decide_eq_true (show 0+(E8 [L7,DJ d,DJ (C:Int)]).size≤1000000000 by omega),Bool.and_self,DC,decide_eq_true (show (0:Int)≤(C:Int) by omega),decide_eq_true (show (C:Int)≤ic 3 by simp only [ic]; omega),Bool.and_self,DC,Int.toNat_natCast,ByteArray.empty_append];refine (zdX 40 (by omega) d b0 b1 b2 ts C (by omega) (by omega) (E8 [L7,DJ d,DJ (C:Int)]) _).trans ?_;rw [Od];have e4:List.map IV.toStr (List.drop 0 (List.take (1+C) ((IC :: (([b0,b1,b2].take C).map DN)).map IV.str)))=IC :: (([b0,b1,b2].take C).map DN):=by
    match C,hc with
    | 0,hc=>exact absurd hc.1 (by decide)
    | 1,_=>rfl
    | 2,_=>rfl
    | 3,_=>rfl
    | C+4,hc=>exact absurd hc.2 (by omega)
   have e5:Nat.ble (List.length (List.drop 0 (List.take (1+C) ((IC :: (([b0,b1,b2].take C).map DN)).map IV.str)))) 1000=true:=by
    apply Nat.ble_eq_true_of_le;rw [List.length_drop,List.length_take];omega
   have z2:(E8 (IC :: (([b0,b1,b2].take C).map DN))).size≤809:=by
    have:(([b0,b1,b2].take (C:Int).toNat).map DN)=(([b0,b1,b2].take C).map DN):=by rw [Int.toNat_natCast]
    rw [← this];exact z2
   rw [e4,e5,decide_eq_true (show (E8 [L7,DJ d,DJ (C:Int)]).size+(E8 (IC :: (([b0,b1,b2].take C).map DN))).size≤1000000000 by omega),Bool.and_self,DC];refine (Ee 40 (by omega) d (C:Int) (by omega) ts hl ht _ ts.length 0 40 _ (by omega) (by omega) (by rw [ByteArray.size_append]; omega)).trans ?_;rw [Oe,List.drop_zero];have e6:FO (KQ ⟨d,(C:Int),b0,b1,b2,ts⟩)=E8 [L7,DJ d,DJ (C:Int)]++E8 (IC :: (([b0,b1,b2].take C).map DN))++FO (F6 ts):=by
    show FO (QF ⟨d,(C:Int),b0,b1,b2,ts⟩++F6 ts)=_;rw [nU];show E8 [L7,DJ d,DJ (C:Int)]++(E8 (IC :: (([b0,b1,b2].take (C:Int).toNat).map DN))++ByteArray.empty)++FO (F6 ts)=_;rw [ByteArray.append_empty,Int.toNat_natCast]
   rw [e6]
 ·simp [R.get] at h
open Go Go.Proofs
def GZ (N:Nat):Env:=DZ [(46,OS),(47,TH),(20,PZ),(49,TK),(48,TL),(52,Y8),(51,TM),(50,TN)] [(6,⟨[0,2,3,4,6,7,28,29],[2,6,15],[]⟩),(10,⟨[0,2,3,4,6],[2,6,15,500],[⟨.cell 6 5,500,88,true,[.z,.list false [.int .u64]]⟩]⟩),(14,⟨[0,2,3,4,6,10,61,62],[2,6,10,15,500,501],[⟨.cell 6 5,500,88,true,[.z,.list false [.int .u64]]⟩,⟨.cell 10 1,501,103,false,[.int .u64]⟩]⟩)] 88 N
abbrev SV (s0:BA) (b3:Bool) (l7:LI) (x28 x29 u01 u02 u03 u04 u05 u06 u07 u08 u09 u0a:Int) (u00:LI):St:=⟨[(0,(.str s0)),(2,(.ptr 2 0 0)),(3,(.bool b3)),(4,(.ptr 15 0 0)),(6,(.ptr 6 0 0)),(7,(.list false [.str] l7)),(28,(.i x28)),(29,(.i x29))],[(2,(some (.box [.i u01,.i u02,.i u03,.i u04,.i u05,.zs]))),(6,(some (.box [.i u06,.i u07,.i u08,.i u09,.i u0a,.zs]))),(15,(some (.box [.list false [.str] u00])))]⟩
abbrev VA (s0:BA) (b3:Bool) (u03 u04 u05 u06 u07 u08 u09 u0a u0b u0c:Int) (u02:Nat) (u00 u01:LI):St:=⟨[(0,(.str s0)),(2,(.ptr 2 0 0)),(3,(.bool b3)),(4,(.ptr 15 0 0)),(6,(.ptr 6 0 0))],[(2,(some (.box [.i u03,.i u04,.i u05,.i u06,.i u07,.zs]))),(6,(some (.box [.i u08,.i u09,.i u0a,.i u0b,.i u0c,.row 500 0 u02]))),(15,(some (.box [.list false [.str] u00]))),(500,(some (.row true 88 true [.z,.list false [.int .u64]] u01)))]⟩
abbrev XE (s0:BA) (b3:Bool) (x61 x62 u06 u07 u08 u09 u0a u0b u0c u0d u0e u0f:Int) (u04:Nat) (u05:Int) (u03:Nat) (u00 u01 u02:LI):St:=⟨[(0,(.str s0)),(2,(.ptr 2 0 0)),(3,(.bool b3)),(4,(.ptr 15 0 0)),(6,(.ptr 6 0 0)),(10,(.ptr 10 0 0)),(61,(.i x61)),(62,(.i x62))],[(2,(some (.box [.i u06,.i u07,.i u08,.i u09,.i u0a,.zs]))),(6,(some (.box [.i u0b,.i u0c,.i u0d,.i u0e,.i u0f,.row 500 0 u04]))),(10,(some (.box [.i u05,.row 501 0 u03]))),(15,(some (.box [.list false [.str] u00]))),(500,(some (.row true 88 true [.z,.list false [.int .u64]] u01))),(501,(some (.row true 103 false [.int .u64] u02)))]⟩
theorem Zj (N:Nat) (s:BA):DS (GZ N) IJ [.cell 2 30,.tmp 3] [[.z,.z,.z,.z,.z,.list true [.z,.list false [.int .u64]]],[.bool]] [.str s]=(cond (decide (AF (HM s {data:=#[10]}) < 4294967281)&&decide (1≤AF {data:=#[10]})) (cond (JH (A5 IV.str (D5 (HM s {data:=#[10]}) {data:=#[10]}))) (cond (JH (AR 1 (A5 IV.str (D5 (HM s {data:=#[10]}) {data:=#[10]})))) (DT (GZ N) (DE IJ [1,1,1,1,1,0,1,0,0]) ⟨[0,2,3,4,6,7,28,29],[2,6,15],[]⟩ N (SV s false (EK (AR 1 (A5 IV.str (D5 (HM s {data:=#[10]}) {data:=#[10]})))) (E5 (DU (EK (A5 IV.str (D5 (HM s {data:=#[10]}) {data:=#[10]}))) (AD 2)) 3) 0 0 0 0 0 0 (E5 (DU (EK (A5 IV.str (D5 (HM s {data:=#[10]}) {data:=#[10]}))) (AD 1)) 4) (E5 (DU (EK (A5 IV.str (D5 (HM s {data:=#[10]}) {data:=#[10]}))) (AD 2)) 3) 0 0 0 (AR 1 (AR 1 (A5 IV.str (D5 (HM s {data:=#[10]}) {data:=#[10]}))))) (DK 0 (DM (GZ N) (DE IJ [1,1,1,1,1,1]) (DP (GZ N) none [.cell 2 30,.tmp 3] [[.z,.z,.z,.z,.z,.list true [.z,.list false [.int .u64]]],[.bool]])))) none) none) none):=by kernel_rfl
theorem bI (N:Nat) (s0:BA) (b3:Bool) (l7:LI) (x28 x29 u01 u02 u03 u04 u05 u06 u07 u08 u09 u0a:Int) (u00:LI) (again:St→DH) (k:Out→St→DH):E4 (GZ N) (DE IJ [1,1,1,1,1,0,1,0,0]) (SV s0 b3 l7 x28 x29 u01 u02 u03 u04 u05 u06 u07 u08 u09 u0a u00) (EO again ⟨[0,2,3,4,6,7,28,29],[2,6,15],[]⟩ k)=(cond (decide (x29 < x28)) (cond (decide (0≤AA AB (1+x29))) (cond (decide (AF (DU l7 (AD (AA AB (1+x29)))) < 4294967281)) (cond (decide (x29=ic 0)) (again (SV s0 b3 l7 x28 (AA AB (x29+1)) u01 u02 u03 u04 u05 u06 u07 (FR (DU l7 (AD (AA AB (1+x29))))) u09 u0a u00)) (cond (decide (x29=ic 1)) (again (SV s0 b3 l7 x28 (AA AB (x29+1)) u01 u02 u03 u04 u05 u06 u07 u08 (FR (DU l7 (AD (AA AB (1+x29))))) u0a u00)) (cond (decide (x29=ic 2)) (again (SV s0 b3 l7 x28 (AA AB (x29+1)) u01 u02 u03 u04 u05 u06 u07 u08 u09 (FR (DU l7 (AD (AA AB (1+x29))))) u00)) none))) none) none) (k (.exit 0) (SV s0 b3 l7 x28 x29 u01 u02 u03 u04 u05 u06 u07 u08 u09 u0a u00))):=by kernel_rfl
theorem Nz (N:Nat) (s0:BA) (b3:Bool) (l7:LI) (x28 x29 u01 u02 u03 u04 u05 u06 u07 u08 u09 u0a:Int) (u00:LI):(DK 0 (DM (GZ N) (DE IJ [1,1,1,1,1,1]) (DP (GZ N) none [.cell 2 30,.tmp 3] [[.z,.z,.z,.z,.z,.list true [.z,.list false [.int .u64]]],[.bool]]))) (.exit 0) (SV s0 b3 l7 x28 x29 u01 u02 u03 u04 u05 u06 u07 u08 u09 u0a u00)=(DT (GZ N) (DE IJ [1,1,1,1,1,1,0,0,0]) ⟨[0,2,3,4,6],[2,6,15,500],[⟨(.cell 6 5),500,88,true,[.z,.list false [.int .u64]]⟩]⟩ N (VA s0 b3 u01 u02 u03 u04 u05 u06 u07 u08 u09 u0a 0 u00 []) (DK 2 (DM (GZ N) (DE IJ [1,1,1,1,1,1,1]) (DP (GZ N) none [.cell 2 30,.tmp 3] [[.z,.z,.z,.z,.z,.list true [.z,.list false [.int .u64]]],[.bool]])))):=by kernel_rfl
theorem nM (N:Nat) (s0:BA) (b3:Bool) (u03 u04 u05 u06 u07 u08 u09 u0a u0b u0c:Int) (u02:Nat) (u00 u01:LI) (again:St→DH) (k:Out→St→DH):E4 (GZ N) (DE IJ [1,1,1,1,1,1,0,0,0]) (VA s0 b3 u03 u04 u05 u06 u07 u08 u09 u0a u0b u0c u02 u00 u01) (EO again ⟨[0,2,3,4,6],[2,6,15,500],[⟨(.cell 6 5),500,88,true,[.z,.list false [.int .u64]]⟩]⟩ k)=(cond (decide (ic (AG u00) > 0)) (cond (decide (ic (u02 - 0)≤8)) (cond (JH u00) (DT (GZ N) (DE IJ [1,1,1,1,1,1,0,0,0,1,0,1,1,0,1,0,0]) ⟨[0,2,3,4,6,10,61,62],[2,6,10,15,500,501],[⟨(.cell 6 5),500,88,true,[.z,.list false [.int .u64]]⟩,⟨(.cell 10 1),501,103,false,[.int .u64]⟩]⟩ N (XE s0 b3 (E5 (DU (EK u00) (AD 2)) 31) 0 u03 u04 u05 u06 u07 u08 u09 u0a u0b u0c u02 (E5 (DU (EK u00) (AD 1)) 3) 0 (AR 1 u00) u01 []) (DK 4 (DM (GZ N) (DE IJ [1,1,1,1,1,1,0,0,0,1,0,1,1,1]) (DK 3 (EO again ⟨[0,2,3,4,6],[2,6,15,500],[⟨(.cell 6 5),500,88,true,[.z,.list false [.int .u64]]⟩]⟩ k))))) none) (k (.exit 2) (VA s0 b3 u03 u04 u05 u06 u07 u08 u09 u0a u0b u0c u02 u00 u01))) (k (.exit 2) (VA s0 b3 u03 u04 u05 u06 u07 u08 u09 u0a u0b u0c u02 u00 u01))):=by kernel_rfl
theorem Db (N:Nat) (s0:BA) (b3:Bool) (x61 x62 u06 u07 u08 u09 u0a u0b u0c u0d u0e u0f:Int) (u04:Nat) (u05:Int) (u03:Nat) (u00 u01 u02:LI) (again:St→DH) (k:Out→St→DH):E4 (GZ N) (DE IJ [1,1,1,1,1,1,0,0,0,1,0,1,1,0,1,0,0]) (XE s0 b3 x61 x62 u06 u07 u08 u09 u0a u0b u0c u0d u0e u0f u04 u05 u03 u00 u01 u02) (EO again ⟨[0,2,3,4,6,10,61,62],[2,6,10,15,500,501],[⟨(.cell 6 5),500,88,true,[.z,.list false [.int .u64]]⟩,⟨(.cell 10 1),501,103,false,[.int .u64]⟩]⟩ k)=(cond (decide (x62 < x61)) (cond (JH u00) (cond (decide ((u03+AG (AR 0 (AK 1 [IV.int (H6 (L0 (EK u00)))])))*TI.bytes (Env.tyd (GZ N) 103)≤D6)) (again (XE s0 b3 x61 (AA AB (x62+1)) u06 u07 u08 u09 u0a u0b u0c u0d u0e u0f u04 u05 (u03+AG (AR 0 (AK 1 [IV.int (H6 (L0 (EK u00)))]))) (AR 1 u00) u01 (AK u03 u02++AR 0 (AK 1 [IV.int (H6 (L0 (EK u00)))])))) none) none) (k (.exit 4) (XE s0 b3 x61 x62 u06 u07 u08 u09 u0a u0b u0c u0d u0e u0f u04 u05 u03 u00 u01 u02))):=by kernel_rfl
theorem Oa (N:Nat) (s0:BA) (b3:Bool) (u03 u04 u05 u06 u07 u08 u09 u0a u0b u0c:Int) (u02:Nat) (u00 u01:LI):(DK 2 (DM (GZ N) (DE IJ [1,1,1,1,1,1,1]) (DP (GZ N) none [.cell 2 30,.tmp 3] [[.z,.z,.z,.z,.z,.list true [.z,.list false [.int .u64]]],[.bool]]))) (.exit 2) (VA s0 b3 u03 u04 u05 u06 u07 u08 u09 u0a u0b u0c u02 u00 u01)=(cond (A3 s0==A3 {data:=#[]}) (some ((.tup [.agg [.i 0,.i 0,.i 0,.i 0,.i 0,.list true [.z,.list false [.int .u64]] []],.bool false]),[])) (cond (!A3 (FI {d:=u08,c:=u09,b0:=u0a,b1:=u0b,b2:=u0c,ts:=AR 0 (AK u02 u01)})==A3 s0) (some ((.tup [.agg [.i 0,.i 0,.i 0,.i 0,.i 0,.list true [.z,.list false [.int .u64]] []],.bool false]),[])) (some ((.tup [.agg [.i u08,.i u09,.i u0a,.i u0b,.i u0c,.list true [.z,.list false [.int .u64]] (AR 0 (AK u02 u01))],.bool true]),[])))):=by kernel_rfl
theorem Oc (N:Nat) (again:St→DH) (k:Out→St→DH) (s0:BA) (b3:Bool) (x61 x62 u06 u07 u08 u09 u0a u0b u0c u0d u0e u0f:Int) (u04:Nat) (u05:Int) (u03:Nat) (u00 u01 u02:LI):(DK 4 (DM (GZ N) (DE IJ [1,1,1,1,1,1,0,0,0,1,0,1,1,1]) (DK 3 (EO again ⟨[0,2,3,4,6],[2,6,15,500],[⟨(.cell 6 5),500,88,true,[.z,.list false [.int .u64]]⟩]⟩ k)))) (.exit 4) (XE s0 b3 x61 x62 u06 u07 u08 u09 u0a u0b u0c u0d u0e u0f u04 u05 u03 u00 u01 u02)=(cond (decide ((u04+AG (AR 0 (AK 1 [IV.agg [IV.int u05,IV.list (AR 0 (AK u03 u02))]])))*TI.bytes (Env.tyd (GZ N) 88)≤D6)) (again (VA s0 b3 u06 u07 u08 u09 u0a u0b u0c u0d u0e u0f (u04+AG (AR 0 (AK 1 [IV.agg [IV.int u05,IV.list (AR 0 (AK u03 u02))]]))) u00 (AK u04 u01++AR 0 (AK 1 [IV.agg [IV.int u05,IV.list (AR 0 (AK u03 u02))]])))) none):=by kernel_rfl
open Go Go.Proofs
theorem sW (s:BA) {most:Int} (h:0≤most):0≤E5 s most∧E5 s most≤most:=by
 unfold E5;cases ha:MD s <;> cases h1:decide (FP s < 0) <;> cases h2:decide (FP s > most)
 all_goals simp only [A2,BB,B1,CE,vau,CO,B9]
 all_goals first
  | exact ⟨by omega,by omega⟩
  | (have h1:=BE h1; have h2:=BE h2; omega)
theorem bM (s t:BA):(HM s t).size≤s.size:=by
 unfold HM;cases QE s t with
 | true=>
  rw [DC,ByteArray.size_extract];omega
 | false=>exact AY _
theorem Vf {s:BA} (h:s.size < 4294967281):JH (RS s)=true:=by
 unfold JH RS;rw [CP];intro x hx;obtain ⟨w,hw,rfl⟩:=CY.1 hx
 have:=(US NI _ (W0 s)).2 w hw
 have h2:(W0 s).size≤s.size:=bM s NI;refine AE ?_;show w.size < 4294967281;omega
abbrev kD:KP:=⟨[0,2,3,4,6,7,28,29],[2,6,15],[]⟩
abbrev dZ:KP:=⟨[0,2,3,4,6],[2,6,15,500],[⟨.cell 6 5,500,88,true,[.z,.list false [.int .u64]]⟩]⟩
abbrev vB:KP:=⟨[0,2,3,4,6,10,61,62],[2,6,10,15,500,501],[⟨.cell 6 5,500,88,true,[.z,.list false [.int .u64]]⟩,⟨.cell 10 1,501,103,false,[.int .u64]⟩]⟩
abbrev W6 (s:BA) (W:LI) (C i d c b0 b1 b2:Int) (L:LI):St:=
 ⟨[(0,(.str s)),(2,(.ptr 2 0 0)),(3,(.bool false)),(4,(.ptr 15 0 0)),(6,(.ptr 6 0 0)),(7,(.list false [.str] W)),(28,(.int .i64 C)),(29,(.int .i64 i))],[(2,(some (.box [(.int .i64 0),(.int .i64 0),(.int .i64 0),(.int .i64 0),(.int .i64 0),.zs]))),(6,(some (.box [(.int .i64 d),(.int .i64 c),(.int .i64 b0),(.int .i64 b1),(.int .i64 b2),.zs]))),(15,(some (.box [(.list false [.str] L)])))]⟩
theorem VN (N:Nat) (s:BA) (W:LI) (hW:∀ i,(DU W i).size < 4294967281) (C:Int) (i:Nat) (hi:(i:Int) < C) (h3:i < 3) (d c b0 b1 b2:Int) (L:LI) (again:St→DH) (k:Out→St→DH) :
  E4 (GZ N) (DE IJ [1,1,1,1,1,0,1,0,0]) (W6 s W C (i:Int) d c b0 b1 b2 L) (EO again kD k) =
   again (W6 s W C ((i+1:Nat):Int) d c (cond (BI i 0) (FR (DU W (1+i))) b0) (cond (BI i 1) (FR (DU W (1+i))) b1) (cond (BI i 2) (FR (DU W (1+i))) b2) L):=by
 rw [bI];have ei:AA AB ((i:Int)+1)=((i+1:Nat):Int):=by
  rw [EC (by omega) (by omega)];omega
 have ei':AA AB (1+(i:Int))=((1+i:Nat):Int):=by
  rw [EC (by omega) (by omega)];omega
 rw [ei,ei',BD,AE hi,DC,AE (show (0:Int)≤((1+i:Nat):Int) by omega),DC,AE (hW (1+i)),DC]
 match i,h3 with
 | 0,_=>rfl
 | 1,_=>rfl
 | 2,_=>rfl
theorem Jo (N:Nat) (s:BA) (LS W:LI) (hWe:W=EK (LS.drop 1)) (hW:∀ i,(DU W i).size < 4294967281) (C:Int) (h0:0≤C) (h3:C≤3) (hN:10≤N) (d c:Int) (L:LI) (K:Out→St→DH) :
  DT (GZ N) (DE IJ [1,1,1,1,1,0,1,0,0]) kD N (W6 s W C 0 d c 0 0 0 L) K=K (.exit 0) (W6 s W C C d c (J6 LS C 0) (J6 LS C 1) (J6 LS C 2) L):=by
 obtain ⟨M,rfl⟩:∃ M,N=M+4:=⟨N - 4,by omega⟩;obtain ⟨n,rfl⟩:∃ n:Nat,C=(n:Int):=⟨C.toNat,by omega⟩;subst hWe;have e0:W6 s (EK (LS.drop 1)) (n:Int) 0 d c 0 0 0 L=W6 s (EK (LS.drop 1)) (n:Int) ((0:Nat):Int) d c 0 0 0 L:=rfl;rw [e0]
 match n,h3 with
 | 0,_=>
  rw [D2,bI,AL (show ¬ ((0:Nat):Int) < ((0:Nat):Int) by omega),DD];rfl
 | 1,_=>
  rw [D2,VN (M+4) s _ hW _ 0 (by omega) (by omega),D2,bI,AL (show ¬ ((0+1:Nat):Int) < ((1:Nat):Int) by omega),DD];rfl
 | 2,_=>
  rw [D2,VN (M+4) s _ hW _ 0 (by omega) (by omega),D2,VN (M+4) s _ hW _ 1 (by omega) (by omega),D2,bI,AL (show ¬ ((1+1:Nat):Int) < ((2:Nat):Int) by omega),DD];rfl
 | 3,_=>
  rw [D2,VN (M+4) s _ hW _ 0 (by omega) (by omega),D2,VN (M+4) s _ hW _ 1 (by omega) (by omega),D2,VN (M+4) s _ hW _ 2 (by omega) (by omega),D2,bI,AL (show ¬ ((2+1:Nat):Int) < ((3:Nat):Int) by omega),DD];rfl
 | n+4,h3=>exact absurd h3 (by omega)
abbrev oQ (s:BA) (d c b0 b1 b2:Int) (L T:LI) (cl k j:Int) (NL:LI):St:=
 ⟨[(0,(.str s)),(2,(.ptr 2 0 0)),(3,(.bool false)),(4,(.ptr 15 0 0)),(6,(.ptr 6 0 0)),(10,(.ptr 10 0 0)),(61,(.int .i64 k)),(62,(.int .i64 j))],[(2,(some (.box [(.int .i64 0),(.int .i64 0),(.int .i64 0),(.int .i64 0),(.int .i64 0),.zs]))),(6,(some (.box [(.int .i64 d),(.int .i64 c),(.int .i64 b0),(.int .i64 b1),(.int .i64 b2),(.row 500 0 T.length)]))),(10,(some (.box [(.int .i64 cl),(.row 501 0 NL.length)]))),(15,(some (.box [(.list false [.str] L)]))),(500,(some (.row true 88 true [.z,(.list false [(.int .u64)])] T))),(501,(some (.row true 103 false [(.int .u64)] NL)))]⟩
theorem zbd (L:LI) (j:Nat):LF L (j+1)=LF L j++[.int (H6 (L0 (EK (L.drop j))))]:=by
 unfold LF;rw [List.range_succ,List.map_append];rfl
theorem aV (L:LI) (j:Nat):(LF L j).length=j:=by
 unfold LF;rw [B7,List.length_range]
theorem wW (N:Nat) (s:BA) (d c b0 b1 b2:Int) (T L:LI) (hL:JH L=true) (cl:Int) (k:Nat) (hk:k≤31) (K:Out→St→DH):∀ (m j n:Nat),j+m=k→m < n →
  DT (GZ N) (DE IJ [1,1,1,1,1,1,0,0,0,1,0,1,1,0,1,0,0]) vB n (oQ s d c b0 b1 b2 (L.drop j) T cl (k:Int) (j:Int) (LF L j)) K =
   K (.exit 4) (oQ s d c b0 b1 b2 (L.drop k) T cl (k:Int) (k:Int) (LF L k))
 | m,j,0,_,h=>absurd h (by omega)
 | 0,j,n+1,hd,_=>by
  have hj:j=k:=by omega
  subst hj;rw [D2,Db,AL (show ¬ (j:Int) < (j:Int) by omega),DD]
 | m+1,j,n+1,hd,hn=>by
  have ej:AA AB ((j:Int)+1)=((j+1:Nat):Int):=by
   rw [EC (by omega) (by omega)];omega
  have eb:TI.bytes (Env.tyd (GZ N) 103)=8:=rfl;have e1:∀ x:IV,AG (AR 0 (AK 1 [x]))=1:=fun x=>rfl
  have e2:∀ x:IV,AR 0 (AK 1 [x])=[x]:=fun x=>rfl
  rw [D2,Db,ej,eb,e1,e2,AE (show (j:Int) < (k:Int) by omega),DC,UI hL j,DC,aV,AE (show (j+1)*8≤D6 by unfold D6; omega),DC];have e3:AK j (LF L j)=LF L j:=CV (by rw [aV]; omega);rw [e3,← zbd,List.drop_drop];have ih:=wW N s d c b0 b1 b2 T L hL cl k hk K m (j+1) n (by omega) (by omega);unfold oQ at ih ⊢;rw [aV] at ih;exact ih
abbrev gL (s:BA) (d c b0 b1 b2:Int) (L T:LI):St:=
 ⟨[(0,(.str s)),(2,(.ptr 2 0 0)),(3,(.bool false)),(4,(.ptr 15 0 0)),(6,(.ptr 6 0 0))],[(2,(some (.box [(.int .i64 0),(.int .i64 0),(.int .i64 0),(.int .i64 0),(.int .i64 0),.zs]))),(6,(some (.box [(.int .i64 d),(.int .i64 c),(.int .i64 b0),(.int .i64 b1),(.int .i64 b2),(.row 500 0 T.length)]))),(15,(some (.box [(.list false [.str] L)]))),(500,(some (.row true 88 true [.z,(.list false [(.int .u64)])] T)))]⟩
theorem Ef (N:Nat) (hN:40≤N) (s:BA) (d c b0 b1 b2:Int) (K:Out→St→DH):∀ (m n:Nat) (L T:LI),JH L=true→T.length+m=9→m < n →
  ∃ L',DT (GZ N) (DE IJ [1,1,1,1,1,1,0,0,0]) dZ n (gL s d c b0 b1 b2 L T) K=K (.exit 2) (gL s d c b0 b1 b2 L' (T++J7 m L))
 | m,0,L,T,_,_,h=>absurd h (by omega)
 | m,n+1,[],T,hL,hT,hn=>by
  refine ⟨[],?_⟩;have e:J7 m []=[]:=by cases m <;> rfl
  rw [D2,nM,AL (show ¬ ic (AG ([]:LI)) > 0 by decide),DD,e,vak]
 | 0,n+1,l :: L,T,hL,hT,hn=>by
  refine ⟨l :: L,?_⟩;rw [D2,nM,AE (show ic (AG (l :: L)) > 0 by simp only [ic,AN]; omega),DC,AL (show ¬ ic (T.length - 0)≤8 by simp only [ic]; omega),DD];show K (.exit 2) _=K (.exit 2) (gL s d c b0 b1 b2 (l :: L) (T++[]));rw [vak]
 | m+1,n+1,l :: L,T,hL,hT,hn=>by
  obtain ⟨k0,k1⟩:=sW (DU (EK (l :: L)) 2) (most:=31) (by omega);have hk:E5 (DU (EK (l :: L)) 2) 31=((LE (l :: L):Nat):Int):=by unfold LE; omega
  have hLd:=UI hL 1;have hk31:LE (l :: L)≤31:=by unfold LE; omega
  have e2:AD 2=2:=rfl;have e1:AD 1=1:=rfl;rw [D2,nM,AE (show ic (AG (l :: L)) > 0 by simp only [ic,AN]; omega),DC,AE (show ic (T.length - 0)≤8 by simp only [ic]; omega),DC,hL,DC,e2,e1,hk];have run:=wW N s d c b0 b1 b2 T (AR 1 (l :: L)) hLd (E5 (DU (EK (l :: L)) 1) 3) (LE (l :: L)) hk31
   (DK 4 (DM (GZ N) (DE IJ [1,1,1,1,1,1,0,0,0,1,0,1,1,1]) (DK 3 (EO (fun s'=>DT (GZ N) (DE IJ [1,1,1,1,1,1,0,0,0]) dZ n s' K) dZ K)))) (LE (l :: L)) 0 N (by omega) (by omega)
  have eb:TI.bytes (Env.tyd (GZ N) 88)=32:=rfl;have e3:∀ x:IV,AG (AR 0 (AK 1 [x]))=1:=fun x=>rfl
  have e4:∀ x:IV,AR 0 (AK 1 [x])=[x]:=fun x=>rfl
  rw [Oc,eb,e3,e4,AE (show (T.length+1)*32≤D6 by unfold D6; omega),DC,aV] at run;have e5:AK T.length T=T:=CV (AY _);have e6:AR 0 (AK (LE (l :: L)) (LF (AR 1 (l :: L)) (LE (l :: L))))=LF (AR 1 (l :: L)) (LE (l :: L)):=by
   rw [B4,CV (by rw [aV]; omega)]
  rw [e5,e6] at run;obtain ⟨L',hL'⟩:=Ef N hN s d c b0 b1 b2 K m n (AR (LE (l :: L)) (AR 1 (l :: L))) (T++[WO (l :: L)]) (UI hLd _) (by rw [AW,AN,A7]; omega) (by omega);refine ⟨L',?_⟩;have e7:T++J7 (m+1) (l :: L)=T++[WO (l :: L)]++J7 m (AR (LE (l :: L)) (AR 1 (l :: L))):=by
   rw [vbj];rfl
  rw [e7,← hL'];refine Eq.trans ?_ (run.trans ?_)
  ·rfl
  ·have e8:(T++[WO (l :: L)]).length=T.length+1:=by rw [AW]; rfl
   unfold gL;rw [e8];rfl
set_option maxHeartbeats 1000000 in
theorem Ay:DQ PR B0 19 TJ:=by
 refine D1 [(46,OS),(47,TH),(20,PZ),(49,TK),(48,TL),(52,Y8),(51,TM),(50,TN)] [(6,kD),(10,dZ),(14,vB)] TJ [[.z,.z,.z,.z,.z,.list true [.z,.list false [.int .u64]]],[.bool]] Tryz.func19 Td ⟨fP,Ax,nE,Az,Ba,zc7,Bb,Bc,trivial⟩ ?_;intro vs r hwf h;unfold TJ at h;split at h
 ·rename_i s;cases hc:decide (s.size < 4294967281) with
  | false=>rw [hc] at h; simp [R.get] at h
  | true=>
   rw [hc,R.get_br,DC,R.get_ok] at h;have hs:=of_decide_eq_true hc;refine ⟨40,?_⟩;rw [← h];refine (Zj 40 s).trans ?_;have hok:=Vf hs;have e0:List.map IV.str (D5 (HM s { data:=#[10] }) { data:=#[10] })=RS s:=rfl;have e1:decide (1≤ByteArray.size { data:=#[10] })=true:=rfl;have ts:=bM s NI;have e2:Int.toNat 2=2:=rfl;have e3:Int.toNat 1=1:=rfl;rw [e0,e1,e2,e3,decide_eq_true (show ByteArray.size (HM s { data:=#[10] }) < 4294967281 from Nat.lt_of_le_of_lt ts hs),Bool.and_self,DC,hok,DC,UI hok 1,DC];generalize hLS:RS s=LS at hok ⊢;obtain ⟨c0,c3⟩:=sW (DU (EK LS) 2) (most:=3) (by omega);refine (Jo 40 s LS (EK (LS.drop 1)) rfl (k8 (UI hok 1)) (E5 (DU (EK LS) 2) 3) c0 c3 (by omega) (E5 (DU (EK LS) 1) 4) (E5 (DU (EK LS) 2) 3) (List.drop 1 (List.drop 1 LS)) _).trans ?_;rw [Nz];obtain ⟨L',hL'⟩:=Ef 40 (by omega) s (E5 (DU (EK LS) 1) 4) (E5 (DU (EK LS) 2) 3) (J6 LS (E5 (DU (EK LS) 2) 3) 0) (J6 LS (E5 (DU (EK LS) 2) 3) 1) (J6 LS (E5 (DU (EK LS) 2) 3) 2)
    (DK 2 (DM (GZ 40) (DE IJ [1,1,1,1,1,1,1]) (DP (GZ 40) none [(ResultVar.cell 2 30),(ResultVar.tmp 3)] [[.z,.z,.z,.z,.z,(.list true [.z,(.list false [(.int .u64)])])],[.bool]])))
    9 40 (List.drop 1 (List.drop 1 LS)) [] (UI (UI hok 1) 1) rfl (by omega)
   refine hL'.trans ?_;rw [Oa];have e4:([]:LI)++J7 9 (List.drop 1 (List.drop 1 LS))=J7 9 (LS.drop 2):=by
    rw [List.nil_append,List.drop_drop]
   have e5:List.drop 0 (List.take (([]:LI)++J7 9 (List.drop 1 (List.drop 1 LS))).length (([]:LI)++J7 9 (List.drop 1 (List.drop 1 LS))))=J7 9 (LS.drop 2):=by
    rw [List.drop_zero,List.take_of_length_le (Nat.le_refl _),e4]
   rw [e5];have e6:(⟨E5 (DU (EK LS) 1) 4,E5 (DU (EK LS) 2) 3,J6 LS (E5 (DU (EK LS) 2) 3) 0,J6 LS (E5 (DU (EK LS) 2) 3) 1,J6 LS (E5 (DU (EK LS) 2) 3) 2,J7 9 (LS.drop 2)⟩:Md)=VT s:=by
    unfold VT;rw [hLS];rfl
   unfold ER L6;rw [← e6];cases (ByteArray.toList s==ByteArray.toList W3) with
   | true=>rfl
   | false=>
    rw [DD,Bool.not_false,Bool.true_and];cases (ByteArray.toList (FI ⟨E5 (DU (EK LS) 1) 4,E5 (DU (EK LS) 2) 3,J6 LS (E5 (DU (EK LS) 2) 3) 0,J6 LS (E5 (DU (EK LS) 2) 3) 1,J6 LS (E5 (DU (EK LS) 2) 3) 2,J7 9 (LS.drop 2)⟩)==ByteArray.toList s) <;> rfl
 ·simp [R.get] at h
open Go Go.Proofs
def Fp (N:Nat):Env:=DZ [] [] 39 N
theorem Vz (N:Nat) (u04 u01 u06 u05 u08 u07 u0a u09 u0c u0b u0e u0d q_Lo q_Hi u03:Int) (u02:Bool) (u00 dim:Int):DS (Fp N) p7 [.cell 4 38] [[.z,.z,.z,.z,.z,.z,.z,.z,.z,.z,.z,.z,.z,.z,.z,.bool,.z]] [.agg [.i u04,.i u01,.i u06,.i u05,.i u08,.i u07,.i u0a,.i u09,.i u0c,.i u0b,.i u0e,.i u0d,.i q_Lo,.i q_Hi,.i u03,.bool u02,.i u00],.i dim]=(cond (decide (0≤dim)&&decide (dim≤ic 5)) (cond (decide (0≤dim)&&decide (dim≤ic 5)) (cond (decide (ic (min (AD dim) (AD dim))=ic 0)) (cond (u04==1) (some ((.agg [.i u04,.i u01,.i 0,.i 0,.i 0,.i 0,.i 0,.i 0,.i 0,.i 0,.i 0,.i 0,.i q_Lo,.i q_Hi,.i 0,.bool false,.i u00]),[])) (cond (u04==3) (some ((.agg [.i u04,.i u01,.i 0,.i 0,.i 0,.i 0,.i 0,.i 0,.i 0,.i 0,.i 0,.i 0,.i 0,.i 0,.i u03,.bool u02,.i u00]),[])) (some ((.agg [.i u04,.i u01,.i 0,.i 0,.i 0,.i 0,.i 0,.i 0,.i 0,.i 0,.i 0,.i 0,.i 0,.i 0,.i 0,.bool false,.i u00]),[])))) (cond (decide (ic (min (AD dim) (AD dim))=ic 1)) (cond (u04==1) (some ((.agg [.i u04,.i u01,.i u06,.i u05,.i 0,.i 0,.i 0,.i 0,.i 0,.i 0,.i 0,.i 0,.i q_Lo,.i q_Hi,.i 0,.bool false,.i u00]),[])) (cond (u04==3) (some ((.agg [.i u04,.i u01,.i u06,.i u05,.i 0,.i 0,.i 0,.i 0,.i 0,.i 0,.i 0,.i 0,.i 0,.i 0,.i u03,.bool u02,.i u00]),[])) (some ((.agg [.i u04,.i u01,.i u06,.i u05,.i 0,.i 0,.i 0,.i 0,.i 0,.i 0,.i 0,.i 0,.i 0,.i 0,.i 0,.bool false,.i u00]),[])))) (cond (decide (ic (min (AD dim) (AD dim))=ic 2)) (cond (u04==1) (some ((.agg [.i u04,.i u01,.i u06,.i u05,.i u08,.i u07,.i 0,.i 0,.i 0,.i 0,.i 0,.i 0,.i q_Lo,.i q_Hi,.i 0,.bool false,.i u00]),[])) (cond (u04==3) (some ((.agg [.i u04,.i u01,.i u06,.i u05,.i u08,.i u07,.i 0,.i 0,.i 0,.i 0,.i 0,.i 0,.i 0,.i 0,.i u03,.bool u02,.i u00]),[])) (some ((.agg [.i u04,.i u01,.i u06,.i u05,.i u08,.i u07,.i 0,.i 0,.i 0,.i 0,.i 0,.i 0,.i 0,.i 0,.i 0,.bool false,.i u00]),[])))) (cond (decide (ic (min (AD dim) (AD dim))=ic 3)) (cond (u04==1) (some ((.agg [.i u04,.i u01,.i u06,.i u05,.i u08,.i u07,.i u0a,.i u09,.i 0,.i 0,.i 0,.i 0,.i q_Lo,.i q_Hi,.i 0,.bool false,.i u00]),[])) (cond (u04==3) (some ((.agg [.i u04,.i u01,.i u06,.i u05,.i u08,.i u07,.i u0a,.i u09,.i 0,.i 0,.i 0,.i 0,.i 0,.i 0,.i u03,.bool u02,.i u00]),[])) (some ((.agg [.i u04,.i u01,.i u06,.i u05,.i u08,.i u07,.i u0a,.i u09,.i 0,.i 0,.i 0,.i 0,.i 0,.i 0,.i 0,.bool false,.i u00]),[])))) (cond (decide (ic (min (AD dim) (AD dim))=ic 4)) (cond (u04==1) (some ((.agg [.i u04,.i u01,.i u06,.i u05,.i u08,.i u07,.i u0a,.i u09,.i u0c,.i u0b,.i 0,.i 0,.i q_Lo,.i q_Hi,.i 0,.bool false,.i u00]),[])) (cond (u04==3) (some ((.agg [.i u04,.i u01,.i u06,.i u05,.i u08,.i u07,.i u0a,.i u09,.i u0c,.i u0b,.i 0,.i 0,.i 0,.i 0,.i u03,.bool u02,.i u00]),[])) (some ((.agg [.i u04,.i u01,.i u06,.i u05,.i u08,.i u07,.i u0a,.i u09,.i u0c,.i u0b,.i 0,.i 0,.i 0,.i 0,.i 0,.bool false,.i u00]),[])))) (cond (decide (ic (min (AD dim) (AD dim))=ic 5)) (cond (u04==1) (some ((.agg [.i u04,.i u01,.i u06,.i u05,.i u08,.i u07,.i u0a,.i u09,.i u0c,.i u0b,.i u0e,.i u0d,.i q_Lo,.i q_Hi,.i 0,.bool false,.i u00]),[])) (cond (u04==3) (some ((.agg [.i u04,.i u01,.i u06,.i u05,.i u08,.i u07,.i u0a,.i u09,.i u0c,.i u0b,.i u0e,.i u0d,.i 0,.i 0,.i u03,.bool u02,.i u00]),[])) (some ((.agg [.i u04,.i u01,.i u06,.i u05,.i u08,.i u07,.i u0a,.i u09,.i u0c,.i u0b,.i u0e,.i u0d,.i 0,.i 0,.i 0,.bool false,.i u00]),[])))) none)))))) none) none):=by kernel_rfl
def Fo (N:Nat):Env:=DZ [] [] 9 N
theorem Vy (N:Nat) (n:Int):DS (Fo N) pZ [.tmp 2] [[.bool]] [.i n]=(cond (decide (n≥0)) (some ((.bool (decide (n≤1073741824))),[])) (some ((.bool false),[]))):=by kernel_rfl
def Fl (N:Nat):Env:=DZ [(90,VF)] [] 11 N
theorem Vv (N:Nat) (s:BA):DS (Fl N) pV [.tmp 2] [[.z]] [.str s]=(some ((.i (FP s)),[])):=by kernel_rfl
def Fm (N:Nat):Env:=DZ [(91,S4)] [] 11 N
theorem Vx (N:Nat) (s:BA):DS (Fm N) pY [.tmp 2] [[.z]] [.str s]=(cond (decide (AF s < 4294967281)) (some ((.i (FR s)),[])) none):=by kernel_rfl
def OQ (N:Nat):Env:=DZ [] [(2,⟨[0,1,4,7,8],[],[]⟩)] 19 N
abbrev SU (l0:LI) (s1:BA) (x4 x7 x8:Int):St:=⟨[(0,(.list false [.str] l0)),(1,(.str s1)),(4,(.i x4)),(7,(.i x7)),(8,(.i x8))],[]⟩
theorem Zc (N:Nat) (s:LI) (v:BA):DS (OQ N) RJ [.tmp 4] [[.z]] [.list false [.str] s,.str v]=(DT (OQ N) (DE RJ [1,0,1,0,0]) ⟨[0,1,4,7,8],[],[]⟩ N (SU s v 0 (ic (AG s)) 0) (DK 0 (DM (OQ N) (DE RJ [1,1]) (DP (OQ N) none [.tmp 4] [[.z]])))):=by kernel_rfl
theorem Da (N:Nat) (l0:LI) (s1:BA) (x4 x7 x8:Int) (again:St→DH) (k:Out→St→DH):E4 (OQ N) (DE RJ [1,0,1,0,0]) (SU l0 s1 x4 x7 x8) (EO again ⟨[0,1,4,7,8],[],[]⟩ k)=(cond (decide (x8 < x7)) (cond (decide (0≤x8)&&decide (x8 < ic (AG l0))) (cond (A3 s1==A3 (IV.toStr (AI l0 (AD x8) default))) (k .ret (SU l0 s1 x8 x7 x8)) (again (SU l0 s1 x4 x7 (AA AB (x8+1))))) none) (k (.exit 0) (SU l0 s1 x4 x7 x8))):=by kernel_rfl
theorem Nx (N:Nat) (l0:LI) (s1:BA) (x4 x7 x8:Int):(DK 0 (DM (OQ N) (DE RJ [1,1]) (DP (OQ N) none [.tmp 4] [[.z]]))) (.exit 0) (SU l0 s1 x4 x7 x8)=(some ((.i (-1)),[])):=by kernel_rfl
theorem Ny (N:Nat) (l0:LI) (s1:BA) (x4 x7 x8:Int):(DK 0 (DM (OQ N) (DE RJ [1,1]) (DP (OQ N) none [.tmp 4] [[.z]]))) .ret (SU l0 s1 x4 x7 x8)=(some ((.i x4),[])):=by kernel_rfl
def gP (N:Nat):Env:=DZ [(121,SY),(120,SZ),(161,cB)] [] 46 N
theorem Vw (N:Nat) (l:LI):DS (gP N) pW [.cell 2 38] [[.z,.z,.z,.z,.z,.z,.z,.z,.z,.z,.z,.z,.z,.z,.z,.bool,.z]] [.list false [.str] l]=(cond (decide (AG l≤4294967296)) (cond (decide ((AG l+AG (BG (AD 6) (IV.str {data:=#[]})))*TI.bytes (Env.tyd (gP N) 9)≤D6)) (cond (decide (0≤1)&&decide (1 < ic (AG l+AG (BG (AD 6) (IV.str {data:=#[]})) - 0))) (cond (decide (0≤0)&&decide (0 < ic (AG l+AG (BG (AD 6) (IV.str {data:=#[]})) - 0))) (cond (A3 (IV.toStr (AI (AK (AG l) l++BG (AD 6) (IV.str {data:=#[]})) 0 default))==A3 {data:=#[114,97,110,103,101]}) (cond (decide (0≤3)&&decide (3 < ic (AG l+AG (BG (AD 6) (IV.str {data:=#[]})) - 0))) (cond (decide (AF (IV.toStr (AI (AK (AG l) l++BG (AD 6) (IV.str {data:=#[]})) 3 default)) < 4294967281)) (cond (decide (0≤5)&&decide (5 < ic (AG l+AG (BG (AD 6) (IV.str {data:=#[]})) - 0))) (cond (decide (AF (IV.toStr (AI (AK (AG l) l++BG (AD 6) (IV.str {data:=#[]})) 5 default)) < 4294967281)) (some ((.agg [.i 1,(.i (FP (IV.toStr (AI (AK (AG l) l++BG (AD 6) (IV.str {data:=#[]})) 1 default)))),.i 0,.i 0,.i 0,.i 0,.i 0,.i 0,.i 0,.i 0,.i 0,.i 0,(.i (FR (IV.toStr (AI (AK (AG l) l++BG (AD 6) (IV.str {data:=#[]})) 3 default)))),(.i (FR (IV.toStr (AI (AK (AG l) l++BG (AD 6) (IV.str {data:=#[]})) 5 default)))),.i 0,.bool false,.i 0]),[])) none) none) none) none) (cond (A3 (IV.toStr (AI (AK (AG l) l++BG (AD 6) (IV.str {data:=#[]})) 0 default))==A3 {data:=#[98,101,115,116]}) (some ((.agg [.i 2,(.i (FP (IV.toStr (AI (AK (AG l) l++BG (AD 6) (IV.str {data:=#[]})) 1 default)))),.i 0,.i 0,.i 0,.i 0,.i 0,.i 0,.i 0,.i 0,.i 0,.i 0,.i 0,.i 0,.i 0,.bool false,.i 0]),[])) (cond (A3 (IV.toStr (AI (AK (AG l) l++BG (AD 6) (IV.str {data:=#[]})) 0 default))==A3 {data:=#[114,105,115,101,115]}) (cond (decide (0≤3)&&decide (3 < ic (AG l+AG (BG (AD 6) (IV.str {data:=#[]})) - 0))) (cond (decide (0≤0)&&decide (0 < ic (AG l+AG (BG (AD 6) (IV.str {data:=#[]})) - 0))) (some ((.agg [.i 3,(.i (FP (IV.toStr (AI (AK (AG l) l++BG (AD 6) (IV.str {data:=#[]})) 1 default)))),.i 0,.i 0,.i 0,.i 0,.i 0,.i 0,.i 0,.i 0,.i 0,.i 0,.i 0,.i 0,(.i (FP (IV.toStr (AI (AK (AG l) l++BG (AD 6) (IV.str {data:=#[]})) 3 default)))),(.bool (A3 (IV.toStr (AI (AK (AG l) l++BG (AD 6) (IV.str {data:=#[]})) 0 default))==A3 {data:=#[102,97,108,108,115]})),.i 0]),[])) none) none) (cond (A3 (IV.toStr (AI (AK (AG l) l++BG (AD 6) (IV.str {data:=#[]})) 0 default))==A3 {data:=#[102,97,108,108,115]}) (cond (decide (0≤3)&&decide (3 < ic (AG l+AG (BG (AD 6) (IV.str {data:=#[]})) - 0))) (cond (decide (0≤0)&&decide (0 < ic (AG l+AG (BG (AD 6) (IV.str {data:=#[]})) - 0))) (some ((.agg [.i 3,(.i (FP (IV.toStr (AI (AK (AG l) l++BG (AD 6) (IV.str {data:=#[]})) 1 default)))),.i 0,.i 0,.i 0,.i 0,.i 0,.i 0,.i 0,.i 0,.i 0,.i 0,.i 0,.i 0,(.i (FP (IV.toStr (AI (AK (AG l) l++BG (AD 6) (IV.str {data:=#[]})) 3 default)))),(.bool (A3 (IV.toStr (AI (AK (AG l) l++BG (AD 6) (IV.str {data:=#[]})) 0 default))==A3 {data:=#[102,97,108,108,115]})),.i 0]),[])) none) none) (some ((.agg [.i 0,(.i (FP (IV.toStr (AI (AK (AG l) l++BG (AD 6) (IV.str {data:=#[]})) 1 default)))),.i 0,.i 0,.i 0,.i 0,.i 0,.i 0,.i 0,.i 0,.i 0,.i 0,.i 0,.i 0,.i 0,.bool false,.i 0]),[])))))) none) none) none) none):=by kernel_rfl
open Go Go.Proofs
theorem zbY:DQ PR B0 42 XL:=by
 refine D1 [] [] XL [[.bool]] Tryz.func42 Pj trivial ?_;intro vs r hwf h;unfold XL at h;split at h
 ·rename_i n;refine ⟨0,?_⟩;rw [← h];refine (Vy 0 n).trans ?_;simp only [R.get_ok];unfold N8
  have:decide (n≥0)=decide (0≤n):=rfl
  rw [this];cases decide (0≤n) <;> rfl
 ·simp [R.get] at h
theorem zY:DQ PR B0 121 SY:=by
 refine D1 [(90,VF)] [] SY [[.z]] Tryz.func121 Pg ⟨Ar,trivial⟩ ?_;intro vs r hwf h;unfold SY at h;split at h
 ·rename_i s;refine ⟨0,?_⟩;rw [← h];exact Vv 0 s
 ·simp [R.get] at h
theorem zZ:DQ PR B0 120 SZ:=by
 refine D1 [(91,S4)] [] SZ [[.z]] Tryz.func120 Pi ⟨Ab,trivial⟩ ?_;intro vs r hwf h;unfold SZ at h;split at h
 ·rename_i s;refine ⟨0,?_⟩;rw [← h];refine (Vx 0 s).trans ?_;simp only [R.get_br,R.get_ok,R.get_no]
 ·simp [R.get] at h
theorem zbZ:DQ PR B0 41 XM:=by
 refine D1 [] [] XM [[.z,.z,.z,.z,.z,.z,.z,.z,.z,.z,.z,.z,.z,.z,.z,.bool,.z]] Tryz.func41 Pk trivial ?_;intro vs r hwf h;unfold XM at h;split at h
 ·rename_i k c a0 b0 a1 b1 a2 b2 a3 b3 a4 b4 lo hi ft fl bu d;refine ⟨0,?_⟩;cases hc:(decide (0≤d)&&decide (d≤5)) with
  | false=>rw [hc] at h; simp [R.get] at h
  | true=>
   rw [hc,R.get_br,DC,R.get_ok] at h;rw [← h];refine (Vz 0 k c a0 b0 a1 b1 a2 b2 a3 b3 a4 b4 lo hi ft fl bu d).trans ?_;have e5:(decide (0≤d)&&decide (d≤ic 5))=true:=hc;rw [e5,DC,DC];simp only [AH,AQ] at hc;obtain ⟨n,rfl⟩:∃ n:Nat,d=n:=⟨d.toNat,by omega⟩;simp only [BD,Nat.min_self];unfold FZ;have hn:n=0∨n=1∨n=2∨n=3∨n=4∨n=5:=by omega
   have h13:(k==1)=true→(k==3)=false:=fun h1=>by
    rw [Q9] at h1 ⊢
    have:=A1 h1
    exact AL (by omega)
   generalize (k==1)=e1 at h13 ⊢;generalize (k==3)=e3 at h13 ⊢;rcases hn with rfl | rfl | rfl | rfl | rfl | rfl <;> cases e1 <;> cases e3 <;> first | rfl | exact absurd (h13 rfl) (by decide)
 ·simp [R.get] at h
theorem uX (N:Nat) (l:LI) (s:BA) (hl:l.length≤strMax) (K:Out→St→DH)
  (hx:∀ l0 s1 x4 x7 x8,K (.exit 0) ⟨[(0,(.list false [.str] l0)),(1,(.str s1)),(4,(.int .i64 x4)),(7,(.int .i64 x7)),(8,(.int .i64 x8))],[]⟩=some (.int .i64 (-1),[]))
  (hr:∀ l0 s1 x4 x7 x8,K .ret ⟨[(0,(.list false [.str] l0)),(1,(.str s1)),(4,(.int .i64 x4)),(7,(.int .i64 x7)),(8,(.int .i64 x8))],[]⟩=some (.int .i64 x4,[])) :
  ∀ (d i n:Nat) (x4:Int),i+d=l.length→d < n →
   DT (OQ N) (DE RJ [1,0,1,0,0]) ⟨[0,1,4,7,8],[],[]⟩ n ⟨[(0,(.list false [.str] l)),(1,(.str s)),(4,(.int .i64 x4)),(7,(.int .i64 (ic l.length))),(8,(.int .i64 (i:Int)))],[]⟩ K=some (.int .i64 (FX (l.drop i) s (i:Int)),[])
 | 0,i,n+1,x4,hd,hn=>by
  rw [D2,Da,JC (by omega),DD,hx,CN (by omega)];rfl
 | d+1,i,n+1,x4,hd,hn=>by
  have hi:i < l.length:=by omega
  unfold strMax at hl;have ih:=uX N l s (by unfold strMax; omega) K hx hr d (i+1) n x4 (by omega) (by omega);rw [D2,Da,IN hi,I0,CE,DC,DC,JB hi,HJ (by omega),A9 hi];unfold FX;cases (A3 s==A3 (IV.toStr l[i])) with
  | true=>rw [DC,DC,hr]
  | false=>
   rw [DD,DD,ih];rfl
 | _,_,0,_,_,h=>by omega
theorem zcZ:DQ PR B0 118 Y5:=by
 refine D1 [] [(2,⟨[0,1,4,7,8],[],[]⟩)] Y5 [[.z]] Tryz.func118 Sw trivial ?_;intro vs r hwf h;unfold Y5 at h;split at h
 ·rename_i l s;refine ⟨l.length+1,?_⟩;rw [← h];refine (Zc (l.length+1) l s).trans ?_;simp only [R.get_ok];have hl:=(hwf (by simp [KU])).1;simp only [PL,wfL] at hl
  have:=uX (l.length+1) l s hl.1 _ (fun l0 s1 x4 x7 x8=>Nx (l.length+1) l0 s1 x4 x7 x8) (fun l0 s1 x4 x7 x8=>Ny (l.length+1) l0 s1 x4 x7 x8) l.length 0 (l.length+1) 0 (by omega) (by omega)
  rw [B4] at this;exact this
 ·simp [R.get] at h
theorem zaM (l:LI) (i m:Nat) (x:IV) (hx:x.toStr=CH):IV.toStr (AI (l++BG m x) i default)=DU l i:=by
 unfold DU;by_cases h:i < l.length
 ·simp [AI,vaf,h]
 ·have e0:(AI l i default).toStr=CH:=by simp [AI,h]; rfl
  rw [e0];by_cases h6:i - l.length < m
  ·have e:AI (l++BG m x) i default=x:=by simp [AI,vaf,h,h6]
   rw [e,hx]
  ·have e:AI (l++BG m x) i default=default:=by simp [AI,vaf,h,h6]
   rw [e];rfl
theorem zaN (l:LI) (i:Nat):IV.toStr (AI (AK (AG l) l++BG (AD 6) (IV.str { data:=#[] })) i default)=DU l i:=by
 rw [BS];exact zaM l i _ _ rfl
theorem zbX:DQ PR B0 119 XK:=by
 refine D1 [(121,SY),(120,SZ),(161,cB)] [] XK [[.z,.z,.z,.z,.z,.z,.z,.z,.z,.z,.z,.z,.z,.z,.z,.bool,.z]] Tryz.func119 Ph
  ⟨zY,zZ,zcW,trivial⟩ ?_
 intro vs r hwf h;unfold XK at h;split at h
 ·rename_i l;refine ⟨0,?_⟩;cases hc:(decide (l.length≤4294967290)&&l.all (fun x=>decide (x.toStr.size < 4294967281))) with
  | false=>rw [hc] at h; simp [R.get] at h
  | true=>
   rw [hc,R.get_br,DC,R.get_ok] at h;rw [← h];refine (Vw 0 l).trans ?_;simp only [AH,AQ,CP] at hc;obtain ⟨hl,hz⟩:=hc;have hw:∀ i,(DU l i).size < 4294967281:=fun i=>by
    unfold DU;by_cases hi:i < l.length
    ·have:AI l i default=l[i]:=by simp [hi]
     rw [this];exact hz _ (CX hi)
    ·have:AI l i default=default:=by simp [AI,hi]
     rw [this];decide
   have hb:TI.bytes (Env.tyd (gP 0) 9)=16:=by rfl
   have hr6:(BG (AD 6) (IV.str { data:=#[] })).length=6:=rfl;simp only [zaN];rw [hb,hr6];have ge:∀ k:Nat,k < 6→decide ((k:Int) < ic (AG l+6 - 0))=true:=fun k hk=>AE (by simp only [ic]; omega)
   have g0:=ge 0 (by omega);have g1:=ge 1 (by omega);have g3:=ge 3 (by omega);have g5:=ge 5 (by omega);rw [AE (show AG l≤4294967296 by omega),DC,AE (show (AG l+6)*16≤D6 by unfold D6; omega),DC];have n0:decide ((0:Nat)≤0)=true:=rfl;have d1:(decide (0≤1)&&decide (1 < ic (AG l+6 - 0)))=true:=by simpa using g1
   have d0:(decide (0≤0)&&decide (0 < ic (AG l+6 - 0)))=true:=by simpa using g0
   have d3:(decide (0≤3)&&decide (3 < ic (AG l+6 - 0)))=true:=by simpa using g3
   have d5:(decide (0≤5)&&decide (5 < ic (AG l+6 - 0)))=true:=by simpa using g5
   rw [d1,d0,d3,d5,AE (hw 3),AE (hw 5)];simp only [DC];unfold EJ;cases ((DU l 0).toList==W4.toList) with
   | true=>rfl
   | false=>
    cases ((DU l 0).toList==W2.toList) with
    | true=>rfl
    | false=>
     cases ((DU l 0).toList==W5.toList) <;> cases ((DU l 0).toList==U1.toList) <;> rfl
 ·simp [R.get] at h
open Go Go.Proofs
def GT (N:Nat):Env:=DZ [(42,XL),(41,XM),(44,PX),(43,OR),(45,VI)] [(18,⟨[2,4,6,75,76,77],[2,500],[⟨.tmp 6,500,9,false,[.str]⟩]⟩)] 100 N
abbrev MS (s4:BA) (n6 n75:Nat) (x76 x77 u02 u03 u0a u0b u0c u0d u0e u0f u0g u0h u04 u05 u06 u07 u08:Int) (u00:Bool) (u09:Int) (u01:LI):St:=⟨[(2,(.ptr 2 0 0)),(4,(.str s4)),(6,(.row 500 0 n6)),(75,(.bview 2 2 5 2 n75)),(76,(.i x76)),(77,(.i x77))],[(2,(some (.box [.i u02,.i u03,.i u0a,.i u0b,.i u0c,.i u0d,.i u0e,.i u0f,.i u0g,.i u0h,.i u04,.i u05,.i u06,.i u07,.i u08,.bool u00,.i u09]))),(500,(some (.row true 9 false [.str] u01)))]⟩
theorem Vu (N:Nat) (u04 u01 u06 u05 u08 u07 u0a u09 u0c u0b u0e u0d q_Lo q_Hi u03:Int) (u02:Bool) (u00 a1:Int):DS (GT N) KH [.tmp 4] [[.str]] [.agg [.i u04,.i u01,.i u06,.i u05,.i u08,.i u07,.i u0a,.i u09,.i u0c,.i u0b,.i u0e,.i u0d,.i q_Lo,.i q_Hi,.i u03,.bool u02,.i u00],.i a1]=(cond (decide (a1 < 1)) (some ((.str ({data:=#[]})),[])) (cond (decide (a1 > 4)) (some ((.str ({data:=#[]})),[])) (cond (decide (0≤a1)&&decide (a1≤5)) (cond (! (u04==Qy.k (FZ {k:=u04,c:=u01,a0:=u06,b0:=u05,a1:=u08,b1:=u07,a2:=u0a,b2:=u09,a3:=u0c,b3:=u0b,a4:=u0e,b4:=u0d,lo:=q_Lo,hi:=q_Hi,ft:=u03,fl:=u02,bu:=u00} a1)&&(u01==Qy.c (FZ {k:=u04,c:=u01,a0:=u06,b0:=u05,a1:=u08,b1:=u07,a2:=u0a,b2:=u09,a3:=u0c,b3:=u0b,a4:=u0e,b4:=u0d,lo:=q_Lo,hi:=q_Hi,ft:=u03,fl:=u02,bu:=u00} a1)&&(u06==Qy.a0 (FZ {k:=u04,c:=u01,a0:=u06,b0:=u05,a1:=u08,b1:=u07,a2:=u0a,b2:=u09,a3:=u0c,b3:=u0b,a4:=u0e,b4:=u0d,lo:=q_Lo,hi:=q_Hi,ft:=u03,fl:=u02,bu:=u00} a1)&&(u05==Qy.b0 (FZ {k:=u04,c:=u01,a0:=u06,b0:=u05,a1:=u08,b1:=u07,a2:=u0a,b2:=u09,a3:=u0c,b3:=u0b,a4:=u0e,b4:=u0d,lo:=q_Lo,hi:=q_Hi,ft:=u03,fl:=u02,bu:=u00} a1)&&(u08==Qy.a1 (FZ {k:=u04,c:=u01,a0:=u06,b0:=u05,a1:=u08,b1:=u07,a2:=u0a,b2:=u09,a3:=u0c,b3:=u0b,a4:=u0e,b4:=u0d,lo:=q_Lo,hi:=q_Hi,ft:=u03,fl:=u02,bu:=u00} a1)&&(u07==Qy.b1 (FZ {k:=u04,c:=u01,a0:=u06,b0:=u05,a1:=u08,b1:=u07,a2:=u0a,b2:=u09,a3:=u0c,b3:=u0b,a4:=u0e,b4:=u0d,lo:=q_Lo,hi:=q_Hi,ft:=u03,fl:=u02,bu:=u00} a1)&&(u0a==Qy.a2 (FZ {k:=u04,c:=u01,a0:=u06,b0:=u05,a1:=u08,b1:=u07,a2:=u0a,b2:=u09,a3:=u0c,b3:=u0b,a4:=u0e,b4:=u0d,lo:=q_Lo,hi:=q_Hi,ft:=u03,fl:=u02,bu:=u00} a1)&&(u09==Qy.b2 (FZ {k:=u04,c:=u01,a0:=u06,b0:=u05,a1:=u08,b1:=u07,a2:=u0a,b2:=u09,a3:=u0c,b3:=u0b,a4:=u0e,b4:=u0d,lo:=q_Lo,hi:=q_Hi,ft:=u03,fl:=u02,bu:=u00} a1)&&(u0c==Qy.a3 (FZ {k:=u04,c:=u01,a0:=u06,b0:=u05,a1:=u08,b1:=u07,a2:=u0a,b2:=u09,a3:=u0c,b3:=u0b,a4:=u0e,b4:=u0d,lo:=q_Lo,hi:=q_Hi,ft:=u03,fl:=u02,bu:=u00} a1)&&(u0b==Qy.b3 (FZ {k:=u04,c:=u01,a0:=u06,b0:=u05,a1:=u08,b1:=u07,a2:=u0a,b2:=u09,a3:=u0c,b3:=u0b,a4:=u0e,b4:=u0d,lo:=q_Lo,hi:=q_Hi,ft:=u03,fl:=u02,bu:=u00} a1)&&(u0e==Qy.a4 (FZ {k:=u04,c:=u01,a0:=u06,b0:=u05,a1:=u08,b1:=u07,a2:=u0a,b2:=u09,a3:=u0c,b3:=u0b,a4:=u0e,b4:=u0d,lo:=q_Lo,hi:=q_Hi,ft:=u03,fl:=u02,bu:=u00} a1)&&(u0d==Qy.b4 (FZ {k:=u04,c:=u01,a0:=u06,b0:=u05,a1:=u08,b1:=u07,a2:=u0a,b2:=u09,a3:=u0c,b3:=u0b,a4:=u0e,b4:=u0d,lo:=q_Lo,hi:=q_Hi,ft:=u03,fl:=u02,bu:=u00} a1)&&(q_Lo==Qy.lo (FZ {k:=u04,c:=u01,a0:=u06,b0:=u05,a1:=u08,b1:=u07,a2:=u0a,b2:=u09,a3:=u0c,b3:=u0b,a4:=u0e,b4:=u0d,lo:=q_Lo,hi:=q_Hi,ft:=u03,fl:=u02,bu:=u00} a1)&&(q_Hi==Qy.hi (FZ {k:=u04,c:=u01,a0:=u06,b0:=u05,a1:=u08,b1:=u07,a2:=u0a,b2:=u09,a3:=u0c,b3:=u0b,a4:=u0e,b4:=u0d,lo:=q_Lo,hi:=q_Hi,ft:=u03,fl:=u02,bu:=u00} a1)&&(u03==Qy.ft (FZ {k:=u04,c:=u01,a0:=u06,b0:=u05,a1:=u08,b1:=u07,a2:=u0a,b2:=u09,a3:=u0c,b3:=u0b,a4:=u0e,b4:=u0d,lo:=q_Lo,hi:=q_Hi,ft:=u03,fl:=u02,bu:=u00} a1)&&(u02==Qy.fl (FZ {k:=u04,c:=u01,a0:=u06,b0:=u05,a1:=u08,b1:=u07,a2:=u0a,b2:=u09,a3:=u0c,b3:=u0b,a4:=u0e,b4:=u0d,lo:=q_Lo,hi:=q_Hi,ft:=u03,fl:=u02,bu:=u00} a1)&&(u00==Qy.bu (FZ {k:=u04,c:=u01,a0:=u06,b0:=u05,a1:=u08,b1:=u07,a2:=u0a,b2:=u09,a3:=u0c,b3:=u0b,a4:=u0e,b4:=u0d,lo:=q_Lo,hi:=q_Hi,ft:=u03,fl:=u02,bu:=u00} a1)&&true)))))))))))))))))) (some ((.str ({data:=#[]})),[])) (cond (!N8 u01) (some ((.str ({data:=#[]})),[])) (cond (!N8 u03) (some ((.str ({data:=#[]})),[])) (cond (!N8 u00) (some ((.str ({data:=#[]})),[])) (cond (u04==1) (cond (decide (0≤a1)&&decide (a1≤ic 5)) (DT (GT N) (DE KH [1,1,1,1,1,1,0,1,0,0]) ⟨[2,4,6,75,76,77],[2,500],[⟨(.tmp 6),500,9,false,[.str]⟩]⟩ N (MS ({data:=#[]}) 7 (AD a1) (ic (AD a1)) 0 u04 u01 u06 u05 u08 u07 u0a u09 u0c u0b u0e u0d q_Lo q_Hi u03 u02 u00 [(IV.str {data:=#[114,97,110,103,101]}),(IV.str (DJ u01)),(IV.str {data:=#[102,114,111,109]}),(IV.str (DN q_Lo)),(IV.str {data:=#[116,111]}),(IV.str (DN q_Hi)),(IV.str {data:=#[105,110]})]) (DK 1 (DM (GT N) (DE KH [1,1,1,1,1,1,1]) (DP (GT N) none [.tmp 4] [[.str]])))) none) (cond (u04==2) (cond (decide (0≤a1)&&decide (a1≤ic 5)) (DT (GT N) (DE KH [1,1,1,1,1,1,0,1,0,0]) ⟨[2,4,6,75,76,77],[2,500],[⟨(.tmp 6),500,9,false,[.str]⟩]⟩ N (MS ({data:=#[]}) 3 (AD a1) (ic (AD a1)) 0 u04 u01 u06 u05 u08 u07 u0a u09 u0c u0b u0e u0d q_Lo q_Hi u03 u02 u00 [(IV.str {data:=#[98,101,115,116]}),(IV.str (DJ u01)),(IV.str {data:=#[105,110]})]) (DK 1 (DM (GT N) (DE KH [1,1,1,1,1,1,1]) (DP (GT N) none [.tmp 4] [[.str]])))) none) (cond (u04==3) (cond u02 (cond (decide (0≤a1)&&decide (a1≤ic 5)) (DT (GT N) (DE KH [1,1,1,1,1,1,0,1,0,0]) ⟨[2,4,6,75,76,77],[2,500],[⟨(.tmp 6),500,9,false,[.str]⟩]⟩ N (MS ({data:=#[]}) 5 (AD a1) (ic (AD a1)) 0 u04 u01 u06 u05 u08 u07 u0a u09 u0c u0b u0e u0d q_Lo q_Hi u03 u02 u00 [(IV.str {data:=#[102,97,108,108,115]}),(IV.str (DJ u01)),(IV.str {data:=#[98,121]}),(IV.str (DJ u03)),(IV.str {data:=#[105,110]})]) (DK 1 (DM (GT N) (DE KH [1,1,1,1,1,1,1]) (DP (GT N) none [.tmp 4] [[.str]])))) none) (cond (decide (0≤a1)&&decide (a1≤ic 5)) (DT (GT N) (DE KH [1,1,1,1,1,1,0,1,0,0]) ⟨[2,4,6,75,76,77],[2,500],[⟨(.tmp 6),500,9,false,[.str]⟩]⟩ N (MS ({data:=#[]}) 5 (AD a1) (ic (AD a1)) 0 u04 u01 u06 u05 u08 u07 u0a u09 u0c u0b u0e u0d q_Lo q_Hi u03 u02 u00 [(IV.str {data:=#[114,105,115,101,115]}),(IV.str (DJ u01)),(IV.str {data:=#[98,121]}),(IV.str (DJ u03)),(IV.str {data:=#[105,110]})]) (DK 1 (DM (GT N) (DE KH [1,1,1,1,1,1,1]) (DP (GT N) none [.tmp 4] [[.str]])))) none)) (some ((.str ({data:=#[]})),[]))))))))) none))):=by kernel_rfl
theorem Bv (N:Nat) (s4:BA) (n6 n75:Nat) (x76 x77 u02 u03 u0a u0b u0c u0d u0e u0f u0g u0h u04 u05 u06 u07 u08:Int) (u00:Bool) (u09:Int) (u01:LI) (again:St→DH) (k:Out→St→DH):E4 (GT N) (DE KH [1,1,1,1,1,1,0,1,0,0]) (MS s4 n6 n75 x76 x77 u02 u03 u0a u0b u0c u0d u0e u0f u0g u0h u04 u05 u06 u07 u08 u00 u09 u01) (EO again ⟨[2,4,6,75,76,77],[2,500],[⟨(.tmp 6),500,9,false,[.str]⟩]⟩ k)=(cond (decide (x77 < x76)) (cond (decide (x77 < ic n75)) (cond (decide (x77=ic 0)) (cond (decide (AF (DN u0a)+AF {data:=#[46,46]}≤strMax)) (cond (decide (AF (DN u0a++{data:=#[46,46]})+AF (DN u0b)≤strMax)) (cond (decide ((n6+AG (AR 0 (AK 1 [IV.str (DN u0a++{data:=#[46,46]}++DN u0b)])))*TI.bytes (Env.tyd (GT N) 9)≤D6)) (again (MS s4 (n6+AG (AR 0 (AK 1 [IV.str (DN u0a++{data:=#[46,46]}++DN u0b)]))) n75 x76 (AA AB (x77+1)) u02 u03 u0a u0b u0c u0d u0e u0f u0g u0h u04 u05 u06 u07 u08 u00 u09 (AK n6 u01++AR 0 (AK 1 [IV.str (DN u0a++{data:=#[46,46]}++DN u0b)])))) none) none) none) (cond (decide (x77=ic 1)) (cond (decide (AF (DN u0c)+AF {data:=#[46,46]}≤strMax)) (cond (decide (AF (DN u0c++{data:=#[46,46]})+AF (DN u0d)≤strMax)) (cond (decide ((n6+AG (AR 0 (AK 1 [IV.str (DN u0c++{data:=#[46,46]}++DN u0d)])))*TI.bytes (Env.tyd (GT N) 9)≤D6)) (again (MS s4 (n6+AG (AR 0 (AK 1 [IV.str (DN u0c++{data:=#[46,46]}++DN u0d)]))) n75 x76 (AA AB (x77+1)) u02 u03 u0a u0b u0c u0d u0e u0f u0g u0h u04 u05 u06 u07 u08 u00 u09 (AK n6 u01++AR 0 (AK 1 [IV.str (DN u0c++{data:=#[46,46]}++DN u0d)])))) none) none) none) (cond (decide (x77=ic 2)) (cond (decide (AF (DN u0e)+AF {data:=#[46,46]}≤strMax)) (cond (decide (AF (DN u0e++{data:=#[46,46]})+AF (DN u0f)≤strMax)) (cond (decide ((n6+AG (AR 0 (AK 1 [IV.str (DN u0e++{data:=#[46,46]}++DN u0f)])))*TI.bytes (Env.tyd (GT N) 9)≤D6)) (again (MS s4 (n6+AG (AR 0 (AK 1 [IV.str (DN u0e++{data:=#[46,46]}++DN u0f)]))) n75 x76 (AA AB (x77+1)) u02 u03 u0a u0b u0c u0d u0e u0f u0g u0h u04 u05 u06 u07 u08 u00 u09 (AK n6 u01++AR 0 (AK 1 [IV.str (DN u0e++{data:=#[46,46]}++DN u0f)])))) none) none) none) (cond (decide (x77=ic 3)) (cond (decide (AF (DN u0g)+AF {data:=#[46,46]}≤strMax)) (cond (decide (AF (DN u0g++{data:=#[46,46]})+AF (DN u0h)≤strMax)) (cond (decide ((n6+AG (AR 0 (AK 1 [IV.str (DN u0g++{data:=#[46,46]}++DN u0h)])))*TI.bytes (Env.tyd (GT N) 9)≤D6)) (again (MS s4 (n6+AG (AR 0 (AK 1 [IV.str (DN u0g++{data:=#[46,46]}++DN u0h)]))) n75 x76 (AA AB (x77+1)) u02 u03 u0a u0b u0c u0d u0e u0f u0g u0h u04 u05 u06 u07 u08 u00 u09 (AK n6 u01++AR 0 (AK 1 [IV.str (DN u0g++{data:=#[46,46]}++DN u0h)])))) none) none) none) (cond (decide (x77=ic 4)) (cond (decide (AF (DN u04)+AF {data:=#[46,46]}≤strMax)) (cond (decide (AF (DN u04++{data:=#[46,46]})+AF (DN u05)≤strMax)) (cond (decide ((n6+AG (AR 0 (AK 1 [IV.str (DN u04++{data:=#[46,46]}++DN u05)])))*TI.bytes (Env.tyd (GT N) 9)≤D6)) (again (MS s4 (n6+AG (AR 0 (AK 1 [IV.str (DN u04++{data:=#[46,46]}++DN u05)]))) n75 x76 (AA AB (x77+1)) u02 u03 u0a u0b u0c u0d u0e u0f u0g u0h u04 u05 u06 u07 u08 u00 u09 (AK n6 u01++AR 0 (AK 1 [IV.str (DN u04++{data:=#[46,46]}++DN u05)])))) none) none) none) none))))) none) (k (.exit 1) (MS s4 n6 n75 x76 x77 u02 u03 u0a u0b u0c u0d u0e u0f u0g u0h u04 u05 u06 u07 u08 u00 u09 u01))):=by kernel_rfl
theorem Mh (N:Nat) (s4:BA) (n6 n75:Nat) (x76 x77 u02 u03 u0a u0b u0c u0d u0e u0f u0g u0h u04 u05 u06 u07 u08:Int) (u00:Bool) (u09:Int) (u01:LI):(DK 1 (DM (GT N) (DE KH [1,1,1,1,1,1,1]) (DP (GT N) none [.tmp 4] [[.str]]))) (.exit 1) (MS s4 n6 n75 x76 x77 u02 u03 u0a u0b u0c u0d u0e u0f u0g u0h u04 u05 u06 u07 u08 u00 u09 u01)=(cond (decide ((n6+AG (AR 0 (AK 2 [IV.str {data:=#[98,117,100,103,101,116]},IV.str (DJ u09)])))*TI.bytes (Env.tyd (GT N) 9)≤D6)) (cond (decide (AG (AR 0 (AK (n6+AG (AR 0 (AK 2 [IV.str {data:=#[98,117,100,103,101,116]},IV.str (DJ u09)]))) (AK n6 u01++AR 0 (AK 2 [IV.str {data:=#[98,117,100,103,101,116]},IV.str (DJ u09)]))))≤strMax)&&decide (AF (GB (A5 IV.toStr (AR 0 (AK (n6+AG (AR 0 (AK 2 [IV.str {data:=#[98,117,100,103,101,116]},IV.str (DJ u09)]))) (AK n6 u01++AR 0 (AK 2 [IV.str {data:=#[98,117,100,103,101,116]},IV.str (DJ u09)]))))) {data:=#[32]})≤strMax)) (some ((.str (GB (A5 IV.toStr (AR 0 (AK (n6+AG (AR 0 (AK 2 [IV.str {data:=#[98,117,100,103,101,116]},IV.str (DJ u09)]))) (AK n6 u01++AR 0 (AK 2 [IV.str {data:=#[98,117,100,103,101,116]},IV.str (DJ u09)]))))) {data:=#[32]})),[])) none) none):=by kernel_rfl
open Go
theorem Uf (l:List BA) (h:∀ w∈l,w.size≤100):(GB l GS).size≤101*l.length:=by
 have hs:(GB l GS).size=(Lib.join (l.map (·.data.toList)) [32]).length:=by
  show (Array.size (List.toArray _))=_;rw [vad]
 rw [hs];cases l with
 | nil=>simp [Lib.join_nil]
 | cons x r=>
  rw [AZ,Lib.join_length]
  have:∀ (r:List BA),(∀ w∈r,w.size≤100)→Lib.lens (r.map (·.data.toList))≤100*r.length:=fun r=>by
   induction r with
   | nil=>intro _; simp [Lib.lens]
   | cons y r ih=>
    intro h;have h1:=h y (AT ..);rw [QN] at h1;have h2:=ih (fun w hw=>h w (AX _ hw));rw [AZ,AN];simp only [Lib.lens,AZ,List.sum_cons] at h2 ⊢;omega
  have:=this (x :: r) h
  rw [AZ] at this;simp only [AN,B7,A7] at this ⊢;omega
theorem zdb {a b:Int} (ha:E2 a) (hb:E2 b):(WX a b).size≤82:=by
 unfold WX;have h1:=(WL a ha).2;have h2:=(WL b hb).2;have h3:AF gE=2:=rfl;rw [AP,AP,h3];omega
theorem u6 {n:Int} (h:E2 n):(DJ n).size≤21:=ZZ h.1 h.2
structure Qy.In (q:Qy):Prop where
 k:E2 q.k
 c:E2 q.c
 a0:E2 q.a0
 b0:E2 q.b0
 a1:E2 q.a1
 b1:E2 q.b1
 a2:E2 q.a2
 b2:E2 q.b2
 a3:E2 q.a3
 b3:E2 q.b3
 a4:E2 q.a4
 b4:E2 q.b4
 lo:E2 q.lo
 hi:E2 q.hi
 ft:E2 q.ft
 bu:E2 q.bu
open Go Go.Proofs
abbrev iA (q:Qy):Ob:=.box [.int .i64 q.k,.int .i64 q.c,.int .i64 q.a0,.int .i64 q.b0,.int .i64 q.a1,.int .i64 q.b1,.int .i64 q.a2,.int .i64 q.b2,.int .i64 q.a3,.int .i64 q.b3,.int .i64 q.a4,.int .i64 q.b4,.int .i64 q.lo,.int .i64 q.hi,.int .i64 q.ft,.bool q.fl,.int .i64 q.bu]
abbrev fT (q:Qy) (s4:BA) (W:LI) (D:Nat) (i:Int):St:=⟨[(2,(.ptr 2 0 0)),(4,(.str s4)),(6,(.row 500 0 W.length)),(75,(.bview 2 2 5 2 D)),(76,(.int .i64 (ic D))),(77,(.int .i64 i))],[(2,(some (iA q))),(500,(some (.row true 9 false [.str] W)))]⟩
theorem Dl (N:Nat):TI.bytes (Env.tyd (GT N) 9)=16:=by rfl
theorem zaY (N:Nat) (q:Qy) (hq:q.In) (s4:BA) (W:LI) (hW:W.length≤20) (hs:∀ w∈W,w.toStr.size≤100) (D:Nat) (i:Int) :
  (DK 1 (DM (GT N) (DE KH [1,1,1,1,1,1,1]) (DP (GT N) none [(CA 4)] [[.str]]))) (.exit 1) (fT q s4 W D i)=some (.str (GB (W.map IV.toStr++[U0,DJ q.bu]) GS),[]):=by
 refine (Mh N s4 W.length D (ic D) i q.k q.c q.a0 q.b0 q.a1 q.b1 q.a2 q.b2 q.a3 q.b3 q.a4 q.b4 q.lo q.hi q.ft q.fl q.bu W).trans ?_;have e2:(AR 0 (AK 2 [IV.str { data:=#[98,117,100,103,101,116] },IV.str (DJ q.bu)]))=[IV.str { data:=#[98,117,100,103,101,116] },IV.str (DJ q.bu)]:=rfl;rw [Dl,e2,BS];have e3:AR 0 (AK (W.length+AG [IV.str { data:=#[98,117,100,103,101,116] },IV.str (DJ q.bu)]) (W++[IV.str { data:=#[98,117,100,103,101,116] },IV.str (DJ q.bu)]))=W++[IV.str { data:=#[98,117,100,103,101,116] },IV.str (DJ q.bu)]:=by
  rw [B4,CV (by simp)]
 rw [e3];have e4:A5 IV.toStr (W++[IV.str { data:=#[98,117,100,103,101,116] },IV.str (DJ q.bu)])=W.map IV.toStr++[U0,DJ q.bu]:=by simp [IV.toStr]
 rw [e4];have hz:=Uf (W.map IV.toStr++[U0,DJ q.bu]) (fun w hw=>by
  rcases AV.1 hw with h | h
  ·obtain ⟨x,hx,rfl⟩:=CY.1 h;exact hs x hx
  ·simp only [AU,CL,C1] at h;rcases h with rfl | rfl
   ·decide
   ·have:=u6 hq.bu
    omega)
 simp only [AW,B7,AN,A7] at hz ⊢;rw [AE (show (W.length+(0+1+1))*16≤D6 by unfold D6; omega),DC,AE (show W.length+(0+1+1)≤strMax by unfold strMax; omega),
  AE (show AF (GB (W.map IV.toStr++[U0,DJ q.bu]) { data:=#[32] })≤strMax from CZ hz (by unfold strMax; omega)),CE,DC]
def fQ (a b:Int):IV:=.str (WX a b)
theorem za1 (N:Nat) (q:Qy) (s4:BA) (W:LI) (hW:W.length≤20) (D i:Nat) (hiD:i < D) (a b:Int) (again:St→DH) (k:Out→St→DH) (ha:E2 a) (hb:E2 b)
  (hab:(i=0∧a=q.a0∧b=q.b0)∨(i=1∧a=q.a1∧b=q.b1)∨(i=2∧a=q.a2∧b=q.b2)∨(i=3∧a=q.a3∧b=q.b3)) :
  E4 (GT N) (DE KH [1,1,1,1,1,1,0,1,0,0]) (fT q s4 W D (i:Int)) (EO again ⟨[2,4,6,75,76,77],[2,500],[⟨.tmp 6,500,9,false,[.str]⟩]⟩ k)=again (fT q s4 (W++[fQ a b]) D ((i+1:Nat):Int)):=by
 refine (Bv N s4 W.length D (ic D) i q.k q.c q.a0 q.b0 q.a1 q.b1 q.a2 q.b2 q.a3 q.b3 q.a4 q.b4 q.lo q.hi q.ft q.fl q.bu W again k).trans ?_;have d1:decide ((i:Int) < ic D)=true:=AE (by simp only [ic]; omega);rw [d1,DC,DC];have h3:AF { data:=#[46,46] }=2:=rfl;have sz:∀ x y:Int,E2 x→E2 y→decide (AF (DN x)+AF { data:=#[46,46] }≤strMax)=true∧decide (AF (DN x++{ data:=#[46,46] })+AF (DN y)≤strMax)=true:=fun x y hx hy=>by
  have h1:=(WL x hx).2;have h2:=(WL y hy).2;refine ⟨AE (by rw [h3]; unfold strMax; omega),AE (by rw [AP,h3]; unfold strMax; omega)⟩
 have e1:∀ x:IV,(AR 0 (AK 1 [x]))=[x]:=fun _=>rfl
 have g16:∀ x:IV,decide ((W.length+AG [x])*TI.bytes (Env.tyd (GT N) 9)≤D6)=true:=fun x=>AE (by rw [Dl]; simp only [AN,A7]; unfold D6; omega)
 have hl:∀ x:IV,W.length+AG [x]=(W++[x]).length:=fun x=>by simp
 obtain ⟨s1,s2⟩:=sz a b ha hb;simp only [e1,g16,DC,BS];rcases hab with ⟨rfl,rfl,rfl⟩ | ⟨rfl,rfl,rfl⟩ | ⟨rfl,rfl,rfl⟩ | ⟨rfl,rfl,rfl⟩
 ·rw [s1,s2,show decide (((0:Nat):Int)=ic 0)=true from rfl,DC,DC,DC,hl];rfl
 ·rw [s1,s2,show decide (((1:Nat):Int)=ic 0)=false from rfl,show decide (((1:Nat):Int)=ic 1)=true from rfl,DD,DC,DC,DC,hl];rfl
 ·rw [s1,s2,show decide (((2:Nat):Int)=ic 0)=false from rfl,show decide (((2:Nat):Int)=ic 1)=false from rfl,show decide (((2:Nat):Int)=ic 2)=true from rfl,DD,DD,DC,DC,DC,hl];rfl
 ·rw [s1,s2,show decide (((3:Nat):Int)=ic 0)=false from rfl,show decide (((3:Nat):Int)=ic 1)=false from rfl,show decide (((3:Nat):Int)=ic 2)=false from rfl,show decide (((3:Nat):Int)=ic 3)=true from rfl,DD,DD,DD,DC,DC,DC,hl];rfl
theorem yD (N:Nat) (q:Qy) (hq:q.In) (s4:BA) (D:Nat) (hD:D≤4) :
  ∀ (d i n:Nat) (W:LI),i+d=D→d < n→W.length+d≤20→(∀ w∈W,w.toStr.size≤100) →
   DT (GT N) (DE KH [1,1,1,1,1,1,0,1,0,0]) ⟨[2,4,6,75,76,77],[2,500],[⟨.tmp 6,500,9,false,[.str]⟩]⟩ n (fT q s4 W D (i:Int)) (DK 1 (DM (GT N) (DE KH [1,1,1,1,1,1,1]) (DP (GT N) none [(CA 4)] [[.str]]))) =
    some (.str (GB (W.map IV.toStr++(((q.spans.take D).drop i).map fun s=>WX s.1 s.2)++[U0,DJ q.bu]) GS),[])
 | 0,i,n+1,W,hd,hn,hW,hs=>by
  have hi:i=D:=by omega
  rw [D2];refine (Bv N s4 W.length D (ic D) i q.k q.c q.a0 q.b0 q.a1 q.b1 q.a2 q.b2 q.a3 q.b3 q.a4 q.b4 q.lo q.hi q.ft q.fl q.bu W _ _).trans ?_;rw [AL (show ¬ (i:Int) < ic D by simp only [ic]; omega),DD];refine (zaY N q hq s4 W (by omega) hs D i).trans ?_;rw [CN (by rw [A8]; omega)];simp
 | d+1,i,n+1,W,hd,hn,hW,hs=>by
  obtain ⟨a,b,ha,hb,hab,hsp⟩:∃ a b,E2 a∧E2 b∧((i=0∧a=q.a0∧b=q.b0)∨(i=1∧a=q.a1∧b=q.b1)∨(i=2∧a=q.a2∧b=q.b2)∨(i=3∧a=q.a3∧b=q.b3))∧(q.spans.take D).drop i=(a,b) :: (q.spans.take D).drop (i+1):=by
   have hi:i=0∨i=1∨i=2∨i=3:=by omega
   have hDD:D=0∨D=1∨D=2∨D=3∨D=4:=by omega
   rcases hi with rfl | rfl | rfl | rfl
   ·exact ⟨q.a0,q.b0,hq.a0,hq.b0,.inl ⟨rfl,rfl,rfl⟩,by rcases hDD with rfl | rfl | rfl | rfl | rfl <;> first | rfl | omega⟩
   ·exact ⟨q.a1,q.b1,hq.a1,hq.b1,.inr (.inl ⟨rfl,rfl,rfl⟩),by rcases hDD with rfl | rfl | rfl | rfl | rfl <;> first | rfl | omega⟩
   ·exact ⟨q.a2,q.b2,hq.a2,hq.b2,.inr (.inr (.inl ⟨rfl,rfl,rfl⟩)),by rcases hDD with rfl | rfl | rfl | rfl | rfl <;> first | rfl | omega⟩
   ·exact ⟨q.a3,q.b3,hq.a3,hq.b3,.inr (.inr (.inr ⟨rfl,rfl,rfl⟩)),by rcases hDD with rfl | rfl | rfl | rfl | rfl <;> first | rfl | omega⟩
  rw [D2,za1 N q s4 W (by omega) D i (by omega) a b _ _ ha hb hab,hsp];have ih:=yD N q hq s4 D hD d (i+1) n (W++[fQ a b]) (by omega) (by omega) (by simp only [AW,AN,A7]; omega) (fun w hw=>by
   rcases AV.1 hw with h | h
   ·exact hs w h
   ·rw [BU] at h;subst h
    have:=zdb ha hb
    simp only [fQ,IV.toStr];omega)
  refine ih.trans ?_;simp [fQ,IV.toStr]
 | _,_,0,_,_,h,_,_=>by omega
theorem zbW:DQ PR B0 18 XJ:=by
 refine D1 [(42,XL),(41,XM),(44,PX),(43,OR),(45,VI)] [(18,⟨[2,4,6,75,76,77],[2,500],[⟨.tmp 6,500,9,false,[.str]⟩]⟩)] XJ [[.str]] Tryz.func18 Pf
  ⟨zbY,zbZ,nA,fO,Av,trivial⟩ ?_
 intro vs r hwf h;unfold XJ at h;split at h
 ·rename_i k c a0 b0 a1 b1 a2 b2 a3 b3 a4 b4 lo hi ft fl bu d;refine ⟨20,?_⟩;rw [R.get_ok] at h;rw [← h];refine (Vu 20 k c a0 b0 a1 b1 a2 b2 a3 b3 a4 b4 lo hi ft fl bu d).trans ?_;have hb:=hwf (by simp [KU]);have hq:Qy.In ⟨k,c,a0,b0,a1,b1,a2,b2,a3,b3,a4,b4,lo,hi,ft,fl,bu⟩:=by
   have:=hb.1
   simp only [PL,wfLs,wfL,BX,vaZ] at this;obtain ⟨h1,h2,h3,h4,h5,h6,h7,h8,h9,h10,h11,h12,h13,h14,h15,h16⟩:=this;exact ⟨h1,h2,h3,h4,h5,h6,h7,h8,h9,h10,h11,h12,h13,h14,h15,h16⟩
  show cond (decide (d < 1)) _ (cond (decide (d > 4)) _ (cond _ (cond (!(Qy.eq ⟨k,c,a0,b0,a1,b1,a2,b2,a3,b3,a4,b4,lo,hi,ft,fl,bu⟩ (FZ ⟨k,c,a0,b0,a1,b1,a2,b2,a3,b3,a4,b4,lo,hi,ft,fl,bu⟩ d))) _ _) _))=_;generalize hQ:(⟨k,c,a0,b0,a1,b1,a2,b2,a3,b3,a4,b4,lo,hi,ft,fl,bu⟩:Qy)=q at hq ⊢;unfold aR xD;cases h1:decide (d < 1) with
  | true=>simp only [DC,DD,A2,BV]
  | false=>
   cases h4:decide (d > 4) with
   | true=>simp only [DC,DD,A2,BB,BV,vau]
   | false=>
    have h1:=BE h1;have h4:=BE h4;rw [AE (show 0≤d by omega),AE (show d≤5 by omega),AE (show d≤ic 5 by simp only [ic]; omega)];simp only [CE,DC,DD,BB,BH];cases he:q.eq (FZ q d) with
    | false=>simp only [BB,DC,DD,BV]
    | true=>
     have ec:q.c=c:=by rw [← hQ]
     have ef:q.ft=ft:=by rw [← hQ]
     have eb:q.bu=bu:=by rw [← hQ]
     have ek:q.k=k:=by rw [← hQ]
     rw [ec,ef,eb,ek];cases hc:N8 c with
     | false=>simp only [A2,BB,DC,DD,BV,BH]
     | true=>
      cases hf:N8 ft with
      | false=>simp only [A2,BB,DC,DD,BV,BH]
      | true=>
       cases hbu:N8 bu with
       | false=>simp only [A2,BB,DC,DD,BV,BH]
       | true=>
        simp only [A2,DD,BH];have hDn:d.toNat≤4:=by omega
        have run:=fun (W:LI) (hW:W.length≤16) (hs:∀ w∈W,w.toStr.size≤100)=>yD 20 q hq ⟨#[]⟩ d.toNat hDn d.toNat 0 20 W (by omega) (by omega) (by omega) hs
        have zi:∀ {n:Int},E2 n→(DJ n).size≤100:=fun h=>by have:=u6 h; omega
        have zp:∀ {n:Int},E2 n→(DN n).size≤100:=fun h=>by have:=(WL _ h).2; omega
        have fin:∀ (W:LI) (l:List BA),W.map IV.toStr=l++[SK]→V5 q=l→GB (W.map IV.toStr++(((q.spans.take d.toNat).drop 0).map fun s=>WX s.1 s.2)++[U0,DJ q.bu]) GS=GB (oN q d.toNat) GS:=fun W l hWl hl=>by
         unfold oN;rw [hWl,hl,B4];simp
        subst hQ;cases k1:(k==1) with
        | true=>
         simp only [DC,Bool.true_or];refine (run [IV.str W4,IV.str (DJ c),IV.str oF,IV.str (DN lo),IV.str oI,IV.str (DN hi),IV.str SK] (by simp) (fun w hw=>?_)).trans ?_
         ·simp only [AU,CL,C1] at hw;rcases hw with rfl | rfl | rfl | rfl | rfl | rfl | rfl
          ·decide
          ·exact zi hq.c
          ·decide
          ·exact zp hq.lo
          ·decide
          ·exact zp hq.hi
          ·decide
         ·rw [fin _ [W4,DJ c,oF,DN lo,oI,DN hi] rfl (by unfold V5; simp only [k1,DC])]
        | false=>
         simp only [DD,vaB];cases k2:(k==2) with
         | true=>
          simp only [DC,Bool.true_or];refine (run [IV.str W2,IV.str (DJ c),IV.str SK] (by simp) (fun w hw=>?_)).trans ?_
          ·simp only [AU,CL,C1] at hw;rcases hw with rfl | rfl | rfl
           ·decide
           ·exact zi hq.c
           ·decide
          ·rw [fin _ [W2,DJ c] rfl (by unfold V5; simp only [k1,k2,DC,DD])]
         | false=>
          simp only [DD,vaB];cases k3:(k==3) with
          | false=>simp only [DD]
          | true=>
           simp only [DC];cases fl with
           | true=>
            simp only [DC];refine (run [IV.str U1,IV.str (DJ c),IV.str bQ,IV.str (DJ ft),IV.str SK] (by simp) (fun w hw=>?_)).trans ?_
            ·simp only [AU,CL,C1] at hw;rcases hw with rfl | rfl | rfl | rfl | rfl
             ·decide
             ·exact zi hq.c
             ·decide
             ·exact zi hq.ft
             ·decide
            ·rw [fin _ [U1,DJ c,bQ,DJ ft] rfl (by unfold V5; simp only [k1,k2,DC,DD])]
           | false=>
            simp only [DD];refine (run [IV.str W5,IV.str (DJ c),IV.str bQ,IV.str (DJ ft),IV.str SK] (by simp) (fun w hw=>?_)).trans ?_
            ·simp only [AU,CL,C1] at hw;rcases hw with rfl | rfl | rfl | rfl | rfl
             ·decide
             ·exact zi hq.c
             ·decide
             ·exact zi hq.ft
             ·decide
            ·rw [fin _ [W5,DJ c,bQ,DJ ft] rfl (by unfold V5; simp only [k1,k2,DD])]
 ·simp [R.get] at h
open Go Go.Proofs
def NJ (N:Nat):Env:=DZ [(18,XJ),(121,SY),(119,XK),(120,SZ),(118,Y5),(104,VH),(46,OS)] [(9,⟨[0,2,3,4,5,7,8,9,45,46,47],[2,9],[]⟩)] 82 N
abbrev PN (s0:BA) (x3:Int) (b4:Bool) (l5:LI) (x7 x8:Int) (l45:LI) (x46 x47 u02 u03 u0a u0b u0c u0d u0e u0f u0g u0h u04 u05 u06 u07 u08:Int) (u00:Bool) (u09 u0i u0j u0q u0r u0s u0t u0u u0v u0w u0x u0k u0l u0m u0n u0o:Int) (u01:Bool) (u0p:Int):St:=⟨[(0,(.str s0)),(2,(.ptr 2 0 0)),(3,(.i x3)),(4,(.bool b4)),(5,(.list false [.str] l5)),(7,(.i x7)),(8,(.i x8)),(9,(.ptr 9 0 0)),(45,(.list false [.str] l45)),(46,(.i x46)),(47,(.i x47))],[(2,(some (.box [.i u02,.i u03,.i u0a,.i u0b,.i u0c,.i u0d,.i u0e,.i u0f,.i u0g,.i u0h,.i u04,.i u05,.i u06,.i u07,.i u08,.bool u00,.i u09]))),(9,(some (.box [.i u0i,.i u0j,.i u0q,.i u0r,.i u0s,.i u0t,.i u0u,.i u0v,.i u0w,.i u0x,.i u0k,.i u0l,.i u0m,.i u0n,.i u0o,.bool u01,.i u0p])))]⟩
theorem Vt (N:Nat) (s:BA):DS (NJ N) P3 [.cell 2 38,.tmp 3,.tmp 4] [[.z,.z,.z,.z,.z,.z,.z,.z,.z,.z,.z,.z,.z,.z,.z,.bool,.z],[.z],[.bool]] [.str s]=(cond (decide (AF s < 4294967281)&&decide (1≤AF {data:=#[32]})) (cond (decide (FX (A5 IV.str (D5 s {data:=#[32]})) {data:=#[105,110]} 0 < 0)) (some ((.tup [.agg [.i 0,.i 0,.i 0,.i 0,.i 0,.i 0,.i 0,.i 0,.i 0,.i 0,.i 0,.i 0,.i 0,.i 0,.i 0,.bool false,.i 0],.i 0,.bool false]),[])) (cond (decide (AA AB (AA AB (AA AB (ic (AG (A5 IV.str (D5 s {data:=#[32]}))) - 2) - FX (A5 IV.str (D5 s {data:=#[32]})) {data:=#[105,110]} 0) - 1) < 1)) (some ((.tup [.agg [.i 0,.i 0,.i 0,.i 0,.i 0,.i 0,.i 0,.i 0,.i 0,.i 0,.i 0,.i 0,.i 0,.i 0,.i 0,.bool false,.i 0],.i 0,.bool false]),[])) (cond (decide (AA AB (AA AB (AA AB (ic (AG (A5 IV.str (D5 s {data:=#[32]}))) - 2) - FX (A5 IV.str (D5 s {data:=#[32]})) {data:=#[105,110]} 0) - 1) > 4)) (some ((.tup [.agg [.i 0,.i 0,.i 0,.i 0,.i 0,.i 0,.i 0,.i 0,.i 0,.i 0,.i 0,.i 0,.i 0,.i 0,.i 0,.bool false,.i 0],.i 0,.bool false]),[])) (cond (decide (0≤FX (A5 IV.str (D5 s {data:=#[32]})) {data:=#[105,110]} 0)&&decide (FX (A5 IV.str (D5 s {data:=#[32]})) {data:=#[105,110]} 0≤ic (AG (A5 IV.str (D5 s {data:=#[32]}))))) (cond (decide (AG (AR 0 (AK (AD (FX (A5 IV.str (D5 s {data:=#[32]})) {data:=#[105,110]} 0)) (A5 IV.str (D5 s {data:=#[32]}))))≤4294967290)&&List.all (AR 0 (AK (AD (FX (A5 IV.str (D5 s {data:=#[32]})) {data:=#[105,110]} 0)) (A5 IV.str (D5 s {data:=#[32]})))) fun x=>decide (AF (IV.toStr x) < 4294967281)) (cond (decide (0≤AA AB (FX (A5 IV.str (D5 s {data:=#[32]})) {data:=#[105,110]} 0+1))&&(decide (AA AB (FX (A5 IV.str (D5 s {data:=#[32]})) {data:=#[105,110]} 0+1)≤AA AB (ic (AG (A5 IV.str (D5 s {data:=#[32]}))) - 2))&&decide (AA AB (ic (AG (A5 IV.str (D5 s {data:=#[32]}))) - 2)≤ic (AG (A5 IV.str (D5 s {data:=#[32]})))))) (DT (NJ N) (DE P3 [1,1,1,1,1,1,1,0,1,0,0]) ⟨[0,2,3,4,5,7,8,9,45,46,47],[2,9],[]⟩ N (PN s 0 false (A5 IV.str (D5 s {data:=#[32]})) (AA AB (ic (AG (A5 IV.str (D5 s {data:=#[32]}))) - 2)) (AA AB (AA AB (AA AB (ic (AG (A5 IV.str (D5 s {data:=#[32]}))) - 2) - FX (A5 IV.str (D5 s {data:=#[32]})) {data:=#[105,110]} 0) - 1)) (AR (AD (AA AB (FX (A5 IV.str (D5 s {data:=#[32]})) {data:=#[105,110]} 0+1))) (AK (AD (AA AB (ic (AG (A5 IV.str (D5 s {data:=#[32]}))) - 2))) (A5 IV.str (D5 s {data:=#[32]})))) (ic (AG (AR (AD (AA AB (FX (A5 IV.str (D5 s {data:=#[32]})) {data:=#[105,110]} 0+1))) (AK (AD (AA AB (ic (AG (A5 IV.str (D5 s {data:=#[32]}))) - 2))) (A5 IV.str (D5 s {data:=#[32]})))))) 0 0 0 0 0 0 0 0 0 0 0 0 0 0 0 0 false 0 (Qy.k (EJ (AR 0 (AK (AD (FX (A5 IV.str (D5 s {data:=#[32]})) {data:=#[105,110]} 0)) (A5 IV.str (D5 s {data:=#[32]})))))) (Qy.c (EJ (AR 0 (AK (AD (FX (A5 IV.str (D5 s {data:=#[32]})) {data:=#[105,110]} 0)) (A5 IV.str (D5 s {data:=#[32]})))))) (Qy.a0 (EJ (AR 0 (AK (AD (FX (A5 IV.str (D5 s {data:=#[32]})) {data:=#[105,110]} 0)) (A5 IV.str (D5 s {data:=#[32]})))))) (Qy.b0 (EJ (AR 0 (AK (AD (FX (A5 IV.str (D5 s {data:=#[32]})) {data:=#[105,110]} 0)) (A5 IV.str (D5 s {data:=#[32]})))))) (Qy.a1 (EJ (AR 0 (AK (AD (FX (A5 IV.str (D5 s {data:=#[32]})) {data:=#[105,110]} 0)) (A5 IV.str (D5 s {data:=#[32]})))))) (Qy.b1 (EJ (AR 0 (AK (AD (FX (A5 IV.str (D5 s {data:=#[32]})) {data:=#[105,110]} 0)) (A5 IV.str (D5 s {data:=#[32]})))))) (Qy.a2 (EJ (AR 0 (AK (AD (FX (A5 IV.str (D5 s {data:=#[32]})) {data:=#[105,110]} 0)) (A5 IV.str (D5 s {data:=#[32]})))))) (Qy.b2 (EJ (AR 0 (AK (AD (FX (A5 IV.str (D5 s {data:=#[32]})) {data:=#[105,110]} 0)) (A5 IV.str (D5 s {data:=#[32]})))))) (Qy.a3 (EJ (AR 0 (AK (AD (FX (A5 IV.str (D5 s {data:=#[32]})) {data:=#[105,110]} 0)) (A5 IV.str (D5 s {data:=#[32]})))))) (Qy.b3 (EJ (AR 0 (AK (AD (FX (A5 IV.str (D5 s {data:=#[32]})) {data:=#[105,110]} 0)) (A5 IV.str (D5 s {data:=#[32]})))))) (Qy.a4 (EJ (AR 0 (AK (AD (FX (A5 IV.str (D5 s {data:=#[32]})) {data:=#[105,110]} 0)) (A5 IV.str (D5 s {data:=#[32]})))))) (Qy.b4 (EJ (AR 0 (AK (AD (FX (A5 IV.str (D5 s {data:=#[32]})) {data:=#[105,110]} 0)) (A5 IV.str (D5 s {data:=#[32]})))))) (Qy.lo (EJ (AR 0 (AK (AD (FX (A5 IV.str (D5 s {data:=#[32]})) {data:=#[105,110]} 0)) (A5 IV.str (D5 s {data:=#[32]})))))) (Qy.hi (EJ (AR 0 (AK (AD (FX (A5 IV.str (D5 s {data:=#[32]})) {data:=#[105,110]} 0)) (A5 IV.str (D5 s {data:=#[32]})))))) (Qy.ft (EJ (AR 0 (AK (AD (FX (A5 IV.str (D5 s {data:=#[32]})) {data:=#[105,110]} 0)) (A5 IV.str (D5 s {data:=#[32]})))))) (Qy.fl (EJ (AR 0 (AK (AD (FX (A5 IV.str (D5 s {data:=#[32]})) {data:=#[105,110]} 0)) (A5 IV.str (D5 s {data:=#[32]})))))) (Qy.bu (EJ (AR 0 (AK (AD (FX (A5 IV.str (D5 s {data:=#[32]})) {data:=#[105,110]} 0)) (A5 IV.str (D5 s {data:=#[32]}))))))) (DK 0 (DM (NJ N) (DE P3 [1,1,1,1,1,1,1,1]) (DP (NJ N) none [.cell 2 38,.tmp 3,.tmp 4] [[.z,.z,.z,.z,.z,.z,.z,.z,.z,.z,.z,.z,.z,.z,.z,.bool,.z],[.z],[.bool]])))) none) none) none)))) none):=by kernel_rfl
theorem Bu (N:Nat) (s0:BA) (x3:Int) (b4:Bool) (l5:LI) (x7 x8:Int) (l45:LI) (x46 x47 u02 u03 u0a u0b u0c u0d u0e u0f u0g u0h u04 u05 u06 u07 u08:Int) (u00:Bool) (u09 u0i u0j u0q u0r u0s u0t u0u u0v u0w u0x u0k u0l u0m u0n u0o:Int) (u01:Bool) (u0p:Int) (again:St→DH) (k:Out→St→DH):E4 (NJ N) (DE P3 [1,1,1,1,1,1,1,0,1,0,0]) (PN s0 x3 b4 l5 x7 x8 l45 x46 x47 u02 u03 u0a u0b u0c u0d u0e u0f u0g u0h u04 u05 u06 u07 u08 u00 u09 u0i u0j u0q u0r u0s u0t u0u u0v u0w u0x u0k u0l u0m u0n u0o u01 u0p) (EO again ⟨[0,2,3,4,5,7,8,9,45,46,47],[2,9],[]⟩ k)=(cond (decide (x47 < x46)) (cond (decide (0≤x47)&&decide (x47 < ic (AG l45))) (cond (decide (AF (IV.toStr (AI l45 (AD x47) default)) < 4294967281)) (cond (decide (AF (cutL (IV.toStr (AI l45 (AD x47) default)) {data:=#[46,46]}) < 4294967281)) (cond (decide (AF (GQ (IV.toStr (AI l45 (AD x47) default)) {data:=#[46,46]}) < 4294967281)) (cond (decide (x47=ic 0)) (again (PN s0 x3 b4 l5 x7 x8 l45 x46 (AA AB (x47+1)) u02 u03 u0a u0b u0c u0d u0e u0f u0g u0h u04 u05 u06 u07 u08 u00 u09 u0i u0j (FR (cutL (IV.toStr (AI l45 (AD x47) default)) {data:=#[46,46]})) (FR (GQ (IV.toStr (AI l45 (AD x47) default)) {data:=#[46,46]})) u0s u0t u0u u0v u0w u0x u0k u0l u0m u0n u0o u01 u0p)) (cond (decide (x47=ic 1)) (again (PN s0 x3 b4 l5 x7 x8 l45 x46 (AA AB (x47+1)) u02 u03 u0a u0b u0c u0d u0e u0f u0g u0h u04 u05 u06 u07 u08 u00 u09 u0i u0j u0q u0r (FR (cutL (IV.toStr (AI l45 (AD x47) default)) {data:=#[46,46]})) (FR (GQ (IV.toStr (AI l45 (AD x47) default)) {data:=#[46,46]})) u0u u0v u0w u0x u0k u0l u0m u0n u0o u01 u0p)) (cond (decide (x47=ic 2)) (again (PN s0 x3 b4 l5 x7 x8 l45 x46 (AA AB (x47+1)) u02 u03 u0a u0b u0c u0d u0e u0f u0g u0h u04 u05 u06 u07 u08 u00 u09 u0i u0j u0q u0r u0s u0t (FR (cutL (IV.toStr (AI l45 (AD x47) default)) {data:=#[46,46]})) (FR (GQ (IV.toStr (AI l45 (AD x47) default)) {data:=#[46,46]})) u0w u0x u0k u0l u0m u0n u0o u01 u0p)) (cond (decide (x47=ic 3)) (again (PN s0 x3 b4 l5 x7 x8 l45 x46 (AA AB (x47+1)) u02 u03 u0a u0b u0c u0d u0e u0f u0g u0h u04 u05 u06 u07 u08 u00 u09 u0i u0j u0q u0r u0s u0t u0u u0v (FR (cutL (IV.toStr (AI l45 (AD x47) default)) {data:=#[46,46]})) (FR (GQ (IV.toStr (AI l45 (AD x47) default)) {data:=#[46,46]})) u0k u0l u0m u0n u0o u01 u0p)) (cond (decide (x47=ic 4)) (again (PN s0 x3 b4 l5 x7 x8 l45 x46 (AA AB (x47+1)) u02 u03 u0a u0b u0c u0d u0e u0f u0g u0h u04 u05 u06 u07 u08 u00 u09 u0i u0j u0q u0r u0s u0t u0u u0v u0w u0x (FR (cutL (IV.toStr (AI l45 (AD x47) default)) {data:=#[46,46]})) (FR (GQ (IV.toStr (AI l45 (AD x47) default)) {data:=#[46,46]})) u0m u0n u0o u01 u0p)) none))))) none) none) none) none) (k (.exit 0) (PN s0 x3 b4 l5 x7 x8 l45 x46 x47 u02 u03 u0a u0b u0c u0d u0e u0f u0g u0h u04 u05 u06 u07 u08 u00 u09 u0i u0j u0q u0r u0s u0t u0u u0v u0w u0x u0k u0l u0m u0n u0o u01 u0p))):=by kernel_rfl
theorem Mg (N:Nat) (s0:BA) (x3:Int) (b4:Bool) (l5:LI) (x7 x8:Int) (l45:LI) (x46 x47 u02 u03 u0a u0b u0c u0d u0e u0f u0g u0h u04 u05 u06 u07 u08:Int) (u00:Bool) (u09 u0i u0j u0q u0r u0s u0t u0u u0v u0w u0x u0k u0l u0m u0n u0o:Int) (u01:Bool) (u0p:Int):(DK 0 (DM (NJ N) (DE P3 [1,1,1,1,1,1,1,1]) (DP (NJ N) none [.cell 2 38,.tmp 3,.tmp 4] [[.z,.z,.z,.z,.z,.z,.z,.z,.z,.z,.z,.z,.z,.z,.z,.bool,.z],[.z],[.bool]]))) (.exit 0) (PN s0 x3 b4 l5 x7 x8 l45 x46 x47 u02 u03 u0a u0b u0c u0d u0e u0f u0g u0h u04 u05 u06 u07 u08 u00 u09 u0i u0j u0q u0r u0s u0t u0u u0v u0w u0x u0k u0l u0m u0n u0o u01 u0p)=(cond (decide (0≤AA AB (x7+1))&&decide (AA AB (x7+1) < ic (AG l5))) (cond (!A3 (aR {k:=u0i,c:=u0j,a0:=u0q,b0:=u0r,a1:=u0s,b1:=u0t,a2:=u0u,b2:=u0v,a3:=u0w,b3:=u0x,a4:=u0k,b4:=u0l,lo:=u0m,hi:=u0n,ft:=u0o,fl:=u01,bu:=FP (IV.toStr (AI l5 (AD (AA AB (x7+1))) default))} x8)==A3 s0) (some ((.tup [.agg [.i 0,.i 0,.i 0,.i 0,.i 0,.i 0,.i 0,.i 0,.i 0,.i 0,.i 0,.i 0,.i 0,.i 0,.i 0,.bool false,.i 0],.i 0,.bool false]),[])) (some ((.tup [.agg [.i u0i,.i u0j,.i u0q,.i u0r,.i u0s,.i u0t,.i u0u,.i u0v,.i u0w,.i u0x,.i u0k,.i u0l,.i u0m,.i u0n,.i u0o,.bool u01,.i (FP (IV.toStr (AI l5 (AD (AA AB (x7+1))) default)))],.i x8,.bool true]),[]))) none):=by kernel_rfl
open Go Go.Proofs
theorem Tp (l:LI):(EJ l).a0=0∧(EJ l).b0=0∧(EJ l).a1=0∧(EJ l).b1=0∧(EJ l).a2=0∧(EJ l).b2=0∧(EJ l).a3=0∧(EJ l).b3=0∧(EJ l).a4=0∧(EJ l).b4=0∧(EJ l).bu=0:=by
 unfold EJ;cases ((DU l 0).toList==W4.toList) <;> cases ((DU l 0).toList==W2.toList) <;> cases ((DU l 0).toList==W5.toList||(DU l 0).toList==U1.toList) <;> exact ⟨rfl,rfl,rfl,rfl,rfl,rfl,rfl,rfl,rfl,rfl,rfl⟩
def rq (l:LI) (i d:Nat):Qy:=
 ⟨(
  EJ (l.take i)).k,(EJ (l.take i)).c,
  cond (BJ 0 d) (SD l (i+1)) 0,cond (BJ 0 d) (SE l (i+1)) 0,cond (BJ 1 d) (SD l (i+2)) 0,cond (BJ 1 d) (SE l (i+2)) 0,cond (BJ 2 d) (SD l (i+3)) 0,cond (BJ 2 d) (SE l (i+3)) 0,cond (BJ 3 d) (SD l (i+4)) 0,cond (BJ 3 d) (SE l (i+4)) 0,0,0,
  (EJ (l.take i)).lo,(EJ (l.take i)).hi,(EJ (l.take i)).ft,(EJ (l.take i)).fl,0⟩
theorem zbx (l:LI) (i:Nat):EJ (l.take i)=rq l i 0:=by
 obtain ⟨h1,h2,h3,h4,h5,h6,h7,h8,h9,h10,h11⟩:=Tp (l.take i);unfold rq;generalize EJ (l.take i)=q at *;cases q;simp only at *;subst h1 h2 h3 h4 h5 h6 h7 h8 h9 h10 h11;rfl
abbrev fU (s:BA) (W:LI) (x7 x8:Int) (L:LI) (q:Qy) (i:Int):St:=
 ⟨[(0,(.str s)),(2,(.ptr 2 0 0)),(3,(.int .i64 0)),(4,(.bool false)),(5,(.list false [.str] W)),(7,(.int .i64 x7)),(8,(.int .i64 x8)),(9,(.ptr 9 0 0)),(45,(.list false [.str] L)),(46,(.int .i64 (ic L.length))),(47,(.int .i64 i))],[(2,(some (iA Qy.none))),(9,(some (iA q)))]⟩
theorem Lf (w sep:BA) (h:w.size < 4294967281):decide (AF w < 4294967281)=true∧decide (AF (cutL w sep) < 4294967281)=true∧decide (AF (GQ w sep) < 4294967281)=true:=by
 obtain ⟨h1,h2⟩:=tA w sep;exact ⟨AE h,AE (by omega),AE (by omega)⟩
theorem zaP (N:Nat) (s:BA) (W:LI) (x7 x8:Int) (L:LI) (I i:Nat) (hi:i < L.length) (h4:i < 4) (hL:IV.toStr (L.getD i default)=DU W (I+1+i)) (hw:(DU W (I+1+i)).size < 4294967281) (again:St→DH) (k:Out→St→DH) :
  E4 (NJ N) (DE P3 [1,1,1,1,1,1,1,0,1,0,0]) (fU s W x7 x8 L (rq W I i) (i:Int)) (EO again ⟨[0,2,3,4,5,7,8,9,45,46,47],[2,9],[]⟩ k)=again (fU s W x7 x8 L (rq W I (i+1)) ((i+1:Nat):Int)):=by
 refine (Bu N s 0 false W x7 x8 L (ic L.length) i 0 0 0 0 0 0 0 0 0 0 0 0 0 0 0 false 0 (rq W I i).k (rq W I i).c (rq W I i).a0 (rq W I i).b0 (rq W I i).a1 (rq W I i).b1 (rq W I i).a2 (rq W I i).b2 (rq W I i).a3 (rq W I i).b3 (rq W I i).a4 (rq W I i).b4 (rq W I i).lo (rq W I i).hi (rq W I i).ft (rq W I i).fl (rq W I i).bu again k).trans ?_;rw [IN hi,I0,CE,DC,DC,BD,hL];obtain ⟨c1,c2,c3⟩:=Lf (DU W (I+1+i)) { data:=#[46,46] } hw;rw [c1,c2,c3,DC,DC,DC];have hi4:i=0∨i=1∨i=2∨i=3:=by omega
 rcases hi4 with rfl | rfl | rfl | rfl
 ·rw [show decide (((0:Nat):Int)=ic 0)=true from rfl,DC];rfl
 ·rw [show decide (((1:Nat):Int)=ic 0)=false from rfl,show decide (((1:Nat):Int)=ic 1)=true from rfl,DD,DC];rfl
 ·rw [show decide (((2:Nat):Int)=ic 0)=false from rfl,show decide (((2:Nat):Int)=ic 1)=false from rfl,show decide (((2:Nat):Int)=ic 2)=true from rfl,DD,DD,DC];rfl
 ·rw [show decide (((3:Nat):Int)=ic 0)=false from rfl,show decide (((3:Nat):Int)=ic 1)=false from rfl,show decide (((3:Nat):Int)=ic 2)=false from rfl,show decide (((3:Nat):Int)=ic 3)=true from rfl,DD,DD,DD,DC];rfl
theorem xT (N:Nat) (s:BA) (W:LI) (x7 x8:Int) (L:LI) (I:Nat) (h4:L.length≤4) (hL:∀ i,i < L.length→IV.toStr (L.getD i default)=DU W (I+1+i)) (hw:∀ i,(DU W i).size < 4294967281) (K:Out→St→DH) :
  ∀ (d i n:Nat),i+d=L.length→d < n →
   DT (NJ N) (DE P3 [1,1,1,1,1,1,1,0,1,0,0]) ⟨[0,2,3,4,5,7,8,9,45,46,47],[2,9],[]⟩ n (fU s W x7 x8 L (rq W I i) (i:Int)) K=K (.exit 0) (fU s W x7 x8 L (rq W I L.length) (ic L.length))
 | 0,i,n+1,hd,hn=>by
  have hi:i=L.length:=by omega
  subst hi;rw [D2];refine (Bu N s 0 false W x7 x8 L (ic L.length) _ 0 0 0 0 0 0 0 0 0 0 0 0 0 0 0 false 0 (rq W I L.length).k (rq W I L.length).c (rq W I L.length).a0 (rq W I L.length).b0 (rq W I L.length).a1 (rq W I L.length).b1 (rq W I L.length).a2 (rq W I L.length).b2 (rq W I L.length).a3 (rq W I L.length).b3 (rq W I L.length).a4 (rq W I L.length).b4 (rq W I L.length).lo (rq W I L.length).hi (rq W I L.length).ft (rq W I L.length).fl (rq W I L.length).bu _ _).trans ?_;rw [JC (AY _),DD];rfl
 | d+1,i,n+1,hd,hn=>by
  rw [D2,zaP N s W x7 x8 L I i (by omega) (by omega) (hL i (by omega)) (hw _)];exact xT N s W x7 x8 L I h4 hL hw K d (i+1) n (by omega) (by omega)
 | _,_,0,_,h=>by omega
theorem uS (w:BA):∀ (l:LI) (k:Int),0≤k→FX l w k = -1∨(k≤FX l w k∧FX l w k < k+(l.length:Int))
 | [],_,_=>.inl rfl
 | x :: l,k,hk=>by
  unfold FX;cases (w.toList==x.toStr.toList) with
  | true=>rw [DC]; exact .inr ⟨vab _,by simp only [AN]; omega⟩
  | false=>
   rw [DD];rcases uS w l (k+1) (by omega) with h | ⟨h1,h2⟩
   ·exact .inl h
   ·exact .inr ⟨by omega,by simp only [AN]; omega⟩
theorem Va (s:BA) (hs:s.size < 4294967281):(GU s).length≤4294967282∧∀ i,(DU (GU s) i).size < 4294967281:=by
 have h1:=Lib.splitB_all GS (by decide) 0 _ s rfl;have h2:=Lib.countB_le GS (by decide) s.size s (AY _);refine ⟨?_,fun i=>?_⟩
 ·have e:(GU s).length=Lib.countB s GS+1:=by
   unfold GU D5;rw [B7];exact h1
  omega
 ·unfold DU;by_cases hi:i < (GU s).length
  ·have:AI (GU s) i default=(GU s)[i]:=by simp [hi]
   rw [this];have hm:=CX hi;unfold GU at hm;obtain ⟨p,hp,hpe⟩:=CY.1 hm;have hz:=(US GS _ s).2 p hp
   have:((GU s)[i]).toStr=p:=by
    show (A5 IV.str (D5 s GS))[i].toStr=p;rw [← hpe];rfl
   rw [this];omega
  ·have:AI (GU s) i default=default:=by simp [AI,hi]
   rw [this];decide
theorem zbV:DQ PR B0 73 XI:=by
 refine D1 [(18,XJ),(121,SY),(119,XK),(120,SZ),(118,Y5),(104,VH),(46,OS)] [(9,⟨[0,2,3,4,5,7,8,9,45,46,47],[2,9],[]⟩)] XI
  [[.z,.z,.z,.z,.z,.z,.z,.z,.z,.z,.z,.z,.z,.z,.z,.bool,.z],[.z],[.bool]] Tryz.func73 Pe
  ⟨zbW,zY,zbX,zZ,zcZ,Au,fP,trivial⟩ ?_
 intro vs r hwf h;unfold XI at h;split at h
 ·rename_i s;refine ⟨20,?_⟩;cases hs:decide (s.size < 4294967281) with
  | false=>rw [hs] at h; simp [R.get] at h
  | true=>
   rw [hs,R.get_br,DC,R.get_ok] at h;rw [← h];refine (Vt 20 s).trans ?_;have hs':=A1 hs;rw [hs];obtain ⟨hl,hw⟩:=Va s hs';have eW:A5 IV.str (D5 s { data:=#[32] })=GU s:=rfl;have eI:FX (GU s) { data:=#[105,110] } 0=M6 s:=rfl;rw [eW,eI,show decide (1≤AF { data:=#[32] })=true from rfl,CE,DC];have hr:=uS SK (GU s) 0 (vab _)
   change M6 s = -1∨(0≤M6 s∧M6 s < 0+((GU s).length:Int)) at hr
   have w2:AA AB (ic (AG (GU s)) - 2)=ic (AG (GU s)) - 2:=EC (by simp only [ic]; omega) (by simp only [ic]; omega);rw [w2];have wd:AA AB (AA AB (ic (AG (GU s)) - 2 - M6 s) - 1)=N0 s:=by
    unfold N0;rw [EC (n:=ic (AG (GU s)) - 2 - M6 s) (by simp only [ic]; omega) (by simp only [ic]; omega),EC (by simp only [ic]; omega) (by simp only [ic]; omega)]
   rw [wd];unfold GP TQ TR;cases h1:decide (M6 s < 0) with
   | true=>simp only [DC,DD,A2,BV]; rfl
   | false=>
    cases h2:decide (N0 s < 1) with
    | true=>simp only [DC,DD,A2,BB,BV,vau]; rfl
    | false=>
     cases h3:decide (N0 s > 4) with
     | true=>simp only [DC,DD,A2,BB,BV,vau]; rfl
     | false=>
      simp only [DD,BB,BH];have h1:=BE h1;have h2:=BE h2;have h3:=BE h3;obtain ⟨I,hI⟩:∃ I:Nat,M6 s=I:=⟨(M6 s).toNat,by omega⟩;obtain ⟨D,hD⟩:∃ D:Nat,N0 s=D:=⟨(N0 s).toNat,by omega⟩;have hD1:1≤D:=by omega
      have hD4:D≤4:=by omega
      unfold kM;have hDd:(D:Int)=((GU s).length:Int) - 2 - I - 1:=by
       rw [← hD,← hI];rfl
      rw [hI,hD] at *;generalize GU s=W at *;have wi:AA AB ((I:Int)+1)=((I+1:Nat):Int):=by rw [EC (by omega) (by omega)]; rfl
      have eb:ic (AG W) - 2=((W.length - 2:Nat):Int):=by simp only [ic]; omega
      rw [wi,eb];simp only [BD,B4];have hall:List.all (AK I W) (fun x=>decide (AF (IV.toStr x) < 4294967281))=true:=by
       rw [CP];intro x hx;obtain ⟨j,hj,rfl⟩:=List.mem_iff_getElem.1 (va2 hx)
       have:=hw j
       unfold DU at this;have e:AI W j default=W[j]:=by simp [hj]
       rw [e] at this;exact AE this
      rw [hall,AE (show (0:Int)≤(I:Int) by omega),AE (show (I:Int)≤ic (AG W) by simp only [ic]; omega),AE (show AG (AK I W)≤4294967290 by rw [A8]; omega),
       AE (show (0:Int)≤((I+1:Nat):Int) by omega),AE (show ((I+1:Nat):Int)≤((W.length - 2:Nat):Int) by omega),AE (show ((W.length - 2:Nat):Int)≤ic (AG W) by simp only [ic]; omega)]
      simp only [CE,DC];have hLl:(AR (I+1) (AK (W.length - 2) W)).length=D:=by rw [C7,A8]; omega
      have hLg:∀ i,i < (AR (I+1) (AK (W.length - 2) W)).length→IV.toStr ((AR (I+1) (AK (W.length - 2) W)).getD i default)=DU W (I+1+i):=fun i hi=>by
       rw [hLl] at hi;unfold DU;congr 1;simp only [AI,vam,CI];rw [BL (by omega)]
      rw [zbx W I];have run:=xT 20 s W ((W.length - 2:Nat):Int) (D:Int) (AR (I+1) (AK (W.length - 2) W)) I (by rw [hLl]; exact hD4) hLg hw (DK 0 (DM (NJ 20) (DE P3 [1,1,1,1,1,1,1,1]) (DP (NJ 20) none [(vbi 2 38),(CA 3),(CA 4)] [[.z,.z,.z,.z,.z,.z,.z,.z,.z,.z,.z,.z,.z,.z,.z,.bool,.z],[.z],[.bool]]))) D 0 20 (by rw [hLl]; omega) (by omega);refine run.trans ?_;rw [hLl];refine (Mg 20 s 0 false W ((W.length - 2:Nat):Int) (D:Int) (AR (I+1) (AK (W.length - 2) W)) (ic (AR (I+1) (AK (W.length - 2) W)).length) _ 0 0 0 0 0 0 0 0 0 0 0 0 0 0 0 false 0 (rq W I D).k (rq W I D).c (rq W I D).a0 (rq W I D).b0 (rq W I D).a1 (rq W I D).b1 (rq W I D).a2 (rq W I D).b2 (rq W I D).a3 (rq W I D).b3 (rq W I D).a4 (rq W I D).b4 (rq W I D).lo (rq W I D).hi (rq W I D).ft (rq W I D).fl (rq W I D).bu).trans ?_;have e7:AA AB (((W.length - 2:Nat):Int)+1)=((W.length - 1:Nat):Int):=by rw [EC (by omega) (by omega)]; omega
      rw [e7,BD,AE (show (0:Int)≤((W.length - 1:Nat):Int) by omega),AE (show ((W.length - 1:Nat):Int) < ic (AG W) by simp only [ic]; omega),CE,DC];have eq:(⟨(rq W I D).k,(rq W I D).c,(rq W I D).a0,(rq W I D).b0,(rq W I D).a1,(rq W I D).b1,(rq W I D).a2,(rq W I D).b2,(rq W I D).a3,(rq W I D).b3,(rq W I D).a4,(rq W I D).b4,(rq W I D).lo,(rq W I D).hi,(rq W I D).ft,(rq W I D).fl,FP (IV.toStr (AI W (W.length - 1) default))⟩:Qy)=mF W I D:=rfl;rw [eq];cases ((aR (mF W I D) (D:Int)).toList==s.toList) with
      | false=>rfl
      | true=>rfl
 ·simp [R.get] at h
open Go
def OY (x:IV):Prop:=∃ v,-3000≤v∧v≤3000∧x=KO v
def RP (dim n:Int) (i:Nat) (x:IV):Prop:=∃ f a l,0≤f∧f < dim∧0≤a∧a≤9∧(i:Int) < l∧l+1 < n∧x=QH false 0 f a l (l+1)
def nm (x:IV) (j:Nat):Nat:=cond (x.cell 0).toBool 0 ((if (x.cell 4).toInt=(j:Int) then 1 else 0)+(if (x.cell 5).toInt=(j:Int) then 1 else 0))
def LZ (l:LI) (j:Nat):Nat:=(l.map (nm · j)).sum
theorem eQ {x:IV} (h:OY x) (j:Nat):nm x j=0:=by
 obtain ⟨v,_,_,rfl⟩:=h;rfl
theorem Zv (f a:Int) (n j:Nat):nm (QH false 0 f a (n:Int) ((n:Int)+1)) j=(if j=n then 1 else 0)+(if j=n+1 then 1 else 0):=by
 show (if (n:Int)=(j:Int) then 1 else 0)+(if (n:Int)+1=(j:Int) then 1 else 0)=_;have e1:((n:Int)=(j:Int))↔(j=n):=by omega
 have e2:((n:Int)+1=(j:Int))↔(j=n+1):=by omega
 simp only [e1,e2]
theorem Zu (l m:LI) (j:Nat):LZ (l++m) j=LZ l j+LZ m j:=by simp [LZ]
theorem wM:∀ {l:LI} {p:Nat} {x:IV} (y:IV) (j:Nat),l[p]?=some x→LZ (l.set p y) j+nm x j=LZ l j+nm y j
 | [],p,x,y,j,h=>by simp at h
 | z :: l,0,x,y,j,h=>by
  simp only [BK,AC] at h;subst h;simp only [List.set_cons_zero,LZ,AZ,List.sum_cons];omega
 | z :: l,p+1,x,y,j,h=>by
  have:=wM (l:=l) y j (by simpa using h)
  simp only [List.set_cons_succ,LZ,AZ,List.sum_cons] at this ⊢;omega
structure NsOK (dim:Int) (i:Nat) (s:Ns):Prop where
 len:s.nodes.length=2*i+1
 ll:s.leaves.length=i+1
 node:∀ (k:Nat) x,s.nodes[k]?=some x→OY x∨RP dim (2*(i:Int)+1) k x
 leaf:∀ y∈s.leaves,∃ p:Nat,y = .int (p:Int)∧∃ x,s.nodes[p]?=some x∧OY x
 dist:s.leaves.Nodup
 cnt:∀ j,LZ s.nodes j=if 1≤j∧j < 2*i+1 then 1 else 0
theorem fB (l:LI) (i lo hi:Int) (h:lo≤hi) (h0 : -2000000000000000000≤lo) (h1:hi≤2000000000000000000):lo≤DL (D9 l i) lo hi∧DL (D9 l i) lo hi≤hi:=
 (JY h h0 h1).2
theorem Z5 (l:LI) (i:Int):OY (KO (DL (D9 l i) (-3000) 3000)):=
 ⟨_,(fB l i (-3000) 3000 (by omega) (by omega) (by omega)).1,(fB l i (-3000) 3000 (by omega) (by omega) (by omega)).2,rfl⟩
theorem zaf (val:LI) (dim:Int):NsOK dim 0 ⟨[KO (DL (D9 val 0) (-3000) 3000)],[.int 0]⟩ where
 len:=rfl
 ll:=rfl
 node k x h:=by
  cases k with
  | zero=>
   simp only [BK,AC] at h;subst h;exact .inl (Z5 val 0)
  | succ k=>simp at h
 leaf y hy:=by
  simp only [AU,CL,C1] at hy;exact ⟨0,hy,_,rfl,Z5 val 0⟩
 dist:=by simp
 cnt j:=by
  have:¬ (1≤j∧j < 2*0+1):=by omega
  rw [A4 this];show nm _ j+0=0;rw [eQ (Z5 val 0)]
theorem zaa {l:LI} (h:l.Nodup) {k:Nat} {y:IV} (hk:l[k]?=some y):y ∉ l.take k++l.drop (k+1):=by
 intro hy;rw [← vbJ,List.mem_eraseIdx_iff_getElem?] at hy;obtain ⟨i,hne,hi⟩:=hy;have h1:i < l.length:=(BN.1 hi).1;have h2:k < l.length:=(BN.1 hk).1
 have:l[i]=l[k]:=by
  rw [(BN.1 hi).2,(BN.1 hk).2]
 have hp:=List.pairwise_iff_getElem.1 h;rcases Nat.lt_trichotomy i k with hlt | heq | hlt
 ·exact hp i k h1 h2 hlt this
 ·exact hne heq
 ·exact hp k i h2 h1 hlt this.symm
theorem zad {part byl atl val:LI} {dim:Int} (hd:1≤dim∧dim≤4) {i:Nat} (hi:i < 7) {s:Ns} (h:NsOK dim i s):NsOK dim (i+1) (JG part byl atl val dim i s):=by
 obtain ⟨k0,k1⟩:=(JY (n:=(part.getD i default).toInt) (lo:=0) (hi:=ic s.leaves.length - 1) (by simp only [ic]; have:=h.ll; omega) (by omega) (by simp only [ic]; have:=h.ll; omega)).2;have hk0:0≤HH part i s:=k0;have hk1:HH part i s≤ic s.leaves.length - 1:=k1;obtain ⟨k,hk⟩:∃ k:Nat,HH part i s=k:=⟨(HH part i s).toNat,by omega⟩;have hkl:k < s.leaves.length:=by simp only [ic] at hk1; omega
 have hky:s.leaves[k]?=some s.leaves[k]:=A6 hkl;obtain ⟨p,hp,x,hx,hlf⟩:=h.leaf _ (CX hkl);have hat:(O7 part i s).toNat=p:=by
  unfold O7;rw [hk,BD,BO,hky,hp];show ((p:Int)).toNat=p;omega
 have hpl:p < 2*i+1:=by rw [← h.len]; exact (BN.1 hx).1
 have f1:=fB byl (i:Int) 0 (dim - 1) (by omega) (by omega) (by omega);have a1:=fB atl (i:Int) 0 9 (by omega) (by omega) (by omega);generalize hf:DL (D9 byl (i:Int)) 0 (dim - 1)=f at f1;generalize ha:DL (D9 atl (i:Int)) 0 9=a at a1;have el:ic s.nodes.length=2*(i:Int)+1:=by simp only [ic]; have:=h.len; omega
 have hs:JG part byl atl val dim i s=⟨s.nodes.set p (QH false 0 f a (2*(i:Int)+1) (2*(i:Int)+1+1))++[KO (DL (D9 val (2*(i:Int)+1)) (-3000) 3000),KO (DL (D9 val (2*(i:Int)+2)) (-3000) 3000)],
   s.leaves.take k++s.leaves.drop (k+1)++[.int (2*(i:Int)+1),.int (2*(i:Int)+1+1)]⟩:=by
  unfold JG;rw [hat,hk,BD,hf,ha,el]
 rw [hs];have L1:=Z5 val (2*(i:Int)+1);have L2:=Z5 val (2*(i:Int)+2);have hgrow:∀ (q:Nat) z,RP dim (2*(i:Int)+1) q z→RP dim (2*((i+1:Nat):Int)+1) q z:=fun q z hz=>by
  obtain ⟨f,a,l,h1,h2,h3,h4,h5,h6,h7⟩:=hz;exact ⟨f,a,l,h1,h2,h3,h4,h5,by omega,h7⟩
 have hlen:(s.nodes.set p (QH false 0 f a (2*(i:Int)+1) (2*(i:Int)+1+1))).length=2*i+1:=by rw [vay,h.len]
 have hnew:∀ (q:Nat) z,(s.nodes.set p (QH false 0 f a (2*(i:Int)+1) (2*(i:Int)+1+1))++[KO (DL (D9 val (2*(i:Int)+1)) (-3000) 3000),KO (DL (D9 val (2*(i:Int)+2)) (-3000) 3000)])[q]?=some z →
   (q≠p∧s.nodes[q]?=some z)∨(q=p∧z=QH false 0 f a (2*(i:Int)+1) (2*(i:Int)+1+1))∨OY z:=fun q z hz=>by
  by_cases hq:q < 2*i+1
  ·rw [vbp (by rw [hlen]; exact hq)] at hz;by_cases e:p=q
   ·subst e;rw [List.getElem?_set_self (by rw [h.len]; exact hpl)] at hz;exact .inr (.inl ⟨rfl,(CS hz).symm⟩)
   ·rw [va4 e] at hz;exact .inl ⟨fun e'=>e e'.symm,hz⟩
  ·rw [vbe (by rw [hlen]; omega),hlen] at hz;obtain ⟨r,hr⟩:∃ r,q - (2*i+1)=r:=⟨_,rfl⟩;rw [hr] at hz
   match r,hz with
   | 0,hz=>exact .inr (.inr (by simp at hz; subst hz; exact L1))
   | 1,hz=>exact .inr (.inr (by simp at hz; subst hz; exact L2))
   | r+2,hz=>simp at hz
 refine ⟨?_,?_,?_,?_,?_,?_⟩
 ·show (s.nodes.set p _++[_,_]).length=_;rw [AW,hlen];simp only [AN,A7];omega
 ·show (s.leaves.take k++s.leaves.drop (k+1)++[_,_]).length=_;simp only [AW,A8,C7,AN,A7]
  have:=h.ll
  omega
 ·intro q z hz;rcases hnew q z hz with ⟨_,hz⟩ | ⟨rfl,rfl⟩ | hz
  ·rcases h.node q z hz with h1 | h1
   ·exact .inl h1
   ·exact .inr (hgrow q z h1)
  ·exact .inr ⟨f,a,2*(i:Int)+1,f1.1,by omega,a1.1,a1.2,by omega,by omega,rfl⟩
  ·exact .inl hz
 ·intro y hy;rcases AV.1 hy with hy | hy
  ·have hne:y≠.int (p:Int):=fun e=>by
    have:=zaa h.dist hky
    rw [hp] at this;exact this (e ▸ hy)
   have hyl:y∈s.leaves:=by
    rcases AV.1 hy with hy | hy
    ·exact va2 hy
    ·exact va1 hy
   obtain ⟨q,hq,x',hx',hl'⟩:=h.leaf y hyl;have hqp:p≠q:=fun e=>by subst e; exact hne hq
   refine ⟨q,hq,x',?_,hl'⟩;have hql:q < 2*i+1:=by rw [← h.len]; exact (BN.1 hx').1
   show (s.nodes.set p _++[_,_])[q]?=_;rw [vbp (by rw [hlen]; exact hql),va4 hqp,hx']
  ·simp only [AU,CL,C1] at hy;rcases hy with rfl | rfl
   ·refine ⟨2*i+1,by simp,KO (DL (D9 val (2*(i:Int)+1)) (-3000) 3000),?_,L1⟩;show (s.nodes.set p _++[_,_])[2*i+1]?=_;rw [vbe (by rw [hlen]; omega),hlen]
    have:2*i+1 - (2*i+1)=0:=by omega
    rw [this];rfl
   ·refine ⟨2*i+1+1,by simp,KO (DL (D9 val (2*(i:Int)+2)) (-3000) 3000),?_,L2⟩;show (s.nodes.set p _++[_,_])[2*i+1+1]?=_;rw [vbe (by rw [hlen]; omega),hlen]
    have:2*i+1+1 - (2*i+1)=1:=by omega
    rw [this];rfl
 ·show (s.leaves.take k++s.leaves.drop (k+1)++[_,_]).Nodup;have big:∀ y∈s.leaves,∀ n:Int,2*(i:Int)+1≤n→y≠.int n:=fun y hy n hn e=>by
   obtain ⟨q,hq,x',hx',_⟩:=h.leaf y hy;have hql:q < 2*i+1:=by rw [← h.len]; exact (BN.1 hx').1
   rw [hq] at e;injection e with e
   omega
  have hsub:∀ y∈s.leaves.take k++s.leaves.drop (k+1),y∈s.leaves:=fun y hy=>by
   rcases AV.1 hy with hy | hy
   ·exact va2 hy
   ·exact va1 hy
  rw [List.nodup_append];refine ⟨?_,?_,?_⟩
  ·rw [← vbJ];exact List.Nodup.sublist (List.eraseIdx_sublist ..) h.dist
  ·rw [List.nodup_cons];refine ⟨fun hm=>?_,by simp⟩;simp only [AU,CL,C1] at hm;injection hm with hm
   omega
  ·intro y hy z hz e;subst e;simp only [AU,CL,C1] at hz;rcases hz with hz | hz
   ·exact big y (hsub y hy) _ (by omega) hz
   ·exact big y (hsub y hy) _ (by omega) hz
 ·intro j;show LZ (s.nodes.set p _++[_,_]) j=_;rw [Zu];have h1:=wM (QH false 0 f a (2*(i:Int)+1) (2*(i:Int)+1+1)) j hx;rw [eQ hlf,h.cnt j] at h1;have h2:LZ [KO (DL (D9 val (2*(i:Int)+1)) (-3000) 3000),KO (DL (D9 val (2*(i:Int)+2)) (-3000) 3000)] j=0:=by
   show nm _ j+(nm _ j+0)=0;rw [eQ L1,eQ L2]
  have h3:=Zv f a (2*i+1) j;have e:((2*i+1:Nat):Int)=2*(i:Int)+1:=by omega
  rw [e] at h3;rw [h3] at h1;rw [h2];by_cases c1:1≤j∧j < 2*i+1
  ·rw [BL c1,A4 (by omega),A4 (by omega)] at h1;rw [BL (by omega)];omega
  ·rw [A4 c1] at h1;by_cases c2:j=2*i+1
   ·rw [BL c2,A4 (by omega)] at h1;rw [BL (by omega)];omega
   ·by_cases c3:j=2*i+1+1
    ·rw [A4 c2,BL c3] at h1;rw [BL (by omega)];omega
    ·rw [A4 c2,A4 c3] at h1;rw [A4 (by omega)];omega
theorem wY {part byl atl val:LI} {dim:Int} (hd:1≤dim∧dim≤4):∀ (d i:Nat) (s:Ns),i+d≤7→NsOK dim i s→NsOK dim (i+d) (WE part byl atl val dim d i s)
 | 0,i,s,_,h=>h
 | d+1,i,s,hi,h=>by
  have:=wY (part:=part) (byl:=byl) (atl:=atl) (val:=val) hd d (i+1) _ (by omega) (zad (part:=part) (byl:=byl) (atl:=atl) (val:=val) hd (by omega) h)
  rw [vaL,Nat.add_comm 1 d] at this;exact this
theorem zae (part byl atl val:LI) {dim:Int} (hd:1≤dim∧dim≤4):∃ i,i≤7∧NsOK dim i (N1 part byl atl val dim):=by
 refine ⟨min part.length 7,by omega,?_⟩
 have:=wY (part:=part) (byl:=byl) (atl:=atl) (val:=val) hd (min part.length 7) 0 _ (by omega) (zaf val dim)
 rw [BF] at this;exact this
open Go
theorem Nd.eq_of {x y:Nd} (h:x.eq y=true):x=y:=by
 obtain ⟨a1,a2,a3,a4,a5,a6⟩:=x;obtain ⟨b1,b2,b3,b4,b5,b6⟩:=y;simp only [Nd.eq,AH,B3,BX] at h;obtain ⟨rfl,rfl,rfl,rfl,rfl,rfl⟩:=h;rfl
theorem eR {w:Int} (h:FU w=true):H6 (DF w)=w∧LJ (DF w)=true:=by
 have hn:DF w=UL w:=by unfold DF; rw [h]; rfl
 unfold FU at h;simp only [AH,BY,B3,BR] at h;rw [hn];refine ⟨h.2,?_⟩;cases hr:LJ (UL w) with
 | true=>rfl
 | false=>
  have:=h.2
  unfold H6 at this;rw [hr] at this;exact absurd this.symm h.1
def kL (i:Nat):Bool:=FU (HR true ((i:Int) - 3000) 0 0 0 0)&&(DF (HR true ((i:Int) - 3000) 0 0 0 0)).eq ⟨true,(i:Int) - 3000,0,0,0,0⟩
def eC:Nat→Bool
 | 0=>true
 | n+1=>kL n&&eC n
theorem vN:∀ {n i:Nat},eC n=true→i < n→kL i=true
 | n+1,i,h,hi=>by
  rw [eC,AH] at h;by_cases e:i=n
  ·subst e; exact h.1
  ·exact vN h.2 (by omega)
def jR (i:Nat):Bool:=FU (HR false 0 ((i % 4:Nat):Int) ((i / 4 % 10:Nat):Int) ((i / 40:Nat):Int) (((i / 40:Nat):Int)+1)) &&
 (DF (HR false 0 ((i % 4:Nat):Int) ((i / 4 % 10:Nat):Int) ((i / 40:Nat):Int) (((i / 40:Nat):Int)+1))).eq ⟨false,0,((i % 4:Nat):Int),((i / 4 % 10:Nat):Int),((i / 40:Nat):Int),((i / 40:Nat):Int)+1⟩
def dK:Nat→Bool
 | 0=>true
 | n+1=>(BJ n 40||jR n)&&dK n
theorem uD:∀ {n i:Nat},dK n=true→i < n→40≤i→jR i=true
 | n+1,i,h,hi,h40=>by
  rw [dK,AH] at h;by_cases e:i=n
  ·subst e
   have:=h.1
   rw [vax] at this;rcases this with h1 | h1
   ·have:i < 40:=AM h1
    omega
   ·exact h1
  ·exact uD h.2 (by omega) h40
theorem Uz:eC 6001=true:=by kernel_rfl
theorem Ov:dK 1200=true:=by kernel_rfl
theorem kI {v:Int} (h0 : -3000≤v) (h1:v≤3000):FU (HR true v 0 0 0 0)=true∧DF (HR true v 0 0 0 0)=⟨true,v,0,0,0,0⟩:=by
 have h:=vN Uz (show (v+3000).toNat < 6001 by omega);have e:(((v+3000).toNat:Nat):Int) - 3000=v:=by omega
 unfold kL at h;rw [e,AH] at h;exact ⟨h.1,Nd.eq_of h.2⟩
theorem uG {f a l:Int} (hf:0≤f∧f < 4) (ha:0≤a∧a≤9) (hl:1≤l∧l≤28):FU (HR false 0 f a l (l+1))=true∧DF (HR false 0 f a l (l+1))=⟨false,0,f,a,l,l+1⟩:=by
 have h:=uD Ov (show l.toNat*40+a.toNat*4+f.toNat < 1200 by omega) (by omega);have e1:(((l.toNat*40+a.toNat*4+f.toNat) % 4:Nat):Int)=f:=by omega
 have e2:(((l.toNat*40+a.toNat*4+f.toNat) / 4 % 10:Nat):Int)=a:=by omega
 have e3:(((l.toNat*40+a.toNat*4+f.toNat) / 40:Nat):Int)=l:=by omega
 unfold jR at h;rw [e1,e2,e3,AH] at h;exact ⟨h.1,Nd.eq_of h.2⟩
theorem zdV {dim n:Int} (hd:dim≤4) (hn:n≤29) {i:Nat} {x:IV} (h:OY x∨RP dim n i x) (j:Nat):J3 (DF (R0 x).toInt) j=nm x j:=by
 rcases h with ⟨v,h0,h1,rfl⟩ | ⟨f,a,l,h0,h1,h2,h3,h4,h5,rfl⟩
 ·show J3 (DF (HR true v 0 0 0 0)) j=_;rw [(kI h0 h1).2];rfl
 ·show J3 (DF (HR false 0 f a l (l+1))) j=_;rw [(uG ⟨h0,by omega⟩ ⟨h2,h3⟩ ⟨by omega,by omega⟩).2];rfl
theorem zdW {dim n:Int} (hd:dim≤4) (hn:n≤29) {i:Nat} {x:IV} (h:OY x∨RP dim n i x):(FU (R0 x).toInt&&MJ dim n i (DF (R0 x).toInt))=true:=by
 rcases h with ⟨v,h0,h1,rfl⟩ | ⟨f,a,l,h0,h1,h2,h3,h4,h5,rfl⟩
 ·show (FU (HR true v 0 0 0 0)&&MJ dim n i (DF (HR true v 0 0 0 0)))=true;rw [(kI h0 h1).1,(kI h0 h1).2];rfl
 ·show (FU (HR false 0 f a l (l+1))&&MJ dim n i (DF (HR false 0 f a l (l+1))))=true;have hw:=uG ⟨h0,by omega⟩ ⟨h2,h3⟩ (show 1≤l∧l≤28 by omega);rw [hw.1,hw.2];unfold MJ;simp only [B9,AL (show ¬ f≥dim by omega),BR.2 (show l≠l+1 by omega),AL (show ¬ min l (l+1)≤(i:Int) by omega),AL (show ¬ max l (l+1)≥n by omega)];rfl
theorem wU {dim n:Int} (hd:dim≤4) (hn:n≤29):∀ {l:LI} {i:Nat},(∀ (k:Nat) x,l[k]?=some x→OY x∨RP dim n (i+k) x)→JF dim n i (l.map R0)=true
 | [],_,_=>rfl
 | x :: l,i,h=>by
  rw [AZ,JF,AH];refine ⟨zdW hd hn (h 0 x rfl),wU hd hn (i:=i+1) fun k y hk=>?_⟩
  have:=h (k+1) y (by simpa using hk)
  rwa [show i+(k+1)=i+1+k by omega] at this
theorem wI {dim n:Int} (hd:dim≤4) (hn:n≤29) (j:Nat):∀ {l:LI} {i:Nat},(∀ (k:Nat) x,l[k]?=some x→OY x∨RP dim n (i+k) x)→H4 (l.map R0) j=LZ l j
 | [],_,_=>rfl
 | x :: l,i,h=>by
  have ih:=wI hd hn j (l:=l) (i:=i+1) fun k y hk=>by
   have:=h (k+1) y (by simpa using hk)
   rwa [show i+(k+1)=i+1+k by omega] at this
  have h0:=zdV hd hn (h 0 x rfl) j;unfold H4 LZ at ih ⊢;simp only [AZ,List.sum_cons];rw [h0,ih]
theorem Zz (part byl atl val:LI) {dim:Int} (hd:1≤dim∧dim≤4):GC (LB part byl atl val dim) dim=true:=by
 obtain ⟨i,hi,h⟩:=zae part byl atl val hd;have hlen:(LB part byl atl val dim).length=2*i+1:=by
  unfold LB;rw [B7,h.len]
 have hn:∀ (k:Nat) x,(N1 part byl atl val dim).nodes[k]?=some x→OY x∨RP dim (ic (LB part byl atl val dim).length) (0+k) x:=fun k x hk=>by
  have e:ic (LB part byl atl val dim).length=2*(i:Int)+1:=by simp only [ic]; omega
  rw [e,BF];exact h.node k x hk
 have hb:ic (LB part byl atl val dim).length≤29:=by simp only [ic]; omega
 unfold GC;rw [AH,AH,AH];refine ⟨⟨C2 (by omega),C2 (by omega)⟩,wU hd.2 hb hn,?_⟩;unfold WH;rw [CP];intro j hj;have hj:=vaH.1 hj;rw [B3]
 have:=wI hd.2 hb (j+1) hn
 have e:H4 (LB part byl atl val dim) (j+1)=LZ (N1 part byl atl val dim).nodes (j+1):=this;rw [e,h.cnt,BL (by omega)]
theorem tJ (d:Int):1≤NT d∧NT d≤3:=(JY (n:=d) (lo:=1) (hi:=3) (by omega) (by omega) (by omega)).2
theorem sR (d:Int):1≤JP d∧JP d≤3:=(JY (n:=d) (lo:=1) (hi:=3) (by omega) (by omega) (by omega)).2
def eJ (d c:Int) (bias ts:LI):Md:=⟨NT d,JP c,P2 c bias 0,P2 c bias 1,P2 c bias 2,PK d c ts⟩
theorem g7 (c:Int) (bias:LI) (j:Int):G5 (JP c) j (P2 c bias j)=true:=by
 unfold G5 P2
 have:=(JY (n:=D9 bias j) (lo := -500) (hi:=500) (by omega) (by omega) (by omega)).2
 rcases Int.lt_or_le j (JP c) with h | h
 ·rw [AE h,AL (show ¬ j≥JP c by omega)];simp only [CO,BV,BB,CE];unfold EU;rw [AE (by omega),AE (by omega)];rfl
 ·rw [AL (show ¬ j < JP c by omega),AE (show j≥JP c from h)];rfl
theorem zdI (d c:Int) (t:IV):GY (NT d) (JP c) (nZ d c t)=true:=by
 have hd:=tJ d;have hc:=sR c;have hk:=(JY (n:=(t.cell 0).toInt) (lo:=0) (hi:=JP c - 1) (by omega) (by omega) (by omega)).2;show (!(decide (DL (t.cell 0).toInt 0 (JP c - 1) < 0))&&(!(decide (DL (t.cell 0).toInt 0 (JP c - 1)≥JP c))&&GC (LB (t.cell 1).toList (t.cell 2).toList (t.cell 3).toList (t.cell 4).toList (NT d)) (NT d)))=true;rw [AL (by omega),AL (by omega),Zz _ _ _ _ ⟨hd.1,by omega⟩];rfl
theorem zdK (d c:Int) (ts:LI):(PK d c ts).all (GY (NT d) (JP c))=true:=by
 rw [CP];intro t ht;unfold PK at ht;obtain ⟨u,_,rfl⟩:=CY.1 ht;exact zdI d c u
theorem zdJ (d c:Int) (ts:LI):(PK d c ts).length≤4:=by
 unfold PK;rw [B7,A8];omega
theorem Vo {m:Md} (hd:1≤m.d∧m.d≤4) (hc:1≤m.c∧m.c≤3) (hl:m.ts.length≤8) (h0:G5 m.c 0 m.b0=true) (h1:G5 m.c 1 m.b1=true) (h2:G5 m.c 2 m.b2=true) (ht:m.ts.all (GY m.d m.c)=true):EQ m=true:=by
 unfold EQ;rw [AL (show ¬ m.d < 1 by omega),AL (show ¬ m.d > 4 by omega),AL (show ¬ m.c < 1 by omega),AL (show ¬ m.c > 3 by omega),C2 hl,h0,h1,h2,ht];rfl
theorem Vp (d c:Int) (bias ts:LI):EQ (eJ d c bias ts)=true:=by
 have hd:=tJ d;have hc:=sR c;exact Vo (m:=eJ d c bias ts) ⟨hd.1,by show NT d≤4; omega⟩ hc (by have:=zdJ d c ts; show (PK d c ts).length≤8; omega) (g7 c bias 0) (g7 c bias 1) (g7 c bias 2) (zdK d c ts)
open Go
abbrev EH:List Kd:=[.bool,.z,.z]
def HT (x:IV):Bool:=(x.cell 0).toBool
def FA (x:IV):Int:=(x.cell 1).toInt
def FY (x:IV):Int:=(x.cell 2).toInt
def nI (x y:IV):Bool:=HT x==HT y&&(FA x==FA y&&FY x==FY y)
def WY (x:IV):Bool:=!(HT x&&!(FA x==0&&FY x==0))&&(decide (0≤FA x)&&decide (FA x≤4))
def QO (l:LI):Bool:=decide (1≤l.length)&&(decide (l.length≤65536)&&l.all WY)
def XW:DO
 | [.list true [.bool,.z,.z] l]=>.ok (.bool (QO l)) []
 | _=>.no
def LL:LI→LI→Bool
 | [],[]=>true
 | x :: l,y :: m=>nI x y&&LL l m
 | _,_=>false
structure Vd where
 kind:Int
 proof:LI
 w0:Int
 w1:Int
 w2:Int
 w3:Int
 twin:Int
 spent:Int
def Vd.none:Vd:=⟨0,[],0,0,0,0,0,0⟩
def Vd.V (v:Vd):V:=.agg [.int .i64 v.kind,.list true EH v.proof,.int .i64 v.w0,.int .i64 v.w1,.int .i64 v.w2,.int .i64 v.w3,.int .i64 v.twin,.int .i64 v.spent]
def Vd.bare (v:Vd):Bool:=v.w0==0&&(v.w1==0&&(v.w2==0&&(v.w3==0&&v.twin==0)))
def Vd.right (v:Vd):Bool:=
 decide (0≤v.spent)&&(decide (v.spent≤65536) &&
  (v.kind==1&&(v.bare&&QO v.proof)||(v.kind==2&&v.proof.isEmpty||(v.kind==3||v.kind==4)&&(v.bare&&v.proof.isEmpty))))
def XU:DO
 | [.agg [.int .i64 k,.list true [.bool,.z,.z] p,.int .i64 a,.int .i64 b,.int .i64 c,.int .i64 d,.int .i64 t,.int .i64 s]]=>.ok (.bool (Vd.right ⟨k,p,a,b,c,d,t,s⟩)) []
 | _=>.no
def NB:BA→LI→BA
 | s,[]=>s
 | s,x :: l=>NB (s.push 32++DJ x.toInt) l
def GH (s w:BA) (l:LI):BA:=(NB (s++w) l).push 10
def XV:DO
 | [.bor [.bld s],.str w,.list false [.z] l]=>.br (decide ((GH s w l).size≤strMax)) (.ok (.tup []) [[.bld (GH s w l)]]) .no
 | _=>.no
abbrev U2:BA:=⟨#[104,111,108,100,115]⟩
abbrev oE:BA:=⟨#[102,97,105,108,115]⟩
abbrev oJ:BA:=⟨#[117,110,107,110,111,119,110]⟩
abbrev oK:BA:=⟨#[119,114,111,110,103]⟩
abbrev bS:BA:=⟨#[115,117,109]⟩
abbrev bR:BA:=⟨#[99,117,116]⟩
abbrev FE:BA:=⟨#[10]⟩
abbrev GA:BA:=⟨#[]⟩
def PE:BA→LI→BA
 | s,[]=>s
 | s,x :: l=>PE (cond (HT x) (GH s bS []) (GH s bR [.int (FA x),.int (FY x)])) l
def FH (v:Vd):BA:=
 cond v.right
  (cond (v.kind==1) (PE (GH GA U2 [.int v.spent,.int (ic v.proof.length)]) v.proof)
  (cond (v.kind==2) (GH GA oE [.int v.spent,.int v.w0,.int v.w1,.int v.w2,.int v.w3,.int v.twin])
  (cond (v.kind==3) (GH GA oJ [.int v.spent])
  (GH GA oK [.int v.spent]))))
  GA
def S2:DO
 | [.agg [.int .i64 k,.list true [.bool,.z,.z] p,.int .i64 a,.int .i64 b,.int .i64 c,.int .i64 d,.int .i64 t,.int .i64 s]]=>
  .br (decide ((FH ⟨k,p,a,b,c,d,t,s⟩).size≤strMax)) (.ok (.str (FH ⟨k,p,a,b,c,d,t,s⟩)) []) .no
 | _=>.no
end Go.FM
