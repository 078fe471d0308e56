/-
  A small machine that reckons what a call comes to; the functions of the program, one by one. (DERIVED: THE SHELF's CONTRACTS AT THIS DUMP, IN PLAIN WORDS , THE LIBRARY's strconv.FormatUint AT BASE 10: the number's de, WHAT THE LIBRARY's FUNCTIONS OVER SLICES OF STRINGS COME TO,, and so on.)
-/
import Derived.Shelf.Strings.OnBuilder
import Derived.Shelf.Strings.Trim
import Derived.Shelf.Small.Utf8
import Derived.Shelf.Small.Wraps
import Derived.Shelf.Strconv.Itoa3
import Derived.Shelf.Strconv.ErrVarAll
import Derived.Shelf.Strconv.ParseUint10b64
import Derived.Shelf.Pu.ErrVarParseUint
import Derived.Shelf.Strings.Shaped
import Derived.Shelf.Sort.Plain
import Derived.Shelf.Strings.SplitShaped
import Derived.Shelf.Strings.Runes
import Derived.Shelf.Strings.AsciiSet
import Derived.Shelf.Strings.Explode
import Derived.Shelf.Strings.Repeat
import Derived.Shelf.Unicode.DecodeSlow
import Derived.Shelf.Slices.Turned
import Derived.Shelf.Slices.Cells
import Derived.Shelf.Slices.In.SortNone
import Derived.Shelf.SlicesE.DeleteFunc
import Derived.Test.YtihliihljmfhlaaGreatDoorAb
import Derived.Lib.AppendIntMem
set_option linter.all false
set_option maxRecDepth 100000
open Array renaming length_toList→C1,getElem?_eq_some_iff→DK,toList_append→vaj,getElem?_toList→vaE,getElem?_modify→vaP
open BitVec renaming ofInt→A0,toNat→B1
open Bool renaming and_eq_true→AQ,not_true→A9,not_false→BF,true_and→BI,false_and→BP,and_self→BR,not_eq_true'→CE,and_true→CK,and_false→DE,or_eq_true→vap,eq_iff_iff→vaB,false_or→vaF,true→AC,false→AD
open ByteArray renaming size→AP,size_append→BC,empty→CQ,size_push→va5
open Decidable renaming decide→AE
open Go.Addr.mk renaming injEq→DI
open Go.IntKind renaming wrap→AI,i64→AJ,u64→AO,bits→AT,signed→vak
open Go.Lib renaming decDigits→CS,strCells→DO,indexByte→var,strCells_length→vaC,bytesWorld→vaU,compactUpTo→vbp,parseUint10→vbA,parseUintB_64→vbH
open Go.ResultVar renaming tmp→B7,cell→va6
open Go.Sort renaming ahead→vbE
open Go.Value renaming ownBlock→CO
open Go.Value.slice renaming injEq→CW
open Go.World renaming cell?→vaI
open Int renaming toNat→AM,toNat_natCast→BE,fdiv→C4
open List renaming length→AN,getD→AR,take→AU,length_cons→AV,mem_cons→AW,mem_cons_self→AY,length_append→A2,drop→A3,mem_append→A5,mem_cons_of_mem→A6,map_cons→A8,getElem?_eq_getElem→BD,map→BG,drop_eq_getElem_cons→BJ,length_take→BL,length_nil→BN,take_length→BS,length_map→BW,getD_eq_getElem?_getD→BY,mem_singleton→BZ,getElem?_eq_some_iff→B4,replicate→B6,getElem?_eq_none→B8,getElem?_cons_zero→CA,not_mem_nil→CC,drop_zero→CD,getElem?_map→CJ,map_nil→CN,mem_map→CU,all_eq_true→CZ,getElem_mem→C0,getElem?_take→C3,drop_length→C8,cons_append→C9,length_drop→DA,length_singleton→DG,size_toArray→DM,append_nil→vab,nil_append→vac,all_cons→van,append_assoc→vaz,flatMap_cons→vaA,length_set→vaL,mem_of_mem_take→vaO,range→vaQ,mem_of_mem_drop→va7,getElem?_set_ne→vba,sum_cons→vbb,range'→vbh,mem_range→vbk,isPrefixOf→vbu,pairwise_cons→vbB,eraseIdx_eq_take_drop_succ→vbJ
open List.Perm renaming refl→vbI
open Nat renaming le_of_ble_eq_true→AX,le_refl→A4,zero_add→BU,blt→BV,beq→B2,ble→CG,zero_le→CH,ble_eq_true_of_le→CV,lt_of_lt_of_le→CY,le_trans→DD,add_zero→DJ,eq_of_beq_eq_true→vae,min_eq_left→vaG,add_assoc→vaJ,pow_le_pow_right→vaV,beq_refl→vbj,lt_of_le_of_lt→vbn,strongRecOn→vbC
open Option renaming map_eq_some_iff→DP,some→AA,none→AB
open Option.some renaming injEq→AK,inj→CB
open Prod.mk renaming injEq→A1
open UInt8 renaming toNat_ofNat_of_lt'→va0
namespace Go.Proofs
open Go.Shelf
def Tryz.lays156_ren:Go.Shelf.Ren:=⟨λ|156=>44|165=>103|166=>94|169=>47|240=>148|241=>162|276=>192|277=>205|n=>n,λ|31=>65|9=>9|3=>3|4=>4|0=>0|20=>20|72=>98|76=>150|70=>96|37=>51|75=>149|127=>161|164=>226|5=>5|80=>102|n=>n,λ|n=>n⟩
theorem Tryz.lays156:Go.Proofs.Lays.n156 Tryz.prog Tryz.lays156_ren:=by constructor<;>first|kernel_rfl|(intro _;kernel_rfl)
theorem Tryz.Builder_Extra_156:Builder.Extra Tryz.prog Tryz.lays156_ren:={
 sizeBuilder:=by kernel_rfl
 liesBuilder:=by kernel_rfl
 t5:=Tryz.underlying5
 a5:=Tryz.isAgg5
 z5:=Tryz.sizeOf5
 v5:=Tryz.zeroValue5
 infoByte:=by kernel_rfl
 cellsByte:=by kernel_rfl
 sizeByte:=by kernel_rfl
 neB5:=by decide}
open Go.RowKit in
theorem Tryz.strings_Join_none (a:Option Addr) (c:Nat) (sep:BA) (w:World) :
 Calls Tryz.prog 44 #[.slice a 0 c,.string sep] w fun e w'=>e = .returned (.string ⟨#[]⟩)∧w'=w:=Any.strings_Join_none Tryz.lays156 Tryz.Builder_Extra_156 a c sep w
open Go.RowKit in
theorem Tryz.strings_Join (bk o c:Nat) (xs:List BA) (sep:BA) (w:World) (hcells:∀ (j:Nat) x,xs[j]?=some x→w.cell? ⟨bk,o+j,none⟩=some (.string x)) (hbk:bk < w.heap.size) (hN:xs.length≤140737488355328) (hcap:xs.length≤c) (hlen:(Lib.join (xs.map (·.data.toList)) sep.data.toList).length≤140737488355328) :
 Calls Tryz.prog 44 #[.slice (some ⟨bk,o,none⟩) xs.length c,.string sep] w fun e w'=>e = .returned (.string ⟨(Lib.join (xs.map (·.data.toList)) sep.data.toList).toArray⟩)∧Below w.heap.size w w':=Any.strings_Join Tryz.lays156 Tryz.Builder_Extra_156 bk o c xs sep w hcells hbk hN hcap hlen
def Tryz.lays162_ren:Go.Shelf.Ren:=⟨λ|162=>101|232=>155|227=>156|234=>157|236=>158|228=>200|271=>201|151=>202|120=>238|197=>223|152=>239|260=>249|137=>121|119=>263|224=>227|225=>226|217=>177|266=>213|n=>n,λ|9=>9|4=>4|3=>3|5=>5|117=>195|116=>194|0=>0|124=>198|21=>21|105=>237|46=>156|119=>296|139=>299|138=>298|n=>n,λ|3=>4|4=>5|n=>n⟩
theorem Tryz.lays162:Go.Proofs.Lays.n162 Tryz.prog Tryz.lays162_ren:=by constructor<;>first|kernel_rfl|(intro _;kernel_rfl)
open Go.RowKit in
theorem Tryz.strings_TrimRight_one (s:BA) (c:UInt8) (hc:c.toNat < 128) (w:World) (hs:s.size≤9223372036854775807) :
 Calls Tryz.prog 101 #[.string s,.string ⟨#[c]⟩] w fun e w'=>e = .returned (.string ⟨(Lib.trimRightB s.data.toList c).toArray⟩)∧w'=w:=Any.strings_TrimRight_one Tryz.lays162 s c hc w hs
def Tryz.lays137_ren:Go.Shelf.Ren:=⟨λ|137=>121|217=>177|266=>213|n=>n,λ|9=>9|5=>5|3=>3|n=>n,λ|n=>n⟩
theorem Tryz.lays137:Go.Proofs.Lays.n137 Tryz.prog Tryz.lays137_ren:=by constructor<;>first|kernel_rfl|(intro _;kernel_rfl)
open Go.RowKit in
theorem Tryz.strings_IndexByte (s:BA) (c:Int) (w:World) :
 Calls Tryz.prog 121 #[.string s,.int .u8 c] w fun e w'=>e = .returned (.int .i64 (Lib.indexByte s.data.toList c.toNat.toUInt8))∧w'=w:=Any.strings_IndexByte Tryz.lays137 s c w
def Tryz.lays103_ren:Go.Shelf.Ren:=⟨λ|103=>55|210=>120|206=>176|n=>n,λ|9=>9|4=>4|24=>112|3=>3|n=>n,λ|n=>n⟩
theorem Tryz.lays103:Go.Proofs.Lays.n103 Tryz.prog Tryz.lays103_ren:=by constructor<;>first|kernel_rfl|(intro _;kernel_rfl)
open Go.RowKit in
theorem Tryz.strings_CutPrefix (s p:BA) (w:World) :
 Calls Tryz.prog 55 #[.string s,.string p] w fun e w'=>e = .returned (.tuple #[.string ⟨(Lib.trimPrefix s.data.toList p.data.toList).toArray⟩,.bool (Lib.hasPrefix s.data.toList p.data.toList)])∧w'=w:=Any.strings_CutPrefix Tryz.lays103 s p w
def Tryz.lays283_ren:Go.Shelf.Ren:=⟨λ|283=>196|n=>n,λ|3=>3|9=>9|4=>4|n=>n,λ|n=>n⟩
theorem Tryz.lays283:Go.Proofs.Lays.n283 Tryz.prog Tryz.lays283_ren:=by constructor<;>first|kernel_rfl|(intro _;kernel_rfl)
open Go.Lib in
theorem Tryz.internal_strconv_small (i:Nat) (h:i < 100) (w:World) :
 Calls Tryz.prog 196 #[.int .i64 i] w fun e w'=>e = .returned (.string ⟨(Lib.decDigits i).toArray⟩)∧w'=w:=Any.internal_strconv_small Tryz.lays283 i h w
def Tryz.laysM284_ren:Go.Shelf.Ren:=⟨λ|284=>197|129=>234|317=>233|318=>235|n=>n,λ|53=>106|3=>3|212=>268|0=>0|4=>4|46=>156|5=>5|9=>9|n=>n,λ|17=>1|n=>n⟩
theorem Tryz.laysM284:Go.Proofs.LaysM.n284 Tryz.prog Tryz.laysM284_ren:=by constructor<;>first|kernel_rfl|(intro _;kernel_rfl)|(constructor<;>first|kernel_rfl|(intro _;kernel_rfl)|(constructor<;>first|kernel_rfl|(intro _;kernel_rfl)))
open Go.Lib in
theorem Tryz.internal_strconv_numDigits (u:Nat) (h1:1≤u) (h2:u < 18446744073709551616) (w:World) (htab:Lib.TabIs Tryz.prog w "internal/strconv.uint64pow10" .u64 Lib.pow10Tab) :
 Calls Tryz.prog 197 #[.int .u64 u] w fun e w'=>e = .returned (.int .i64 (Lib.nDigits u))∧w'=w:=Any.internal_strconv_numDigits Tryz.laysM284 u h1 h2 w htab
def Tryz.lays285_ren:Go.Shelf.Ren:=⟨λ|285=>198|n=>n,λ|37=>51|53=>106|3=>3|4=>4|51=>240|9=>9|5=>5|0=>0|n=>n,λ|n=>n⟩
theorem Tryz.lays285:Go.Proofs.Lays.n285 Tryz.prog Tryz.lays285_ren:=by constructor<;>first|kernel_rfl|(intro _;kernel_rfl)
open Go.RowKit Go.Sort Go.Lib in
theorem Tryz.internal_strconv_formatBase10 (blk off cap:Nat) (u:Nat) (d:Array UInt8) (w:World) (hH:Holds (fun (b:UInt8)=>Value.int .u8 (b.toNat:Int)) w blk off d) (hu:u < 10 ^ d.size) (hu64:u < 18446744073709551616) (hsz:d.size < 4611686018427387904) :
 Calls Tryz.prog 198 #[.slice (some ⟨blk,off,none⟩) d.size cap,.int .u64 u] w fun e w'=>
  e = .returned (.tuple #[])∧∃ (n v':Nat) (dk:Array UInt8),w'=(putRow (fun (b:UInt8)=>Value.int .u8 (b.toNat:Int)) w blk off dk).drewN n∧FmtInv d.size u 0 v' dk:=Any.internal_strconv_formatBase10 Tryz.lays285 blk off cap u d w hH hu hu64 hsz
def Tryz.laysM171_ren:Go.Shelf.Ren:=⟨λ|171=>42|243=>98|246=>153|283=>196|284=>197|285=>198|286=>199|129=>234|317=>233|318=>235|319=>236|320=>237|337=>261|338=>262|n=>n,λ|3=>3|9=>9|2=>2|4=>4|171=>231|0=>0|53=>106|37=>51|5=>5|173=>234|212=>268|51=>240|20=>20|213=>269|46=>156|232=>305|233=>306|n=>n,λ|17=>1|18=>6|19=>7|n=>n⟩
theorem Tryz.laysM171:Go.Proofs.LaysM.n171 Tryz.prog Tryz.laysM171_ren:=by constructor<;>first|kernel_rfl|(intro _;kernel_rfl)|(constructor<;>first|kernel_rfl|(intro _;kernel_rfl)|(constructor<;>first|kernel_rfl|(intro _;kernel_rfl)))
open Go.RowKit Go.Sort Go.Lib in
theorem Tryz.strconv_Itoa (n:Int) (h0 : -9223372036854775808≤n) (h1:n≤9223372036854775807) (w:World) (htab:Lib.TabIs Tryz.prog w "internal/strconv.uint64pow10" .u64 Lib.pow10Tab) :
 Calls Tryz.prog 42 #[.int .i64 n] w fun e w'=>e = .returned (.string ⟨(Lib.itoa n).toArray⟩)∧∃ k os,w'=grow (w.drewN k) os:=Any.strconv_Itoa Tryz.laysM171 n h0 h1 w htab
def Tryz.laysC172_ren:Go.Shelf.Ren:=⟨λ|172=>122|244=>178|245=>179|247=>214|279=>215|280=>216|281=>217|282=>218|287=>245|316=>246|171=>42|205=>247|321=>265|322=>266|243=>98|246=>153|283=>196|284=>197|285=>198|286=>199|129=>234|317=>233|318=>235|319=>236|320=>237|337=>261|338=>262|n=>n,λ|9=>9|3=>3|75=>149|76=>150|4=>4|5=>5|167=>250|37=>51|0=>0|85=>251|2=>2|168=>253|53=>106|175=>258|46=>156|210=>277|127=>161|145=>295|143=>293|21=>21|171=>231|173=>234|212=>268|51=>240|20=>20|213=>269|232=>305|233=>306|80=>102|n=>n,λ|15=>2|16=>3|17=>1|18=>6|19=>7|n=>n⟩
theorem Tryz.laysC172:Go.Proofs.LaysC.n172 Tryz.prog Tryz.laysC172_ren:=by constructor<;>first|kernel_rfl|(intro _;kernel_rfl)|(constructor<;>first|kernel_rfl|(intro _;kernel_rfl)|(constructor<;>first|kernel_rfl|(intro _;kernel_rfl)))
open Go.RowKit in
theorem Tryz.strconv_Atoi_ok (s:BA) (hmax:s.size≤9223372036854775806) (v:Int) (h:Lib.atoiAll s.data.toList = .ok v) (w:World) :
 Calls Tryz.prog 122 #[.string s] w fun e w'=>e = .returned (.tuple #[.int .i64 v,.nilIface])∧(w'=w∨∃ t,w'=Lib.bytesWorld w 5 t):=Any.strconv_Atoi_ok Tryz.laysC172 s hmax v h w
open Go.RowKit in
theorem Tryz.strconv_Atoi_syntax (s:BA) (hlim:s.size≤281474976710656) (h:Lib.atoiAll s.data.toList=Lib.NumEnd.syntax) (ev:Value) (w:World) (hv:w.cell? ⟨2,0,none⟩=some ev) (hev:ev = .nilIface∨∃ te pe,ev = .iface te pe) :
 Calls Tryz.prog 122 #[.string s] w fun e w'=>∃ N,e = .returned (.tuple #[.int .i64 (0),.iface 253 (.pointer (some ⟨N,0,none⟩))])∧w.heap.size≤N∧w'.heap[N]?=some (.cells #[.string ⟨#[65,116,111,105]⟩,.string s,ev] 277 (0,0))∧Below w.heap.size w w':=Any.strconv_Atoi_syntax Tryz.laysC172 s hlim h ev w hv hev
open Go.RowKit in
theorem Tryz.strconv_Atoi_range (s:BA) (hlim:s.size≤281474976710656) (h:Lib.atoiAll s.data.toList = .range) (ev:Value) (w:World) (hv:w.cell? ⟨3,0,none⟩=some ev) (hev:ev = .nilIface∨∃ te pe,ev = .iface te pe) :
 Calls Tryz.prog 122 #[.string s] w fun e w'=>∃ N,e = .returned (.tuple #[.int .i64 (Lib.atoiSat s.data.toList),.iface 253 (.pointer (some ⟨N,0,none⟩))])∧w.heap.size≤N∧w'.heap[N]?=some (.cells #[.string ⟨#[65,116,111,105]⟩,.string s,ev] 277 (0,0))∧Below w.heap.size w w':=Any.strconv_Atoi_range Tryz.laysC172 s hlim h ev w hv hev
def Tryz.laysPu14_ren:Go.Shelf.Ren:=⟨λ|14=>225|16=>245|17=>179|19=>265|20=>266|21=>215|22=>216|23=>217|24=>218|25=>246|27=>42|26=>247|28=>98|29=>153|30=>196|31=>197|32=>198|33=>199|35=>234|34=>233|36=>235|37=>236|38=>237|39=>261|40=>262|n=>n,λ|9=>9|3=>3|22=>106|24=>149|25=>258|4=>4|34=>250|5=>5|36=>156|37=>51|0=>0|39=>253|21=>21|44=>277|47=>161|50=>295|48=>293|2=>2|52=>231|55=>234|59=>268|60=>240|20=>20|61=>269|65=>305|66=>306|67=>102|n=>n,λ|0=>2|1=>3|2=>1|3=>6|4=>7|n=>n⟩
theorem Tryz.laysPu14:Go.Proofs.LaysPu.n14 Tryz.prog Tryz.laysPu14_ren:=by constructor<;>first|kernel_rfl|(intro _;kernel_rfl)|(constructor<;>first|kernel_rfl|(intro _;kernel_rfl)|(constructor<;>first|kernel_rfl|(intro _;kernel_rfl)))
open Go.RowKit in
theorem Tryz.strconv_ParseUint_10_at64_ok (s:BA) (hmax:s.size≤9223372036854775806) (u:Nat) (h:Lib.parseUintB 64 s.data.toList = .ok u) (w:World) :
 Calls Tryz.prog 225 #[.string s,.int .i64 10,.int .i64 64] w fun e w'=>e = .returned (.tuple #[.int .u64 u,.nilIface])∧(w'=w∨w'=Lib.bytesWorld w 5 s):=Any.strconv_ParseUint_10_at64_ok Tryz.laysPu14 s hmax u h w
open Go.RowKit in
theorem Tryz.strconv_ParseUint_10_at64_syntax (s:BA) (hlim:s.size≤281474976710656) (h:Lib.parseUintB 64 s.data.toList=Lib.NumEnd.syntax) (ev:Value) (w:World) (hv:w.cell? ⟨2,0,none⟩=some ev) (hev:ev = .nilIface∨∃ te pe,ev = .iface te pe) :
 Calls Tryz.prog 225 #[.string s,.int .i64 10,.int .i64 64] w fun e w'=>∃ N,e = .returned (.tuple #[.int .u64 0,.iface 253 (.pointer (some ⟨N,0,none⟩))])∧w.heap.size≤N∧w'.heap[N]?=some (.cells #[.string ⟨#[80,97,114,115,101,85,105,110,116]⟩,.string s,ev] 277 (0,0))∧Below w.heap.size w w':=Any.strconv_ParseUint_10_at64_syntax Tryz.laysPu14 s hlim h ev w hv hev
open Go.RowKit in
theorem Tryz.strconv_ParseUint_10_at64_range (s:BA) (hlim:s.size≤281474976710656) (h:Lib.parseUintB 64 s.data.toList = .range) (ev:Value) (w:World) (hv:w.cell? ⟨3,0,none⟩=some ev) (hev:ev = .nilIface∨∃ te pe,ev = .iface te pe) :
 Calls Tryz.prog 225 #[.string s,.int .i64 10,.int .i64 64] w fun e w'=>∃ N,e = .returned (.tuple #[.int .u64 18446744073709551615,.iface 253 (.pointer (some ⟨N,0,none⟩))])∧w.heap.size≤N∧w'.heap[N]?=some (.cells #[.string ⟨#[80,97,114,115,101,85,105,110,116]⟩,.string s,ev] 277 (0,0))∧Below w.heap.size w w':=Any.strconv_ParseUint_10_at64_range Tryz.laysPu14 s hlim h ev w hv hev
def Tryz.lays145_ren:Go.Shelf.Ren:=⟨λ|145=>82|220=>139|219=>188|217=>177|225=>226|224=>227|267=>228|266=>213|314=>250|n=>n,λ|9=>9|4=>4|59=>114|3=>3|5=>5|46=>156|146=>241|51=>240|n=>n,λ|1=>0|n=>n⟩
theorem Tryz.lays145:Go.Proofs.Lays.n145 Tryz.prog Tryz.lays145_ren:=by constructor<;>first|kernel_rfl|(intro _;kernel_rfl)
open Go.RowKit Go.Lib in
theorem Tryz.strings_Cut (s sep:BA) (m:Int) (w:World) (hs:s.size < 4294967281) (hm:w.cell? ⟨0,0,none⟩=some (.int .i64 m)) :
 Calls Tryz.prog 82 #[.string s,.string sep] w fun e w'=>e = .returned (.tuple #[.string ⟨(Lib.cut s.data.toList sep.data.toList).1.toArray⟩,.string ⟨(Lib.cut s.data.toList sep.data.toList).2.1.toArray⟩,.bool (Lib.cut s.data.toList sep.data.toList).2.2])∧∃ n,w'=w.drewN n:=Any.strings_Cut Tryz.lays145 s sep m w hs hm
def Tryz.lays189_ren:Go.Shelf.Ren:=⟨λ|189=>194|125=>232|257=>231|128=>260|129=>234|294=>251|295=>252|296=>253|297=>254|298=>255|299=>256|216=>257|300=>258|301=>259|328=>267|329=>268|330=>269|331=>270|332=>271|215=>272|343=>273|n=>n,λ|28=>22|3=>3|46=>156|0=>0|51=>240|53=>106|4=>4|183=>284|182=>283|131=>86|5=>5|9=>9|218=>300|222=>303|228=>307|229=>211|n=>n,λ|n=>n⟩
theorem Tryz.lays189:Go.Proofs.Lays.n189 Tryz.prog Tryz.lays189_ren:=by constructor<;>first|kernel_rfl|(intro _;kernel_rfl)
open Go.Sort Go.RowKit in
theorem Tryz.slices_Sort_int (blk off cap:Nat) (zs:List Int) (w:World) (hH:Holds (Value.int .i64) w blk off zs.toArray) (hblk:blk < w.heap.size) (hsz:zs.length < 4611686018427387904) :
 Calls Tryz.prog 194 #[.slice (some ⟨blk,off,none⟩) zs.length cap] w fun e w'=>
  e = .returned (.tuple #[])∧∃ n os,w'=grow (putRow (Value.int .i64) (Sort.ahead w n) blk off (zs.mergeSort fun x y=>decide (x≤y)).toArray) os:=Any.slices_Sort_int Tryz.lays189 blk off cap zs w hH hblk hsz
def Tryz.lays146_ren:Go.Shelf.Ren:=⟨λ|146=>64|221=>129|268=>183|138=>184|143=>185|195=>222|197=>223|218=>224|219=>188|260=>249|217=>177|225=>226|224=>227|267=>228|266=>213|314=>250|n=>n,λ|9=>9|31=>65|3=>3|4=>4|0=>0|105=>237|21=>21|5=>5|46=>156|119=>296|139=>299|138=>298|146=>241|51=>240|n=>n,λ|1=>0|3=>4|4=>5|n=>n⟩
theorem Tryz.lays146:Go.Proofs.Lays.n146 Tryz.prog Tryz.lays146_ren:=by constructor<;>first|kernel_rfl|(intro _;kernel_rfl)
open Go.RowKit Go.Lib in
theorem Tryz.strings_Split (s sep:BA) (m:Int) (w:World) (hs:s.size < 4294967281) (hm:w.cell? ⟨0,0,none⟩=some (.int .i64 m)) (h1:1≤sep.size) :
 Calls Tryz.prog 64 #[.string s,.string sep] w fun e w'=>
  e = .returned (.slice (some ⟨w.heap.size,0,none⟩) (Lib.countB s sep+1) (Lib.countB s sep+1))∧w'=w.alloc (.cells ((Lib.splitB sep 0 (Lib.countB s sep) s).map Value.string).toArray 9):=Any.strings_Split Tryz.lays146 (by kernel_rfl) s sep m w hs hm h1
def Tryz.lays105_ren:Go.Shelf.Ren:=⟨λ|105=>102|212=>159|99=>160|165=>103|166=>94|170=>161|169=>47|263=>203|264=>204|206=>176|240=>148|241=>162|276=>192|277=>205|n=>n,λ|9=>9|3=>3|4=>4|20=>20|0=>0|46=>156|109=>199|5=>5|72=>98|76=>150|51=>240|146=>241|53=>106|148=>243|70=>96|37=>51|75=>149|127=>161|164=>226|80=>102|n=>n,λ|n=>n⟩
theorem Tryz.lays105:Go.Proofs.Lays.n105 Tryz.prog Tryz.lays105_ren:=by constructor<;>first|kernel_rfl|(intro _;kernel_rfl)
theorem Tryz.Builder_Extra_105:Builder.Extra Tryz.prog Tryz.lays105_ren:={
 sizeBuilder:=by kernel_rfl
 liesBuilder:=by kernel_rfl
 t5:=Tryz.underlying5
 a5:=Tryz.isAgg5
 z5:=Tryz.sizeOf5
 v5:=Tryz.zeroValue5
 infoByte:=by kernel_rfl
 cellsByte:=by kernel_rfl
 sizeByte:=by kernel_rfl
 neB5:=by decide}
open Go.RowKit Go.Lib in
theorem Tryz.strings_Repeat (s:BA) (c:Nat) (w:World) (hc:c≤9223372036854775807) (hlen:s.size*c≤140737488355328) :
 Calls Tryz.prog 102 #[.string s,.int .i64 c] w fun e w'=>e = .returned (.string ⟨(Lib.repeatL s.data.toList c).toArray⟩)∧Below w.heap.size w w':=Any.strings_Repeat Tryz.lays105 Tryz.Builder_Extra_105 s c w hc hlen
def Tryz.laysNm220_ren:Go.Shelf.Ren:=⟨λ|20=>195|n=>n,λ|22=>22|3=>3|4=>4|0=>0|n=>n,λ|n=>n⟩
theorem Tryz.laysNm220:Go.Proofs.Lays2.n20 Tryz.prog Tryz.laysNm220_ren:=by constructor<;>first|kernel_rfl|(intro _;kernel_rfl)|(constructor<;>first|kernel_rfl|(intro _;kernel_rfl)|(constructor<;>first|kernel_rfl|(intro _;kernel_rfl)))
open Go.RowKit Go.Lib Go.Sort in
theorem Tryz.slices_Compact_int (blk off cap:Nat) (zs:List Int) (w:World) (hH:Holds (Value.int .i64) w blk off zs.toArray) (hsz:zs.length≤9223372036854775807) (hcap:zs.length≤cap) :
 Calls Tryz.prog 195 #[.slice (some ⟨blk,off,none⟩) zs.length cap] w fun e w'=>e = .returned (.slice (some ⟨blk,off,none⟩) (Lib.compact zs).length cap)∧∃ q,w'=putRow (Value.int .i64) (Sort.ahead w q) blk off (Lib.compact zs++List.replicate (zs.length - (Lib.compact zs).length) 0).toArray:=Any.slices_Compact_int Tryz.laysNm220 blk off cap zs w hH hsz hcap
open Go.RowKit Go.Lib Go.Sort in
theorem Tryz.slices_Compact_int_empty (a:Option Addr) (cap:Nat) (w:World) :
 Calls Tryz.prog 195 #[.slice a 0 cap] w fun e w'=>e = .returned (.slice a 0 cap)∧w'=w:=Any.slices_Compact_int_empty Tryz.laysNm220 a cap w
open Go.RowKit Go.Sort in
theorem Tryz.slices_Sort_int_none (p:Option Addr) (cap:Nat) (w:World) :
 Calls Tryz.prog 194 #[.slice p 0 cap] w fun e w'=>e = .returned (.tuple #[])∧w'=w:=Any.slices_Sort_int_none Tryz.lays189 p cap w
def Tryz.laysSlH6_f193_ren:Go.Shelf.Ren:=⟨λ|6=>193|n=>n,λ|22=>22|23=>3|25=>91|3=>3|0=>0|4=>4|n=>n,λ|n=>n⟩
theorem Tryz.laysSlH6_f193:Go.Proofs.SlLaysH.n6 Tryz.prog Tryz.laysSlH6_f193_ren:={
 mixed:=by kernel_rfl
 f6:=⟨Tryz.f193.name,by decide,Tryz.func193.trans (congrArg some (by kernel_rfl))⟩
 t0:=Tryz.underlying0
 a0:=Tryz.isAgg0
 z0:=Tryz.sizeOf0
 v0:=Tryz.zeroValue0
 t3:=Tryz.underlying3
 a3:=Tryz.isAgg3
 z3:=Tryz.sizeOf3
 v3:=Tryz.zeroValue3
 t4:=Tryz.underlying4
 a4:=Tryz.isAgg4
 z4:=Tryz.sizeOf4
 v4:=Tryz.zeroValue4
 t22:=Tryz.underlying22
 a22:=Tryz.isAgg22
 z22:=Tryz.sizeOf22
 v22:=Tryz.zeroValue22
 a23:=Tryz.isAgg3
 z23:=Tryz.sizeOf3
 t25:=Tryz.underlying91
 a25:=Tryz.isAgg91
 z25:=Tryz.sizeOf91
 v25:=Tryz.zeroValue91}
open Go.RowKit Go.Lib in
theorem Tryz.slices_IndexFunc_empty {α:Type} [Inhabited α] (a:Option Addr) (c:Nat) (fv:Value) (w:World) :
 Calls Tryz.prog 193 #[.slice a 0 c,fv] w fun e w'=>e = .returned (.int .i64 (-1))∧w'=w:=AnyE.slices_IndexFunc_empty Tryz.laysSlH6_f193 a c fv w
def Tryz.laysSlH10_f150_ren:Go.Shelf.Ren:=⟨λ|10=>150|6=>193|n=>n,λ|22=>22|23=>3|25=>91|3=>3|4=>4|0=>0|n=>n,λ|n=>n⟩
theorem Tryz.laysSlH10_f150:Go.Proofs.SlLaysH.n10 Tryz.prog Tryz.laysSlH10_f150_ren:={
 mixed:=by kernel_rfl
 f6:=⟨Tryz.f193.name,by decide,Tryz.func193.trans (congrArg some (by kernel_rfl))⟩
 f10:=⟨Tryz.f150.name,by decide,Tryz.func150.trans (congrArg some (by kernel_rfl))⟩
 t0:=Tryz.underlying0
 a0:=Tryz.isAgg0
 z0:=Tryz.sizeOf0
 v0:=Tryz.zeroValue0
 t3:=Tryz.underlying3
 a3:=Tryz.isAgg3
 z3:=Tryz.sizeOf3
 v3:=Tryz.zeroValue3
 t4:=Tryz.underlying4
 a4:=Tryz.isAgg4
 z4:=Tryz.sizeOf4
 v4:=Tryz.zeroValue4
 t22:=Tryz.underlying22
 a22:=Tryz.isAgg22
 z22:=Tryz.sizeOf22
 v22:=Tryz.zeroValue22
 a23:=Tryz.isAgg3
 z23:=Tryz.sizeOf3
 t25:=Tryz.underlying91
 a25:=Tryz.isAgg91
 z25:=Tryz.sizeOf91
 v25:=Tryz.zeroValue91}
open Go.RowKit Go.Lib Go.Sort in
theorem Tryz.slices_DeleteFunc {α:Type} [Inhabited α] (enc:α→Value) (hO:OneCell enc) (p:α→Bool) (g:Nat) (lb:Array Value) (eg:∀ args w,(callFunc g args).run Tryz.prog w = .ok (.enter g args) w) (zr:α) (v23:∀ w,(zeroValue 3).run Tryz.prog w = .ok (enc zr) w) (blk off cap:Nat) (d:Array α) (w:World) (hp:PredAt Tryz.prog g lb enc p w) (hpo:PredOver Tryz.prog g lb enc p blk off d.size w) (hH:Holds enc w blk off d) (hsz:d.size≤9223372036854775807) (hcap:d.size≤cap) :
 Calls Tryz.prog 150 #[.slice (some ⟨blk,off,none⟩) d.size cap,.func (.func g) #[] lb] w fun e w'=>e = .returned (.slice (some ⟨blk,off,none⟩) (d.toList.filter fun x=>!p x).length cap)∧∃ q,w'=putRow enc (Sort.ahead w q) blk off ((d.toList.filter fun x=>!p x)++List.replicate (d.size - (d.toList.filter fun x=>!p x).length) zr).toArray:=AnyE.slices_DeleteFunc Tryz.laysSlH10_f150 enc hO p g lb eg zr v23 blk off cap d w hp hpo hH hsz hcap
end Go.Proofs
namespace Go.FM
open Go Go.Proofs Go.RowKit Go.Sort Go.Lib
set_option maxHeartbeats 12800000 in
theorem ly (u:Nat) (hu64:u < 18446744073709551616) (w:World) (htab:Lib.TabIs Tryz.prog w "internal/strconv.uint64pow10" .u64 Lib.pow10Tab) :
  Calls Tryz.prog 154 #[.int .u64 u,.int .i64 10] w fun e w'=>e = .returned (.string ⟨(Lib.decDigits u).toArray⟩)∧∃ k os,w'=grow (w.drewN k) os:=by
 by_cases hs:u < 100
 ·have hwr:IntKind.i64.wrap (u:Int)=(u:Int):=by rw [IntKind.wrap_i64]; omega
  have iu:(u:Int) < 100:=by omega
  go_enter Tryz.func154,Tryz.ntmps154
  go_wp2_with (go_at_call 196; refine (Tryz.internal_strconv_small u hs _).mono ?_; rintro e w' ⟨rfl,rfl⟩)
  go_ret
  exact ⟨rfl,0,#[],by simp [World.drewN_zero]⟩
 ·have hu1:1≤u:=by omega
  have hnd20:Lib.nDigits u≤20:=by have:=Lib.numDigits_eq u hu1 hu64; split at this <;> omega
  have hal:Tryz.prog.arrayLen 231=24:=by simp [Program.arrayLen,Tryz.underlying231]
  have hsl:∀ W,(Instr.sliceAt 231 (.pointer (some ⟨w.heap.size,0,none⟩)) none (some (.int .i64 (Lib.nDigits u:Int))) none).run Tryz.prog W = .ok (.slice (some ⟨w.heap.size,0,none⟩) (Lib.nDigits u) 24) W:=fun W=>by
   rw [run_sliceAt_array_h W 231 ⟨w.heap.size,0,none⟩ (by simp [Program.arrayLen,Program.elem,Tryz.underlying231]) .i64 (Lib.nDigits u:Int) (by omega) (by rw [hal]; omega)]
   go_simp
  have hH0:=Lib.holds_zero0 w 231 (Lib.nDigits u) (by omega);have hfmt:=Tryz.internal_strconv_formatBase10 w.heap.size 0 24 u (Array.replicate (Lib.nDigits u) 0) (w.alloc (.cells Lib.zeros24 231)) hH0 (by rw [Array.size_replicate]; exact Lib.lt_pow_nDigits u) hu64 (by rw [Array.size_replicate]; omega);rw [Array.size_replicate] at hfmt;have HH0:=Lib.hid hH0;have iu:¬ (u:Int) < 100:=by omega
  clear hH0 hal hs
  go_enter Tryz.func154,Tryz.ntmps154
  go_wp2_with (first
   | (go_at_call 197; refine (Tryz.internal_strconv_numDigits u hu1 hu64 _ (Lib.tabIs_alloc htab _)).mono ?_; rintro e w' ⟨rfl,rfl⟩))
  go_at_call 198
  refine hfmt.mono ?_;rintro e w' ⟨rfl,k,v',dk,rfl,hF⟩;have hcv:(convert 51 9 (.slice (some ⟨w.heap.size,0,none⟩) (Lib.nDigits u) 24)).run Tryz.prog ((putRow (fun (b:UInt8)=>Value.int .u8 (b.toNat:Int)) (w.alloc (.cells Lib.zeros24 231)) w.heap.size 0 dk).drewN k) = .ok (.string ⟨(Lib.decDigits u).toArray⟩) ((putRow (fun (b:UInt8)=>Value.int .u8 (b.toNat:Int)) (w.alloc (.cells Lib.zeros24 231)) w.heap.size 0 dk).drewN k):=by
   have h:=run_convert_bytes_back (P:=Tryz.prog) ((putRow (fun (b:UInt8)=>Value.int .u8 (b.toNat:Int)) (w.alloc (.cells Lib.zeros24 231)) w.heap.size 0 dk).drewN k) 51 9 5 ⟨w.heap.size,0,none⟩ 24 (Lib.decDigits u) Tryz.underlying51 Tryz.underlying5 Tryz.underlying9 (fun j hj=>by
    rw [Lib.row_is_numeral hF j hj,Lib.add_plain,World.cell?_drewN];exact cell?_putRow (fun (b:UInt8)=>Value.int .u8 (b.toNat:Int)) _ w.heap.size 0 _ dk HH0.out (by rw [hF.size,Array.size_replicate]) j (by rw [hF.size]; rw [Lib.decDigits_length] at hj; exact hj))
   rw [Lib.decDigits_length] at h;exact h
  go_wp2
  go_ret
  obtain ⟨os,eo⟩:=Lib.fin_at w (.cells Lib.zeros24 231) dk k 0;exact ⟨rfl,k,os,eo⟩
set_option maxHeartbeats 1600000 in
theorem lx (u:Nat) (hu64:u < 18446744073709551616) (w:World) (htab:Lib.TabIs Tryz.prog w "internal/strconv.uint64pow10" .u64 Lib.pow10Tab) :
  Calls Tryz.prog 99 #[.int .u64 u,.int .i64 10] w fun e w'=>e = .returned (.string ⟨(Lib.decDigits u).toArray⟩)∧∃ k os,w'=grow (w.drewN k) os:=by
 go_enter Tryz.func99,Tryz.ntmps99
 go_wp2_with (go_at_call 154; refine (ly u hu64 _ htab).mono ?_; rintro e w' ⟨rfl,hw⟩)
 go_ret
 exact ⟨rfl,hw⟩
theorem zff:(PR.info? 9).map (λi=>(i.zero,i.size,i.bytes))=AA (AA (.string .empty),1,16):=AF
set_option maxHeartbeats 4000000 in
theorem ct (b:Addr) (n c:Nat) (news:List Value) (w:World) (hl:news.length=n) (hn:n≤maxLen) (hbig:n*16≤140737488355328)
  (hc:∀ j u,news[j]?=some u→w.cell? (b.add j)=some u) (h1:∀ u∈news,u.oneCell'=true) :
  Calls Tryz.prog 138 #[.slice (some b) n c] w fun e w'=>∃ v',e = .returned v'∧w'.ownsRow w.heap.size 9 1 v' n news∧Below w.heap.size w w':=by
 obtain ⟨i0,hi,hz0,hz1,hz2⟩:=info_parts zff;have qS:∀ (w:World) (a:Option Addr) (n c n' c':Nat),(binOp .eql 65 (.slice a n c) (.slice none n' c')).run Tryz.prog w = .ok (.bool a.isNone) w:=fun w a n c n' c'=>Lib.run_eql_slice_nil w _ _ a n c n' c' Tryz.underlying65
 have A:Aside (∀ j u,news[j]?=some u→w.cell? (b.add j)=some u):=hc;clear hc
 go_enter Tryz.func138,Tryz.ntmps138
 go_wp2_with (at_builtin; refine wpList_append_own _ rfl _ _ 65 rfl w.heap.size 9 i0 (.string .empty) 1 16 Tryz.underlying65 hi hz0 hz1 hz2 rfl (by decide) _ _ _ rfl (World.ownsRow_made w #[] 0 (Nat.le_refl _) (Nat.zero_le _) (by simp)) b n c news rfl ?qc1 ?qc2 ?qc3 ?qc4 ?qc5 ?qc6 ?_)
 case qc1=>rw [Nat.mul_one]; exact hl
 case qc2=>
  intro j u hj;exact Lib.cell?_alloc_some _ (A.out j u hj)
 case qc3=>exact h1
 case qc4=>rw [Nat.zero_add]; exact hn
 case qc5=>rw [Nat.zero_add]; exact hbig
 case qc6=>simp
 intro v' w1 hown hgrow hnil
 go_wp2
 go_ret
 refine ⟨v',rfl,by simpa using hown,?_⟩;exact ((Below.refl _ w).alloc (Nat.le_refl _) _).grown hgrow (by simp) (by intro k hk; simp [Value.ownBlock] at hk; omega)
set_option maxHeartbeats 1000000 in
theorem cm (n c:Nat) (w:World):Calls Tryz.prog 138 #[.slice none n c] w fun e w'=>e = .returned (.slice none 0 0)∧w'=w:=by
 have qS:∀ (w:World) (a:Option Addr) (n c n' c':Nat),(binOp .eql 65 (.slice a n c) (.slice none n' c')).run Tryz.prog w = .ok (.bool a.isNone) w:=fun w a n c n' c'=>Lib.run_eql_slice_nil w _ _ a n c n' c' Tryz.underlying65
 go_enter Tryz.func138,Tryz.ntmps138
 go_wp2
 go_ret
 exact ⟨rfl,rfl⟩
open Go Go.RowKit
def kL:D4
 |[.list AD [.str] l]=>.br (AE (l.length<=4294967296)) (.ok (.vec 9 AD [.str] l) []) .no
 |_=>.no
def f8:D4
 |[.list AD [.str] l,.str s]=>.ok (.int .i64 (GB l s 0)) []
 |_=>.no
open Go Go.Proofs Go.RowKit
structure GF (h:Nat->Option Obj):Prop where
 unit:True
 gm:∃c T fr m,h 0=AA (.cells c T fr)/\c[0]?=AA (.int .i64 m)
 gp:∃T fr,h 1=AA (.cells (Lib.pow10Tab.map λz=>Value.int .u64 z).toArray T fr)
 gs:∃c T fr te pe,h 2=AA (.cells c T fr)/\c[0]?=AA (.iface te pe)
 gr:∃c T fr te pe,h 3=AA (.cells c T fr)/\c[0]?=AA (.iface te pe)
def B0:BT:={T:=98,e:=5,ng:=4,F:=GF}
theorem lY{w:World}{h:Nat->Option Obj}(hh:h=λb=>if b<B0.ng then w.heap[b]? else AB){g:Nat}(hg:g<4){o:Obj}(ho:h g=AA o):w.heap[g]?=AA o:=by
 rw[hh]at ho;simp only at ho;rw[BX (show g<B0.ng from hg)]at ho;exact ho
theorem Gk{w:World}(h:Glob B0 w):∃m,w.cell? ⟨0,0,AB⟩=AA (.int .i64 m):=by
 obtain⟨c,T,fr,m,h1,h2⟩:=h.2.gm;exact⟨m,by simp only[vaI,lY rfl (by decide) h1];exact h2⟩
theorem Gl{w:World}(h:Glob B0 w):Lib.TabIs Tryz.prog w "internal/strconv.uint64pow10" .u64 Lib.pow10Tab:=by
 obtain⟨T,fr,h1⟩:=h.2.gp;have hn:Tryz.prog.globalNamed "internal/strconv.uint64pow10" =AA 1:=by kernel_rfl
 unfold Lib.TabIs World.var?;rw[hn];simp only[Option.bind_some,lY rfl (by decide) h1]
theorem Gn{w:World}(h:Glob B0 w):∃ev,w.cell? ⟨2,0,AB⟩=AA ev/\(ev=.nilIface\/∃te pe,ev=.iface te pe):=by
 obtain⟨c,T,fr,te,pe,h1,h2⟩:=h.2.gs;exact⟨_,by simp only[vaI,lY rfl (by decide) h1];exact h2,.inr ⟨te,pe,rfl⟩⟩
theorem Gm{w:World}(h:Glob B0 w):∃ev,w.cell? ⟨3,0,AB⟩=AA ev/\(ev=.nilIface\/∃te pe,ev=.iface te pe):=by
 obtain⟨c,T,fr,te,pe,h1,h2⟩:=h.2.gr;exact⟨_,by simp only[vaI,lY rfl (by decide) h1];exact h2,.inr ⟨te,pe,rfl⟩⟩
theorem Keep.below{w w':World}(h:Below w.heap.size w w'):Keep (λ_=>False) w w':=⟨h.os,h.tape,h.output,h.size,λb hb _=>h.block b hb⟩
theorem Keep.drewN{O:Nat->Prop}(w:World):∀n,Keep O w (w.drewN n):=λ_=>⟨rfl,rfl,rfl,A4 _,λ_ _ _=>rfl⟩
theorem Keep.grow(w:World)(os:Array Obj):Keep (λ_=>False) w (Go.Sort.grow w os):=⟨rfl,rfl,rfl,by simp[Go.Sort.grow],λb hb _=>by simp[Go.Sort.grow,Array.getElem?_append_left hb]⟩
theorem wV:D6 PR B0 94 U3:=by
 intro w X γ vs xs r out hsp hg hx hR hV;unfold U3 at hsp;simp only at hsp;split at hsp
 .rename_i s t;cases hc:AE (s.size+t.size<=strMax)with
  |false=>rw[hc]at hsp;simp[R.get]at hsp
  |true=>
   rw[hc]at hsp;simp only[R.get,AK,A1]at hsp;obtain⟨rfl,rfl⟩:=hsp;have hle:s.size+t.size<=strMax:=BB hc;refine wN hR rfl rfl (λγ' o w' O x h=>by
    simp only[VRel]at h ⊢;obtain⟨cs,rfl,h⟩:=h;refine⟨cs,rfl,?_⟩
    match cs,h with
    |⟨[a,b]⟩,h=>simp only[VRels,VRel]at h ⊢;exact h) (λb v p hgm hB=>?_)
   obtain⟨x0,x1,rfl⟩:∃x0 x1,xs=[x0,x1]:=by
    have:=hV.length
    simp at this
    match xs,this with
    |[a,b],_=>exact⟨a,b,rfl⟩
   simp only[A8,CN,EV,VRels]at hV;have h0:=pY hgm hV.1;have h1:=hV.2.1;simp only[VRel]at h1;obtain⟨rfl,ht⟩:=h1;subst h0;refine Does.of_calls Tryz.func94 AF AF ((ba b p v (DO s) t w hB.self hB.heap (by rw[vaC];exact hB.own) hB.ne (by rw[vaC];unfold strMax at hle;omega)).mono ?_);rintro e w' ⟨rfl,v',q1,q2,q3,q4,q5⟩;refine⟨_,rfl,⟨_,v',⟨.inr rfl,q1,?_,q3,?_⟩,q4,q5⟩,λO=>?_⟩
   .have e1:DO (s++t)=DO s++DO t:=by simp[DO]
    have e2:(s++t).size=(DO s++DO t).length:=by simp[vaC]
    rw[e1,e2];exact q2
   .simp only[BC];exact hle
   .simp only[VRel];refine⟨_,rfl,?_⟩;simp only[VRels,VRel,ic,CI];refine⟨trivial,?_,?_⟩
    .have:AJ.min= -9223372036854775808:=rfl
     omega
    .have:AJ.max=9223372036854775807:=rfl
     unfold strMax at hle;omega
 .simp[R.get]at hsp
theorem be{c:Int}(h0:IntKind.u8.min<=c)(h1:c<=IntKind.u8.max):(Value.int .u8 ((N7 c).toNat:Int))=.int .u8 c:=by
 have e1:IntKind.u8.min=0:=rfl;have e2:IntKind.u8.max=255:=rfl
 have:((N7 c).toNat:Int)=c:=by
  unfold N7;rw[va0 (by simp[UInt8.size];omega)];omega
 rw[this]
theorem Qg:D6 PR B0 105 ZZ:=by
 intro w X γ vs xs r out hsp hg hx hR hV;unfold ZZ at hsp;simp only at hsp;split at hsp
 .rename_i s c;cases hc:AE (s.size+1<=strMax)with
  |false=>rw[hc]at hsp;simp[R.get]at hsp
  |true=>
   rw[hc]at hsp;simp only[R.get,AK,A1]at hsp;obtain⟨rfl,rfl⟩:=hsp;have hle:s.size+1<=strMax:=BB hc;refine wN hR rfl rfl (λγ' o w' O x h=>by simp only[VRel]at h ⊢;exact h) (λb v p hgm hB=>?_);obtain⟨x0,x1,rfl⟩:∃x0 x1,xs=[x0,x1]:=by
    have:=hV.length
    simp at this
    match xs,this with
    |[a,b],_=>exact⟨a,b,rfl⟩
   simp only[A8,CN,EV,VRels]at hV;have h0:=pY hgm hV.1;have h1:=hV.2.1;simp only[VRel]at h1;obtain⟨rfl,hc0,hc1⟩:=h1;subst h0;refine Does.of_calls Tryz.func105 AF AF ((az b p v (DO s) c w hB.self hB.heap (by rw[vaC];exact hB.own) hB.ne (by rw[vaC];unfold strMax at hle;omega)).mono ?_);rintro e w' ⟨rfl,v',q1,q2,q3,q4,q5⟩;refine⟨_,rfl,⟨_,v',⟨.inr rfl,q1,?_,q3,?_⟩,q4,q5⟩,λO=>by simp only[VRel]⟩
   .have e1:DO (s.push (N7 c))=DO s++[.int .u8 c]:=by
     rw[<-be hc0 hc1];simp[DO]
    have e2:(s.push (N7 c)).size=(DO s++[Value.int .u8 c]).length:=by simp[vaC]
    rw[e1,e2];exact q2
   .simp only[va5];exact hle
 .simp[R.get]at hsp
theorem wU:D6 PR B0 47 U2:=by
 intro w X γ vs xs r out hsp hg hx hR hV;unfold U2 at hsp;simp only at hsp;split at hsp
 .rename_i s;simp only[R.get,AK,A1]at hsp;obtain⟨rfl,rfl⟩:=hsp;refine wN hR rfl rfl (λγ' o w' O x h=>by simp only[VRel]at h ⊢;exact h) (λb v p hgm hB=>?_);obtain⟨x0,rfl⟩:∃x0,xs=[x0]:=by
   have:=hV.length
   simp at this
   match xs,this with
   |[a],_=>exact⟨a,rfl⟩
  simp only[A8,CN,EV,VRels]at hV;have h0:=pY hgm hV.1;subst h0;refine Does.of_calls Tryz.func47 AF AF ((ar b p v s w hB.heap hB.own hB.ne).mono ?_);rintro e w' ⟨rfl,q1,q2,q3⟩;exact⟨_,rfl,⟨p,v,⟨hB.self,q1,q2,hB.ne,hB.size⟩,q3,λk hk=>.inl hk⟩,λO=>by simp only[VRel];exact⟨trivial,hB.size⟩⟩
 .simp[R.get]at hsp
theorem jV:D6 PR B0 42 PZ:=by
 intro w X γ vs xs r out hsp hg hx hR hV;unfold PZ at hsp;simp only at hsp;split at hsp
 .rename_i n;simp only[R.get,AK,A1]at hsp;obtain⟨rfl,rfl⟩:=hsp;obtain⟨x0,rfl⟩:∃x0,xs=[x0]:=by
   have:=hV.length
   simp at this
   match xs,this with
   |[a],_=>exact⟨a,rfl⟩
  simp only[A8,CN,EV,VRels,VRel,CI]at hV;obtain⟨rfl,h0,h1⟩:=hV;refine RF hR rfl rfl (Does.of_calls Tryz.func42 AF AF ((Tryz.strconv_Itoa n h0 h1 w (Gl hg)).mono ?_));rintro e w' ⟨rfl,k,os,rfl⟩;exact⟨_,rfl,((Keep.drewN w k).trans (Keep.grow _ os) (λ_ _ h=>h)),λO _=>by
   simp only[VRel];exact⟨rfl,by have:=aT h0 h1;unfold strMax;omega⟩⟩
 .simp[R.get]at hsp
theorem oH:D6 PR B0 122 R0:=by
 intro w X γ vs xs r out hsp hg hx hR hV;unfold R0 at hsp;simp only at hsp;split at hsp
 .rename_i s;simp only[R.get,AK,A1]at hsp;obtain⟨rfl,rfl⟩:=hsp;obtain⟨x0,rfl⟩:∃x0,xs=[x0]:=by
   have:=hV.length
   simp at this
   match xs,this with
   |[a],_=>exact⟨a,rfl⟩
  simp only[A8,CN,EV,VRels,VRel,CI]at hV;obtain⟨rfl,hs⟩:=hV;unfold strMax at hs;have hb:=zK s;refine RF hR rfl rfl (Does.of_calls Tryz.func122 AF AF ?_);cases ha:Lib.atoiAll s.data.toList
  .rename_i v;refine(Tryz.strconv_Atoi_ok s AG v ha w).mono ?_;rintro e w' ⟨rfl,hw⟩;have e1:FT s=v:=by unfold FT;rw[ha]
   have e2:MK s=AC:=by unfold MK;rw[ha]
   rw[e1]at hb ⊢;rw[e2];refine⟨_,rfl,?_,λO _=>?_⟩
   .rcases hw with rfl|⟨t,rfl⟩
    .exact Keep.refl _ _
    .unfold vaU;have h1:=Keep.alloc (λ_=>False) w.drew (.cells (Lib.bytesCells w 5 t) 5);refine((Keep.drew (λ_=>False) w).trans h1 (λ_ _ h=>h)).trans (Keep.freeze (O:=λk=>k=w.heap.size) _ ⟨w.heap.size,_,AB⟩ 1 rfl) (λb hb h=>?_);subst h;exact absurd hb (Nat.lt_irrefl _)
   .simp only[VRel];exact⟨_,rfl,by simp only[VRels,VRel,CI,vaS];exact hb⟩
  .skip
   obtain⟨ev,h1,h2⟩:=Gn hg;refine(Tryz.strconv_Atoi_syntax s AG ha ev w h1 h2).mono ?_;rintro e w' ⟨N,rfl,_,_,hw⟩;have e1:FT s=0:=by unfold FT;rw[ha]
   have e2:MK s=AD:=by unfold MK;rw[ha]
   rw[e1]at hb ⊢;rw[e2];refine⟨_,rfl,Keep.below hw,λO _=>?_⟩;simp only[VRel];exact⟨_,rfl,by simp only[VRels,VRel,CI];exact⟨⟨trivial,hb⟩,_,_,rfl⟩⟩
  .skip
   obtain⟨ev,h1,h2⟩:=Gm hg;refine(Tryz.strconv_Atoi_range s AG ha ev w h1 h2).mono ?_;rintro e w' ⟨N,rfl,_,_,hw⟩;have e1:FT s=Lib.atoiSat s.data.toList:=by unfold FT;rw[ha]
   have e2:MK s=AD:=by unfold MK;rw[ha]
   rw[e1]at hb ⊢;rw[e2];refine⟨_,rfl,Keep.below hw,λO _=>?_⟩;simp only[VRel];exact⟨_,rfl,by simp only[VRels,VRel,CI];exact⟨⟨trivial,hb⟩,_,_,rfl⟩⟩
 .simp[R.get]at hsp
theorem zeN:D6 PR B0 99 kO:=by
 intro w X γ vs xs r out hsp hg hx hR hV;unfold kO at hsp;simp only at hsp;split at hsp
 .rename_i n b;cases hc:AE (b=10)with
  |false=>rw[hc]at hsp;simp[R.get]at hsp
  |true=>
   rw[hc]at hsp;have hb:=BB hc;subst hb;simp only[R.get,AK,A1]at hsp;obtain⟨rfl,rfl⟩:=hsp;obtain⟨x0,x1,rfl⟩:∃x0 x1,xs=[x0,x1]:=by
    have:=hV.length
    simp at this
    match xs,this with
    |[a,b],_=>exact⟨a,b,rfl⟩
   simp only[A8,CN,EV,VRels,VRel,CI]at hV;obtain⟨⟨rfl,h0,h1⟩,rfl,_⟩:=hV;have e0:AO.min=0:=rfl;have e1:AO.max=18446744073709551615:=rfl;rw[e0]at h0;rw[e1]at h1;obtain⟨u,rfl⟩:∃u:Nat,n=u:=⟨n.toNat,by omega⟩;refine RF hR rfl rfl (Does.of_calls Tryz.func99 AF AF ((lx u AG w (Gl hg)).mono ?_));rintro e w' ⟨rfl,k,os,rfl⟩;refine⟨_,rfl,((Keep.drewN w k).trans (Keep.grow _ os) (λ_ _ h=>h)),λO _=>?_⟩;simp only[VRel];have hz:=tY h0 h1;exact⟨by simp[FK],by unfold strMax;omega⟩
 .simp[R.get]at hsp
theorem zeO:D6 PR B0 225 kP:=by
 intro w X γ vs xs r out hsp hg hx hR hV;unfold kP at hsp;simp only at hsp;split at hsp
 .rename_i s b c;cases hc:(AE (b=10)&&AE (c=64))with
  |false=>rw[hc]at hsp;simp[R.get]at hsp
  |true=>
   rw[hc]at hsp;simp only[AQ,AZ]at hc;obtain⟨rfl,rfl⟩:=hc;simp only[R.get,AK,A1]at hsp;obtain⟨rfl,rfl⟩:=hsp;obtain⟨x0,x1,x2,rfl⟩:∃x0 x1 x2,xs=[x0,x1,x2]:=by
    have:=hV.length
    simp at this
    match xs,this with
    |[a,b,c],_=>exact⟨a,b,c,rfl⟩
   simp only[A8,CN,EV,VRels,VRel,CI]at hV;obtain⟨⟨rfl,hs⟩,⟨rfl,_⟩,rfl,_⟩:=hV;unfold strMax at hs;have hb:=vI s;refine RF hR rfl rfl (Does.of_calls Tryz.func225 AF AF ?_);cases ha:Lib.parseMag s.data.toList
   .rename_i v;refine(Tryz.strconv_ParseUint_10_at64_ok s AG v (by rw[vbH];exact ha) w).mono ?_;rintro e w' ⟨rfl,hw⟩;have e1:G2 s=v:=by unfold G2;rw[ha]
    have e2:JT s=AC:=by unfold JT;rw[ha]
    rw[e1]at hb ⊢;rw[e2];refine⟨_,rfl,?_,λO _=>?_⟩
    .rcases hw with rfl|rfl
     .exact Keep.refl _ _
     .unfold vaU;have h1:=Keep.alloc (λ_=>False) w.drew (.cells (Lib.bytesCells w 5 s) 5);refine((Keep.drew (λ_=>False) w).trans h1 (λ_ _ h=>h)).trans (Keep.freeze (O:=λk=>k=w.heap.size) _ ⟨w.heap.size,_,AB⟩ 1 rfl) (λb hb h=>?_);subst h;exact absurd hb (Nat.lt_irrefl _)
    .simp only[VRel];exact⟨_,rfl,by simp only[VRels,VRel,CI,vaS];exact hb⟩
   .skip
    obtain⟨ev,h1,h2⟩:=Gn hg;refine(Tryz.strconv_ParseUint_10_at64_syntax s AG (by rw[vbH];exact ha) ev w h1 h2).mono ?_;rintro e w' ⟨N,rfl,_,_,hw⟩;have e1:G2 s=0:=by unfold G2;rw[ha]
    have e2:JT s=AD:=by unfold JT;rw[ha]
    rw[e1]at hb ⊢;rw[e2];refine⟨_,rfl,Keep.below hw,λO _=>?_⟩;simp only[VRel];exact⟨_,rfl,by simp only[VRels,VRel,CI];exact⟨⟨trivial,hb⟩,_,_,rfl⟩⟩
   .skip
    obtain⟨ev,h1,h2⟩:=Gm hg;refine(Tryz.strconv_ParseUint_10_at64_range s AG (by rw[vbH];exact ha) ev w h1 h2).mono ?_;rintro e w' ⟨N,rfl,_,_,hw⟩;have e1:G2 s=18446744073709551615:=by unfold G2;rw[ha]
    have e2:JT s=AD:=by unfold JT;rw[ha]
    rw[e1]at hb ⊢;rw[e2];refine⟨_,rfl,Keep.below hw,λO _=>?_⟩;simp only[VRel];exact⟨_,rfl,by simp only[VRels,VRel,CI];exact⟨⟨trivial,hb⟩,_,_,rfl⟩⟩
 .simp[R.get]at hsp
theorem zeQ:D6 PR B0 101 kR:=by
 intro w X γ vs xs r out hsp hg hx hR hV;unfold kR at hsp;simp only at hsp;split at hsp
 .rename_i s cs;cases hc:(AE (cs.size=1)&&AE ((cs.data.toList.headD 0).toNat<128))with
  |false=>rw[hc]at hsp;simp[R.get]at hsp
  |true=>
   rw[hc]at hsp;simp only[AQ,AZ]at hc;simp only[R.get,AK,A1]at hsp;obtain⟨rfl,rfl⟩:=hsp;obtain⟨c,rfl⟩:∃c,cs=⟨#[c]⟩:=by
    obtain⟨⟨l⟩⟩:=cs;have h1:l.length=1:=hc.1
    match l,h1 with
    |[c],_=>exact⟨c,rfl⟩
   obtain⟨x0,x1,rfl⟩:∃x0 x1,xs=[x0,x1]:=by
    have:=hV.length
    simp at this
    match xs,this with
    |[a,b],_=>exact⟨a,b,rfl⟩
   simp only[A8,CN,EV,VRels,VRel,CI]at hV;obtain⟨⟨rfl,hs⟩,rfl,_⟩:=hV;have hz:=Uq s ⟨#[c]⟩;unfold strMax at hs;refine RF hR rfl rfl (Does.of_calls Tryz.func101 AF AF ((Tryz.strings_TrimRight_one s c hc.2 w AG).mono ?_));rintro e w' ⟨rfl,rfl⟩;refine⟨_,rfl,Keep.refl _ _,λO _=>?_⟩;simp only[VRel];exact⟨rfl,by unfold strMax;omega⟩
 .simp[R.get]at hsp
theorem Qj:D6 PR B0 102 Z2:=by
 intro w X γ vs xs r out hsp hg hx hR hV;unfold Z2 at hsp;simp only at hsp;split at hsp
 .rename_i s n;cases hc:(AE (0<=n)&&AE (s.size*n.toNat<=strMax))with
  |false=>rw[hc]at hsp;simp[R.get]at hsp
  |true=>
   rw[hc]at hsp;simp only[AQ,AZ]at hc;simp only[R.get,AK,A1]at hsp;obtain⟨rfl,rfl⟩:=hsp;obtain⟨x0,x1,rfl⟩:∃x0 x1,xs=[x0,x1]:=by
    have:=hV.length
    simp at this
    match xs,this with
    |[a,b],_=>exact⟨a,b,rfl⟩
   simp only[A8,CN,EV,VRels,VRel,CI]at hV;obtain⟨⟨rfl,hs⟩,rfl,_,hn1⟩:=hV;have e1:AJ.max=9223372036854775807:=rfl;rw[e1]at hn1;obtain⟨c,rfl⟩:∃c:Nat,n=c:=⟨n.toNat,by omega⟩;have hz:=vS s c;have hle:=hc.2;simp only[BE]at hle ⊢;unfold strMax at hle;refine RF hR rfl rfl (Does.of_calls Tryz.func102 AF AF ((Tryz.strings_Repeat s c w AG AG).mono ?_));rintro e w' ⟨rfl,hw⟩;refine⟨_,rfl,Keep.below hw,λO _=>?_⟩;simp only[VRel];exact⟨rfl,by rw[hz];unfold strMax;omega⟩
 .simp[R.get]at hsp
theorem Qh:D6 PR B0 55 Z0:=by
 intro w X γ vs xs r out hsp hg hx hR hV;unfold Z0 at hsp;simp only at hsp;split at hsp
 .rename_i s p;simp only[R.get,AK,A1]at hsp;obtain⟨rfl,rfl⟩:=hsp;obtain⟨x0,x1,rfl⟩:∃x0 x1,xs=[x0,x1]:=by
   have:=hV.length
   simp at this
   match xs,this with
   |[a,b],_=>exact⟨a,b,rfl⟩
  simp only[A8,CN,EV,VRels,VRel,CI]at hV;obtain⟨⟨rfl,hs⟩,rfl,_⟩:=hV;have hz:=Up s p;refine RF hR rfl rfl (Does.of_calls Tryz.func55 AF AF ((Tryz.strings_CutPrefix s p w).mono ?_));rintro e w' ⟨rfl,rfl⟩;refine⟨_,rfl,Keep.refl _ _,λO _=>?_⟩;simp only[VRel];exact⟨_,rfl,by simp only[VRels,VRel,CI];exact⟨⟨rfl,by omega⟩,rfl⟩⟩
 .simp[R.get]at hsp
theorem wW:D6 PR B0 82 U4:=by
 intro w X γ vs xs r out hsp hg hx hR hV;unfold U4 at hsp;simp only at hsp;split at hsp
 .rename_i s sep;cases hc:AE (s.size<4294967281)with
  |false=>rw[hc]at hsp;simp[R.get]at hsp
  |true=>
   rw[hc]at hsp;simp only[R.get,AK,A1]at hsp;obtain⟨rfl,rfl⟩:=hsp;obtain⟨x0,x1,rfl⟩:∃x0 x1,xs=[x0,x1]:=by
    have:=hV.length
    simp at this
    match xs,this with
    |[a,b],_=>exact⟨a,b,rfl⟩
   simp only[A8,CN,EV,VRels,VRel,CI]at hV;obtain⟨⟨rfl,hs⟩,rfl,hsep⟩:=hV;obtain⟨m,hm⟩:=Gk hg;refine RF hR rfl rfl (Does.of_calls Tryz.func82 AF AF ((Tryz.strings_Cut s sep m w (BB hc) hm).mono ?_));rintro e w' ⟨rfl,n,rfl⟩;have hsz:=lI s sep;refine⟨_,rfl,Keep.drewN w n,λO _=>?_⟩;simp only[VRel];exact⟨_,rfl,by simp only[VRels,VRel,CI];exact⟨⟨rfl,by omega⟩,⟨rfl,by omega⟩,rfl⟩⟩
 .simp[R.get]at hsp
theorem cD:D6 PR B0 64 N6:=by
 intro w X γ vs xs r out hsp hg hx hR hV;unfold N6 at hsp;simp only at hsp;split at hsp
 .rename_i s sep;cases hc:(AE (s.size<4294967281)&&AE (1<=sep.size))with
  |false=>rw[hc]at hsp;simp[R.get]at hsp
  |true=>
   rw[hc]at hsp;simp only[AQ,AZ]at hc;simp only[R.get,AK,A1]at hsp;obtain⟨rfl,rfl⟩:=hsp;obtain⟨x0,x1,rfl⟩:∃x0 x1,xs=[x0,x1]:=by
    have:=hV.length
    simp at this
    match xs,this with
    |[a,b],_=>exact⟨a,b,rfl⟩
   simp only[A8,CN,EV,VRels,VRel,CI]at hV;obtain⟨⟨rfl,hs⟩,rfl,hsep⟩:=hV;obtain⟨m,hm⟩:=Gk hg;have hlen:=Lib.splitB_all sep hc.2 0 _ s rfl;have hcnt:=Lib.countB_le sep hc.2 s.size s (A4 _);refine RF hR rfl rfl (Does.of_calls Tryz.func64 AF AF ((Tryz.strings_Split s sep m w hc.1 hm hc.2).mono ?_));rintro e w' ⟨rfl,rfl⟩;refine⟨_,rfl,Keep.alloc _ w _,λO hO=>?_⟩;simp only[VRel]
   have:=zfg (w:=w) (w':=w.alloc (.cells ((EH s sep).map Value.string).toArray 9)) hO (g:=w.heap.size) (A4 _) (vaq w _) (l:=EH s sep) (c:=Lib.countB s sep+1) (by unfold EH;omega) (by unfold maxLen;omega) (by unfold EH strMax;omega) (λp hp=>DD ((ZC sep _ s).2 p hp) hs)
   unfold EH at this ⊢;rw[hlen]at this;exact this
 .simp[R.get]at hsp
theorem Tu{w:World}{O:Nat->Prop}{l:LI}{x:Value}(h:Kd.Rel w O (.list AD [.str]) (.list l) x):∃p c,x=.slice p l.length c/\l.length<=c/\c<=maxLen/\l.length<=strMax/\∀j y,l[j]?=AA y->∃b o,p=AA ⟨b,o,AB⟩/\b<w.heap.size/\w.cell? ⟨b,o+j,AB⟩=AA (.string y.toStr)/\y.toStr.size<=strMax:=by
 simp only[Kd.Rel,IV.toList]at h;obtain⟨p,c,rfl,hc,hm,hl,hi⟩:=h;refine⟨p,c,rfl,hc,hm,hl,λj y hy=>?_⟩;obtain⟨b,o,rfl,_,hb,hr⟩:=hi j y hy;simp only[Kd.RelAll,AV,BN,BU,Nat.mul_one,DJ,CI]at hr;obtain⟨u,hu,hs⟩:=hr;simp only[Kd.Rel,GK]at hs;obtain⟨rfl,hs⟩:=hs;exact⟨b,o,rfl,hb,hu,hs⟩
theorem Qi:D6 PR B0 44 Z1:=by
 intro w X γ vs xs r out hsp hg hx hR hV;unfold Z1 at hsp;simp only at hsp;split at hsp
 .rename_i l sep;cases hc:(AE (l.length<=strMax)&&AE ((GU (l.map IV.toStr) sep).size<=strMax))with
  |false=>rw[hc]at hsp;simp[R.get]at hsp
  |true=>
   rw[hc]at hsp;simp only[AQ,AZ]at hc;simp only[R.get,AK,A1]at hsp;obtain⟨rfl,rfl⟩:=hsp;obtain⟨x0,x1,rfl⟩:∃x0 x1,xs=[x0,x1]:=by
    have:=hV.length
    simp at this
    match xs,this with
    |[a,b],_=>exact⟨a,b,rfl⟩
   simp only[A8,CN,EV,VRels,VRel,CI]at hV;obtain⟨h0,rfl,_⟩:=hV;obtain⟨p,c,rfl,hc1,hc2,hc3,hcell⟩:=Tu h0;have hz:(GU (l.map IV.toStr) sep).size=(Lib.join ((l.map IV.toStr).map (·.data.toList)) sep.data.toList).length:=by
    show(Array.size (List.toArray _))=_;rw[DM]
   have hle:=hc.2;rw[hz]at hle;unfold strMax at hle hc3;refine RF hR rfl rfl (Does.of_calls Tryz.func44 AF AF (Calls.mono (R:=λe w'=>e=.returned (.string (GU (l.map IV.toStr) sep))/\Below w.heap.size w w') ?_ ?_))
   .cases l with
    |nil=>
     refine(Tryz.strings_Join_none p c sep w).mono ?_;rintro e w' ⟨rfl,rfl⟩;exact⟨rfl,Below.refl _ _⟩
    |cons y r=>
     obtain⟨b,o,rfl,hb,_⟩:=hcell 0 y rfl
     have:=Tryz.strings_Join b o c ((y::r).map IV.toStr) sep w (λj x hj=>by
      rw[CJ,DP]at hj;obtain⟨y',hj,rfl⟩:=hj;obtain⟨b',o',hp,_,hu,_⟩:=hcell j y' hj;simp only[AK,DI,CI]at hp;obtain⟨rfl,rfl⟩:=hp;exact hu) hb (by rw[BW];omega) (by rw[BW];omega) AG
     rw[BW]at this;exact this
   .rintro e w' ⟨rfl,hw⟩;refine⟨_,rfl,Keep.below hw,λO _=>?_⟩;simp only[VRel];exact⟨trivial,by rw[hz];unfold strMax;omega⟩
 .simp[R.get]at hsp
theorem zeH:D6 PR B0 138 kL:=by
 intro w X γ vs xs r out hsp hg hx hR hV;unfold kL at hsp;simp only at hsp;split at hsp
 .rename_i l;cases hc:AE (l.length<=4294967296)with
  |false=>rw[hc]at hsp;simp[R.get]at hsp
  |true=>
   rw[hc]at hsp;have hc:=BB hc;simp only[R.get,AK,A1]at hsp;obtain⟨rfl,rfl⟩:=hsp;obtain⟨x0,rfl⟩:∃x0,xs=[x0]:=by
    have:=hV.length
    simp at this
    match xs,this with
    |[a],_=>exact⟨a,rfl⟩
   simp only[A8,CN,EV,VRels,VRel,CI]at hV;obtain⟨p,c,rfl,hc1,hc2,hc3,hcell⟩:=Tu hV;have hel:∀(w':World) (O:Nat->Prop) i y,l[i]?=AA y->Kd.RelAll w' O [.str] (GK AD y) 0 (λj u=>(l.map λy=>Value.string y.toStr)[i*[Kd.str].length+j]?=AA u):=λw' O i y hy=>by
    obtain⟨b,o,_,_,_,hs⟩:=hcell i y hy;simp only[Kd.RelAll,AV,BN,BU,Nat.mul_one,DJ,CI];refine⟨.string y.toStr,by rw[CJ,hy];rfl,?_⟩;simp only[Kd.Rel,GK];exact⟨trivial,hs⟩
   refine Pv hR rfl (by decide) (by decide) hc3 (Does.of_calls Tryz.func138 AF AF ?_);cases p with
   |none=>
    have h0:l=[]:=by
     cases l with
     |nil=>rfl
     |cons y r=>
      obtain⟨b,o,hp,_⟩:=hcell 0 y rfl;cases hp
    subst h0;refine(cm _ c w).mono ?_;rintro e w' ⟨rfl,rfl⟩;exact⟨_,[],rfl,Keep.refl _ _,⟨rfl,.inl ⟨rfl,rfl⟩⟩,hel _⟩
   |some a=>
    refine(ct a l.length c (l.map λy=>Value.string y.toStr) w (by rw[BW]) (by unfold maxLen;omega) AG (λj u hj=>?_) (λu hu=>?_)).mono ?_
    .rw[CJ,DP]at hj;obtain⟨y,hj,rfl⟩:=hj;obtain⟨b,o,hp,_,hu,_⟩:=hcell j y hj;simp only[AK]at hp;subst hp;rw[Addr.add_lit];exact hu
    .rw[CU]at hu;obtain⟨y,_,rfl⟩:=hu;rfl
    .rintro e w' ⟨v',rfl,hown,hw⟩;exact⟨v',_,rfl,Keep.below hw,hown,hel _⟩
 .simp[R.get]at hsp
def SpsOK:List (Nat×D4)->Prop
 |[]=>True
 |(f,sp)::r=>D6 PR B0 f sp/\SpsOK r
theorem SpsOK.get:∀{l:List (Nat×D4)},SpsOK l->∀f sp,lk l f=AA sp->D6 PR B0 f sp
 |[],_,f,sp,h=>by simp[lk]at h
 |(g,sg)::r,hs,f,sp,h=>by
  simp only[lk]at h;split at h
  .rename_i hb;simp only[AK]at h;subst h;rw[<-F1.1 hb];exact hs.1
  .exact SpsOK.get hs.2 f sp h
theorem EF{f:Nat}{fn:Func}{code:Code}{rs:List ResultVar}{nt:Nat}(sps:List (Nat×D4))(lp:List (Nat×KP))(sp:D4)(rks:List (List Kd))(hf:PR.funcs[f]?=AA fn)
  (hc:(fn.name== "runtime.NumGoroutine")=AD/\fn.body=AA code/\fn.ntmps=nt/\CG nt 900000=AC/\fn.results.toList=rs) (hs:SpsOK sps)
  (h:∀vs r,(MX vs (FX vs)->UK vs)->(sp vs).get=AA r->∃N,EA (EE sps lp nt N) code rs rks vs=AA r):D6 PR B0 f sp:=
 Pw (EE sps lp nt) sp rks hf hc (λ_=>rfl) Jl (λ_=>Ud rfl Uc) (λ_=>Fi rfl Fh) (λ_=>hs.get) (λ_ f p hp=>by cases hp) (λ_ h=>zT h) h
def IpsOK:List (Nat×Ip)->Prop
 |[]=>True
 |(f,p)::r=>S1 PR f p/\IpsOK r
theorem IpsOK.get:∀{l:List (Nat×Ip)},IpsOK l->∀f p,lk l f=AA p->S1 PR f p
 |[],_,f,p,h=>by simp[lk]at h
 |(g,pg)::r,hs,f,p,h=>by
  simp only[lk]at h;split at h
  .rename_i hb;simp only[AK]at h;subst h;rw[<-F1.1 hb];exact hs.1
  .exact IpsOK.get hs.2 f p h
theorem Px{f:Nat}{fn:Func}{code:Code}{rs:List ResultVar}{nt:Nat}(sps:List (Nat×D4))(ips:List (Nat×Ip))(lp:List (Nat×KP))(sp:D4)(rks:List (List Kd))(hf:PR.funcs[f]?=AA fn)
  (hc:(fn.name== "runtime.NumGoroutine")=AD/\fn.body=AA code/\fn.ntmps=nt/\CG nt 900000=AC/\fn.results.toList=rs) (hs:SpsOK sps) (hi:IpsOK ips)
  (h:∀vs r,(MX vs (FX vs)->UK vs)->(sp vs).get=AA r->∃N,EA (nA sps ips lp nt N) code rs rks vs=AA r):D6 PR B0 f sp:=
 Pw (nA sps ips lp nt) sp rks hf hc (λ_=>rfl) Jl (λ_=>Ud rfl Uc) (λ_=>Fi rfl Fh) (λ_=>hs.get) (λ_=>hi.get) (λ_ h=>zT h) h
open Go Go.RowKit
theorem ER{n:Int}(h0: -9223372036854775808<=n)(h1:n<=9223372036854775807):AI .i64 n=n:=by
 have e:AI .i64 n=(n+9223372036854775808)%18446744073709551616-9223372036854775808:=by
  simp[AI,AT,vak];omega
 rw[e];omega
theorem HY{α:Type}{l:List α}{i:Nat}(h:i<l.length):AE ((i:Int)<ic l.length)=AC:=by simp[ic];omega
theorem IZ{α:Type}{l:List α}{i:Nat}(h:l.length<=i):AE ((i:Int)<ic l.length)=AD:=by simp[ic];omega
theorem IM{i:Nat}:AE (0<=(i:Int))=AC:=by simp
theorem GM{i:Nat}(h:i<9223372036854775807):AI .i64 ((i:Int)+1)=((i+1:Nat):Int):=by rw[ER AG AG];rfl
theorem IX{α:Type}[Inhabited α]{l:List α}{i:Nat}(h:i<l.length):l.getD (i:Int).toNat default=l[i]:=by simp[h]
theorem qV(a b:Int):AE (a<=b)=!decide (b<a):=by rw[vaB];simp
theorem qU(a b:Int):AE (a>b)=AE (b<a):=rfl
theorem U7(a b:Int):(a==b)=AE (a=b):=rfl
theorem zX(a b:Int):(a !=b)=!decide (a=b):=rfl
theorem DQ{α:Type _}(a b:α):cond AC a b=a:=Eq.trans (Eq.refl a) (Eq.refl a)
theorem DR{α:Type _}(a b:α):cond AD a b=b:=Eq.trans (Eq.refl b) (Eq.refl b)
open Go
def D7(n:Int):Int:=AI .i64 n
def GQ(n:Int):Int:=AI .u64 n
def ME(lo hi:Int):Int:=D7 (D7 (hi-lo)+1)
def D0(n lo hi:Int):Int:=cond (AE (n.tmod (ME lo hi)<0)) (D7 (lo+D7 (D7 (D7 (n.tmod (ME lo hi)+hi)-lo)+1))) (D7 (lo+n.tmod (ME lo hi)))
def M8:D4
 |[.i n,.i lo,.i hi]=>.br (AE (ME lo hi=0)) .no (.ok (.i (D0 n lo hi)) [])
 |_=>.no
abbrev ZK:BA:=⟨#[45]⟩
abbrev Vh:BA:=⟨#[46]⟩
abbrev zfP:BA:=⟨#[48]⟩
abbrev ZL:BA:=⟨#[]⟩
def XF:D4
 |[]=>.ok (.int .u64 390625) []
 |_=>.no
def KZ(r:Nat):List UInt8:=Lib.trimRightB (Lib.repeatL [48] (8-(CS (r*390625)).length)++CS (r*390625)) 48
def I8(u:Nat):List UInt8:=CS (u/256)++(if u%256=0 then[]else 46::KZ (u%256))
def LP(n:Int):List UInt8:=if n<0 then 45::I8 n.natAbs else I8 n.natAbs
def D5(n:Int):BA:=⟨(LP n).toArray⟩
def TA:D4
 |[.i n]=>.ok (.str (D5 n)) []
 |_=>.no
def eV:D4
 |[.str s]=>.ok (.tup [.int .u64 (G2 s),.bool (JT s)]) []
 |_=>.no
def Q3(s:BA):BA:=cutL (GT s ZK) Vh
def J5(s:BA):BA:=GA (GT s ZK) Vh
def OB(s:BA):BA:=J5 s++IF zfP (8-(J5 s).size)
def Q2(s:BA):Int:=GQ (GQ (G2 (Q3 s)*256)+G2 (OB s)/390625)
def g8(s:BA):Int:=D7 (cond (P7 s ZK) (GQ (0-Q2 s)) (Q2 s))
def YD(s:BA):Bool:=
 AE ((J5 s).size<=8)&&(JT (Q3 s)&&(JT (OB s)&&(AE (G2 (Q3 s)<=36028797018963968)&&(AE (G2 (OB s)%390625=0)&&AE (D5 (g8 s)=s)))))
def GL(s:BA):Int:=cond (YD s) (g8 s) 0
def XE:D4
 |[.str s]=>.br (AE (s.size<4294967281)) (.ok (.tup [.i (GL s),.bool (YD s)]) []) .no
 |_=>.no
open Go Go.Proofs
def Wn(N:Nat):Env:=EE [] [] 24 N
theorem xx(N:Nat)(n lo hi:Int):EA (Wn N) Aw [.tmp 6] [[.z]] [.i n,.i lo,.i hi]=
 (cond (AE (AI AJ (AI AJ (hi-lo)+1)=0))
 AB
 (cond (AE (Int.tmod n (AI AJ (AI AJ (hi-lo)+1))<0))
 (AA (.i (AI AJ (lo+AI AJ (AI AJ (AI AJ (Int.tmod n (AI AJ (AI AJ (hi-lo)+1))+hi)-lo)+1))),[]))
 (AA (.i (AI AJ (lo+Int.tmod n (AI AJ (AI AJ (hi-lo)+1)))),[])))):=AF
def Xi(N:Nat):Env:=EE [] [(3,⟨[0,1,2],[],[]⟩)] 8 N
def Xh(N:Nat):Env:=EE [(225,kP)] [] 19 N
theorem zn(N:Nat)(s:BA):EA (Xh N) Bq [.tmp 2,.tmp 3] [[.int .u64],[.bool]] [.str s]=
 (cond (JT s)
 (cond (AE (0<=0)&&AE (0<ic (AP s)))
 (AA (.tup [.int .u64 (G2 s),.bool (ic (UInt8.toNat (AR (Array.toList (ByteArray.data s)) (AM 0) 0))!=43)],[]))
 AB)
 (AA (.tup [.int .u64 (G2 s),.bool AD],[]))):=AF
def Xf(N:Nat):Env:=EE [(100,XF),(99,kO),(102,Z2),(101,kR)] [] 38 N
theorem zl(N:Nat)(n:Int):EA (Xf N) Bo [.tmp 2] [[.str]] [.i n]=
 (cond (AE (n<0))
 (cond (AE (AP {data:=#[45]}+AP (FK (C4 (AI AO (0-AI AO n)) (2^min (AM 8) (AT AO))))<=strMax))
 (cond (AI AO (ic (B1 (A0 (AT AO) (AI AO (0-AI AO n))&&&A0 (AT AO) 255)))==0)
 (AA ((.str ({data:=#[45]}++FK (C4 (AI AO (0-AI AO n)) (2^min (AM 8) (AT AO))))),[]))
 (cond (AE (AP ({data:=#[45]}++FK (C4 (AI AO (0-AI AO n)) (2^min (AM 8) (AT AO))))+AP {data:=#[46]}<=strMax))
 (cond (AE (0<=AI AJ (8-ic (AP (FK (AI AO (AI AO (ic (B1 (A0 (AT AO) (AI AO (0-AI AO n))&&&A0 (AT AO) 255)))*390625))))))&&AE (AP {data:=#[48]}*AM (AI AJ (8-ic (AP (FK (AI AO (AI AO (ic (B1 (A0 (AT AO) (AI AO (0-AI AO n))&&&A0 (AT AO) 255)))*390625))))))<=strMax))
 (cond (AE (AP (IF {data:=#[48]} (AM (AI AJ (8-ic (AP (FK (AI AO (AI AO (ic (B1 (A0 (AT AO) (AI AO (0-AI AO n))&&&A0 (AT AO) 255)))*390625))))))))+AP (FK (AI AO (AI AO (ic (B1 (A0 (AT AO) (AI AO (0-AI AO n))&&&A0 (AT AO) 255)))*390625)))<=strMax))
 (cond (AE (AP ({data:=#[45]}++FK (C4 (AI AO (0-AI AO n)) (2^min (AM 8) (AT AO)))++{data:=#[46]})+AP (QO (IF {data:=#[48]} (AM (AI AJ (8-ic (AP (FK (AI AO (AI AO (ic (B1 (A0 (AT AO) (AI AO (0-AI AO n))&&&A0 (AT AO) 255)))*390625)))))))++FK (AI AO (AI AO (ic (B1 (A0 (AT AO) (AI AO (0-AI AO n))&&&A0 (AT AO) 255)))*390625))) {data:=#[48]})<=strMax))
 (AA ((.str ({data:=#[45]}++FK (C4 (AI AO (0-AI AO n)) (2^min (AM 8) (AT AO)))++{data:=#[46]}++QO (IF {data:=#[48]} (AM (AI AJ (8-ic (AP (FK (AI AO (AI AO (ic (B1 (A0 (AT AO) (AI AO (0-AI AO n))&&&A0 (AT AO) 255)))*390625)))))))++FK (AI AO (AI AO (ic (B1 (A0 (AT AO) (AI AO (0-AI AO n))&&&A0 (AT AO) 255)))*390625))) {data:=#[48]})),[]))
 AB)
 AB)
 AB)
 AB))
 AB)
 (cond (AE (AP {data:=#[]}+AP (FK (C4 (AI AO n) (2^min (AM 8) (AT AO))))<=strMax))
 (cond (AI AO (ic (B1 (A0 (AT AO) (AI AO n)&&&A0 (AT AO) 255)))==0)
 (AA ((.str ({data:=#[]}++FK (C4 (AI AO n) (2^min (AM 8) (AT AO))))),[]))
 (cond (AE (AP ({data:=#[]}++FK (C4 (AI AO n) (2^min (AM 8) (AT AO))))+AP {data:=#[46]}<=strMax))
 (cond (AE (0<=AI AJ (8-ic (AP (FK (AI AO (AI AO (ic (B1 (A0 (AT AO) (AI AO n)&&&A0 (AT AO) 255)))*390625))))))&&AE (AP {data:=#[48]}*AM (AI AJ (8-ic (AP (FK (AI AO (AI AO (ic (B1 (A0 (AT AO) (AI AO n)&&&A0 (AT AO) 255)))*390625))))))<=strMax))
 (cond (AE (AP (IF {data:=#[48]} (AM (AI AJ (8-ic (AP (FK (AI AO (AI AO (ic (B1 (A0 (AT AO) (AI AO n)&&&A0 (AT AO) 255)))*390625))))))))+AP (FK (AI AO (AI AO (ic (B1 (A0 (AT AO) (AI AO n)&&&A0 (AT AO) 255)))*390625)))<=strMax))
 (cond (AE (AP ({data:=#[]}++FK (C4 (AI AO n) (2^min (AM 8) (AT AO)))++{data:=#[46]})+AP (QO (IF {data:=#[48]} (AM (AI AJ (8-ic (AP (FK (AI AO (AI AO (ic (B1 (A0 (AT AO) (AI AO n)&&&A0 (AT AO) 255)))*390625)))))))++FK (AI AO (AI AO (ic (B1 (A0 (AT AO) (AI AO n)&&&A0 (AT AO) 255)))*390625))) {data:=#[48]})<=strMax))
 (AA ((.str ({data:=#[]}++FK (C4 (AI AO n) (2^min (AM 8) (AT AO)))++{data:=#[46]}++QO (IF {data:=#[48]} (AM (AI AJ (8-ic (AP (FK (AI AO (AI AO (ic (B1 (A0 (AT AO) (AI AO n)&&&A0 (AT AO) 255)))*390625)))))))++FK (AI AO (AI AO (ic (B1 (A0 (AT AO) (AI AO n)&&&A0 (AT AO) 255)))*390625))) {data:=#[48]})),[]))
 AB)
 AB)
 AB)
 AB))
 AB)):=AF
open Go Go.Proofs
theorem bZ:D6 PR B0 32 M8:=by
 refine EF [] [] M8 [[.z]] Tryz.func32 ol trivial ?_;intro vs r hwf h;unfold M8 at h;split at h
 .rename_i n lo hi;refine⟨0,?_⟩;rw[<-h];refine(xx 0 n lo hi).trans ?_;simp only[R.get_br,R.get_ok,R.get_no];unfold D0 ME D7;cases AE (AI AJ (AI AJ (hi-lo)+1)=0)<;>cases AE (Int.tmod n (AI AJ (AI AJ (hi-lo)+1))<0)<;>rfl
 .simp[R.get]at h
open Go
theorem U9{s t:BA}(h:s.data.toList=t.data.toList):s=t:=ByteArray.ext (Array.ext' h)
theorem k7(s t:BA):(s.toList==t.toList)=AE (s=t):=by
 rw[Lib.toList_data,Lib.toList_data];by_cases h:s=t
 .subst h;simp
 .rw[AS h,BH];exact λe=>h (U9 e)
theorem UC(s:BA):s.size=s.data.toList.length:=by rw[C1];rfl
theorem YC(u:Nat):∀c∈CS u,48<=c.toNat/\c.toNat<=57:=by
 induction u using vbC with
 |_ u ih=>
  intro c hc;rw[CS]at hc;split at hc
  .rename_i h;simp only[BZ]at hc;subst hc;rw[va0 (by simp[UInt8.size];omega)];omega
  .rename_i h;rw[A5,BZ]at hc;rcases hc with hc|hc
   .exact ih (u/10) AG c hc
   .subst hc;rw[va0 (by simp[UInt8.size];omega)];omega
theorem lK(u:Nat):CS u≠[]:=by
 rw[CS];split<;>simp
theorem ua(n:Int):∀c∈Lib.itoa n,c.toNat=45\/(48<=c.toNat/\c.toNat<=57):=by
 intro c hc;unfold Lib.itoa at hc;split at hc
 .rcases AW.1 hc with h|h
  .subst h;exact .inl rfl
  .exact .inr (YC _ c h)
 .exact .inr (YC _ c hc)
theorem zbV(u:Nat):∀(acc:Nat) (r:List UInt8),acc*10^(CS u).length+u<18446744073709551616->
  vbA acc (CS u++r)=vbA (acc*10^(CS u).length+u) r:=by
 induction u using vbC with
 |_ u ih=>
  intro acc r hlt;rw[CS]at hlt ⊢;split at hlt
  .rename_i h;rw[dif_pos h];simp only[DG,Nat.pow_one,List.singleton_append]at hlt ⊢;have hc:(UInt8.ofNat (48+u)).toNat=48+u:=va0 (by simp[UInt8.size];omega);rw[vbA,hc,BX AG,BO AG,BO AG];congr 1;omega
  .rename_i h;rw[dif_neg h];simp only[A2,DG,Nat.pow_succ,vaz,List.singleton_append]at hlt ⊢;have ea:acc*(10^(CS (u/10)).length*10)=acc*10^(CS (u/10)).length*10:=by rw[Nat.mul_assoc]
   rw[ea]at hlt ⊢;rw[ih (u/10) AG acc _ AG];have hc:(UInt8.ofNat (48+u%10)).toNat=48+u%10:=va0 (by simp[UInt8.size];omega);rw[vbA,hc,BX AG,BO AG,BO AG];congr 1;omega
theorem uX(u:Nat)(h:u<18446744073709551616):Lib.parseMag (CS u)=.ok u:=by
 unfold Lib.parseMag;rw[BO (lK u)]
 have:=zbV u 0 [] AG
 rw[vab]at this;rw[this,Nat.zero_mul,BU];rfl
theorem zM(n:Int)(h0: -9223372036854775808<=n)(h1:n<=9223372036854775807):Lib.atoiAll (Lib.itoa n)=.ok n:=by
 unfold Lib.itoa;split
 .rename_i hn;unfold Lib.atoiAll;have e:(45:UInt8).toNat=45:=rfl;simp only[e,or_true,CX,uX n.natAbs AG,vbw,false_and,if_false,vaS];rw[BO AG];congr 1;omega
 .rename_i hn;obtain⟨c,r,hl⟩:∃c r,CS n.toNat=c::r:=by
   cases h:CS n.toNat with
   |nil=>exact absurd h (lK _)
   |cons c r=>exact⟨c,r,rfl⟩
  have hc:=YC n.toNat c (by rw[hl];exact AY ..);have hm:=uX n.toNat AG;rw[hl]at hm ⊢;unfold Lib.atoiAll;have e1:¬c.toNat=43:=by omega
  have e2:¬c.toNat=45:=by omega
  simp only[e1,e2,or_self,if_false,hm,false_and,not_false_eq_true,vaS];rw[BO AG];congr 1;omega
theorem zL{s:BA}{n:Int}(h:s.data.toList=Lib.itoa n)(h0: -9223372036854775808<=n)(h1:n<=9223372036854775807):FT s=n:=by
 unfold FT;rw[h,zM n h0 h1]
theorem r8:∀(w r:List UInt8) (c:UInt8),c∉w->var (w++c::r) c=w.length
 |[],r,c,_=>by simp[var]
 |b::w,r,c,h=>by
  simp only[AW,not_or]at h;have e:(b==c)=AD:=BH.2 (λe=>h.1 e.symm);have e2:((w.length:Int)== -1)=AD:=by rw[BH];omega
  simp only[C9,var,e,r8 w r c h.2,e2,AV];simp
theorem Hb:∀(w:List UInt8) (c:UInt8),c∉w->var w c= -1
 |[],c,_=>rfl
 |b::w,c,h=>by
  simp only[AW,not_or]at h;have e:(b==c)=AD:=BH.2 (λe=>h.1 e.symm);simp[var,e,Hb w c h.2]
theorem dn(w r:List UInt8)(c:UInt8)(h:c∉w):Lib.cut (w++c::r) [c]=(w,r,AC):=by
 unfold Lib.cut;rw[Lib.index_one,r8 w r c h,BX AG];simp
theorem Rc(w r:List UInt8)(c:UInt8)(h:c∉w):Lib.split (w++c::r) [c]=w::Lib.split r [c]:=by
 unfold Lib.split;have ec:Lib.count (w++c::r) [c]=Lib.count r [c]+1:=by
  rw[Lib.count_one,Lib.count_one,List.count_append,List.count_eq_zero_of_not_mem h,List.count_cons_self,BU]
 rw[ec,Lib.splitK,Lib.index_one,r8 w r c h];have e2:((w.length:Int)== -1)=AD:=by rw[BH];omega
 rw[e2];simp
theorem Rf(w:List UInt8)(c:UInt8)(h:c∉w):Lib.split w [c]=[w]:=by
 unfold Lib.split;rw[Lib.count_one,List.count_eq_zero_of_not_mem h];rfl
theorem Rb(s sep:BA):(EH s sep).map (·.data.toList)=Lib.split s.data.toList sep.data.toList:=by
 unfold EH Lib.split;rw[Lib.splitB_data]
open Go
theorem zfx{n m:Int}(h:0<m): -m<n.tmod m/\n.tmod m<m:=by
 constructor
 .rcases Int.lt_or_le n 0 with hn|hn
  .have e:n.tmod m= -((-n).tmod m):=by rw[Int.neg_tmod,Int.neg_neg]
   have:=Int.tmod_lt_of_pos (-n) h
   omega
  .have:=Int.tmod_nonneg m hn
   omega
 .exact Int.tmod_lt_of_pos n h
theorem HR{n lo hi:Int}(h:lo<=hi)(h0: -2000000000000000000<=lo)(h1:hi<=2000000000000000000):ME lo hi=hi-lo+1/\lo<=D0 n lo hi/\D0 n lo hi<=hi:=by
 have e1:D7 (hi-lo)=hi-lo:=ER AG AG;have e2:ME lo hi=hi-lo+1:=by
  unfold ME;rw[e1];exact ER AG AG
 refine⟨e2,?_⟩;unfold D0;rw[e2];obtain⟨t0,t1⟩:=zfx (n:=n) (m:=hi-lo+1) AG;generalize n.tmod (hi-lo+1)=q at t0 t1 ⊢;cases hq:AE (q<0)with
 |true=>
  have hq:=BB hq;simp only[B5];have a1:D7 (q+hi)=q+hi:=ER AG AG;have a2:D7 (q+hi-lo)=q+hi-lo:=ER AG AG;have a3:D7 (q+hi-lo+1)=q+hi-lo+1:=ER AG AG;have a4:D7 (lo+(q+hi-lo+1))=lo+(q+hi-lo+1):=ER AG AG;rw[a1,a2,a3,a4];omega
 |false=>
  have hq:=BM hq;simp only[BK];have a1:D7 (lo+q)=lo+q:=ER AG AG;rw[a1];omega
theorem RK(n:Int):AI .u64 n=n%18446744073709551616:=by simp[AI,AT,vak]
abbrev EN(n:Int):Prop:= -9223372036854775808<=n/\n<=9223372036854775807
theorem yY{f:Nat->Bool}(h:(vaQ 256).all f=AC){r:Nat}(hr:r<256):f r=AC:=CZ.1 h r (vbk.2 hr)
def Kn(r:Nat):Bool:=match Lib.parseMag ((if r=0 then[]else KZ r)++Lib.repeatL [48] (8-(if r=0 then[]else KZ r).length))with|.ok v=>B2 v (r*390625)|_=>AD
theorem zbY:(vaQ 256).all Kn=AC:=AF
theorem zbX{r:Nat}(h:r<256):Lib.parseMag ((if r=0 then[]else KZ r)++Lib.repeatL [48] (8-(if r=0 then[]else KZ r).length))=.ok (r*390625):=by
 have:=yY zbY h
 unfold Kn at this;split at this
 .rename_i v hv;rw[hv,vae this]
 .cases this
def Kk(r:Nat):Bool:=B2 r 0||(CG (KZ r).length 8&&((KZ r).all (λc=>CG 48 c.toNat&&CG c.toNat 57)&&(match(KZ r).reverse with|[]=>AD|c::_=>!(B2 c.toNat 48))))
theorem dz:(vaQ 256).all Kk=AC:=AF
theorem lL{r:Nat}(h0:r≠0)(h:r<256):(KZ r).length<=8/\(∀c∈KZ r,48<=c.toNat/\c.toNat<=57)/\∃l c,KZ r=l++[c]/\c.toNat≠48:=by
 have:=yY dz h
 unfold Kk at this;simp only[vap,AQ,CZ]at this;rcases this with h1|⟨h1,h2,h3⟩
 .exact absurd (vae h1) h0
 .refine⟨AX h1,λc hc=>⟨AX (h2 c hc).1,AX (h2 c hc).2⟩,?_⟩;cases hr:(KZ r).reverse with
  |nil=>rw[hr]at h3;cases h3
  |cons c l=>
   rw[hr]at h3;refine⟨l.reverse,c,?_,?_⟩
   .have:=congrArg List.reverse hr
    simpa using this
   .intro e;have h3:(!c.toNat.beq 48)=AC:=h3;rw[e]at h3;cases h3
theorem jT(u:Nat):I8 u=CS (u/256)++(if u%256=0 then[]else 46::KZ (u%256)):=rfl
theorem dv(v:Nat):∃c r,CS v=c::r/\48<=c.toNat/\c.toNat<=57:=by
 cases h:CS v with
 |nil=>exact absurd h (lK v)
 |cons c r=>exact⟨c,r,rfl,YC v c (by rw[h];exact AY ..)⟩
theorem wH(u:Nat):∃c r,I8 u=c::r/\48<=c.toNat/\c.toNat<=57:=by
 obtain⟨c,r,h,h1⟩:=dv (u/256);exact⟨c,r++_,by rw[jT,h];rfl,h1⟩
theorem dw(v:Nat){c:UInt8}(h:c.toNat<48):c∉CS v:=λhc=>by
 have:=YC v c hc
 omega
theorem dr(w:List UInt8)(c:UInt8)(h:c∉w):Lib.cut w [c]=(w,[],AD):=by
 unfold Lib.cut;rw[Lib.index_one,Hb w c h,BO AG]
theorem zdp(u:Nat):(Lib.cut (I8 u) [46]).1=CS (u/256)/\(Lib.cut (I8 u) [46]).2.1=(if u%256=0 then[]else KZ (u%256)):=by
 have hno:(46:UInt8)∉CS (u/256):=dw _ (by decide);rw[jT];by_cases h:u%256=0
 .rw[BX h,BX h,vab,dr _ _ hno];exact⟨rfl,rfl⟩
 .rw[BO h,BO h,dn _ _ _ hno];exact⟨rfl,rfl⟩
theorem zb7(n:Int):P7 (D5 n) ZK=AE (n<0)/\GT (D5 n) ZK=⟨(I8 n.natAbs).toArray⟩:=by
 unfold P7 GT Lib.trimPrefix Lib.hasPrefix D5 LP;show[(45:UInt8)].isPrefixOf (if n<0 then 45::I8 n.natAbs else I8 n.natAbs)=_/\(⟨(if[(45:UInt8)].isPrefixOf (if n<0 then 45::I8 n.natAbs else I8 n.natAbs)=AC then _ else(if n<0 then 45::I8 n.natAbs else I8 n.natAbs)).toArray⟩:BA)=_;by_cases h:n<0
 .rw[BX h,AL h];have e:[(45:UInt8)].isPrefixOf (45::I8 n.natAbs)=AC:=by simp[vbu]
  rw[e,BX rfl];exact⟨rfl,rfl⟩
 .rw[BO h,AS h];obtain⟨c,r,hc,hc1,_⟩:=wH n.natAbs;have e:[(45:UInt8)].isPrefixOf (I8 n.natAbs)=AD:=by
   rw[hc];simp only[vbu,CK,BH];intro e;rw[<-e]at hc1;revert hc1;decide
  rw[e];simp
theorem Mj{s:BA}{v:Nat}(h:Lib.parseMag s.data.toList=.ok v):G2 s=v/\JT s=AC:=by
 unfold G2 JT;rw[h];exact⟨rfl,rfl⟩
theorem zb9{n:Int}(hn:EN n):YD (D5 n)=AC/\GL (D5 n)=n:=by
 obtain⟨hn0,hn1⟩:=hn;obtain⟨hm,hb⟩:=zb7 n;have hu:n.natAbs<=9223372036854775808:=by omega
 obtain⟨c1,c2⟩:=zdp n.natAbs;have hW:Q3 (D5 n)=⟨(CS (n.natAbs/256)).toArray⟩:=by
  unfold Q3 cutL;rw[hb];show(⟨(Lib.cut (I8 n.natAbs) [46]).1.toArray⟩:BA)=_;rw[c1]
 have hP:J5 (D5 n)=⟨(if n.natAbs%256=0 then[]else KZ (n.natAbs%256)).toArray⟩:=by
  unfold J5 GA;rw[hb];show(⟨(Lib.cut (I8 n.natAbs) [46]).2.1.toArray⟩:BA)=_;rw[c2]
 have hr:n.natAbs%256<256:=by omega
 obtain⟨v1,n1⟩:=Mj (s:=Q3 (D5 n)) (v:=n.natAbs/256) (by rw[hW];exact uX _ AG);have hz:(J5 (D5 n)).size=(if n.natAbs%256=0 then([]:List UInt8)else KZ (n.natAbs%256)).length:=by rw[hP,UC]
 have h8:(J5 (D5 n)).size<=8:=by
  rw[hz];split
  .simp
  .rename_i h0;exact(lL h0 hr).1
 obtain⟨v2,n2⟩:=Mj (s:=OB (D5 n)) (v:=n.natAbs%256*390625) (by
  have:=zbX hr
  unfold OB;rw[hz,hP];simp only[ByteArray.data_append,vaj];exact this)
 have hS:Q2 (D5 n)=(n.natAbs:Int):=by
  unfold Q2 GQ;rw[v1,v2];rw[RK,RK];omega
 have hN:g8 (D5 n)=n:=by
  unfold g8;rw[hm,hS];unfold D7 GQ;cases hd:AE (n<0)with
  |true=>
   have:=BB hd
   simp only[B5];rw[IntKind.wrap_i64,RK];omega
  |false=>
   have:=BM hd
   simp only[BK];rw[ER AG AG];omega
 have hI:YD (D5 n)=AC:=by
  unfold YD;rw[AL h8,n1,n2,v1,v2,hN,AL (show((n.natAbs/256:Nat):Int)<=36028797018963968 by omega),AL (show((n.natAbs%256*390625:Nat):Int)%390625=0 by omega),AL rfl];rfl
 refine⟨hI,?_⟩;unfold GL;rw[hI,hN];rfl
theorem Lv(n:Int):∃c r,(D5 n).data.toList=c::r/\c.toNat≠43:=by
 show∃c r,LP n=c::r/\c.toNat≠43;unfold LP;split
 .exact⟨45,_,rfl,by decide⟩
 .obtain⟨c,r,h,h1,_⟩:=wH n.natAbs;exact⟨c,r,h,by omega⟩
theorem Y6(n:Int)(hn:EN n):1<=(D5 n).size/\(D5 n).size<=40:=by
 obtain⟨c,r,h,_⟩:=Lv n;refine⟨by rw[UC,h];simp,?_⟩;rw[UC];show(LP n).length<=40;have hs:(I8 n.natAbs).length<=30:=by
  rw[jT,A2];have h1:(CS (n.natAbs/256)).length<=20:=by
   have:=tY (n:=((n.natAbs/256:Nat):Int)) AG (by obtain⟨_,_⟩:=hn;omega)
   rw[UC]at this;exact this
  split
  .simp;omega
  .rename_i h0
   have:=(lL h0 (by omega:n.natAbs%256<256)).1
   simp only[AV];omega
 unfold LP;split
 .simp only[AV];omega
 .omega
open Go
structure Qy where
 k:Int
 c:Int
 a0:Int
 b0:Int
 a1:Int
 b1:Int
 a2:Int
 b2:Int
 a3:Int
 b3:Int
 a4:Int
 b4:Int
 lo:Int
 hi:Int
 ft:Int
 fl:Bool
 bu:Int
def Qy.V(q:Qy):V:=.agg [.i q.k,.i q.c,.i q.a0,.i q.b0,.i q.a1,.i q.b1,.i q.a2,.i q.b2,.i q.a3,.i q.b3,.i q.a4,.i q.b4,.i q.lo,.i q.hi,.i q.ft,.bool q.fl,.i q.bu]
def Qy.none:Qy:=⟨0,0,0,0,0,0,0,0,0,0,0,0,0,0,0,AD,0⟩
def Qy.eq(p q:Qy):Bool:=
 (p.k==q.k)&&((p.c==q.c)&&((p.a0==q.a0)&&((p.b0==q.b0)&&((p.a1==q.a1)&&((p.b1==q.b1)&&((p.a2==q.a2)&&((p.b2==q.b2)&&((p.a3==q.a3)&&((p.b3==q.b3)&&((p.a4==q.a4)&&((p.b4==q.b4)&&((p.lo==q.lo)&&((p.hi==q.hi)&&((p.ft==q.ft)&&((p.fl==q.fl)&&((p.bu==q.bu)&&AC))))))))))))))))
def F5(q:Qy)(d:Int):Qy:=
 ⟨q.k,q.c,cond (AE (0<d)) q.a0 0,cond (AE (0<d)) q.b0 0,cond (AE (1<d)) q.a1 0,cond (AE (1<d)) q.b1 0,cond (AE (2<d)) q.a2 0,cond (AE (2<d)) q.b2 0,cond (AE (3<d)) q.a3 0,cond (AE (3<d)) q.b3 0,cond (AE (4<d)) q.a4 0,cond (AE (4<d)) q.b4 0,
  cond (q.k==1) q.lo 0,cond (q.k==1) q.hi 0,cond (q.k==3) q.ft 0,cond (q.k==3) q.fl AD,q.bu⟩
def c9:D4
 |[.agg [.i k,.i c,.i a0,.i b0,.i a1,.i b1,.i a2,.i b2,.i a3,.i b3,.i a4,.i b4,.i lo,.i hi,.i ft,.bool fl,.i bu],.i d]=>
  .br (AE (0<=d)&&AE (d<=5)) (.ok (.agg [.i (F5 ⟨k,c,a0,b0,a1,b1,a2,b2,a3,b3,a4,b4,lo,hi,ft,fl,bu⟩ d).k,.i (F5 ⟨k,c,a0,b0,a1,b1,a2,b2,a3,b3,a4,b4,lo,hi,ft,fl,bu⟩ d).c,
   .i (F5 ⟨k,c,a0,b0,a1,b1,a2,b2,a3,b3,a4,b4,lo,hi,ft,fl,bu⟩ d).a0,.i (F5 ⟨k,c,a0,b0,a1,b1,a2,b2,a3,b3,a4,b4,lo,hi,ft,fl,bu⟩ d).b0,
   .i (F5 ⟨k,c,a0,b0,a1,b1,a2,b2,a3,b3,a4,b4,lo,hi,ft,fl,bu⟩ d).a1,.i (F5 ⟨k,c,a0,b0,a1,b1,a2,b2,a3,b3,a4,b4,lo,hi,ft,fl,bu⟩ d).b1,
   .i (F5 ⟨k,c,a0,b0,a1,b1,a2,b2,a3,b3,a4,b4,lo,hi,ft,fl,bu⟩ d).a2,.i (F5 ⟨k,c,a0,b0,a1,b1,a2,b2,a3,b3,a4,b4,lo,hi,ft,fl,bu⟩ d).b2,
   .i (F5 ⟨k,c,a0,b0,a1,b1,a2,b2,a3,b3,a4,b4,lo,hi,ft,fl,bu⟩ d).a3,.i (F5 ⟨k,c,a0,b0,a1,b1,a2,b2,a3,b3,a4,b4,lo,hi,ft,fl,bu⟩ d).b3,
   .i (F5 ⟨k,c,a0,b0,a1,b1,a2,b2,a3,b3,a4,b4,lo,hi,ft,fl,bu⟩ d).a4,.i (F5 ⟨k,c,a0,b0,a1,b1,a2,b2,a3,b3,a4,b4,lo,hi,ft,fl,bu⟩ d).b4,
   .i (F5 ⟨k,c,a0,b0,a1,b1,a2,b2,a3,b3,a4,b4,lo,hi,ft,fl,bu⟩ d).lo,.i (F5 ⟨k,c,a0,b0,a1,b1,a2,b2,a3,b3,a4,b4,lo,hi,ft,fl,bu⟩ d).hi,
   .i (F5 ⟨k,c,a0,b0,a1,b1,a2,b2,a3,b3,a4,b4,lo,hi,ft,fl,bu⟩ d).ft,.bool (F5 ⟨k,c,a0,b0,a1,b1,a2,b2,a3,b3,a4,b4,lo,hi,ft,fl,bu⟩ d).fl,
   .i (F5 ⟨k,c,a0,b0,a1,b1,a2,b2,a3,b3,a4,b4,lo,hi,ft,fl,bu⟩ d).bu]) []) .no
 |_=>.no
def KS(n:Int):Bool:=AE (0<=n)&&AE (n<=1073741824)
def c8:D4
 |[.i n]=>.ok (.bool (KS n)) []
 |_=>.no
def W5:D4
 |[.str s]=>.ok (.i (FT s)) []
 |_=>.no
def W6:D4
 |[.str s]=>.br (AE (s.size<4294967281)) (.ok (.i (GL s)) []) .no
 |_=>.no
abbrev N1:BA:=⟨#[114,97,110,103,101]⟩
abbrev PM:BA:=⟨#[98,101,115,116]⟩
abbrev N2:BA:=⟨#[114,105,115,101,115]⟩
abbrev M5:BA:=⟨#[102,97,108,108,115]⟩
abbrev WI:BA:=⟨#[102,114,111,109]⟩
abbrev WM:BA:=⟨#[116,111]⟩
abbrev PN:BA:=⟨#[98,121]⟩
abbrev OS:BA:=⟨#[105,110]⟩
abbrev WH:BA:=⟨#[98,117,100,103,101,116]⟩
abbrev cL:BA:=⟨#[46,46]⟩
abbrev HI:BA:=⟨#[32]⟩
def NZ(a b:Int):BA:=D5 a++cL++D5 b
def IB(q:Qy):List BA:=
 cond (q.k==1) [N1,DZ q.c,WI,D5 q.lo,WM,D5 q.hi]
 (cond (q.k==2) [PM,DZ q.c] [cond q.fl M5 N2,DZ q.c,PN,DZ q.ft])
def Qy.spans(q:Qy):List (Int×Int):=[(q.a0,q.b0),(q.a1,q.b1),(q.a2,q.b2),(q.a3,q.b3),(q.a4,q.b4)]
def JW(q:Qy)(d:Nat):List BA:=IB q++OS::((q.spans.take d).map λs=>NZ s.1 s.2)++[WH,DZ q.bu]
def PG(q:Qy)(d:Int):Bool:=
 (!(AE (d<1))&&!(AE (d>4)))&&(q.eq (F5 q d)&&(KS q.c&&(KS q.ft&&(KS q.bu&&((q.k==1)||((q.k==2)||(q.k==3)))))))
def EW(q:Qy)(d:Int):BA:=cond (PG q d) (GU (JW q d.toNat) HI) ZL
def W4:D4
 |[.agg [.i k,.i c,.i a0,.i b0,.i a1,.i b1,.i a2,.i b2,.i a3,.i b3,.i a4,.i b4,.i lo,.i hi,.i ft,.bool fl,.i bu],.i d]=>
  .ok (.str (EW ⟨k,c,a0,b0,a1,b1,a2,b2,a3,b3,a4,b4,lo,hi,ft,fl,bu⟩ d)) []
 |_=>.no
def D9(l:LI)(i:Nat):BA:=(l.getD i default).toStr
def E5(l:LI):Qy:=
 cond ((D9 l 0).toList==N1.toList) ⟨1,FT (D9 l 1),0,0,0,0,0,0,0,0,0,0,GL (D9 l 3),GL (D9 l 5),0,AD,0⟩
 (cond ((D9 l 0).toList==PM.toList) ⟨2,FT (D9 l 1),0,0,0,0,0,0,0,0,0,0,0,0,0,AD,0⟩
 (cond ((D9 l 0).toList==N2.toList||(D9 l 0).toList==M5.toList) ⟨3,FT (D9 l 1),0,0,0,0,0,0,0,0,0,0,0,0,FT (D9 l 3),(D9 l 0).toList==M5.toList,0⟩
 ⟨0,FT (D9 l 1),0,0,0,0,0,0,0,0,0,0,0,0,0,AD,0⟩))
def c7:D4
 |[.list AD [.str] l]=>.br (AE (l.length<=4294967290)&&l.all (λx=>AE (x.toStr.size<4294967281)))
  (.ok (.agg [.i (E5 l).k,.i (E5 l).c,.i (E5 l).a0,.i (E5 l).b0,.i (E5 l).a1,.i (E5 l).b1,.i (E5 l).a2,.i (E5 l).b2,.i (E5 l).a3,.i (E5 l).b3,.i (E5 l).a4,.i (E5 l).b4,
   .i (E5 l).lo,.i (E5 l).hi,.i (E5 l).ft,.bool (E5 l).fl,.i (E5 l).bu]) []) .no
 |_=>.no
def SQ(l:LI)(i:Nat):Int:=GL (cutL (D9 l i) cL)
def SR(l:LI)(i:Nat):Int:=GL (GA (D9 l i) cL)
def jI(l:LI)(i d:Nat):Qy:=
 ⟨(
  E5 (l.take i)).k,(E5 (l.take i)).c,
  cond (BV 0 d) (SQ l (i+1)) 0,cond (BV 0 d) (SR l (i+1)) 0,cond (BV 1 d) (SQ l (i+2)) 0,cond (BV 1 d) (SR l (i+2)) 0,cond (BV 2 d) (SQ l (i+3)) 0,cond (BV 2 d) (SR l (i+3)) 0,cond (BV 3 d) (SQ l (i+4)) 0,cond (BV 3 d) (SR l (i+4)) 0,0,0,
  (E5 (l.take i)).lo,(E5 (l.take i)).hi,(E5 (l.take i)).ft,(E5 (l.take i)).fl,FT (D9 l (l.length-1))⟩
def HT(s:BA):LI:=(EH s HI).map IV.str
def OG(s:BA):Int:=GB (HT s) OS 0
def PC(s:BA):Int:=ic (HT s).length-2-OG s-1
def iP(s:BA):Qy:=jI (HT s) (OG s).toNat (PC s).toNat
def LZ(s:BA):Bool:=(!(AE (OG s<0))&&(!(AE (PC s<1))&&!(AE (PC s>4))))&&(EW (iP s) (PC s)).toList==s.toList
def E1(s:BA):Qy:=cond (LZ s) (iP s) Qy.none
def ND(s:BA):Int:=cond (LZ s) (PC s) 0
def S2:D4
 |[.str s]=>.br (AE (s.size<4294967281))
  (.ok (.tup [.agg [.i (E1 s).k,.i (E1 s).c,.i (E1 s).a0,.i (E1 s).b0,.i (E1 s).a1,.i (E1 s).b1,.i (E1 s).a2,.i (E1 s).b2,.i (E1 s).a3,.i (E1 s).b3,.i (E1 s).a4,.i (E1 s).b4,
   .i (E1 s).lo,.i (E1 s).hi,.i (E1 s).ft,.bool (E1 s).fl,.i (E1 s).bu],.i (ND s),.bool (LZ s)]) []) .no
 |_=>.no
open Go
def E0(l:LI)(i:Int):Int:=cond (ic l.length==0) 0 (l.getD (i.tmod (ic l.length)).toNat default).toInt
def S7:D4
 |[.list AD [.z] l,.i i]=>.br (AE (0<=i)) (.ok (.i (E0 l i)) []) .no
 |_=>.no
def E4(n:Int):Bool:=AE (-2147483648<=n)&&AE (n<=2147483647)
def S8:D4
 |[.i n,.i w]=>.br (AE (w=32)) (.ok (.bool (E4 n)) []) .no
 |_=>.no
def RB(lf:Bool)(v f a l r:Int):Bool:=
 cond lf (E4 v&&((f==0)&&((a==0)&&((l==0)&&(r==0)))))
  ((v==0)&&(AE (0<=f)&&(AE (f<4)&&(E4 a&&(AE (1<=l)&&(AE (l<31)&&(AE (1<=r)&&AE (r<31))))))))
def XD:D4
 |[.agg [.bool lf,.i v,.i f,.i a,.i l,.i r]]=>.ok (.bool (RB lf v f a l r)) []
 |_=>.no
def GG(a b:Int):Int:=GQ (ic (B1 (A0 (AT AO) a&&&A0 (AT AO) b)))
def Y2(a b:Int):Int:=GQ (ic (B1 (A0 (AT AO) a|||A0 (AT AO) b)))
def OO(a:Int)(k:Nat):Int:=GQ (a*2^k)
def HK(lf:Bool)(v f a l r:Int):Int:=
 cond (RB lf v f a l r)
  (cond lf (Y2 9223372036854775808 (GG (GQ v) 4294967295))
   (Y2 (Y2 (Y2 (GG (GQ a) 4294967295) (OO (GQ f) 32)) (OO (GQ l) 40)) (OO (GQ r) 48)))
  0
def S9:D4
 |[.agg [.bool lf,.i v,.i f,.i a,.i l,.i r]]=>.ok (.int .u64 (HK lf v f a l r)) []
 |_=>.no
def T4(lf:Bool)(v f a l r:Int):IV:=.agg [.bool lf,.int v,.int f,.int a,.int l,.int r]
def MT(v:Int):IV:=T4 AC v 0 0 0 0
def T9(x:IV):IV:=.int (HK (x.cell 0).toBool (x.cell 1).toInt (x.cell 2).toInt (x.cell 3).toInt (x.cell 4).toInt (x.cell 5).toInt)
structure Ns where
 nodes:LI
 leaves:LI
def IO(part:LI)(i:Nat)(s:Ns):Int:=D0 (part.getD i default).toInt 0 (ic s.leaves.length-1)
def SF(part:LI)(i:Nat)(s:Ns):Int:=(s.leaves.getD (IO part i s).toNat default).toInt
def K4(part byl atl val:LI)(dim:Int)(i:Nat)(s:Ns):Ns:=
 ⟨s.nodes.set (SF part i s).toNat (T4 AD 0 (D0 (E0 byl (i:Int)) 0 (dim-1)) (D0 (E0 atl (i:Int)) 0 9) (ic s.nodes.length) (ic s.nodes.length+1))++
   [MT (D0 (E0 val (2*(i:Int)+1)) (-3000) 3000),MT (D0 (E0 val (2*(i:Int)+2)) (-3000) 3000)],
  s.leaves.take (IO part i s).toNat++s.leaves.drop ((IO part i s).toNat+1)++[.int (ic s.nodes.length),.int (ic s.nodes.length+1)]⟩
def bB(part byl atl val:LI)(dim:Int):Nat->Nat->Ns->Ns
 |0,_,s=>s
 |d+1,i,s=>bB part byl atl val dim d (i+1) (K4 part byl atl val dim i s)
def QF(part byl atl val:LI)(dim:Int):Ns:=bB part byl atl val dim (min part.length 7) 0 ⟨[MT (D0 (E0 val 0) (-3000) 3000)],[.int 0]⟩
def NQ(part byl atl val:LI)(dim:Int):LI:=(QF part byl atl val dim).nodes.map T9
def dW:D4
 |[.agg [.i _,.list AD [.z] part,.list AD [.z] byl,.list AD [.z] atl,.list AD [.z] val],.i dim]=>
  .br (AE (1<=dim)&&AE (dim<=4)) (.ok (.list AD [.int .u64] (NQ part byl atl val dim)) []) .no
 |_=>.no
def O9(d:Int):Int:=D0 d 1 3
def LJ(c:Int):Int:=D0 c 1 3
def TL(c:Int)(bias:LI)(j:Int):Int:=cond (AE (j<LJ c)) (D0 (E0 bias j) (-500) 500) 0
def cF(d c:Int)(t:IV):IV:=.agg [.int (D0 (t.cell 0).toInt 0 (LJ c-1)),.list (NQ (t.cell 1).toList (t.cell 2).toList (t.cell 3).toList (t.cell 4).toList (O9 d))]
def SS(d c:Int)(ts:LI):LI:=(ts.take 4).map (cF d c)
def kJ:D4
 |[.agg [.i d,.i c,.list AD [.z] bias,.list AC [.z,.list AD [.z],.list AD [.z],.list AD [.z],.list AD [.z]] ts]]=>
  .ok (.agg [.i (O9 d),.i (LJ c),.i (TL c bias 0),.i (TL c bias 1),.i (TL c bias 2),.list AC [.z,.list AD [.int .u64]] (SS d c ts)]) []
 |_=>.no
def F7(d:Int)(l:LI)(i:Int):Int:=cond (AE (i<d)) (D0 (E0 l (2*i)) (-2) 9) 0
def F8(d:Int)(l:LI)(i:Int):Int:=cond (AE (i<d)) (D0 (E0 l (2*i)) (-2) 9+D0 (E0 l (2*i+1)) 0 11) 0
def dU:D4
 |[.agg [.i d,.i _,.i _,.i _,.i _,.list AC [.z,.list AD [.int .u64]] _],.list AD [.z] l]=>
  .br (AE (0<=d)&&AE (d<=4)) (.ok (.agg [.i (F7 d l 0),.i (F8 d l 0),.i (F7 d l 1),.i (F8 d l 1),.i (F7 d l 2),.i (F8 d l 2),.i (F7 d l 3),.i (F8 d l 3),.i 0,.i 0]) []) .no
 |_=>.no
structure Ak where
 k:Int
 c:Int
 lo:Int
 size:Int
 ft:Int
 bu:Int
 fl:Bool
 sp:LI
def FV(a:Ak)(cls:Int):Int:=cond (D0 a.k 1 3==2&&AE (cls<2)) 1 (D0 a.k 1 3)
def K2(a:Ak):Int:=D0 a.lo (-9000) 9000
def JU(a:Ak)(dim cls:Int):Qy:=
 ⟨FV a cls,D0 a.c 0 (cls-1),F7 dim a.sp 0,F8 dim a.sp 0,F7 dim a.sp 1,F8 dim a.sp 1,F7 dim a.sp 2,F8 dim a.sp 2,F7 dim a.sp 3,F8 dim a.sp 3,0,0,
  cond (FV a cls==1) (K2 a) 0,cond (FV a cls==1) (K2 a+D0 a.size 0 18000) 0,cond (FV a cls==3) (D0 a.ft 0 (dim-1)) 0,cond (FV a cls==3) a.fl AD,D0 a.bu 0 65536⟩
def kI:D4
 |[.agg [.i k,.i c,.i lo,.i size,.i ft,.i bu,.bool fl,.list AD [.z] sp],.agg [.i dim,.i cls,.i _,.i _,.i _,.list AC [.z,.list AD [.int .u64]] _]]=>
  .br ((AE (1<=dim)&&AE (dim<=4))&&(AE (1<=cls)&&AE (cls<=3)))
   (.ok (.agg [.i (JU ⟨k,c,lo,size,ft,bu,fl,sp⟩ dim cls).k,.i (JU ⟨k,c,lo,size,ft,bu,fl,sp⟩ dim cls).c,
    .i (JU ⟨k,c,lo,size,ft,bu,fl,sp⟩ dim cls).a0,.i (JU ⟨k,c,lo,size,ft,bu,fl,sp⟩ dim cls).b0,.i (JU ⟨k,c,lo,size,ft,bu,fl,sp⟩ dim cls).a1,.i (JU ⟨k,c,lo,size,ft,bu,fl,sp⟩ dim cls).b1,
    .i (JU ⟨k,c,lo,size,ft,bu,fl,sp⟩ dim cls).a2,.i (JU ⟨k,c,lo,size,ft,bu,fl,sp⟩ dim cls).b2,.i (JU ⟨k,c,lo,size,ft,bu,fl,sp⟩ dim cls).a3,.i (JU ⟨k,c,lo,size,ft,bu,fl,sp⟩ dim cls).b3,
    .i (JU ⟨k,c,lo,size,ft,bu,fl,sp⟩ dim cls).a4,.i (JU ⟨k,c,lo,size,ft,bu,fl,sp⟩ dim cls).b4,.i (JU ⟨k,c,lo,size,ft,bu,fl,sp⟩ dim cls).lo,.i (JU ⟨k,c,lo,size,ft,bu,fl,sp⟩ dim cls).hi,
    .i (JU ⟨k,c,lo,size,ft,bu,fl,sp⟩ dim cls).ft,.bool (JU ⟨k,c,lo,size,ft,bu,fl,sp⟩ dim cls).fl,.i (JU ⟨k,c,lo,size,ft,bu,fl,sp⟩ dim cls).bu]) []) .no
 |_=>.no
open Go Go.Proofs
def Wq(N:Nat):Env:=EE [] [] 15 N
theorem ye(N:Nat)(l:LI)(i:Int):EA (Wq N) Az [.tmp 4] [[.z]] [.list AD [.z] l,.i i]=(cond (ic (AN l)==0) (AA (.i 0,[])) (cond (AE (ic (AN l)=0)) AB (cond (AE (0<=Int.tmod i (ic (AN l)))&&AE (Int.tmod i (ic (AN l))<ic (AN l))) (AA (.i (IV.toInt (AR l (AM (Int.tmod i (ic (AN l)))) default)),[])) AB))):=AF
def Wu(N:Nat):Env:=EE [] [] 27 N
theorem yp(N:Nat)(n w:Int):EA (Wu N) Bd [.tmp 4] [[.bool]] [.i n,.i w]=(cond (AE (w<1)) (AA (.bool AD,[])) (cond (AE (w>64)) (AA (.bool AD,[])) (cond (w==64) (AA (.bool AC,[])) (cond (AE (AI AJ (w-1)<0)) AB (cond (AE (n>=AI AJ (0-AI AJ (1*2^min (AM (AI AJ (w-1))) (AT AJ))))) (AA (.bool (AE (n<=AI AJ (AI AJ (1*2^min (AM (AI AJ (w-1))) (AT AJ))-1))),[])) (AA (.bool AD,[]))))))):=AF
def Wx(N:Nat):Env:=EE [(134,S8)] [] 66 N
theorem yw(N:Nat)(u01:Bool)(u04 u00 n_At u02 u03:Int):EA (Wx N) Bg [.tmp 2] [[.bool]] [.agg [.bool u01,.i u04,.i u00,.i n_At,.i u02,.i u03]]=(cond u01 (cond (E4 u04) (cond (u00==0) (cond (n_At==0) (cond (u02==0) (AA (.bool (u03==0),[])) (AA (.bool AD,[]))) (AA (.bool AD,[]))) (AA (.bool AD,[]))) (AA (.bool AD,[]))) (cond (u04==0) (cond (AE (u00>=0)) (cond (AE (u00<4)) (cond (E4 n_At) (cond (AE (u02>=1)) (cond (AE (u02<31)) (cond (AE (u03>=1)) (AA (.bool (AE (u03<31)),[])) (AA (.bool AD,[]))) (AA (.bool AD,[]))) (AA (.bool AD,[]))) (AA (.bool AD,[]))) (AA (.bool AD,[]))) (AA (.bool AD,[]))) (AA (.bool AD,[])))):=AF
def Ww(N:Nat):Env:=EE [(133,XD)] [] 32 N
theorem yt(N:Nat)(u01:Bool)(u04 u00 n_At u02 u03:Int):EA (Ww N) Bf [.tmp 2] [[.int .u64]] [.agg [.bool u01,.i u04,.i u00,.i n_At,.i u02,.i u03]]=(cond (!RB u01 u04 u00 n_At u02 u03) (AA (.int .u64 0,[])) (cond u01 (AA (.int .u64 (AI AO (ic (B1 (A0 (AT AO) 9223372036854775808|||A0 (AT AO) (AI AO (ic (B1 (A0 (AT AO) (AI AO u04)&&&A0 (AT AO) 4294967295)))))))),[])) (AA (.int .u64 (AI AO (ic (B1 (A0 (AT AO) (AI AO (ic (B1 (A0 (AT AO) (AI AO (ic (B1 (A0 (AT AO) (AI AO (ic (B1 (A0 (AT AO) (AI AO n_At)&&&A0 (AT AO) 4294967295))))|||A0 (AT AO) (AI AO (AI AO u00*2^min (AM 32) (AT AO)))))))|||A0 (AT AO) (AI AO (AI AO u02*2^min (AM 40) (AT AO)))))))|||A0 (AT AO) (AI AO (AI AO u03*2^min (AM 48) (AT AO))))))),[])))):=AF
def S0(N:Nat):Env:=EE [(32,M8),(35,S7)] [(3,⟨[1,4,5,9,10],[4,5],[]⟩)] 32 N
abbrev SX(l1:LI)(x9 x10 u00 u01 u02 u03 u04 u05 u06 u07 u08 u09 u0a u0b u0c u0d u0e u0f u0g u0h u0i u0j:Int):St:=⟨[(1,(.list AD [.z] l1)),(4,(.ptr 4 0 0)),(5,(.ptr 5 0 0)),(9,(.i x9)),(10,(.i x10))],[(4,(AA (.box [.i u00,.i u01,.i u02,.i u03,.i u04,.i u05,.i u06,.i u07,.i u08,.i u09]))),(5,(AA (.box [.i u0a,.i u0b,.i u0c,.i u0d,.i u0e,.i u0f,.i u0g,.i u0h,.i u0i,.i u0j])))]⟩
theorem ya(N:Nat)(u04 u03 u00 u01 u02:Int)(u05 l:LI):EA (S0 N) VG [.cell 4 37] [[.z,.z,.z,.z,.z,.z,.z,.z,.z,.z]] [.agg [.i u04,.i u03,.i u00,.i u01,.i u02,.list AC [.z,.list AD [.int .u64]] u05],.list AD [.z] l]=(D3 (S0 N) (DS VG [1,1,0,1,0,0]) ⟨[1,4,5,9,10],[4,5],[]⟩ N (SX l u04 0 0 0 0 0 0 0 0 0 0 0 0 0 0 0 0 0 0 0 0 0) (DW 0 (DX (S0 N) (DS VG [1,1,1]) (D2 (S0 N) AB [.cell 4 37] [[.z,.z,.z,.z,.z,.z,.z,.z,.z,.z]])))):=AF
theorem Rz(N:Nat)(l1:LI)(x9 x10 u00 u01 u02 u03 u04 u05 u06 u07 u08 u09 u0a u0b u0c u0d u0e u0f u0g u0h u0i u0j:Int)(again:St->DU)(k:Out->St->DU):EY (S0 N) (DS VG [1,1,0,1,0,0]) (SX l1 x9 x10 u00 u01 u02 u03 u04 u05 u06 u07 u08 u09 u0a u0b u0c u0d u0e u0f u0g u0h u0i u0j) (ES again ⟨[1,4,5,9,10],[4,5],[]⟩ k)=(cond (AE (x10<x9)) (cond (AE (0<=AI AJ (2*x10))) (cond (AE (0<=AI AJ (AI AJ (2*x10)+1))) (cond (AE (x10=ic 0)) (again (SX l1 x9 (AI AJ (x10+1)) u00 u01 u02 u03 u04 u05 u06 u07 u08 u09 (D0 (E0 l1 (AI AJ (2*x10))) (-2) 9) (AI AJ (D0 (E0 l1 (AI AJ (2*x10))) (-2) 9+D0 (E0 l1 (AI AJ (AI AJ (2*x10)+1))) 0 11)) u0c u0d u0e u0f u0g u0h u0i u0j)) (cond (AE (x10=ic 1)) (again (SX l1 x9 (AI AJ (x10+1)) u00 u01 u02 u03 u04 u05 u06 u07 u08 u09 u0a u0b (D0 (E0 l1 (AI AJ (2*x10))) (-2) 9) (AI AJ (D0 (E0 l1 (AI AJ (2*x10))) (-2) 9+D0 (E0 l1 (AI AJ (AI AJ (2*x10)+1))) 0 11)) u0e u0f u0g u0h u0i u0j)) (cond (AE (x10=ic 2)) (again (SX l1 x9 (AI AJ (x10+1)) u00 u01 u02 u03 u04 u05 u06 u07 u08 u09 u0a u0b u0c u0d (D0 (E0 l1 (AI AJ (2*x10))) (-2) 9) (AI AJ (D0 (E0 l1 (AI AJ (2*x10))) (-2) 9+D0 (E0 l1 (AI AJ (AI AJ (2*x10)+1))) 0 11)) u0g u0h u0i u0j)) (cond (AE (x10=ic 3)) (again (SX l1 x9 (AI AJ (x10+1)) u00 u01 u02 u03 u04 u05 u06 u07 u08 u09 u0a u0b u0c u0d u0e u0f (D0 (E0 l1 (AI AJ (2*x10))) (-2) 9) (AI AJ (D0 (E0 l1 (AI AJ (2*x10))) (-2) 9+D0 (E0 l1 (AI AJ (AI AJ (2*x10)+1))) 0 11)) u0i u0j)) (cond (AE (x10=ic 4)) (again (SX l1 x9 (AI AJ (x10+1)) u00 u01 u02 u03 u04 u05 u06 u07 u08 u09 u0a u0b u0c u0d u0e u0f u0g u0h (D0 (E0 l1 (AI AJ (2*x10))) (-2) 9) (AI AJ (D0 (E0 l1 (AI AJ (2*x10))) (-2) 9+D0 (E0 l1 (AI AJ (AI AJ (2*x10)+1))) 0 11)))) AB))))) AB) AB) (k (.exit 0) (SX l1 x9 x10 u00 u01 u02 u03 u04 u05 u06 u07 u08 u09 u0a u0b u0c u0d u0e u0f u0g u0h u0i u0j))):=AF
theorem ib(N:Nat)(l1:LI)(x9 x10 u00 u01 u02 u03 u04 u05 u06 u07 u08 u09 u0a u0b u0c u0d u0e u0f u0g u0h u0i u0j:Int):(DW 0 (DX (S0 N) (DS VG [1,1,1]) (D2 (S0 N) AB [.cell 4 37] [[.z,.z,.z,.z,.z,.z,.z,.z,.z,.z]]))) (.exit 0) (SX l1 x9 x10 u00 u01 u02 u03 u04 u05 u06 u07 u08 u09 u0a u0b u0c u0d u0e u0f u0g u0h u0i u0j)=(AA (.agg [.i u0a,.i u0b,.i u0c,.i u0d,.i u0e,.i u0f,.i u0g,.i u0h,.i u0i,.i u0j],[])):=AF
open Go Go.Proofs
def Wo(N:Nat):Env:=EE [(32,M8),(39,dU)] [] 58 N
theorem xy(N:Nat)(u04 u01 a_Lo u05 u03 u00:Int)(u02:Bool)(u06:LI)(u0b u0a u07 u08 u09:Int)(u0c:LI):EA (Wo N) Ax [.cell 4 39] [[.z,.z,.z,.z,.z,.z,.z,.z,.z,.z,.z,.z,.z,.z,.z,.bool,.z]] [.agg [.i u04,.i u01,.i a_Lo,.i u05,.i u03,.i u00,.bool u02,.list AD [.z] u06],.agg [.i u0b,.i u0a,.i u07,.i u08,.i u09,.list AC [.z,.list AD [.int .u64]] u0c]]=(cond (AE (ME 0 (AI AJ (u0a-1))=0)) AB (cond (AE (0<=u0b)&&AE (u0b<=4)) (cond (D0 u04 1 3==2) (cond (AE (u0a<2)) (AA (.agg [.i 1,.i (D0 u01 0 (AI AJ (u0a-1))),.i (F7 u0b u06 0),.i (F8 u0b u06 0),.i (F7 u0b u06 1),.i (F8 u0b u06 1),.i (F7 u0b u06 2),.i (F8 u0b u06 2),.i (F7 u0b u06 3),.i (F8 u0b u06 3),.i 0,.i 0,.i (D0 a_Lo (-9000) 9000),.i (AI AJ (D0 a_Lo (-9000) 9000+D0 u05 0 18000)),.i 0,.bool AD,.i (D0 u00 0 65536)],[])) (cond (D0 u04 1 3==1) (AA (.agg [.i (D0 u04 1 3),.i (D0 u01 0 (AI AJ (u0a-1))),.i (F7 u0b u06 0),.i (F8 u0b u06 0),.i (F7 u0b u06 1),.i (F8 u0b u06 1),.i (F7 u0b u06 2),.i (F8 u0b u06 2),.i (F7 u0b u06 3),.i (F8 u0b u06 3),.i 0,.i 0,.i (D0 a_Lo (-9000) 9000),.i (AI AJ (D0 a_Lo (-9000) 9000+D0 u05 0 18000)),.i 0,.bool AD,.i (D0 u00 0 65536)],[])) (AA (.agg [.i (D0 u04 1 3),.i (D0 u01 0 (AI AJ (u0a-1))),.i (F7 u0b u06 0),.i (F8 u0b u06 0),.i (F7 u0b u06 1),.i (F8 u0b u06 1),.i (F7 u0b u06 2),.i (F8 u0b u06 2),.i (F7 u0b u06 3),.i (F8 u0b u06 3),.i 0,.i 0,.i 0,.i 0,.i 0,.bool AD,.i (D0 u00 0 65536)],[])))) (cond (D0 u04 1 3==3) (cond (AE (ME 0 (AI AJ (u0b-1))=0)) AB (cond (D0 u04 1 3==1) (AA (.agg [.i (D0 u04 1 3),.i (D0 u01 0 (AI AJ (u0a-1))),.i (F7 u0b u06 0),.i (F8 u0b u06 0),.i (F7 u0b u06 1),.i (F8 u0b u06 1),.i (F7 u0b u06 2),.i (F8 u0b u06 2),.i (F7 u0b u06 3),.i (F8 u0b u06 3),.i 0,.i 0,.i (D0 a_Lo (-9000) 9000),.i (AI AJ (D0 a_Lo (-9000) 9000+D0 u05 0 18000)),.i (D0 u03 0 (AI AJ (u0b-1))),.bool u02,.i (D0 u00 0 65536)],[])) (AA (.agg [.i (D0 u04 1 3),.i (D0 u01 0 (AI AJ (u0a-1))),.i (F7 u0b u06 0),.i (F8 u0b u06 0),.i (F7 u0b u06 1),.i (F8 u0b u06 1),.i (F7 u0b u06 2),.i (F8 u0b u06 2),.i (F7 u0b u06 3),.i (F8 u0b u06 3),.i 0,.i 0,.i 0,.i 0,.i (D0 u03 0 (AI AJ (u0b-1))),.bool u02,.i (D0 u00 0 65536)],[])))) (cond (D0 u04 1 3==1) (AA (.agg [.i (D0 u04 1 3),.i (D0 u01 0 (AI AJ (u0a-1))),.i (F7 u0b u06 0),.i (F8 u0b u06 0),.i (F7 u0b u06 1),.i (F8 u0b u06 1),.i (F7 u0b u06 2),.i (F8 u0b u06 2),.i (F7 u0b u06 3),.i (F8 u0b u06 3),.i 0,.i 0,.i (D0 a_Lo (-9000) 9000),.i (AI AJ (D0 a_Lo (-9000) 9000+D0 u05 0 18000)),.i 0,.bool AD,.i (D0 u00 0 65536)],[])) (AA (.agg [.i (D0 u04 1 3),.i (D0 u01 0 (AI AJ (u0a-1))),.i (F7 u0b u06 0),.i (F8 u0b u06 0),.i (F7 u0b u06 1),.i (F8 u0b u06 1),.i (F7 u0b u06 2),.i (F8 u0b u06 2),.i (F7 u0b u06 3),.i (F8 u0b u06 3),.i 0,.i 0,.i 0,.i 0,.i 0,.bool AD,.i (D0 u00 0 65536)],[]))))) AB)):=AF
open Go Go.Proofs
theorem wP:D6 PR B0 35 S7:=by
 refine EF [] [] S7 [[.z]] Tryz.func35 ov trivial ?_;intro vs r hwf h;unfold S7 at h;split at h
 .rename_i l i;cases hc:AE (0<=i)with
  |false=>rw[hc]at h;simp[R.get]at h
  |true=>
   rw[hc,R.get_br,DQ,R.get_ok]at h;have hc:=BB hc;refine⟨0,?_⟩;rw[<-h];refine(ye 0 l i).trans ?_;unfold E0;cases h0:(ic (AN l)==0)with
   |true=>rfl
   |false=>
    rw[U7]at h0;have h0':=BM h0;have hl:0<(l.length:Int):=by simp only[ic]at h0';omega
    have t0:=Int.tmod_nonneg (l.length:Int) hc;have t1:=Int.tmod_lt_of_pos i hl;rw[DR,h0,DR,AL (show 0<=Int.tmod i (ic (AN l))from t0),AL (show Int.tmod i (ic (AN l))<ic (AN l)from t1),CK,DQ,DR]
 .simp[R.get]at h
theorem wQ:D6 PR B0 134 S8:=by
 refine EF [] [] S8 [[.bool]] Tryz.func134 pk trivial ?_;intro vs r hwf h;unfold S8 at h;split at h
 .rename_i n w;cases hc:AE (w=32)with
  |false=>rw[hc]at h;simp[R.get]at h
  |true=>
   rw[hc,R.get_br,DQ,R.get_ok]at h;have hc:=BB hc;subst hc;refine⟨0,?_⟩;rw[<-h];refine(yp 0 n 32).trans ?_;have e1:AI AJ (0-AI AJ (1*2^min (AM (AI AJ ((32:Int)-1))) (AT AJ)))= -2147483648:=by kernel_rfl
   have e2:AI AJ (AI AJ (1*2^min (AM (AI AJ ((32:Int)-1))) (AT AJ))-1)=2147483647:=by kernel_rfl
   have e3:AE (AI AJ ((32:Int)-1)<0)=AD:=by kernel_rfl
   rw[e1,e2,e3];unfold E4;have e4:AE (n>= -2147483648)=AE (-2147483648<=n):=rfl;rw[e4];cases AE (-2147483648<=n)<;>rfl
 .simp[R.get]at h
theorem Ec(a b:Bool):cond a (AA (V.bool b,[])) (AA (V.bool AD,[]))=(AA (V.bool (a&&b),[]):DU):=by cases a<;>rfl
theorem Pr:D6 PR B0 133 XD:=by
 refine EF [(134,S8)] [] XD [[.bool]] Tryz.func133 pr ⟨wQ,trivial⟩ ?_;intro vs r hwf h;unfold XD at h;split at h
 .rename_i lf v f a l r';refine⟨0,?_⟩;rw[<-h];refine(yw 0 lf v f a l r').trans ?_;simp only[R.get_ok,Ec];unfold RB;cases lf with
  |true=>rfl
  |false=>rfl
 .simp[R.get]at h
theorem wR:D6 PR B0 74 S9:=by
 refine EF [(133,XD)] [] S9 [[.int .u64]] Tryz.func74 pp ⟨Pr,trivial⟩ ?_;intro vs r hwf h;unfold S9 at h;split at h
 .rename_i lf v f a l r';refine⟨0,?_⟩;rw[<-h];refine(yt 0 lf v f a l r').trans ?_;unfold HK;cases RB lf v f a l r' with
  |false=>rfl
  |true=>cases lf<;>rfl
 .simp[R.get]at h
def M0(l:LI)(j:Int):Int:=D0 (E0 l (2*j)) (-2) 9
def MA(l:LI)(j:Int):Int:=D0 (E0 l (2*j)) (-2) 9+D0 (E0 l (2*j+1)) 0 11
def rgC(l:LI)(i:Nat):List V:=[.i (cond (BV 0 i) (M0 l 0) 0),.i (cond (BV 0 i) (MA l 0) 0),.i (cond (BV 1 i) (M0 l 1) 0),.i (cond (BV 1 i) (MA l 1) 0),.i (cond (BV 2 i) (M0 l 2) 0),.i (cond (BV 2 i) (MA l 2) 0),.i (cond (BV 3 i) (M0 l 3) 0),.i (cond (BV 3 i) (MA l 3) 0),.i 0,.i 0]
abbrev oK(l:LI)(D:Int)(i:Nat)(x:Int):St:=⟨[(1,(.list AD [.z] l)),(4,(.ptr 4 0 0)),(5,(.ptr 5 0 0)),(9,(.i D)),(10,(.i x))],[(4,(AA (.box [(.i 0),(.i 0),(.i 0),(.i 0),(.i 0),(.i 0),(.i 0),(.i 0),(.i 0),(.i 0)]))),(5,(AA (.box (rgC l i))))]⟩
theorem zfj(l:LI)(j:Int):AI AJ (D0 (E0 l (2*j)) (-2) 9+D0 (E0 l (2*j+1)) 0 11)=MA l j:=by
 obtain⟨_,a1,a2⟩:=HR (n:=E0 l (2*j)) (lo:= -2) (hi:=9) AG AG AG;obtain⟨_,b1,b2⟩:=HR (n:=E0 l (2*j+1)) (lo:=0) (hi:=11) AG AG AG;exact ER AG AG
theorem zcM(N:Nat)(l:LI)(D:Int)(i:Nat)(hi:(i:Int)<D)(h4:i<4)(again:St->DU)(k:Out->St->DU):
  EY (S0 N) (DS VG [1,1,0,1,0,0]) (oK l D i (i:Int)) (ES again ⟨[1,4,5,9,10],[4,5],[]⟩ k)=again (oK l D (i+1) ((i+1:Nat):Int)):=by
 refine(Rz N l D i 0 0 0 0 0 0 0 0 0 0 (cond (BV 0 i) (M0 l 0) 0) (cond (BV 0 i) (MA l 0) 0) (cond (BV 1 i) (M0 l 1) 0) (cond (BV 1 i) (MA l 1) 0) (cond (BV 2 i) (M0 l 2) 0) (cond (BV 2 i) (MA l 2) 0) (cond (BV 3 i) (M0 l 3) 0) (cond (BV 3 i) (MA l 3) 0) 0 0 again k).trans ?_;have w2:AI AJ (2*(i:Int))=2*(i:Int):=ER AG AG;have w3:AI AJ (2*(i:Int)+1)=2*(i:Int)+1:=ER AG AG;rw[AL hi,DQ,w2,w3,AL (show 0<=2*(i:Int) by omega),DQ,AL (show 0<=2*(i:Int)+1 by omega),DQ,zfj];have hi4:i=0\/i=1\/i=2\/i=3:=by omega
 rcases hi4 with rfl|rfl|rfl|rfl
 .rw[show AE (((0:Nat):Int)=ic 0)=AC from rfl,DQ];rfl
 .rw[show AE (((1:Nat):Int)=ic 0)=AD from rfl,show AE (((1:Nat):Int)=ic 1)=AC from rfl,DR,DQ];rfl
 .rw[show AE (((2:Nat):Int)=ic 0)=AD from rfl,show AE (((2:Nat):Int)=ic 1)=AD from rfl,show AE (((2:Nat):Int)=ic 2)=AC from rfl,DR,DR,DQ];rfl
 .rw[show AE (((3:Nat):Int)=ic 0)=AD from rfl,show AE (((3:Nat):Int)=ic 1)=AD from rfl,show AE (((3:Nat):Int)=ic 2)=AD from rfl,show AE (((3:Nat):Int)=ic 3)=AC from rfl,DR,DR,DR,DQ];rfl
theorem Nj(N:Nat)(l:LI)(D:Nat)(hD:D<=4)(K:Out->St->DU):∀(d i n:Nat),i+d=D->d<n->
  D3 (S0 N) (DS VG [1,1,0,1,0,0]) ⟨[1,4,5,9,10],[4,5],[]⟩ n (oK l D i (i:Int)) K=K (.exit 0) (oK l D D (D:Int))
 |0,i,n+1,hd,hn=>by
  have hi:i=D:=by omega
  subst hi;rw[D8];refine(Rz N l _ _ 0 0 0 0 0 0 0 0 0 0 (cond (BV 0 i) (M0 l 0) 0) (cond (BV 0 i) (MA l 0) 0) (cond (BV 1 i) (M0 l 1) 0) (cond (BV 1 i) (MA l 1) 0) (cond (BV 2 i) (M0 l 2) 0) (cond (BV 2 i) (MA l 2) 0) (cond (BV 3 i) (M0 l 3) 0) (cond (BV 3 i) (MA l 3) 0) 0 0 _ _).trans ?_;rw[AS (show¬(i:Int)<(i:Int) by omega),DR];rfl
 |d+1,i,n+1,hd,hn=>by
  rw[D8,zcM N l D i AG AG];exact Nj N l D hD K d (i+1) n AG AG
 |_,_,0,_,h=>by omega
theorem zdP:D6 PR B0 39 dU:=by
 refine EF [(32,M8),(35,S7)] [(3,⟨[1,4,5,9,10],[4,5],[]⟩)] dU [[.z,.z,.z,.z,.z,.z,.z,.z,.z,.z]] Tryz.func39 oq
  ⟨bZ,wP,trivial⟩ ?_
 intro vs r hwf h;unfold dU at h;split at h
 .rename_i d c b0 b1 b2 ts l;cases hc:(AE (0<=d)&&AE (d<=4))with
  |false=>rw[hc]at h;simp[R.get]at h
  |true=>
   rw[hc,R.get_br,DQ,R.get_ok]at h;simp only[AQ,AZ]at hc;refine⟨10,?_⟩;rw[<-h];refine(ya 10 d c b0 b1 b2 ts l).trans ?_;obtain⟨D,rfl⟩:∃D:Nat,d=D:=⟨d.toNat,by omega⟩;refine(Nj 10 l D AG _ D 0 10 AG AG).trans ?_;refine(ib 10 l D D 0 0 0 0 0 0 0 0 0 0 (cond (BV 0 D) (M0 l 0) 0) (cond (BV 0 D) (MA l 0) 0) (cond (BV 1 D) (M0 l 1) 0) (cond (BV 1 D) (MA l 1) 0) (cond (BV 2 D) (M0 l 2) 0) (cond (BV 2 D) (MA l 2) 0) (cond (BV 3 D) (M0 l 3) 0) (cond (BV 3 D) (MA l 3) 0) 0 0).trans ?_;have hD:D=0\/D=1\/D=2\/D=3\/D=4:=by omega
   rcases hD with rfl|rfl|rfl|rfl|rfl<;>rfl
 .simp[R.get]at h
theorem zdN:D6 PR B0 9 kI:=by
 refine EF [(32,M8),(39,dU)] [] kI [[.z,.z,.z,.z,.z,.z,.z,.z,.z,.z,.z,.z,.z,.z,.z,.bool,.z]] Tryz.func9 om
  ⟨bZ,zdP,trivial⟩ ?_
 intro vs r hwf h;unfold kI at h;split at h
 .rename_i k c lo size ft bu fl sp dim cls b0 b1 b2 ts;cases hc:((AE (1<=dim)&&AE (dim<=4))&&(AE (1<=cls)&&AE (cls<=3)))with
  |false=>rw[hc]at h;simp[R.get]at h
  |true=>
   rw[hc,R.get_br,DQ,R.get_ok]at h;simp only[AQ,AZ]at hc;obtain⟨⟨d1,d4⟩,c1,c3⟩:=hc;refine⟨0,?_⟩;rw[<-h];refine(xy 0 k c lo size ft bu fl sp dim cls b0 b1 b2 ts).trans ?_;have w1:AI AJ (cls-1)=cls-1:=ER AG AG;have w2:AI AJ (dim-1)=dim-1:=ER AG AG;obtain⟨m1,_,_⟩:=HR (n:=c) (lo:=0) (hi:=cls-1) AG AG AG;obtain⟨m2,_,_⟩:=HR (n:=ft) (lo:=0) (hi:=dim-1) AG AG AG;obtain⟨_,l1,l2⟩:=HR (n:=lo) (lo:= -9000) (hi:=9000) AG AG AG;obtain⟨_,s1,s2⟩:=HR (n:=size) (lo:=0) (hi:=18000) AG AG AG;have w3:AI AJ (D0 lo (-9000) 9000+D0 size 0 18000)=D0 lo (-9000) 9000+D0 size 0 18000:=ER AG AG;rw[w1,w2,w3,m1,m2,AS (show¬(cls-1-0+1=0) by omega),AS (show¬(dim-1-0+1=0) by omega),AL (show 0<=dim by omega),AL (show dim<=4 by omega)];unfold JU FV K2;obtain⟨_,k1,k2⟩:=HR (n:=k) (lo:=1) (hi:=3) AG AG AG;generalize D0 k 1 3=K at k1 k2;have hK:K=1\/K=2\/K=3:=by omega
   simp only;generalize AE (cls<2)=cl;rcases hK with rfl|rfl|rfl<;>cases cl<;>rfl
 .simp[R.get]at h
open Go
def S4:D4
 |[.i n,.i w]=>.br (AE (w=32)) (.ok (.bool (E4 n)) []) .no
 |_=>.no
def W8:D4
 |[.i a,.i w]=>.br (AE (0<=a)&&AE (a<64)) (.ok (.bool (AE (1<=w)&&AE (w<=64-a))) []) .no
 |_=>.no
def PF(w:Int):Int:=(18446744073709551615:Int).fdiv (2^(64-w).toNat)
def W9:D4
 |[.i w]=>.br (AE (1<=w)&&AE (w<=64)) (.ok (.int .u64 (PF w)) []) .no
 |_=>.no
def gI(a b:Int):Int:=GQ (ic (B1 (A0 (AT AO) a&&& ~~~ (A0 (AT AO) b))))
def K7(x a w y:Int):Int:=Y2 (gI x (OO (PF w) a.toNat)) (GG (OO y a.toNat) (OO (PF w) a.toNat))
def G6(x a w:Int):Int:=GG (x.fdiv (2^a.toNat)) (PF w)
def dE:D4
 |[.int .u64 x,.i a,.i w,.int .u64 y]=>.br (AE (0<=a)&&(AE (a<64)&&(AE (1<=w)&&AE (w<=64-a)))) (.ok (.int .u64 (K7 x a w y)) []) .no
 |_=>.no
def S5:D4
 |[.int .u64 x,.i a,.i w]=>.br (AE (0<=a)&&(AE (a<64)&&(AE (1<=w)&&AE (w<=64-a)))) (.ok (.int .u64 (G6 x a w)) []) .no
 |_=>.no
def KH(n:Int):Int:=(D7 (n*2^32)).fdiv (2^32)
def dG:D4
 |[.i n,.i w]=>.br (AE (w=32)) (.ok (.i (KH n)) []) .no
 |_=>.no
def MB(x:Int):Int:=KH (D7 (G6 x 0 32))
def dF:D4
 |[.int .u64 x,.i a,.i w]=>.br (AE (a=0)&&AE (w=32)) (.ok (.i (MB x)) []) .no
 |_=>.no
structure Nd where
 lf:Bool
 v:Int
 f:Int
 a:Int
 l:Int
 r:Int
def Nd.eq(x y:Nd):Bool:=(x.lf==y.lf)&&((x.v==y.v)&&((x.f==y.f)&&((x.a==y.a)&&((x.l==y.l)&&((x.r==y.r)&&AC)))))
def Nd.zero:Nd:=⟨AD,0,0,0,0,0⟩
def O6(n:Int):Bool:=AE (1<=n)&&AE (n<31)
def fM:D4
 |[.i n]=>.ok (.bool (O6 n)) []
 |_=>.no
def IQ(x:Nd):Bool:=
 cond x.lf (x.eq ⟨AC,x.v,0,0,0,0⟩&&E4 x.v)
  ((x.v==0)&&(AE (0<=x.f)&&(AE (x.f<4)&&(E4 x.a&&(O6 x.l&&O6 x.r)))))
def fK:D4
 |[.agg [.bool lf,.i v,.i f,.i a,.i l,.i r]]=>.ok (.bool (IQ ⟨lf,v,f,a,l,r⟩)) []
 |_=>.no
def G9(x:Nd):Int:=
 cond (IQ x)
  (cond x.lf (K7 9223372036854775808 0 32 (GQ x.v))
   (K7 (K7 (K7 (K7 0 0 32 (GQ x.a)) 32 4 (GQ x.f)) 40 8 (GQ x.l)) 48 8 (GQ x.r)))
  0
def XH:D4
 |[.agg [.bool lf,.i v,.i f,.i a,.i l,.i r]]=>.ok (.int .u64 (G9 ⟨lf,v,f,a,l,r⟩)) []
 |_=>.no
def L9(w:Int):Nd:=
 cond (G6 w 63 1==0) ⟨AD,0,D7 (G6 w 32 4),MB w,D7 (G6 w 40 8),D7 (G6 w 48 8)⟩ ⟨AC,MB w,0,0,0,0⟩
def FQ(w:Int):Bool:=!(w==0)&&(G9 (L9 w)==w)
def DT(w:Int):Nd:=cond (FQ w) (L9 w) Nd.zero
def NA:D4
 |[.int .u64 w]=>.ok (.tup [.agg [.bool (DT w).lf,.i (DT w).v,.i (DT w).f,.i (DT w).a,.i (DT w).l,.i (DT w).r],.bool (FQ w)]) []
 |_=>.no
def fL:D4
 |[.i a,.i w,.bor [.int .u64 x]]=>.br (AE (0<=a)&&(AE (a<64)&&(AE (1<=w)&&AE (w<=64-a)))) (.ok (.i (D7 (G6 x a w))) [[.int .u64 x]]) .no
 |_=>.no
def KO(x:Nd)(j:Nat):Nat:=cond x.lf 0 ((if x.l=(j:Int)then 1 else 0)+(if x.r=(j:Int)then 1 else 0))
def G0(l:LI)(j:Nat):Nat:=(l.map λw=>KO (DT w.toInt) j).sum
def OD(dim n:Int)(i:Nat)(x:Nd):Bool:=
 cond x.lf AC (!(AE (x.f>=dim))&&(!(x.l==x.r)&&(!(AE (min x.l x.r<=(i:Int)))&&!(AE (max x.l x.r>=n)))))
def JH(dim n:Int):Nat->LI->Bool
 |_,[]=>AC
 |i,w::r=>(FQ w.toInt&&OD dim n i (DT w.toInt))&&JH dim n (i+1) r
def V0(l:LI):Bool:=(vaQ (l.length-1)).all λj=>G0 l (j+1)==1
def GP(l:LI)(dim:Int):Bool:=(CG 1 l.length&&CG l.length 31)&&(JH dim (ic l.length) 0 l&&V0 l)
def XT:D4
 |[.list AD [.int .u64] l,.i dim]=>.ok (.bool (GP l dim)) []
 |_=>.no
structure Md where
 d:Int
 c:Int
 b0:Int
 b1:Int
 b2:Int
 ts:LI
def HH(d c:Int)(t:IV):Bool:=!(AE ((t.cell 0).toInt<0))&&(!(AE ((t.cell 0).toInt>=c))&&GP (t.cell 1).toList d)
def GR(c j b:Int):Bool:=E4 b&&!(AE (j>=c)&&!(b==0))
def EU(m:Md):Bool:=
 (!(AE (m.d<1))&&(!(AE (m.d>4))&&(!(AE (m.c<1))&&(!(AE (m.c>3))&&CG m.ts.length 8))))&&
  ((GR m.c 0 m.b0&&(GR m.c 1 m.b1&&GR m.c 2 m.b2))&&m.ts.all (HH m.d m.c))
abbrev G7:List Kd:=[.z,.list AD [.int .u64]]
def XG:D4
 |[.agg [.i k,.list AD [.int .u64] l],.bor [.i d,.i c,.i b0,.i b1,.i b2,.list AC [.z,.list AD [.int .u64]] ts]]=>
  .ok (.bool (!(HH d c (.agg [.int k,.list l])))) [[.i d,.i c,.i b0,.i b1,.i b2,.list AC G7 ts]]
 |_=>.no
def YJ(d c:Int):LI->Int->Int
 |[],_=> -1
 |t::r,i=>cond (HH d c t) (YJ d c r (i+1)) i
def f5:D4
 |[.list AC [.z,.list AD [.int .u64]] l,.clo 108 [.bor [.i d,.i c,.i b0,.i b1,.i b2,.list AC [.z,.list AD [.int .u64]] ts]]]=>
  .ok (.i (YJ d c l 0)) [[.i d,.i c,.i b0,.i b1,.i b2,.list AC G7 ts]]
 |_=>.no
def fZ:D4
 |[.list AC [.z,.list AD [.int .u64]] l,.clo 108 [.bor [.i d,.i c,.i b0,.i b1,.i b2,.list AC [.z,.list AD [.int .u64]] ts]]]=>
  .ok (.bool (!(l.all (HH d c)))) [[.i d,.i c,.i b0,.i b1,.i b2,.list AC G7 ts]]
 |_=>.no
def M9:D4
 |[.agg [.i d,.i c,.i b0,.i b1,.i b2,.list AC [.z,.list AD [.int .u64]] ts]]=>.ok (.bool (EU ⟨d,c,b0,b1,b2,ts⟩)) []
 |_=>.no
abbrev OR:BA:=⟨#[102,111,114,101,115,116]⟩
abbrev JP:BA:=⟨#[98,105,97,115]⟩
abbrev PO:BA:=⟨#[116,114,101,101]⟩
abbrev UJ:BA:=⟨#[108,101,97,102]⟩
abbrev o4:BA:=⟨#[105,102]⟩
abbrev yD:BA:=⟨#[60,61]⟩
abbrev yE:BA:=⟨#[116,104,101,110]⟩
abbrev yC:BA:=⟨#[101,108,115,101]⟩
abbrev QS:BA:=⟨#[10]⟩
def FW(ws:List BA):BA:=GU ws HI++QS
def GI:List (List BA)->BA
 |[]=>CQ
 |l::r=>FW l++GI r
def MW(x:Nd):List BA:=
 cond x.lf [UJ,D5 x.v] [o4,DZ x.f,yD,D5 x.a,yE,DZ x.l,yC,DZ x.r]
def IC(l:LI):List (List BA):=l.map λw=>MW (DT w.toInt)
def UH(t:IV):List (List BA):=[PO,DZ (t.cell 0).toInt,DZ (ic (t.cell 1).toList.length)]::IC (t.cell 1).toList
def G3:LI->List (List BA)
 |[]=>[]
 |t::r=>UH t++G3 r
def TX(m:Md):List (List BA):=[[OR,DZ m.d,DZ m.c],JP::([m.b0,m.b1,m.b2].take m.c.toNat).map D5]
def MU(m:Md):List (List BA):=TX m++G3 m.ts
def HU(m:Md):BA:=cond (EU m) (GI (MU m)) ZL
def FU(s:BA)(most:Int):Int:=cond (MK s&&(!(AE (FT s<0))&&!(AE (FT s>most)))) (FT s) 0
def FH(ls:LI):LI:=match ls with|[]=>[]|l::_=>HT l.toStr
def OL(l:LI):Nd:=
 cond ((D9 l 0).toList==UJ.toList) ⟨AC,GL (D9 l 1),0,0,0,0⟩ ⟨AD,0,FU (D9 l 1) 4,GL (D9 l 3),FU (D9 l 5) 31,FU (D9 l 7) 31⟩
def NV(ls:LI)(k:Nat):LI:=(vaQ k).map λi=>.int (G9 (OL (FH (ls.drop i))))
def NU(ls:LI):Nat:=(FU (D9 (FH ls) 2) 31).toNat
def bN(ls:LI):IV:=.agg [.int (FU (D9 (FH ls) 1) 3),.list (NV (ls.drop 1) (NU ls))]
def L8:Nat->LI->LI
 |0,_=>[]
 |n+1,ls=>match ls with
  |[]=>[]
  |l::r=>bN (l::r)::L8 n (r.drop (NU (l::r)))
def L7(ls:LI)(c:Int)(j:Nat):Int:=cond (AE ((j:Int)<c)) (GL (D9 (FH (ls.drop 1)) (1+j))) 0
def bM(ls:LI):Int:=FU (D9 (FH ls) 2) 3
def vN(ls:LI):Md:=⟨FU (D9 (FH ls) 1) 4,bM ls,L7 ls (bM ls) 0,L7 ls (bM ls) 1,L7 ls (bM ls) 2,L8 9 (ls.drop 2)⟩
def TW(s t:BA):Bool:=AE (t.size<=s.size)&&(s.extract (s.size-t.size) s.size).toList==t.toList
def GN(s t:BA):BA:=cond (TW s t) (s.extract 0 (s.size-t.size)) s
def cH(s:BA):BA:=GN s QS
def VT(s:BA):LI:=(EH (cH s) QS).map IV.str
def aF(s:BA):Md:=vN (VT s)
def Md.zero:Md:=⟨0,0,0,0,0,[]⟩
def OQ(s:BA):Bool:=!(s.toList==ZL.toList)&&(HU (aF s)).toList==s.toList
def HN(s:BA):Md:=cond (OQ s) (aF s) Md.zero
def K5(l:LI):Bool:=l.all λx=>AE (x.toStr.size<4294967281)
def gB:D4
 |[.bor [.bld s],.list AD [.str] ws]=>.br (CG ws.length 1000&&AE (s.size+(FW (ws.map IV.toStr)).size<=1000000000)) (.ok (.tup []) [[.bld (s++FW (ws.map IV.toStr))]]) .no
 |_=>.no
def TE:D4
 |[.agg [.i d,.i c,.i b0,.i b1,.i b2,.list AC [.z,.list AD [.int .u64]] ts]]=>.ok (.str (HU ⟨d,c,b0,b1,b2,ts⟩)) []
 |_=>.no
def XQ:D4
 |[.bor [.list AD [.str] ls]]=>.br (K5 ls) (.ok (.list AD [.str] (FH ls)) [[.list AD [.str] (ls.drop 1)]]) .no
 |_=>.no
def XS:D4
 |[.list AD [.str] l,.i i]=>.br (AE (0<=i)) (.ok (.str (D9 l i.toNat)) []) .no
 |_=>.no
def XP:D4
 |[.str s,.i most]=>.ok (.i (FU s most)) []
 |_=>.no
def XR:D4
 |[.str s]=>.br (AE (s.size<4294967281)) (.ok (.i (GL s)) []) .no
 |_=>.no
def gC:D4
 |[.bor [.list AD [.str] ls]]=>.br (K5 ls) (.ok (.int .u64 (G9 (OL (FH ls)))) [[.list AD [.str] (ls.drop 1)]]) .no
 |_=>.no
def fE:D4
 |[.str s,.str t]=>.ok (.bool (TW s t)) []
 |_=>.no
def fF:D4
 |[.str s,.str t]=>.ok (.str (GN s t)) []
 |_=>.no
def TC:D4
 |[.str s,.str t]=>.ok (.str (GN s t)) []
 |_=>.no
def XO:D4
 |[.str s]=>.br (AE (s.size<4294967281)) (.ok (.tup [.agg [.i (HN s).d,.i (HN s).c,.i (HN s).b0,.i (HN s).b1,.i (HN s).b2,.list AC G7 (HN s).ts],.bool (OQ s)]) []) .no
 |_=>.no
open Go Go.Proofs
def Wa(N:Nat):Env:=EE [] [] 25 N
theorem wz(N:Nat)(n w:Int):EA (Wa N) Ah [.tmp 4] [[.bool]] [.i n,.i w]=(cond (AE (w<1)) (AA (.bool AD,[])) (cond (AE (w>64)) (AA (.bool AD,[])) (cond (AE (AI AO (AI AJ (w-1))<0)) AB (cond (C4 n (2^min (AM (AI AO (AI AJ (w-1)))) (AT AJ))==0) (AA (.bool AC,[])) (cond (AE (AI AO (AI AJ (w-1))<0)) AB (AA (.bool (C4 n (2^min (AM (AI AO (AI AJ (w-1)))) (AT AJ))== -1),[]))))))):=AF
def We(N:Nat):Env:=EE [] [] 21 N
theorem xd(N:Nat)(n w:Int):EA (We N) Am [.tmp 4] [[.z]] [.i n,.i w]=(cond (AE (w<1)) (AA (.i n,[])) (cond (AE (w>=64)) (AA (.i n,[])) (cond (AE (AI AO (AI AJ (64-w))<0)) AB (cond (AE (AI AO (AI AJ (64-w))<0)) AB (AA (.i (C4 (AI AJ (n*2^min (AM (AI AO (AI AJ (64-w)))) (AT AJ))) (2^min (AM (AI AO (AI AJ (64-w)))) (AT AJ))),[])))))):=AF
def Wf(N:Nat):Env:=EE [] [] 21 N
theorem xe(N:Nat)(atv w:Int):EA (Wf N) An [.tmp 4] [[.bool]] [.i atv,.i w]=(cond (AE (atv>=0)) (cond (AE (atv<64)) (cond (AE (w>=1)) (AA (.bool (AE (w<=AI AJ (64-atv))),[])) (AA (.bool AD,[]))) (AA (.bool AD,[]))) (AA (.bool AD,[]))):=AF
def Wg(N:Nat):Env:=EE [] [] 7 N
theorem xf(N:Nat)(w:Int):EA (Wg N) Ao [.tmp 2] [[.int .u64]] [.i w]=(cond (AE (AI AO (AI AJ (64-w))<0)) AB (AA (.int .u64 (C4 18446744073709551615 (2^min (AM (AI AO (AI AJ (64-w)))) (AT AO))),[]))):=AF
def Wc(N:Nat):Env:=EE [(165,W8),(166,W9)] [] 30 N
theorem xb(N:Nat)(x atv w y:Int):EA (Wc N) Aj [.tmp 8] [[.int .u64]] [.int .u64 x,.i atv,.i w,.int .u64 y]=(cond (AE (0<=atv)&&AE (atv<64)) (cond (! (AE (1<=w)&&AE (w<=64-atv))) (AA (.int .u64 x,[])) (cond (AE (1<=w)&&AE (w<=64)) (cond (AE (AI AO atv<0)) AB (cond (AE (AI AO atv<0)) AB (AA (.int .u64 (AI AO (ic (B1 (A0 (AT AO) (AI AO (ic (B1 (A0 (AT AO) x&&& ~~~A0 (AT AO) (AI AO (PF w*2^min (AM (AI AO atv)) (AT AO)))))))|||A0 (AT AO) (AI AO (ic (B1 (A0 (AT AO) (AI AO (y*2^min (AM (AI AO atv)) (AT AO)))&&&A0 (AT AO) (AI AO (PF w*2^min (AM (AI AO atv)) (AT AO))))))))))),[])))) AB)) AB):=AF
def Wb(N:Nat):Env:=EE [(165,W8),(166,W9)] [] 18 N
theorem xa(N:Nat)(x atv w:Int):EA (Wb N) Ai [.tmp 6] [[.int .u64]] [.int .u64 x,.i atv,.i w]=(cond (AE (0<=atv)&&AE (atv<64)) (cond (! (AE (1<=w)&&AE (w<=64-atv))) (AA (.int .u64 0,[])) (cond (AE (AI AO atv<0)) AB (cond (AE (1<=w)&&AE (w<=64)) (AA (.int .u64 (AI AO (ic (B1 (A0 (AT AO) (C4 x (2^min (AM (AI AO atv)) (AT AO)))&&&A0 (AT AO) (PF w))))),[])) AB))) AB):=AF
def Wd(N:Nat):Env:=EE [(111,S5),(164,dG)] [] 14 N
theorem xc(N:Nat)(x atv w:Int):EA (Wd N) Al [.tmp 6] [[.z]] [.int .u64 x,.i atv,.i w]=(cond (AE (0<=atv)&&(AE (atv<64)&&(AE (1<=w)&&AE (w<=64-atv)))) (cond (AE (w=32)) (AA (.i (KH (AI AJ (G6 x atv w))),[])) AB) AB):=AF
def Xw(N:Nat):Env:=EE [] [] 9 N
theorem zan(N:Nat)(n:Int):EA (Xw N) Ch [.tmp 2] [[.bool]] [.i n]=(cond (AE (n>=1)) (AA (.bool (AE (n<31)),[])) (AA (.bool AD,[]))):=AF
def Xt(N:Nat):Env:=EE [(106,S4),(206,fM)] [] 43 N
theorem zak(N:Nat)(u01:Bool)(u04 u00 n_At u02 u03:Int):EA (Xt N) Ce [.tmp 2] [[.bool]] [.agg [.bool u01,.i u04,.i u00,.i n_At,.i u02,.i u03]]=(cond u01 (cond (u01==AC&&(u04==u04&&(u00==0&&(n_At==0&&(u02==0&&(u03==0&&AC)))))) (AA (.bool (E4 u04),[])) (AA (.bool AD,[]))) (cond (u04==0) (cond (AE (u00>=0)) (cond (AE (u00<4)) (cond (E4 n_At) (cond (O6 u02) (AA (.bool (O6 u03),[])) (AA (.bool AD,[]))) (AA (.bool AD,[]))) (AA (.bool AD,[]))) (AA (.bool AD,[]))) (AA (.bool AD,[])))):=AF
def Xs(N:Nat):Env:=EE [(168,dE),(167,fK)] [] 32 N
theorem zaj(N:Nat)(u01:Bool)(u04 u00 n_At u02 u03:Int):EA (Xs N) Cd [.tmp 2] [[.int .u64]] [.agg [.bool u01,.i u04,.i u00,.i n_At,.i u02,.i u03]]=(cond (!IQ {lf:=u01,v:=u04,f:=u00,a:=n_At,l:=u02,r:=u03}) (AA (.int .u64 0,[])) (cond u01 (AA (.int .u64 (K7 9223372036854775808 0 32 (AI AO u04)),[])) (AA (.int .u64 (K7 (K7 (K7 (K7 0 0 32 (AI AO n_At)) 32 4 (AI AO u00)) 40 8 (AI AO u02)) 48 8 (AI AO u03)),[])))):=AF
def Xv(N:Nat):Env:=EE [(111,S5)] [] 11 N
theorem zam(N:Nat)(a w x:Int):EA (Xv N) Cg [.tmp 5] [[.z]] [.i a,.i w,.bor [.int .u64 x]]=(cond (AE (0<=a)&&(AE (a<64)&&(AE (1<=w)&&AE (w<=64-a)))) (AA (.i (AI AJ (G6 x a w)),[[.int .u64 x]])) AB):=AF
def Xu(N:Nat):Env:=EE [(111,S5),(110,dF),(113,XH),(112,fL)] [] 33 N
theorem zal(N:Nat)(w:Int):EA (Xu N) Cf [.cell 2 108,.tmp 3] [[.bool,.z,.z,.z,.z,.z],[.bool]] [.int .u64 w]=(cond (G6 w 63 1==0) (cond (w==0) (AA (.tup [.agg [.bool AD,.i 0,.i 0,.i 0,.i 0,.i 0],.bool AD],[])) (cond (G9 {lf:=AD,v:=0,f:=D7 (G6 w 32 4),a:=MB w,l:=D7 (G6 w 40 8),r:=D7 (G6 w 48 8)}!=w) (AA (.tup [.agg [.bool AD,.i 0,.i 0,.i 0,.i 0,.i 0],.bool AD],[])) (AA (.tup [.agg [.bool AD,.i 0,.i (D7 (G6 w 32 4)),.i (MB w),.i (D7 (G6 w 40 8)),.i (D7 (G6 w 48 8))],.bool AC],[])))) (cond (w==0) (AA (.tup [.agg [.bool AD,.i 0,.i 0,.i 0,.i 0,.i 0],.bool AD],[])) (cond (G9 {lf:=AC,v:=MB w,f:=0,a:=0,l:=0,r:=0}!=w) (AA (.tup [.agg [.bool AD,.i 0,.i 0,.i 0,.i 0,.i 0],.bool AD],[])) (AA (.tup [.agg [.bool AC,.i (MB w),.i 0,.i 0,.i 0,.i 0],.bool AC],[]))))):=AF
open Go Go.Proofs
theorem xV{n:Int}(h0:0<=n)(h1:n<18446744073709551616):AI AO n=n:=by
 rw[RK];omega
theorem wL:D6 PR B0 106 S4:=by
 refine EF [] [] S4 [[.bool]] Tryz.func106 my trivial ?_;intro vs r hwf h;unfold S4 at h;split at h
 .rename_i n w;cases hc:AE (w=32)with
  |false=>rw[hc]at h;simp[R.get]at h
  |true=>
   rw[hc,R.get_br,DQ,R.get_ok]at h;have hc:=BB hc;subst hc;refine⟨0,?_⟩;rw[<-h];refine(wz 0 n 32).trans ?_;have e3:AE (AI AO (AI AJ ((32:Int)-1))<0)=AD:=by kernel_rfl
   have e4:(2:Int)^min (AM (AI AO (AI AJ ((32:Int)-1)))) (AT AJ)=2147483648:=by kernel_rfl
   rw[e3,e4,AS (show¬(32:Int)<1 by omega),AS (show¬(32:Int)>64 by omega),DR,DR,DR,DR];have h0:=Int.fdiv_mul_add_fmod n 2147483648;have h1:=Int.fmod_nonneg_of_pos n (show(0:Int)<2147483648 by omega);have h2:=Int.fmod_lt_of_pos n (show(0:Int)<2147483648 by omega);generalize C4 n 2147483648=q at h0 ⊢;generalize Int.fmod n 2147483648=m at h0 h1 h2;unfold E4;rw[U7,U7];cases hq:AE (q=0)with
   |true=>
    have hq:=BB hq;rw[AL (show -2147483648<=n by omega),AL (show n<=2147483647 by omega)];rfl
   |false=>
    have hq:=BM hq;cases hp:AE (q= -1)with
    |true=>
     have hp:=BB hp;rw[AL (show -2147483648<=n by omega),AL (show n<=2147483647 by omega)];rfl
    |false=>
     have hp:=BM hp;rw[DR];congr 3
     symm
     rw[Bool.and_eq_false_iff,B3,B3];omega
 .simp[R.get]at h
theorem zdz:D6 PR B0 164 dG:=by
 refine EF [] [] dG [[.z]] Tryz.func164 nc trivial ?_;intro vs r hwf h;unfold dG at h;split at h
 .rename_i n w;cases hc:AE (w=32)with
  |false=>rw[hc]at h;simp[R.get]at h
  |true=>
   rw[hc,R.get_br,DQ,R.get_ok]at h;have hc:=BB hc;subst hc;refine⟨0,?_⟩;rw[<-h];refine(xd 0 n 32).trans ?_;have e3:AE (AI AO (AI AJ ((64:Int)-32))<0)=AD:=by kernel_rfl
   have e4:min (AM (AI AO (AI AJ ((64:Int)-32)))) (AT AJ)=32:=by kernel_rfl
   rw[e3,e4,AS (show¬(32:Int)<1 by omega),AS (show¬(32:Int)>=64 by omega),DR,DR,DR,DR];rfl
 .simp[R.get]at h
theorem Pm:D6 PR B0 165 W8:=by
 refine EF [] [] W8 [[.bool]] Tryz.func165 nf trivial ?_;intro vs r hwf h;unfold W8 at h;split at h
 .rename_i a w;cases hc:(AE (0<=a)&&AE (a<64))with
  |false=>rw[hc]at h;simp[R.get]at h
  |true=>
   rw[hc,R.get_br,DQ,R.get_ok]at h;rw[AQ,AZ,AZ]at hc;refine⟨0,?_⟩;rw[<-h];refine(xe 0 a w).trans ?_;have e:AI AJ (64-a)=64-a:=ER AG AG;have e1:AE (w>=1)=AE (1<=w):=rfl;rw[AL (show a>=0 by omega),AL hc.2,DQ,DQ,e,e1];cases AE (1<=w)<;>rfl
 .simp[R.get]at h
theorem Pn:D6 PR B0 166 W9:=by
 refine EF [] [] W9 [[.int .u64]] Tryz.func166 nh trivial ?_;intro vs r hwf h;unfold W9 at h;split at h
 .rename_i w;cases hc:(AE (1<=w)&&AE (w<=64))with
  |false=>rw[hc]at h;simp[R.get]at h
  |true=>
   rw[hc,R.get_br,DQ,R.get_ok]at h;rw[AQ,AZ,AZ]at hc;refine⟨0,?_⟩;rw[<-h];refine(xf 0 w).trans ?_;have e:AI AJ (64-w)=64-w:=ER AG AG;have e2:AI AO (64-w)=64-w:=xV AG AG;have e3:min (64-w).toNat (AT AO)=(64-w).toNat:=by
    have:AT AO=64:=rfl
    omega
   rw[e,e2,e3,AS (show¬(64-w<0) by omega),DR];rfl
 .simp[R.get]at h
theorem Fu{a w:Int}(hc:(AE (0<=a)&&(AE (a<64)&&(AE (1<=w)&&AE (w<=64-a))))=AC):0<=a/\a<64/\1<=w/\w<=64-a:=by
 simpa only[AQ,AZ]using hc
theorem zdx:D6 PR B0 168 dE:=by
 refine EF [(165,W8),(166,W9)] [] dE [[.int .u64]] Tryz.func168 na ⟨Pm,Pn,trivial⟩ ?_;intro vs r hwf h;unfold dE at h;split at h
 .rename_i x a w y;cases hc:(AE (0<=a)&&(AE (a<64)&&(AE (1<=w)&&AE (w<=64-a))))with
  |false=>rw[hc]at h;simp[R.get]at h
  |true=>
   rw[hc,R.get_br,DQ,R.get_ok]at h;obtain⟨h1,h2,h3,h4⟩:=Fu hc;refine⟨0,?_⟩;rw[<-h];refine(xb 0 x a w y).trans ?_;have e2:AI AO a=a:=xV AG AG;have e3:min a.toNat (AT AO)=a.toNat:=by
    have:AT AO=64:=rfl
    omega
   rw[e2,e3,AL h1,AL h2,AL h3,AL h4,AL (show w<=64 by omega),AS (show¬a<0 by omega)];simp only[BR,A9,DQ,DR];rfl
 .simp[R.get]at h
theorem wM:D6 PR B0 111 S5:=by
 refine EF [(165,W8),(166,W9)] [] S5 [[.int .u64]] Tryz.func111 mz ⟨Pm,Pn,trivial⟩ ?_;intro vs r hwf h;unfold S5 at h;split at h
 .rename_i x a w;cases hc:(AE (0<=a)&&(AE (a<64)&&(AE (1<=w)&&AE (w<=64-a))))with
  |false=>rw[hc]at h;simp[R.get]at h
  |true=>
   rw[hc,R.get_br,DQ,R.get_ok]at h;obtain⟨h1,h2,h3,h4⟩:=Fu hc;refine⟨0,?_⟩;rw[<-h];refine(xa 0 x a w).trans ?_;have e2:AI AO a=a:=xV AG AG;have e3:min a.toNat (AT AO)=a.toNat:=by
    have:AT AO=64:=rfl
    omega
   rw[e2,e3,AL h1,AL h2,AL h3,AL h4,AL (show w<=64 by omega),AS (show¬a<0 by omega)];simp only[BR,A9,DQ,DR];rfl
 .simp[R.get]at h
theorem zdy:D6 PR B0 110 dF:=by
 refine EF [(111,S5),(164,dG)] [] dF [[.z]] Tryz.func110 nb ⟨wM,zdz,trivial⟩ ?_;intro vs r hwf h;unfold dF at h;split at h
 .rename_i x a w;cases hc:(AE (a=0)&&AE (w=32))with
  |false=>rw[hc]at h;simp[R.get]at h
  |true=>
   rw[hc,R.get_br,DQ,R.get_ok]at h;rw[AQ,AZ,AZ]at hc;obtain⟨rfl,rfl⟩:=hc;refine⟨0,?_⟩;rw[<-h];refine(xc 0 x 0 32).trans ?_;rfl
 .simp[R.get]at h
theorem zeu:D6 PR B0 206 fM:=by
 refine EF [] [] fM [[.bool]] Tryz.func206 re trivial ?_;intro vs r hwf h;unfold fM at h;split at h
 .rename_i n;refine⟨0,?_⟩;rw[R.get_ok]at h;rw[<-h];refine(zan 0 n).trans ?_;unfold O6;have e1:AE (n>=1)=AE (1<=n):=rfl;rw[e1];cases AE (1<=n)<;>rfl
 .simp[R.get]at h
theorem zes:D6 PR B0 167 fK:=by
 refine EF [(106,S4),(206,fM)] [] fK [[.bool]] Tryz.func167 ra ⟨wL,zeu,trivial⟩ ?_;intro vs r hwf h;unfold fK at h;split at h
 .rename_i lf v f a l r';refine⟨0,?_⟩;rw[<-h];refine(zak 0 lf v f a l r').trans ?_;simp only[R.get_ok,Ec];unfold IQ;cases lf with
  |true=>rfl
  |false=>rfl
 .simp[R.get]at h
theorem Pz:D6 PR B0 113 XH:=by
 refine EF [(168,dE),(167,fK)] [] XH [[.int .u64]] Tryz.func113 qz ⟨zdx,zes,trivial⟩ ?_;intro vs r hwf h;unfold XH at h;split at h
 .rename_i lf v f a l r';refine⟨0,?_⟩;rw[<-h];refine(zaj 0 lf v f a l r').trans ?_;unfold G9;cases IQ ⟨lf,v,f,a,l,r'⟩with
  |false=>rfl
  |true=>cases lf<;>rfl
 .simp[R.get]at h
theorem zet:D6 PR B0 112 fL:=by
 refine EF [(111,S5)] [] fL [[.z]] Tryz.func112 rc ⟨wM,trivial⟩ ?_;intro vs r hwf h;unfold fL at h;split at h
 .rename_i a w x;cases hc:(AE (0<=a)&&(AE (a<64)&&(AE (1<=w)&&AE (w<=64-a))))with
  |false=>rw[hc]at h;simp[R.get]at h
  |true=>
   rw[hc,R.get_br,DQ,R.get_ok]at h;refine⟨0,?_⟩;rw[<-h];refine(zam 0 a w x).trans ?_;rw[hc];rfl
 .simp[R.get]at h
theorem cB:D6 PR B0 51 NA:=by
 refine EF [(111,S5),(110,dF),(113,XH),(112,fL)] [] NA [[.bool,.z,.z,.z,.z,.z],[.bool]] Tryz.func51 rb ⟨wM,zdy,Pz,zet,trivial⟩ ?_;intro vs r hwf h;unfold NA at h;split at h
 .rename_i w;refine⟨0,?_⟩;rw[<-h];refine(zal 0 w).trans ?_;rw[R.get_ok];unfold DT FQ L9;cases(G6 w 63 1==0)with
  |true=>
   simp only[B5];cases hw:(w==0)with
   |true=>rfl
   |false=>
    simp only[BK,BF,BI];have e:(G9 ⟨AD,0,D7 (G6 w 32 4),MB w,D7 (G6 w 40 8),D7 (G6 w 48 8)⟩!=w)=!(G9 ⟨AD,0,D7 (G6 w 32 4),MB w,D7 (G6 w 40 8),D7 (G6 w 48 8)⟩==w):=rfl;rw[e];cases(G9 ⟨AD,0,D7 (G6 w 32 4),MB w,D7 (G6 w 40 8),D7 (G6 w 48 8)⟩==w)<;>rfl
  |false=>
   simp only[BK];cases hw:(w==0)with
   |true=>rfl
   |false=>
    simp only[BK,BF,BI];have e:(G9 ⟨AC,MB w,0,0,0,0⟩!=w)=!(G9 ⟨AC,MB w,0,0,0,0⟩==w):=rfl;rw[e];cases(G9 ⟨AC,MB w,0,0,0,0⟩==w)<;>rfl
 .simp[R.get]at h
open Go Go.Proofs
def IJ(N:Nat):Env:=EE [(51,NA)] [(5,⟨[0,1,4,5,23,24,25],[22],[]⟩),(17,⟨[4,85,86,87],[22],[]⟩)] 94 N
abbrev PU(l0:LI)(x1:Int)(b4:Bool)(n5:Nat)(l23:LI)(x24 x25:Int)(lo22:LI):St:=⟨[(0,(.list AD [.int .u64] l0)),(1,(.i x1)),(4,(.bool b4)),(5,(.row 22 0 n5)),(23,(.list AD [.int .u64] l23)),(24,(.i x24)),(25,(.i x25))],[(22,(AA (.row AC 3 AD [.z] lo22)))]⟩
abbrev W3(b4:Bool)(n85:Nat)(x86 x87:Int)(lo22:LI):St:=⟨[(4,(.bool b4)),(85,(.row 22 1 n85)),(86,(.i x86)),(87,(.i x87))],[(22,(AA (.row AC 3 AD [.z] lo22)))]⟩
theorem zaX(N:Nat)(l:LI)(a1:Int):EA (IJ N) MN [.tmp 4] [[.bool]] [.list AD [.int .u64] l,.i a1]=(cond (AE (ic (AN l)<1)) (AA (.bool AD,[])) (cond (AE (ic (AN l)>31)) (AA (.bool AD,[])) (cond (BV 0 (TI.size (Env.tyd (IJ N) 3))&&(BV 3 1000000&&AE (0<=ic (AN l)))&&(AE (ic (AN l)=ic (AN l))&&AE (ic (AN l)*ic (TI.bytes (Env.tyd (IJ N) 3))<=ic EL))) (D3 (IJ N) (DS MN [1,1,1,0,1,0,0]) ⟨[0,1,4,5,23,24,25],[22],[]⟩ N (PU l a1 AD (AM (ic (AN l))) l (ic (AN l)) 0 (B6 (AM (ic (AN l))) (IV.int 0))) (DW 0 (DX (IJ N) (DS MN [1,1,1,1]) (D2 (IJ N) AB [.tmp 4] [[.bool]])))) AB))):=AF
theorem Tk(N:Nat)(l0:LI)(x1:Int)(b4:Bool)(n5:Nat)(l23:LI)(x24 x25:Int)(lo22:LI)(again:St->DU)(k:Out->St->DU):EY (IJ N) (DS MN [1,1,1,0,1,0,0]) (PU l0 x1 b4 n5 l23 x24 x25 lo22) (ES again ⟨[0,1,4,5,23,24,25],[22],[]⟩ k)=(cond (AE (x25<x24)) (cond (AE (0<=x25)&&AE (x25<ic (AN l23))) (cond (!FQ (IV.toInt (AR l23 (AM x25) default))) (k .ret (PU l0 x1 AD n5 l23 x24 x25 lo22)) (cond (Nd.lf (DT (IV.toInt (AR l23 (AM x25) default)))) (again (PU l0 x1 b4 n5 l23 x24 (AI AJ (x25+1)) lo22)) (cond (AE (Nd.f (DT (IV.toInt (AR l23 (AM x25) default)))>=x1)) (k .ret (PU l0 x1 AD n5 l23 x24 x25 lo22)) (cond (Nd.l (DT (IV.toInt (AR l23 (AM x25) default)))==Nd.r (DT (IV.toInt (AR l23 (AM x25) default)))) (k .ret (PU l0 x1 AD n5 l23 x24 x25 lo22)) (cond (AE (min (Nd.l (DT (IV.toInt (AR l23 (AM x25) default)))) (Nd.r (DT (IV.toInt (AR l23 (AM x25) default))))<=x25)) (k .ret (PU l0 x1 AD n5 l23 x24 x25 lo22)) (cond (AE (max (Nd.l (DT (IV.toInt (AR l23 (AM x25) default)))) (Nd.r (DT (IV.toInt (AR l23 (AM x25) default))))>=ic (AN l0))) (k .ret (PU l0 x1 AD n5 l23 x24 x25 lo22)) (cond (AE (0<=Nd.l (DT (IV.toInt (AR l23 (AM x25) default))))&&AE (Nd.l (DT (IV.toInt (AR l23 (AM x25) default)))<ic (n5-0))) (cond (AE (0<=Nd.l (DT (IV.toInt (AR l23 (AM x25) default))))&&AE (Nd.l (DT (IV.toInt (AR l23 (AM x25) default)))<ic (n5-0))) (cond (AE (0<=Nd.r (DT (IV.toInt (AR l23 (AM x25) default))))&&AE (Nd.r (DT (IV.toInt (AR l23 (AM x25) default)))<ic (n5-0))) (cond (AE (0<=Nd.r (DT (IV.toInt (AR l23 (AM x25) default))))&&AE (Nd.r (DT (IV.toInt (AR l23 (AM x25) default)))<ic (n5-0))) (again (PU l0 x1 b4 n5 l23 x24 (AI AJ (x25+1)) (List.set (List.set lo22 (0+AM (Nd.l (DT (IV.toInt (AR l23 (AM x25) default))))) (PH AD [Kd.int AJ] (AR lo22 (0+AM (Nd.l (DT (IV.toInt (AR l23 (AM x25) default))))) default) 0 [IV.int (AI AJ (IV.toInt (AR lo22 (0+AM (Nd.l (DT (IV.toInt (AR l23 (AM x25) default))))) default)+1))])) (0+AM (Nd.r (DT (IV.toInt (AR l23 (AM x25) default))))) (PH AD [Kd.int AJ] (AR (List.set lo22 (0+AM (Nd.l (DT (IV.toInt (AR l23 (AM x25) default))))) (PH AD [Kd.int AJ] (AR lo22 (0+AM (Nd.l (DT (IV.toInt (AR l23 (AM x25) default))))) default) 0 [IV.int (AI AJ (IV.toInt (AR lo22 (0+AM (Nd.l (DT (IV.toInt (AR l23 (AM x25) default))))) default)+1))])) (0+AM (Nd.r (DT (IV.toInt (AR l23 (AM x25) default))))) default) 0 [IV.int (AI AJ (IV.toInt (AR (List.set lo22 (0+AM (Nd.l (DT (IV.toInt (AR l23 (AM x25) default))))) (PH AD [Kd.int AJ] (AR lo22 (0+AM (Nd.l (DT (IV.toInt (AR l23 (AM x25) default))))) default) 0 [IV.int (AI AJ (IV.toInt (AR lo22 (0+AM (Nd.l (DT (IV.toInt (AR l23 (AM x25) default))))) default)+1))])) (0+AM (Nd.r (DT (IV.toInt (AR l23 (AM x25) default))))) default)+1))])))) AB) AB) AB) AB))))))) AB) (k (.exit 0) (PU l0 x1 b4 n5 l23 x24 x25 lo22))):=AF
theorem kx(N:Nat)(l0:LI)(x1:Int)(b4:Bool)(n5:Nat)(l23:LI)(x24 x25:Int)(lo22:LI):(DW 0 (DX (IJ N) (DS MN [1,1,1,1]) (D2 (IJ N) AB [.tmp 4] [[.bool]]))) (.exit 0) (PU l0 x1 b4 n5 l23 x24 x25 lo22)=(cond (AE (0<=1)&&AE (1<=ic (n5-0))) (D3 (IJ N) (DS MN [1,1,1,1,0,1,0,0]) ⟨[4,85,86,87],[22],[]⟩ N (W3 b4 (0+(n5-0)) (ic (0+(n5-0)-1)) 0 lo22) (DW 2 (DX (IJ N) (DS MN [1,1,1,1,1]) (D2 (IJ N) AB [.tmp 4] [[.bool]])))) AB):=AF
theorem ky(N:Nat)(l0:LI)(x1:Int)(b4:Bool)(n5:Nat)(l23:LI)(x24 x25:Int)(lo22:LI):(DW 0 (DX (IJ N) (DS MN [1,1,1,1]) (D2 (IJ N) AB [.tmp 4] [[.bool]]))) .ret (PU l0 x1 b4 n5 l23 x24 x25 lo22)=(AA (.bool b4,[])):=AF
theorem Tl(N:Nat)(b4:Bool)(n85:Nat)(x86 x87:Int)(lo22:LI)(again:St->DU)(k:Out->St->DU):EY (IJ N) (DS MN [1,1,1,1,0,1,0,0]) (W3 b4 n85 x86 x87 lo22) (ES again ⟨[4,85,86,87],[22],[]⟩ k)=(cond (AE (x87<x86)) (cond (AE (0<=x87)&&AE (x87<ic (n85-1))) (cond (IV.toInt (AR lo22 (1+AM x87) default)!=1) (k .ret (W3 AD n85 x86 x87 lo22)) (again (W3 b4 n85 x86 (AI AJ (x87+1)) lo22))) AB) (k (.exit 2) (W3 b4 n85 x86 x87 lo22))):=AF
theorem kz(N:Nat)(b4:Bool)(n85:Nat)(x86 x87:Int)(lo22:LI):(DW 2 (DX (IJ N) (DS MN [1,1,1,1,1]) (D2 (IJ N) AB [.tmp 4] [[.bool]]))) (.exit 2) (W3 b4 n85 x86 x87 lo22)=(AA (.bool AC,[])):=AF
theorem la(N:Nat)(b4:Bool)(n85:Nat)(x86 x87:Int)(lo22:LI):(DW 2 (DX (IJ N) (DS MN [1,1,1,1,1]) (D2 (IJ N) AB [.tmp 4] [[.bool]]))) .ret (W3 b4 n85 x86 x87 lo22)=(AA (.bool b4,[])):=AF
def Xr(N:Nat):Env:=EE [(109,XT)] [] 22 N
theorem zag(N:Nat)(k:Int)(l:LI)(d c b0 b1 b2:Int)(ts:LI):EA (Xr N) Cc [.tmp 3] [[.bool]] [.agg [.i k,.list AD [.int .u64] l],.bor [.i d,.i c,.i b0,.i b1,.i b2,.list AC [.z,.list AD [.int .u64]] ts]]=(cond (AE (k<0)) (AA (.bool AC,[[.i d,.i c,.i b0,.i b1,.i b2,.list AC [.z,.list AD [.int .u64]] ts]])) (cond (AE (k>=c)) (AA (.bool AC,[[.i d,.i c,.i b0,.i b1,.i b2,.list AC [.z,.list AD [.int .u64]] ts]])) (AA (.bool (!GP l d),[[.i d,.i c,.i b0,.i b1,.i b2,.list AC [.z,.list AD [.int .u64]] ts]])))):=AF
def PY(N:Nat):Env:=EE [(108,XG)] [(2,⟨[0,1,4,7,8],[900000],[]⟩)] 19 N
abbrev WZ(l0:LI)(x4 x7 x8 u01 u02 u03 u04 u05:Int)(u00:LI):St:=⟨[(0,(.list AC [.z,.list AD [.int .u64]] l0)),(1,(.clo 108 [.ptr 900000 0 0])),(4,(.i x4)),(7,(.i x7)),(8,(.i x8))],[(900000,(AA (.box [.i u01,.i u02,.i u03,.i u04,.i u05,.list AC [.z,.list AD [.int .u64]] u00])))]⟩
theorem zaH(N:Nat)(l:LI)(d c b0 b1 b2:Int)(ts:LI):EA (PY N) TP [.tmp 4] [[.z]] [.list AC [.z,.list AD [.int .u64]] l,.clo 108 [.bor [.i d,.i c,.i b0,.i b1,.i b2,.list AC [.z,.list AD [.int .u64]] ts]]]=(D3 (PY N) (DS TP [1,0,1,0,0]) ⟨[0,1,4,7,8],[900000],[]⟩ N (WZ l 0 (ic (AN l)) 0 d c b0 b1 b2 ts) (DW 0 (DX (PY N) (DS TP [1,1]) (D2 (PY N) (AA [.i d,.i c,.i b0,.i b1,.i b2,.list AC [.z,.list AD [.int .u64]] ts]) [.tmp 4] [[.z]])))):=AF
theorem Tf(N:Nat)(l0:LI)(x4 x7 x8 u01 u02 u03 u04 u05:Int)(u00:LI)(again:St->DU)(k:Out->St->DU):EY (PY N) (DS TP [1,0,1,0,0]) (WZ l0 x4 x7 x8 u01 u02 u03 u04 u05 u00) (ES again ⟨[0,1,4,7,8],[900000],[]⟩ k)=(cond (AE (x8<x7)) (cond (AE (0<=x8)&&AE (x8<ic (AN l0))) (cond (!HH u01 u02 (IV.agg [IV.int (IV.toInt (IV.cell (AR l0 (AM x8) default) 0)),IV.list (IV.toList (IV.cell (AR l0 (AM x8) default) 1))])) (k .ret (WZ l0 x8 x7 x8 u01 u02 u03 u04 u05 u00)) (again (WZ l0 x4 x7 (AI AJ (x8+1)) u01 u02 u03 u04 u05 u00))) AB) (k (.exit 0) (WZ l0 x4 x7 x8 u01 u02 u03 u04 u05 u00))):=AF
theorem kf(N:Nat)(d c b0 b1 b2:Int)(ts l0:LI)(x4 x7 x8 u01 u02 u03 u04 u05:Int)(u00:LI):(DW 0 (DX (PY N) (DS TP [1,1]) (D2 (PY N) (AA [.i d,.i c,.i b0,.i b1,.i b2,.list AC [.z,.list AD [.int .u64]] ts]) [.tmp 4] [[.z]]))) (.exit 0) (WZ l0 x4 x7 x8 u01 u02 u03 u04 u05 u00)=(AA (.i (-1),[[.i u01,.i u02,.i u03,.i u04,.i u05,.list AC [.z,.list AD [.int .u64]] u00]])):=AF
theorem kg(N:Nat)(d c b0 b1 b2:Int)(ts l0:LI)(x4 x7 x8 u01 u02 u03 u04 u05:Int)(u00:LI):(DW 0 (DX (PY N) (DS TP [1,1]) (D2 (PY N) (AA [.i d,.i c,.i b0,.i b1,.i b2,.list AC [.z,.list AD [.int .u64]] ts]) [.tmp 4] [[.z]]))) .ret (WZ l0 x4 x7 x8 u01 u02 u03 u04 u05 u00)=(AA (.i x4,[[.i u01,.i u02,.i u03,.i u04,.i u05,.list AC [.z,.list AD [.int .u64]] u00]])):=AF
def Yg(N:Nat):Env:=EE [(163,f5)] [] 9 N
theorem zaG(N:Nat)(l:LI)(d c b0 b1 b2:Int)(ts:LI):EA (Yg N) Cr [.tmp 4] [[.bool]] [.list AC [.z,.list AD [.int .u64]] l,.clo 108 [.bor [.i d,.i c,.i b0,.i b1,.i b2,.list AC [.z,.list AD [.int .u64]] ts]]]=(AA (.bool (AE (YJ d c l 0>=0)),[[.i d,.i c,.i b0,.i b1,.i b2,.list AC [.z,.list AD [.int .u64]] ts]])):=AF
def OV(N:Nat):Env:=EE [(106,S4),(108,XG),(107,fZ)] [(4,⟨[1,2,30,31],[1,53005],[]⟩)] 54 N
abbrev LW(b2:Bool)(u01 u02 u03 x31 u04 u05 u06 u07 u08:Int)(u00:LI):St:=⟨[(1,(.ptr 1 0 0)),(2,(.bool b2)),(30,(.agg [.i u01,.i u02,.i u03])),(31,(.i x31))],[(1,(AA (.box [.i u04,.i u05,.i u06,.i u07,.i u08,.list AC [.z,.list AD [.int .u64]] u00]))),(53005,AB)]⟩
theorem zaf(N:Nat)(u04 u03 u00 u01 u02:Int)(u05:LI):EA (OV N) R3 [.tmp 2] [[.bool]] [.agg [.i u04,.i u03,.i u00,.i u01,.i u02,.list AC [.z,.list AD [.int .u64]] u05]]=(cond (AE (u04<1)) (AA (.bool AD,[])) (cond (AE (u04>4)) (AA (.bool AD,[])) (cond (AE (u03<1)) (AA (.bool AD,[])) (cond (AE (u03>3)) (AA (.bool AD,[])) (cond (AE (ic (AN u05)>8)) (AA (.bool AD,[])) (D3 (OV N) (DS R3 [1,1,0,1,0,0]) ⟨[1,2,30,31],[1,53005],[]⟩ N (LW AD u00 u01 u02 0 u04 u03 u00 u01 u02 u05) (DW 0 (DX (OV N) (DS R3 [1,1,1]) (D2 (OV N) AB [.tmp 2] [[.bool]]))))))))):=AF
theorem Sn(N:Nat)(b2:Bool)(u01 u02 u03 x31 u04 u05 u06 u07 u08:Int)(u00:LI)(again:St->DU)(k:Out->St->DU):EY (OV N) (DS R3 [1,1,0,1,0,0]) (LW b2 u01 u02 u03 x31 u04 u05 u06 u07 u08 u00) (ES again ⟨[1,2,30,31],[1,53005],[]⟩ k)=(cond (AE (x31<3)) (cond (AE (x31=ic 0)) (cond (!E4 u01) (k .ret (LW AD u01 u02 u03 x31 u04 u05 u06 u07 u08 u00)) (cond (AE (x31>=u05)) (cond (u01 !=0) (k .ret (LW AD u01 u02 u03 x31 u04 u05 u06 u07 u08 u00)) (again (LW b2 u01 u02 u03 (AI AJ (x31+1)) u04 u05 u06 u07 u08 u00))) (again (LW b2 u01 u02 u03 (AI AJ (x31+1)) u04 u05 u06 u07 u08 u00)))) (cond (AE (x31=ic 1)) (cond (!E4 u02) (k .ret (LW AD u01 u02 u03 x31 u04 u05 u06 u07 u08 u00)) (cond (AE (x31>=u05)) (cond (u02 !=0) (k .ret (LW AD u01 u02 u03 x31 u04 u05 u06 u07 u08 u00)) (again (LW b2 u01 u02 u03 (AI AJ (x31+1)) u04 u05 u06 u07 u08 u00))) (again (LW b2 u01 u02 u03 (AI AJ (x31+1)) u04 u05 u06 u07 u08 u00)))) (cond (AE (x31=ic 2)) (cond (!E4 u03) (k .ret (LW AD u01 u02 u03 x31 u04 u05 u06 u07 u08 u00)) (cond (AE (x31>=u05)) (cond (u03 !=0) (k .ret (LW AD u01 u02 u03 x31 u04 u05 u06 u07 u08 u00)) (again (LW b2 u01 u02 u03 (AI AJ (x31+1)) u04 u05 u06 u07 u08 u00))) (again (LW b2 u01 u02 u03 (AI AJ (x31+1)) u04 u05 u06 u07 u08 u00)))) AB))) (k (.exit 0) (LW b2 u01 u02 u03 x31 u04 u05 u06 u07 u08 u00))):=AF
theorem ji(N:Nat)(b2:Bool)(u01 u02 u03 x31 u04 u05 u06 u07 u08:Int)(u00:LI):(DW 0 (DX (OV N) (DS R3 [1,1,1]) (D2 (OV N) AB [.tmp 2] [[.bool]]))) (.exit 0) (LW b2 u01 u02 u03 x31 u04 u05 u06 u07 u08 u00)=(AA (.bool (!!List.all u00 (HH u04 u05)),[])):=AF
theorem jj(N:Nat)(b2:Bool)(u01 u02 u03 x31 u04 u05 u06 u07 u08:Int)(u00:LI):(DW 0 (DX (OV N) (DS R3 [1,1,1]) (D2 (OV N) AB [.tmp 2] [[.bool]]))) .ret (LW b2 u01 u02 u03 x31 u04 u05 u06 u07 u08 u00)=(AA (.bool b2,[])):=AF
open Go Go.Proofs
theorem nD{l:LI}{i:Nat}{w:IV}(h:l[i]?=AA w)(j:Nat):G0 (l.take (i+1)) j=G0 (l.take i) j+KO (DT w.toInt) j:=by
 unfold G0;rw[List.take_add_one,h];simp
theorem wg(x:Nd)(j:Nat):KO x j<=2:=by
 unfold KO;cases x.lf
 .simp only[BK];split<;>split<;>omega
 .simp only[B5];omega
theorem tR:∀(l:LI) (j:Nat),G0 l j<=2*l.length
 |[],_=>A4 _
 |w::l,j=>by
  have:=tR l j
  have:=wg (DT w.toInt) j
  unfold G0 at*;simp only[A8,vbb,AV];omega
def NM(l:LI)(i:Nat):LI:=(vaQ l.length).map λj=>IV.int (G0 (l.take i) j:Nat)
theorem c6(l:LI)(i:Nat):(NM l i).length=l.length:=by simp[NM]
theorem ZY(l:LI)(i:Nat){j:Nat}(h:j<l.length):(NM l i)[j]?=AA (IV.int (G0 (l.take i) j:Nat)):=by
 unfold NM;rw[CJ,List.getElem?_range h];rfl
theorem Yy(l:LI):NM l 0=B6 l.length (IV.int 0):=by
 apply List.ext_getElem?;intro j;by_cases h:j<l.length
 .rw[ZY l 0 h,List.getElem?_replicate,BX h];simp[G0]
 .rw[B8 (by rw[c6];omega),B8 (by simp;omega)]
theorem Yx{l:LI}{i:Nat}{w:IV}(h:l[i]?=AA w)(hl:(DT w.toInt).lf=AC):NM l (i+1)=NM l i:=by
 unfold NM;congr 1
 funext j
 rw[nD h];unfold KO;rw[hl];rfl
theorem Yw{l:LI}{i:Nat}{w:IV}(h:l[i]?=AA w)(hl:(DT w.toInt).lf=AD)(hn:l.length<=31){a b:Nat}(ha:(DT w.toInt).l=(a:Int))(hb:(DT w.toInt).r=(b:Int))(hab:a≠b)(al:a<l.length)(bl:b<l.length):
  ((NM l i).set a (IV.int (AI AJ (((NM l i).getD a default).toInt+1)))).set b (IV.int (AI AJ ((((NM l i).set a (IV.int (AI AJ (((NM l i).getD a default).toInt+1)))).getD b default).toInt+1)))=NM l (i+1):=by
 have hil:i<l.length:=(B4.1 h).1;have hsm:∀j,G0 (l.take i) j<=62:=λj=>by
  have:=tR (l.take i) j
  rw[BL]at this;omega
 have ga:((NM l i).getD a default).toInt=(G0 (l.take i) a:Nat):=by
  rw[BY,ZY l i al];rfl
 have gb:(((NM l i).set a (IV.int (AI AJ (((NM l i).getD a default).toInt+1)))).getD b default).toInt=(G0 (l.take i) b:Nat):=by
  rw[BY,vba hab,ZY l i bl];rfl
 rw[gb,ga,ER AG (by have:=hsm a;omega),ER AG (by have:=hsm b;omega)];apply List.ext_getElem?;intro j;by_cases hj:j<l.length
 .rw[ZY l (i+1) hj,nD h];have e:KO (DT w.toInt) j=(if a=j then 1 else 0)+(if b=j then 1 else 0):=by
   unfold KO;rw[hl,ha,hb,BK];have e1:((a:Int)=(j:Int))↔a=j:=by omega
   have e2:((b:Int)=(j:Int))↔b=j:=by omega
   simp only[e1,e2]
  rw[e];by_cases h1:b=j
  .subst h1;rw[List.getElem?_set_self (by rw[vaL,c6];exact bl),BO hab,BX rfl];congr 2
  .rw[vba h1];by_cases h2:a=j
   .subst h2;rw[List.getElem?_set_self (by rw[c6];exact al),BX rfl,BO h1];congr 2
   .rw[vba h2,ZY l i hj,BO h1,BO h2];congr 2
 .rw[B8 (by rw[vaL,vaL,c6];omega),B8 (by rw[c6];omega)]
abbrev pB(l:LI)(dim:Int)(b:Bool)(i:Int)(nm:LI):St:=
 ⟨[(0,(.list AD [(.int .u64)] l)),(1,(.i dim)),(4,(.bool b)),(5,(.row 22 0 l.length)),(23,(.list AD [(.int .u64)] l)),(24,(.i (ic l.length))),(25,(.i i))],[(22,(AA (.row AC 3 AD [.z] nm)))]⟩
theorem xU(N:Nat)(l:LI)(dim:Int)(hl:l.length<=31)(K:Out->St->DU)(hK:∀i nm,K .ret (pB l dim AD i nm)=AA (.bool AD,[])):∀(d i n:Nat),i+d=l.length->d<n->
  D3 (IJ N) (DS MN [1,1,1,0,1,0,0]) ⟨[0,1,4,5,23,24,25],[22],[]⟩ n (pB l dim AD (i:Int) (NM l i)) K=
   cond (JH dim (ic l.length) i (l.drop i)) (K (.exit 0) (pB l dim AD (ic l.length) (NM l l.length))) (AA (.bool AD,[]))
 |d,i,0,_,h=>absurd h AG
 |0,i,n+1,hd,_=>by
  have hi:i=l.length:=by omega
  subst hi;rw[D8,Tk];rw[AS (show¬((l.length:Nat):Int)<ic l.length by simp only[ic];omega),DR,C8];rfl
 |d+1,i,n+1,hd,hn=>by
  have hil:i<l.length:=by omega
  have hw:l[i]?=AA l[i]:=BD hil;rw[D8,Tk,BJ hil];have hg:l.getD (AM (i:Int)) default=l[i]:=by
   rw[BE,BY,hw];rfl
  rw[hg];generalize l[i]=w at hw ⊢;have ei:AI AJ ((i:Int)+1)=((i+1:Nat):Int):=by
   rw[ER AG AG];omega
  rw[ei,AL (show(i:Int)<ic l.length by simp only[ic];omega),DQ,AL (show(0:Int)<=(i:Int) by omega),BR,DQ];unfold JH;cases hb:FQ w.toInt with
  |false=>
   simp only[BF,DQ,BP,DR];exact hK (i:Int) (NM l i)
  |true=>
   simp only[A9,DR,BI];unfold OD;cases hlf:(DT w.toInt).lf with
   |true=>
    simp only[DQ,BI];rw[<-Yx hw hlf];exact xU N l dim hl K hK d (i+1) n AG AG
   |false=>
    simp only[DR];cases h1:AE ((DT w.toInt).f>=dim)with
    |true=>
     simp only[DQ,A9,BP,DR];exact hK (i:Int) (NM l i)
    |false=>
    cases h2:((DT w.toInt).l==(DT w.toInt).r)with
    |true=>
     simp only[DQ,DR,A9,BF,BP,DE];exact hK (i:Int) (NM l i)
    |false=>
    cases h3:AE (min (DT w.toInt).l (DT w.toInt).r<=(i:Int))with
    |true=>
     simp only[DQ,DR,A9,BF,BP,DE];exact hK (i:Int) (NM l i)
    |false=>
    cases h4:AE (max (DT w.toInt).l (DT w.toInt).r>=ic l.length)with
    |true=>
     simp only[DQ,DR,A9,BF,BP,DE];exact hK (i:Int) (NM l i)
    |false=>
     have g2:(DT w.toInt).l≠(DT w.toInt).r:=BH.1 h2;have g3:=BM h3;have g4:=BM h4;simp only[ic]at g4;obtain⟨a,ha⟩:∃a:Nat,(DT w.toInt).l=(a:Int):=⟨(DT w.toInt).l.toNat,by omega⟩;obtain⟨b,hb'⟩:∃b:Nat,(DT w.toInt).r=(b:Int):=⟨(DT w.toInt).r.toNat,by omega⟩;have hab:a≠b:=λe=>g2 (by rw[ha,hb',e])
     have al:a<l.length:=by omega
     have bl:b<l.length:=by omega
     have hN:=Yw hw hlf hl ha hb' hab al bl;rw[ha,hb'];rw[AL (show(0:Int)<=(a:Int) by omega),AL (show(0:Int)<=(b:Int) by omega),AL (show(a:Int)<ic (l.length-0) by simp only[ic];omega),AL (show(b:Int)<ic (l.length-0) by simp only[ic];omega)];simp only[DQ,DR,BF,BR,BI,BE,BU];refine Eq.trans ?_ (xU N l dim hl K hK d (i+1) n AG AG);rw[<-hN];rfl
abbrev zgf(l:LI)(b:Bool)(j:Int):St:=
 ⟨[(4,(.bool b)),(85,(.row 22 1 (0+(l.length-0)))),(86,(.i (ic (0+(l.length-0)-1)))),(87,(.i j))],[(22,(AA (.row AC 3 AD [.z] (NM l l.length))))]⟩
theorem Kp(N:Nat)(l:LI)(hl:l.length<=31):∀(d j n:Nat),j+d=l.length-1->d<n->
  D3 (IJ N) (DS MN [1,1,1,1,0,1,0,0]) ⟨[4,85,86,87],[22],[]⟩ n (zgf l AD (j:Int)) (DW 2 (DX (IJ N) (DS MN [1,1,1,1,1]) (D2 (IJ N) AB [(B7 4)] [[.bool]])))=
   AA (.bool ((vbh j d).all λj=>G0 l (j+1)==1),[])
 |d,j,0,_,h=>absurd h AG
 |0,j,n+1,hd,_=>by
  rw[D8,Tl,AS (show¬(j:Int)<ic (0+(l.length-0)-1) by simp only[ic];omega),DR];exact kz N AD _ _ _ _
 |d+1,j,n+1,hd,hn=>by
  have ej:AI AJ ((j:Int)+1)=((j+1:Nat):Int):=by
   rw[ER AG AG];omega
  rw[D8,Tl,ej,AL (show(j:Int)<ic (0+(l.length-0)-1) by simp only[ic];omega),DQ,AL (show(0:Int)<=(j:Int) by omega),BR,DQ];have hg:((NM l l.length).getD (1+AM (j:Int)) default).toInt=(G0 l (j+1):Nat):=by
   rw[BE,Nat.add_comm 1 j,BY,ZY l l.length AG,BS];rfl
  rw[hg,List.range'_succ,van];have e:(((G0 l (j+1):Nat):Int)!=1)=!(G0 l (j+1)==1):=by
   show(!(((G0 l (j+1):Nat):Int)==1))=_;congr 1;rw[vaB,CF,CF];omega
  rw[e];cases(G0 l (j+1)==1)with
  |false=>
   rw[BF,DQ];exact la N AD _ _ _ _
  |true=>
   rw[A9,DR,BI];exact Kp N l hl d (j+1) n AG AG
theorem zfD(N:Nat)(l:LI)(dim:Int)(hl:l.length<=31)(h1:1<=l.length)(hN:40<=N)(i:Int):
  (DW 0 (DX (IJ N) (DS MN [1,1,1,1]) (D2 (IJ N) AB [(B7 4)] [[.bool]]))) (.exit 0) (pB l dim AD i (NM l l.length))=AA (.bool (V0 l),[]):=by
 refine(kx N l dim AD l.length l (ic l.length) i (NM l l.length)).trans ?_;rw[AL (show(0:Nat)<=1 by omega),AL (show(1:Int)<=ic (l.length-0) by simp only[ic];omega),BR,DQ]
 have:=Kp N l hl (l.length-1) 0 N AG AG
 refine this.trans ?_;unfold V0;rw[List.range_eq_range']
theorem Qp:D6 PR B0 109 XT:=by
 refine EF [(51,NA)] [(5,⟨[0,1,4,5,23,24,25],[22],[]⟩),(17,⟨[4,85,86,87],[22],[]⟩)] XT [[.bool]] Tryz.func109 sx ⟨cB,trivial⟩ ?_;intro vs r hwf h;unfold XT at h;split at h
 .rename_i l dim;refine⟨40,?_⟩;rw[R.get_ok]at h;rw[<-h];refine(zaX 40 l dim).trans ?_;unfold GP;by_cases h1:1<=l.length
  .by_cases h2:l.length<=31
   .have eb:ic (TI.bytes (Env.tyd (IJ 40) 3))=8:=rfl;rw[AS (show¬ic l.length<1 by simp only[ic];omega),AS (show¬ic l.length>31 by simp only[ic];omega),DR,DR,eb,
     AL (show(0:Int)<=ic l.length by simp only[ic];omega),AL (show ic l.length=ic l.length from rfl),AL (show ic l.length*8<=ic EL by unfold EL;simp only[ic];omega)]
    have e0:(BV 0 (TI.size (Env.tyd (IJ 40) 3))&&(BV 3 1000000&&AC)&&(AC&&AC))=AC:=rfl;have e1:AM (ic l.length)=l.length:=by simp only[ic];omega
    rw[e0,DQ,e1,<-Yy,CV h1,CV h2];refine(xU 40 l dim h2 _ (λi nm=>?_) l.length 0 40 AG AG).trans ?_
    .exact ky 40 l dim AD l.length l (ic l.length) i nm
    .rw[CD,zfD 40 l dim h2 h1 AG];cases JH dim (ic l.length) 0 l<;>rfl
   .have e:CG l.length 31=AD:=by
     cases hb:CG l.length 31 with
     |false=>rfl
     |true=>exact absurd (AX hb) h2
    rw[AS (show¬ic l.length<1 by simp only[ic];omega),AL (show ic l.length>31 by simp only[ic];omega),DR,DQ,e,DE,BP]
  .have e:CG 1 l.length=AD:=by
    cases hb:CG 1 l.length with
    |false=>rfl
    |true=>exact absurd (AX hb) h1
   rw[AL (show ic l.length<1 by simp only[ic];omega),DQ,e,BP,BP]
 .simp[R.get]at h
theorem Py:D6 PR B0 108 XG:=by
 refine EF [(109,XT)] [] XG [[.bool]] Tryz.func108 qw ⟨Qp,trivial⟩ ?_;intro vs r hwf h;unfold XG at h;split at h
 .rename_i k l d c b0 b1 b2 ts;refine⟨0,?_⟩;rw[R.get_ok]at h;rw[<-h];refine(zag 0 k l d c b0 b1 b2 ts).trans ?_;have e:HH d c (.agg [.int k,.list l])=(!(AE (k<0))&&(!(AE (k>=c))&&GP l d)):=rfl;rw[e];cases AE (k<0)with
  |true=>rfl
  |false=>
   cases AE (k>=c)with
   |true=>rfl
   |false=>rfl
 .simp[R.get]at h
abbrev zf5(l:LI)(d c b0 b1 b2:Int)(ts:LI)(r i:Int):St:=
 ⟨[(0,(.list AC [.z,(.list AD [(.int .u64)])] l)),(1,(.clo 108 [(.ptr 900000 0 0)])),(4,(.i r)),(7,(.i (ic l.length))),(8,(.i i))],[(900000,(AA (.box [(.i d),(.i c),(.i b0),(.i b1),(.i b2),(.list AC [.z,(.list AD [(.int .u64)])] ts)])))]⟩
theorem zfA(d c:Int)(t:IV):HH d c (.agg [.int (IV.toInt (IV.cell t 0)),.list (IV.toList (IV.cell t 1))])=HH d c t:=rfl
theorem Hc(N:Nat)(l:LI)(hl:l.length<=strMax)(d c b0 b1 b2:Int)(ts:LI):∀(m i n:Nat),i+m=l.length->m<n->
  D3 (PY N) (DS TP [1,0,1,0,0]) ⟨[0,1,4,7,8],[900000],[]⟩ n (zf5 l d c b0 b1 b2 ts 0 (i:Int)) (DW 0 (DX (PY N) (DS TP [1,1]) (D2 (PY N) (AA [(.i d),(.i c),(.i b0),(.i b1),(.i b2),(.list AC [.z,(.list AD [(.int .u64)])] ts)]) [(B7 4)] [[.z]])))=
   AA (.i (YJ d c (l.drop i) (i:Int)),[[(.i d),(.i c),(.i b0),(.i b1),(.i b2),(.list AC G7 ts)]])
 |m,i,0,_,h=>absurd h AG
 |0,i,n+1,hd,_=>by
  have hi:i=l.length:=by omega
  subst hi;rw[D8,Tf,AS (show¬((l.length:Nat):Int)<ic l.length by simp only[ic];omega),DR,C8];exact kf N d c b0 b1 b2 ts l 0 (ic l.length) (l.length:Int) d c b0 b1 b2 ts
 |m+1,i,n+1,hd,hn=>by
  have hil:i<l.length:=by omega
  have m':strMax=140737488355327:=rfl;have ei:AI AJ ((i:Int)+1)=((i+1:Nat):Int):=by
   rw[ER AG AG];omega
  have hg:l.getD (AM (i:Int)) default=l[i]:=by
   rw[BE,BY,BD hil];rfl
  rw[D8,Tf,ei,hg,zfA,AL (show(i:Int)<ic l.length by simp only[ic];omega),DQ,AL (show(0:Int)<=(i:Int) by omega),BR,DQ,BJ hil,YJ];cases HH d c l[i]with
  |true=>
   rw[A9,DR,DQ];exact Hc N l hl d c b0 b1 b2 ts m (i+1) n AG AG
  |false=>
   rw[BF,DQ,DR];exact kg N d c b0 b1 b2 ts l (i:Int) (ic l.length) (i:Int) d c b0 b1 b2 ts
theorem zeJ:D6 PR B0 163 f5:=by
 refine EF [(108,XG)] [(2,⟨[0,1,4,7,8],[900000],[]⟩)] f5 [[.z]] Tryz.func163 sa ⟨Py,trivial⟩ ?_;intro vs r hwf h;unfold f5 at h;split at h
 .rename_i l d c b0 b1 b2 ts;refine⟨l.length+1,?_⟩;rw[R.get_ok]at h;rw[<-h];refine(zaH (l.length+1) l d c b0 b1 b2 ts).trans ?_;have hl:l.length<=strMax:=by
   have hb:=hwf (by simp[MX])
   have:=hb.1
   simp only[SU,wfL]at this;exact this.1
  exact Hc (l.length+1) l hl d c b0 b1 b2 ts l.length 0 (l.length+1) AG AG
 .simp[R.get]at h
theorem Gy(d c:Int):∀(l:LI) (i:Nat),AE (YJ d c l (i:Int)>=0)=!(l.all (HH d c))
 |[],i=>rfl
 |t::l,i=>by
  unfold YJ;rw[van];cases HH d c t with
  |true=>
   rw[DQ,BI];exact Gy d c l (i+1)
  |false=>
   rw[DR,BP,AL (show(i:Int)>=0 by omega)];rfl
theorem zeI:D6 PR B0 107 fZ:=by
 refine EF [(163,f5)] [] fZ [[.bool]] Tryz.func107 rz ⟨zeJ,trivial⟩ ?_;intro vs r hwf h;unfold fZ at h;split at h
 .rename_i l d c b0 b1 b2 ts;refine⟨0,?_⟩;rw[R.get_ok]at h;rw[<-h];refine(zaG 0 l d c b0 b1 b2 ts).trans ?_
  have:=Gy d c l 0
  rw[show((0:Nat):Int)=0 from rfl]at this;rw[this]
 .simp[R.get]at h
abbrev cR(d c b0 b1 b2:Int)(ts:LI)(b:Bool)(i:Int):St:=
 ⟨[(1,(.ptr 1 0 0)),(2,(.bool b)),(30,(.agg [(.i b0),(.i b1),(.i b2)])),(31,(.i i))],[(1,(AA (.box [(.i d),(.i c),(.i b0),(.i b1),(.i b2),(.list AC [.z,(.list AD [(.int .u64)])] ts)]))),(53005,AB)]⟩
theorem ah(c j b:Int){α:Type _}(x y:α):cond (!E4 b) y (cond (AE (j>=c)) (cond (b !=0) y x) x)=cond (GR c j b) x y:=by
 unfold GR;have e:(b !=0)=!(b==0):=rfl;rw[e];cases E4 b<;>cases AE (j>=c)<;>cases(b==0)<;>rfl
theorem pV(N:Nat)(d c b0 b1 b2:Int)(ts:LI)(j:Nat)(b:Int)(h:(j=0/\b=b0)\/(j=1/\b=b1)\/(j=2/\b=b2))(again:St->DU)(k:Out->St->DU):
  EY (OV N) (DS R3 [1,1,0,1,0,0]) (cR d c b0 b1 b2 ts AD (j:Int)) (ES again ⟨[1,2,30,31],[1,53005],[]⟩ k)=
   cond (GR c (j:Int) b) (again (cR d c b0 b1 b2 ts AD ((j+1:Nat):Int))) (k .ret (cR d c b0 b1 b2 ts AD (j:Int))):=by
 rw[Sn];have ej:AI AJ ((j:Int)+1)=((j+1:Nat):Int):=by
  rw[ER AG AG];omega
 rw[ej,<-ah,AL (show(j:Int)<3 by omega),DQ];rcases h with⟨rfl,rfl⟩|⟨rfl,rfl⟩|⟨rfl,rfl⟩<;>rfl
theorem cA:D6 PR B0 49 M9:=by
 refine EF [(106,S4),(108,XG),(107,fZ)] [(4,⟨[1,2,30,31],[1,53005],[]⟩)] M9 [[.bool]] Tryz.func49 qv ⟨wL,Py,zeI,trivial⟩ ?_;intro vs r hwf h;unfold M9 at h;split at h
 .rename_i d c b0 b1 b2 ts;refine⟨6,?_⟩;rw[R.get_ok]at h;rw[<-h];refine(zaf 6 d c b0 b1 b2 ts).trans ?_;have run:D3 (OV 6) (DS R3 [1,1,0,1,0,0]) ⟨[1,2,30,31],[1,53005],[]⟩ 6 (cR d c b0 b1 b2 ts AD 0) (DW 0 (DX (OV 6) (DS R3 [1,1,1]) (D2 (OV 6) AB [(B7 2)] [[.bool]])))=
    AA (.bool ((GR c 0 b0&&(GR c 1 b1&&GR c 2 b2))&&ts.all (HH d c)),[]):=by
   have e0:cR d c b0 b1 b2 ts AD 0=cR d c b0 b1 b2 ts AD ((0:Nat):Int):=rfl;have R2:=λj=>jj 6 AD b0 b1 b2 j d c b0 b1 b2 ts
   have R1:=λj=>ji 6 AD b0 b1 b2 j d c b0 b1 b2 ts
   rw[e0,D8,pV 6 d c b0 b1 b2 ts 0 b0 (by simp),R2];cases h0:GR c ((0:Nat):Int) b0 with
   |false=>rfl
   |true=>
    rw[DQ,D8,pV 6 d c b0 b1 b2 ts 1 b1 (by simp),R2];cases h1:GR c ((1:Nat):Int) b1 with
    |false=>rfl
    |true=>
     rw[DQ,D8,pV 6 d c b0 b1 b2 ts 2 b2 (by simp),R2];cases h2:GR c ((2:Nat):Int) b2 with
     |false=>rfl
     |true=>
      rw[DQ,D8,Sn,AS (show¬((2+1:Nat):Int)<3 by omega),DR,R1,Bool.not_not];rfl
  unfold EU;cases AE (d<1)with
  |true=>rfl
  |false=>
  cases AE (d>4)with
  |true=>rfl
  |false=>
  cases AE (c<1)with
  |true=>rfl
  |false=>
  cases AE (c>3)with
  |true=>rfl
  |false=>
   simp only[DR,BF,BI];by_cases h8:ts.length<=8
   .rw[AS (show¬ic ts.length>8 by simp only[ic];omega),DR,CV h8,BI];exact run
   .have e:CG ts.length 8=AD:=by
     cases hb:CG ts.length 8 with
     |false=>rfl
     |true=>exact absurd (AX hb) h8
    rw[AL (show ic ts.length>8 by simp only[ic];omega),DQ,e,BP]
 .simp[R.get]at h
open Go
def R7(x:IV):Prop:=∃v,-3000<=v/\v<=3000/\x=MT v
def VR(dim n:Int)(i:Nat)(x:IV):Prop:=∃f a l,0<=f/\f<dim/\0<=a/\a<=9/\(i:Int)<l/\l+1<n/\x=T4 AD 0 f a l (l+1)
def nm(x:IV)(j:Nat):Nat:=cond (x.cell 0).toBool 0 ((if(x.cell 4).toInt=(j:Int)then 1 else 0)+(if(x.cell 5).toInt=(j:Int)then 1 else 0))
def OI(l:LI)(j:Nat):Nat:=(l.map (nm · j)).sum
theorem nG{x:IV}(h:R7 x)(j:Nat):nm x j=0:=by
 obtain⟨v,_,_,rfl⟩:=h;rfl
theorem za1(f a:Int)(n j:Nat):nm (T4 AD 0 f a (n:Int) ((n:Int)+1)) j=(if j=n then 1 else 0)+(if j=n+1 then 1 else 0):=by
 show(if(n:Int)=(j:Int)then 1 else 0)+(if(n:Int)+1=(j:Int)then 1 else 0)=_;have e1:((n:Int)=(j:Int))↔(j=n):=by omega
 have e2:((n:Int)+1=(j:Int))↔(j=n+1):=by omega
 simp only[e1,e2]
theorem za0(l m:LI)(j:Nat):OI (l++m) j=OI l j+OI m j:=by simp[OI]
theorem Jr:∀{l:LI} {p:Nat} {x:IV} (y:IV) (j:Nat),l[p]?=AA x->OI (l.set p y) j+nm x j=OI l j+nm y j
 |[],p,x,y,j,h=>by simp at h
 |z::l,0,x,y,j,h=>by
  simp only[CA,AK]at h;subst h;simp only[List.set_cons_zero,OI,A8,vbb];omega
 |z::l,p+1,x,y,j,h=>by
  have:=Jr (l:=l) y j (by simpa using h)
  simp only[List.set_cons_succ,OI,A8,vbb]at this ⊢;omega
structure NsOK (dim:Int) (i:Nat) (s:Ns):Prop where
 len:s.nodes.length=2*i+1
 ll:s.leaves.length=i+1
 node:∀(k:Nat) x,s.nodes[k]?=AA x->R7 x\/VR dim (2*(i:Int)+1) k x
 leaf:∀y∈s.leaves,∃p:Nat,y=.int (p:Int)/\∃x,s.nodes[p]?=AA x/\R7 x
 dist:s.leaves.Nodup
 cnt:∀j,OI s.nodes j=if 1<=j/\j<2*i+1 then 1 else 0
theorem nT(l:LI)(i lo hi:Int)(h:lo<=hi)(h0: -2000000000000000000<=lo)(h1:hi<=2000000000000000000):lo<=D0 (E0 l i) lo hi/\D0 (E0 l i) lo hi<=hi:=
 (HR h h0 h1).2
theorem iM(l:LI)(i:Int):R7 (MT (D0 (E0 l i) (-3000) 3000)):=
 ⟨_,(nT l i (-3000) 3000 AG AG AG).1,(nT l i (-3000) 3000 AG AG AG).2,rfl⟩
theorem zbc(val:LI)(dim:Int):NsOK dim 0 ⟨[MT (D0 (E0 val 0) (-3000) 3000)],[.int 0]⟩ where
 len:=rfl
 ll:=rfl
 node k x h:=by
  cases k with
  |zero=>
   simp only[CA,AK]at h;subst h;exact .inl (iM val 0)
  |succ k=>simp at h
 leaf y hy:=by
  simp only[AW,CC,C7]at hy;exact⟨0,hy,_,rfl,iM val 0⟩
 dist:=by simp
 cnt j:=by
  have:¬(1<=j/\j<2*0+1):=by omega
  rw[BO this];show nm _ j+0=0;rw[nG (iM val 0)]
theorem za6{l:LI}(h:l.Nodup){k:Nat}{y:IV}(hk:l[k]?=AA y):y∉l.take k++l.drop (k+1):=by
 intro hy;rw[<-vbJ,List.mem_eraseIdx_iff_getElem?]at hy;obtain⟨i,hne,hi⟩:=hy;have h1:i<l.length:=(B4.1 hi).1;have h2:k<l.length:=(B4.1 hk).1
 have:l[i]=l[k]:=by
  rw[(B4.1 hi).2,(B4.1 hk).2]
 have hp:=List.pairwise_iff_getElem.1 h;rcases Nat.lt_trichotomy i k with hlt|heq|hlt
 .exact hp i k h1 h2 hlt this
 .exact hne heq
 .exact hp k i h2 h1 hlt this.symm
theorem zbb{part byl atl val:LI}{dim:Int}(hd:1<=dim/\dim<=4){i:Nat}(hi:i<7){s:Ns}(h:NsOK dim i s):NsOK dim (i+1) (K4 part byl atl val dim i s):=by
 obtain⟨k0,k1⟩:=(HR (n:=(part.getD i default).toInt) (lo:=0) (hi:=ic s.leaves.length-1) (by simp only[ic];have:=h.ll;omega) AG (by simp only[ic];have:=h.ll;omega)).2;have hk0:0<=IO part i s:=k0;have hk1:IO part i s<=ic s.leaves.length-1:=k1;obtain⟨k,hk⟩:∃k:Nat,IO part i s=k:=⟨(IO part i s).toNat,by omega⟩;have hkl:k<s.leaves.length:=by simp only[ic]at hk1;omega
 have hky:s.leaves[k]?=AA s.leaves[k]:=BD hkl;obtain⟨p,hp,x,hx,hlf⟩:=h.leaf _ (C0 hkl);have hat:(SF part i s).toNat=p:=by
  unfold SF;rw[hk,BE,BY,hky,hp];show((p:Int)).toNat=p;omega
 have hpl:p<2*i+1:=by rw[<-h.len];exact(B4.1 hx).1
 have f1:=nT byl (i:Int) 0 (dim-1) AG AG AG;have a1:=nT atl (i:Int) 0 9 AG AG AG;generalize hf:D0 (E0 byl (i:Int)) 0 (dim-1)=f at f1;generalize ha:D0 (E0 atl (i:Int)) 0 9=a at a1;have el:ic s.nodes.length=2*(i:Int)+1:=by simp only[ic];have:=h.len;omega
 have hs:K4 part byl atl val dim i s=⟨s.nodes.set p (T4 AD 0 f a (2*(i:Int)+1) (2*(i:Int)+1+1))++[MT (D0 (E0 val (2*(i:Int)+1)) (-3000) 3000),MT (D0 (E0 val (2*(i:Int)+2)) (-3000) 3000)],
   s.leaves.take k++s.leaves.drop (k+1)++[.int (2*(i:Int)+1),.int (2*(i:Int)+1+1)]⟩:=by
  unfold K4;rw[hat,hk,BE,hf,ha,el]
 rw[hs];have L1:=iM val (2*(i:Int)+1);have L2:=iM val (2*(i:Int)+2);have hgrow:∀(q:Nat) z,VR dim (2*(i:Int)+1) q z->VR dim (2*((i+1:Nat):Int)+1) q z:=λq z hz=>by
  obtain⟨f,a,l,h1,h2,h3,h4,h5,h6,h7⟩:=hz;exact⟨f,a,l,h1,h2,h3,h4,h5,by omega,h7⟩
 have hlen:(s.nodes.set p (T4 AD 0 f a (2*(i:Int)+1) (2*(i:Int)+1+1))).length=2*i+1:=by rw[vaL,h.len]
 have hnew:∀(q:Nat) z,(s.nodes.set p (T4 AD 0 f a (2*(i:Int)+1) (2*(i:Int)+1+1))++[MT (D0 (E0 val (2*(i:Int)+1)) (-3000) 3000),MT (D0 (E0 val (2*(i:Int)+2)) (-3000) 3000)])[q]?=AA z->
   (q≠p/\s.nodes[q]?=AA z)\/(q=p/\z=T4 AD 0 f a (2*(i:Int)+1) (2*(i:Int)+1+1))\/R7 z:=λq z hz=>by
  by_cases hq:q<2*i+1
  .rw[List.getElem?_append_left (by rw[hlen];exact hq)]at hz;by_cases e:p=q
   .subst e;rw[List.getElem?_set_self (by rw[h.len];exact hpl)]at hz;exact .inr (.inl ⟨rfl,(CB hz).symm⟩)
   .rw[vba e]at hz;exact .inl ⟨λe'=>e e'.symm,hz⟩
  .rw[List.getElem?_append_right (by rw[hlen];omega),hlen]at hz;obtain⟨r,hr⟩:∃r,q-(2*i+1)=r:=⟨_,rfl⟩;rw[hr]at hz
   match r,hz with
   |0,hz=>exact .inr (.inr (by simp at hz;subst hz;exact L1))
   |1,hz=>exact .inr (.inr (by simp at hz;subst hz;exact L2))
   |r+2,hz=>simp at hz
 refine⟨?_,?_,?_,?_,?_,?_⟩
 .show(s.nodes.set p _++[_,_]).length=_;rw[A2,hlen];simp only[AV,BN];omega
 .show(s.leaves.take k++s.leaves.drop (k+1)++[_,_]).length=_;simp only[A2,BL,DA,AV,BN]
  have:=h.ll
  omega
 .intro q z hz;rcases hnew q z hz with⟨_,hz⟩|⟨rfl,rfl⟩|hz
  .rcases h.node q z hz with h1|h1
   .exact .inl h1
   .exact .inr (hgrow q z h1)
  .exact .inr ⟨f,a,2*(i:Int)+1,f1.1,by omega,a1.1,a1.2,by omega,by omega,rfl⟩
  .exact .inl hz
 .intro y hy;rcases A5.1 hy with hy|hy
  .have hne:y≠.int (p:Int):=λe=>by
    have:=za6 h.dist hky
    rw[hp]at this;exact this (e▸hy)
   have hyl:y∈s.leaves:=by
    rcases A5.1 hy with hy|hy
    .exact vaO hy
    .exact va7 hy
   obtain⟨q,hq,x',hx',hl'⟩:=h.leaf y hyl;have hqp:p≠q:=λe=>by subst e;exact hne hq
   refine⟨q,hq,x',?_,hl'⟩;have hql:q<2*i+1:=by rw[<-h.len];exact(B4.1 hx').1
   show(s.nodes.set p _++[_,_])[q]?=_;rw[List.getElem?_append_left (by rw[hlen];exact hql),vba hqp,hx']
  .simp only[AW,CC,C7]at hy;rcases hy with rfl|rfl
   .refine⟨2*i+1,by simp,MT (D0 (E0 val (2*(i:Int)+1)) (-3000) 3000),?_,L1⟩;show(s.nodes.set p _++[_,_])[2*i+1]?=_;rw[List.getElem?_append_right (by rw[hlen];omega),hlen]
    have:2*i+1-(2*i+1)=0:=by omega
    rw[this];rfl
   .refine⟨2*i+1+1,by simp,MT (D0 (E0 val (2*(i:Int)+2)) (-3000) 3000),?_,L2⟩;show(s.nodes.set p _++[_,_])[2*i+1+1]?=_;rw[List.getElem?_append_right (by rw[hlen];omega),hlen]
    have:2*i+1+1-(2*i+1)=1:=by omega
    rw[this];rfl
 .show(s.leaves.take k++s.leaves.drop (k+1)++[_,_]).Nodup;have big:∀y∈s.leaves,∀n:Int,2*(i:Int)+1<=n->y≠.int n:=λy hy n hn e=>by
   obtain⟨q,hq,x',hx',_⟩:=h.leaf y hy;have hql:q<2*i+1:=by rw[<-h.len];exact(B4.1 hx').1
   rw[hq]at e;injection e with e
   omega
  have hsub:∀y∈s.leaves.take k++s.leaves.drop (k+1),y∈s.leaves:=λy hy=>by
   rcases A5.1 hy with hy|hy
   .exact vaO hy
   .exact va7 hy
  rw[List.nodup_append];refine⟨?_,?_,?_⟩
  .rw[<-vbJ];exact List.Nodup.sublist (List.eraseIdx_sublist ..) h.dist
  .rw[List.nodup_cons];refine⟨λhm=>?_,by simp⟩;simp only[AW,CC,C7]at hm;injection hm with hm
   omega
  .intro y hy z hz e;subst e;simp only[AW,CC,C7]at hz;rcases hz with hz|hz
   .exact big y (hsub y hy) _ AG hz
   .exact big y (hsub y hy) _ AG hz
 .intro j;show OI (s.nodes.set p _++[_,_]) j=_;rw[za0];have h1:=Jr (T4 AD 0 f a (2*(i:Int)+1) (2*(i:Int)+1+1)) j hx;rw[nG hlf,h.cnt j]at h1;have h2:OI [MT (D0 (E0 val (2*(i:Int)+1)) (-3000) 3000),MT (D0 (E0 val (2*(i:Int)+2)) (-3000) 3000)] j=0:=by
   show nm _ j+(nm _ j+0)=0;rw[nG L1,nG L2]
  have h3:=za1 f a (2*i+1) j;have e:((2*i+1:Nat):Int)=2*(i:Int)+1:=by omega
  rw[e]at h3;rw[h3]at h1;rw[h2];by_cases c1:1<=j/\j<2*i+1
  .rw[BX c1,BO AG,BO AG]at h1;rw[BX AG];omega
  .rw[BO c1]at h1;by_cases c2:j=2*i+1
   .rw[BX c2,BO AG]at h1;rw[BX AG];omega
   .by_cases c3:j=2*i+1+1
    .rw[BO c2,BX c3]at h1;rw[BX AG];omega
    .rw[BO c2,BO c3]at h1;rw[BO AG];omega
theorem Kh{part byl atl val:LI}{dim:Int}(hd:1<=dim/\dim<=4):∀(d i:Nat) (s:Ns),i+d<=7->NsOK dim i s->NsOK dim (i+d) (bB part byl atl val dim d i s)
 |0,i,s,_,h=>h
 |d+1,i,s,hi,h=>by
  have:=Kh (part:=part) (byl:=byl) (atl:=atl) (val:=val) hd d (i+1) _ AG (zbb (part:=part) (byl:=byl) (atl:=atl) (val:=val) hd AG h)
  rw[vaJ,Nat.add_comm 1 d]at this;exact this
theorem Ki(part byl atl val:LI){dim:Int}(hd:1<=dim/\dim<=4):∃i,i<=7/\NsOK dim i (QF part byl atl val dim):=by
 refine⟨min part.length 7,by omega,?_⟩
 have:=Kh (part:=part) (byl:=byl) (atl:=atl) (val:=val) hd (min part.length 7) 0 _ AG (zbc val dim)
 rw[BU]at this;exact this
open Go
theorem Nd.eq_of{x y:Nd}(h:x.eq y=AC):x=y:=by
 obtain⟨a1,a2,a3,a4,a5,a6⟩:=x;obtain⟨b1,b2,b3,b4,b5,b6⟩:=y;simp only[Nd.eq,AQ,CF,CI]at h;obtain⟨rfl,rfl,rfl,rfl,rfl,rfl⟩:=h;rfl
theorem nH{w:Int}(h:FQ w=AC):G9 (DT w)=w/\IQ (DT w)=AC:=by
 have hn:DT w=L9 w:=by unfold DT;rw[h];rfl
 unfold FQ at h;simp only[AQ,CE,CF,BH]at h;rw[hn];refine⟨h.2,?_⟩;cases hr:IQ (L9 w)with
 |true=>rfl
 |false=>
  have:=h.2
  unfold G9 at this;rw[hr]at this;exact absurd this.symm h.1
def tA(i:Nat):Bool:=FQ (HK AC ((i:Int)-3000) 0 0 0 0)&&(DT (HK AC ((i:Int)-3000) 0 0 0 0)).eq ⟨AC,(i:Int)-3000,0,0,0,0⟩
def mW:Nat->Bool
 |0=>AC
 |n+1=>tA n&&mW n
theorem Ii:∀{n i:Nat},mW n=AC->i<n->tA i=AC
 |n+1,i,h,hi=>by
  rw[mW,AQ]at h;by_cases e:i=n
  .subst e;exact h.1
  .exact Ii h.2 AG
def rR(i:Nat):Bool:=FQ (HK AD 0 ((i%4:Nat):Int) ((i/4%10:Nat):Int) ((i/40:Nat):Int) (((i/40:Nat):Int)+1))&&
 (DT (HK AD 0 ((i%4:Nat):Int) ((i/4%10:Nat):Int) ((i/40:Nat):Int) (((i/40:Nat):Int)+1))).eq ⟨AD,0,((i%4:Nat):Int),((i/4%10:Nat):Int),((i/40:Nat):Int),((i/40:Nat):Int)+1⟩
def lW:Nat->Bool
 |0=>AC
 |n+1=>(BV n 40||rR n)&&lW n
theorem Gd:∀{n i:Nat},lW n=AC->i<n->40<=i->rR i=AC
 |n+1,i,h,hi,h40=>by
  rw[lW,AQ]at h;by_cases e:i=n
  .subst e
   have:=h.1
   rw[vap]at this;rcases this with h1|h1
   .have:i<40:=AX h1
    omega
   .exact h1
  .exact Gd h.2 AG h40
theorem va:mW 6001=AC:=AF
theorem lv:lW 1200=AC:=AF
theorem sZ{v:Int}(h0: -3000<=v)(h1:v<=3000):FQ (HK AC v 0 0 0 0)=AC/\DT (HK AC v 0 0 0 0)=⟨AC,v,0,0,0,0⟩:=by
 have h:=Ii va (show(v+3000).toNat<6001 by omega);have e:(((v+3000).toNat:Nat):Int)-3000=v:=by omega
 unfold tA at h;rw[e,AQ]at h;exact⟨h.1,Nd.eq_of h.2⟩
theorem Gg{f a l:Int}(hf:0<=f/\f<4)(ha:0<=a/\a<=9)(hl:1<=l/\l<=28):FQ (HK AD 0 f a l (l+1))=AC/\DT (HK AD 0 f a l (l+1))=⟨AD,0,f,a,l,l+1⟩:=by
 have h:=Gd lv (show l.toNat*40+a.toNat*4+f.toNat<1200 by omega) AG;have e1:(((l.toNat*40+a.toNat*4+f.toNat)%4:Nat):Int)=f:=by omega
 have e2:(((l.toNat*40+a.toNat*4+f.toNat)/4%10:Nat):Int)=a:=by omega
 have e3:(((l.toNat*40+a.toNat*4+f.toNat)/40:Nat):Int)=l:=by omega
 unfold rR at h;rw[e1,e2,e3,AQ]at h;exact⟨h.1,Nd.eq_of h.2⟩
theorem zfS{dim n:Int}(hd:dim<=4)(hn:n<=29){i:Nat}{x:IV}(h:R7 x\/VR dim n i x)(j:Nat):KO (DT (T9 x).toInt) j=nm x j:=by
 rcases h with⟨v,h0,h1,rfl⟩|⟨f,a,l,h0,h1,h2,h3,h4,h5,rfl⟩
 .show KO (DT (HK AC v 0 0 0 0)) j=_;rw[(sZ h0 h1).2];rfl
 .show KO (DT (HK AD 0 f a l (l+1))) j=_;rw[(Gg ⟨h0,by omega⟩ ⟨h2,h3⟩ ⟨by omega,by omega⟩).2];rfl
theorem zfT{dim n:Int}(hd:dim<=4)(hn:n<=29){i:Nat}{x:IV}(h:R7 x\/VR dim n i x):(FQ (T9 x).toInt&&OD dim n i (DT (T9 x).toInt))=AC:=by
 rcases h with⟨v,h0,h1,rfl⟩|⟨f,a,l,h0,h1,h2,h3,h4,h5,rfl⟩
 .show(FQ (HK AC v 0 0 0 0)&&OD dim n i (DT (HK AC v 0 0 0 0)))=AC;rw[(sZ h0 h1).1,(sZ h0 h1).2];rfl
 .show(FQ (HK AD 0 f a l (l+1))&&OD dim n i (DT (HK AD 0 f a l (l+1))))=AC;have hw:=Gg ⟨h0,by omega⟩ ⟨h2,h3⟩ (show 1<=l/\l<=28 by omega);rw[hw.1,hw.2];unfold OD;simp only[BK,AS (show¬f>=dim by omega),BH.2 (show l≠l+1 by omega),AS (show¬min l (l+1)<=(i:Int) by omega),AS (show¬max l (l+1)>=n by omega)];rfl
theorem Kb{dim n:Int}(hd:dim<=4)(hn:n<=29):∀{l:LI} {i:Nat},(∀(k:Nat) x,l[k]?=AA x->R7 x\/VR dim n (i+k) x)->JH dim n i (l.map T9)=AC
 |[],_,_=>rfl
 |x::l,i,h=>by
  rw[A8,JH,AQ];refine⟨zfT hd hn (h 0 x rfl),Kb hd hn (i:=i+1) λk y hk=>?_⟩
  have:=h (k+1) y (by simpa using hk)
  rwa [show i+(k+1)=i+1+k by omega]at this
theorem Jn{dim n:Int}(hd:dim<=4)(hn:n<=29)(j:Nat):∀{l:LI} {i:Nat},(∀(k:Nat) x,l[k]?=AA x->R7 x\/VR dim n (i+k) x)->G0 (l.map T9) j=OI l j
 |[],_,_=>rfl
 |x::l,i,h=>by
  have ih:=Jn hd hn j (l:=l) (i:=i+1) λk y hk=>by
   have:=h (k+1) y (by simpa using hk)
   rwa [show i+(k+1)=i+1+k by omega]at this
  have h0:=zfS hd hn (h 0 x rfl) j;unfold G0 OI at ih ⊢;simp only[A8,vbb];rw[h0,ih]
theorem za5(part byl atl val:LI){dim:Int}(hd:1<=dim/\dim<=4):GP (NQ part byl atl val dim) dim=AC:=by
 obtain⟨i,hi,h⟩:=Ki part byl atl val hd;have hlen:(NQ part byl atl val dim).length=2*i+1:=by
  unfold NQ;rw[BW,h.len]
 have hn:∀(k:Nat) x,(QF part byl atl val dim).nodes[k]?=AA x->R7 x\/VR dim (ic (NQ part byl atl val dim).length) (0+k) x:=λk x hk=>by
  have e:ic (NQ part byl atl val dim).length=2*(i:Int)+1:=by simp only[ic];omega
  rw[e,BU];exact h.node k x hk
 have hb:ic (NQ part byl atl val dim).length<=29:=by simp only[ic];omega
 unfold GP;rw[AQ,AQ,AQ];refine⟨⟨CV AG,CV AG⟩,Kb hd.2 hb hn,?_⟩;unfold V0;rw[CZ];intro j hj;have hj:=vbk.1 hj;rw[CF]
 have:=Jn hd.2 hb (j+1) hn
 have e:G0 (NQ part byl atl val dim) (j+1)=OI (QF part byl atl val dim).nodes (j+1):=this;rw[e,h.cnt,BX AG]
theorem aK(d:Int):1<=O9 d/\O9 d<=3:=(HR (n:=d) (lo:=1) (hi:=3) AG AG AG).2
theorem gV(d:Int):1<=LJ d/\LJ d<=3:=(HR (n:=d) (lo:=1) (hi:=3) AG AG AG).2
def nB(d c:Int)(bias ts:LI):Md:=⟨O9 d,LJ c,TL c bias 0,TL c bias 1,TL c bias 2,SS d c ts⟩
theorem pU(c:Int)(bias:LI)(j:Int):GR (LJ c) j (TL c bias j)=AC:=by
 unfold GR TL
 have:=(HR (n:=E0 bias j) (lo:= -500) (hi:=500) AG AG AG).2
 rcases Int.lt_or_le j (LJ c)with h|h
 .rw[AL h,AS (show¬j>=LJ c by omega)];simp only[B5,BP,BF,CK];unfold E4;rw[AL AG,AL AG];rfl
 .rw[AS (show¬j<LJ c by omega),AL (show j>=LJ c from h)];rfl
theorem zfE(d c:Int)(t:IV):HH (O9 d) (LJ c) (cF d c t)=AC:=by
 have hd:=aK d;have hc:=gV c;have hk:=(HR (n:=(t.cell 0).toInt) (lo:=0) (hi:=LJ c-1) AG AG AG).2;show(!(AE (D0 (t.cell 0).toInt 0 (LJ c-1)<0))&&(!(AE (D0 (t.cell 0).toInt 0 (LJ c-1)>=LJ c))&&GP (NQ (t.cell 1).toList (t.cell 2).toList (t.cell 3).toList (t.cell 4).toList (O9 d)) (O9 d)))=AC;rw[AS AG,AS AG,za5 _ _ _ _ ⟨hd.1,by omega⟩];rfl
theorem zfG(d c:Int)(ts:LI):(SS d c ts).all (HH (O9 d) (LJ c))=AC:=by
 rw[CZ];intro t ht;unfold SS at ht;obtain⟨u,_,rfl⟩:=CU.1 ht;exact zfE d c u
theorem zfF(d c:Int)(ts:LI):(SS d c ts).length<=4:=by
 unfold SS;rw[BW,BL];omega
theorem wc{m:Md}(hd:1<=m.d/\m.d<=4)(hc:1<=m.c/\m.c<=3)(hl:m.ts.length<=8)(h0:GR m.c 0 m.b0=AC)(h1:GR m.c 1 m.b1=AC)(h2:GR m.c 2 m.b2=AC)(ht:m.ts.all (HH m.d m.c)=AC):EU m=AC:=by
 unfold EU;rw[AS (show¬m.d<1 by omega),AS (show¬m.d>4 by omega),AS (show¬m.c<1 by omega),AS (show¬m.c>3 by omega),CV hl,h0,h1,h2,ht];rfl
theorem we(d c:Int)(bias ts:LI):EU (nB d c bias ts)=AC:=by
 have hd:=aK d;have hc:=gV c;exact wc (m:=nB d c bias ts) ⟨hd.1,by show O9 d<=4;omega⟩ hc (by have:=zfF d c ts;show(SS d c ts).length<=8;omega) (pU c bias 0) (pU c bias 1) (pU c bias 2) (zfG d c ts)
open Go
abbrev EO:List Kd:=[.bool,.z,.z]
def I1(x:IV):Bool:=(x.cell 0).toBool
def FP(x:IV):Int:=(x.cell 1).toInt
def GE(x:IV):Int:=(x.cell 2).toInt
def xD(x y:IV):Bool:=I1 x==I1 y&&(FP x==FP y&&GE x==GE y)
def cE(x:IV):Bool:=!(I1 x&&!(FP x==0&&GE x==0))&&(AE (0<=FP x)&&AE (FP x<=4))
def UE(l:LI):Bool:=AE (1<=l.length)&&(AE (l.length<=65536)&&l.all cE)
def dQ:D4
 |[.list AC [.bool,.z,.z] l]=>.ok (.bool (UE l)) []
 |_=>.no
def NY:LI->LI->Bool
 |[],[]=>AC
 |x::l,y::m=>xD x y&&NY l m
 |_,_=>AD
structure Vd where
 kind:Int
 proof:LI
 w0:Int
 w1:Int
 w2:Int
 w3:Int
 twin:Int
 spent:Int
def Vd.none:Vd:=⟨0,[],0,0,0,0,0,0⟩
def Vd.V(v:Vd):V:=.agg [.i v.kind,.list AC EO v.proof,.i v.w0,.i v.w1,.i v.w2,.i v.w3,.i v.twin,.i v.spent]
def Vd.bare(v:Vd):Bool:=v.w0==0&&(v.w1==0&&(v.w2==0&&(v.w3==0&&v.twin==0)))
def Vd.right(v:Vd):Bool:=
 AE (0<=v.spent)&&(AE (v.spent<=65536)&&
  (v.kind==1&&(v.bare&&UE v.proof)||(v.kind==2&&v.proof.isEmpty||(v.kind==3||v.kind==4)&&(v.bare&&v.proof.isEmpty))))
def dM:D4
 |[.agg [.i k,.list AC [.bool,.z,.z] p,.i a,.i b,.i c,.i d,.i t,.i s]]=>.ok (.bool (Vd.right ⟨k,p,a,b,c,d,t,s⟩)) []
 |_=>.no
def QH:BA->LI->BA
 |s,[]=>s
 |s,x::l=>QH (s.push 32++DZ x.toInt) l
def HD(s w:BA)(l:LI):BA:=(QH (s++w) l).push 10
def dN:D4
 |[.bor [.bld s],.str w,.list AD [.z] l]=>.br (AE ((HD s w l).size<=strMax)) (.ok (.tup []) [[.bld (HD s w l)]]) .no
 |_=>.no
def GV(l:LI)(i:Int):Int:=cond (AE (ic l.length<=i)) 0 (FT (l.getD i.toNat default).toStr)
def dO:D4
 |[.list AD [.str] l,.i i]=>.br (AE (0<=i)) (.ok (.i (GV l i)) []) .no
 |_=>.no
def Jk(b:Bool)(p a:Int):IV:=.agg [.bool b,.int p,.int a]
abbrev QR:BA:=⟨#[104,111,108,100,115]⟩
abbrev cM:BA:=⟨#[102,97,105,108,115]⟩
abbrev cN:BA:=⟨#[117,110,107,110,111,119,110]⟩
abbrev cO:BA:=⟨#[119,114,111,110,103]⟩
abbrev WL:BA:=⟨#[115,117,109]⟩
abbrev kC:BA:=⟨#[99,117,116]⟩
abbrev F6:BA:=⟨#[10]⟩
abbrev WK:BA:=⟨#[32]⟩
abbrev EQ:BA:=⟨#[]⟩
def JE(s:BA):LI:=(EH (cutL s F6) WK).map IV.str
def OT(l:LI):BA:=(l.getD 0 default).toStr
def nV(s:BA):IV:=
 cond ((OT (JE s)).toList==WL.toList) (Jk AC 0 0) (Jk AD (GV (JE s) 1) (GV (JE s) 2))
def bO:Nat->BA->LI->LI
 |0,_,p=>p
 |n+1,s,p=>cond (!(s.toList==EQ.toList)&&AE (p.length<=65536)) (bO n (GA s F6) (p++[nV s])) p
def KD(s:BA):Vd:=
 cond ((OT (JE s)).toList==QR.toList) ⟨1,bO ((GA s F6).size+1) (GA s F6) [],0,0,0,0,0,GV (JE s) 1⟩
 (cond ((OT (JE s)).toList==cM.toList) ⟨2,[],GV (JE s) 2,GV (JE s) 3,GV (JE s) 4,GV (JE s) 5,GV (JE s) 6,GV (JE s) 1⟩
 (cond ((OT (JE s)).toList==cN.toList) ⟨3,[],0,0,0,0,0,GV (JE s) 1⟩
 (cond ((OT (JE s)).toList==cO.toList) ⟨4,[],0,0,0,0,0,GV (JE s) 1⟩
 ⟨0,[],0,0,0,0,0,GV (JE s) 1⟩)))
def dP:D4
 |[.str s]=>.br (AE (s.size<4294967281)) (.ok (.agg [.i (KD s).kind,.list AC [.bool,.z,.z] (KD s).proof,.i (KD s).w0,.i (KD s).w1,.i (KD s).w2,.i (KD s).w3,.i (KD s).twin,.i (KD s).spent]) []) .no
 |_=>.no
def SK:BA->LI->BA
 |s,[]=>s
 |s,x::l=>SK (cond (I1 x) (HD s WL []) (HD s kC [.int (FP x),.int (GE x)])) l
def JI(v:Vd):BA:=
 cond v.right
  (cond (v.kind==1) (SK (HD EQ QR [.int v.spent,.int (ic v.proof.length)]) v.proof)
  (cond (v.kind==2) (HD EQ cM [.int v.spent,.int v.w0,.int v.w1,.int v.w2,.int v.w3,.int v.twin])
  (cond (v.kind==3) (HD EQ cN [.int v.spent])
  (HD EQ cO [.int v.spent]))))
  EQ
def XA:D4
 |[.agg [.i k,.list AC [.bool,.z,.z] p,.i a,.i b,.i c,.i d,.i t,.i s]]=>
  .br (AE ((JI ⟨k,p,a,b,c,d,t,s⟩).size<=strMax)) (.ok (.str (JI ⟨k,p,a,b,c,d,t,s⟩)) []) .no
 |_=>.no
def bJ(s:BA):Bool:=!(s.toList==EQ.toList)&&(JI (KD s)).toList==s.toList
def K6(s:BA):Vd:=cond (bJ s) (KD s) Vd.none
def dL:D4
 |[.str s]=>.br (AE (s.size<4294967281)) (.br (AE ((JI (KD s)).size<=strMax)) (.ok (.tup [.agg [.i (K6 s).kind,.list AC [.bool,.z,.z] (K6 s).proof,.i (K6 s).w0,.i (K6 s).w1,.i (K6 s).w2,.i (K6 s).w3,.i (K6 s).twin,.i (K6 s).spent],.bool (bJ s)]) []) .no) .no
 |_=>.no
open Go
def Nd.cs(x:Nd):List FM.V:=[.bool x.lf,.i x.v,.i x.f,.i x.a,.i x.l,.i x.r]
def Nd.V(x:Nd):FM.V:=.agg x.cs
def Md.cs(m:Md):List FM.V:=[.i m.d,.i m.c,.i m.b0,.i m.b1,.i m.b2,.list AC [.z,.list AD [.int .u64]] m.ts]
def Md.V(m:Md):FM.V:=.agg m.cs
def Qy.cs(q:Qy):List FM.V:=[.i q.k,.i q.c,.i q.a0,.i q.b0,.i q.a1,.i q.b1,.i q.a2,.i q.b2,.i q.a3,.i q.b3,.i q.a4,.i q.b4,.i q.lo,.i q.hi,.i q.ft,.bool q.fl,.i q.bu]
def Vd.cs(v:Vd):List FM.V:=[.i v.kind,.list AC [.bool,.z,.z] v.proof,.i v.w0,.i v.w1,.i v.w2,.i v.w3,.i v.twin,.i v.spent]
def Ak.cs(a:Ak):List FM.V:=[.i a.k,.i a.c,.i a.lo,.i a.size,.i a.ft,.i a.bu,.bool a.fl,.list AD [.z] a.sp]
def Ak.V(a:Ak):FM.V:=.agg a.cs
structure Sp where
 lo:Int
 hi:Int
def Sp.cs(s:Sp):List FM.V:=[.i s.lo,.i s.hi]
def Sp.V(s:Sp):FM.V:=.agg s.cs
structure Bx where
 s0:Sp
 s1:Sp
 s2:Sp
 s3:Sp
 s4:Sp
def Bx.g(b:Bx):Nat->Sp
 |0=>b.s0
 |1=>b.s1
 |2=>b.s2
 |3=>b.s3
 |_=>b.s4
def Bx.p(b:Bx)(s:Sp):Nat->Bx
 |0=>⟨s,b.s1,b.s2,b.s3,b.s4⟩
 |1=>⟨b.s0,s,b.s2,b.s3,b.s4⟩
 |2=>⟨b.s0,b.s1,s,b.s3,b.s4⟩
 |3=>⟨b.s0,b.s1,b.s2,s,b.s4⟩
 |_=>⟨b.s0,b.s1,b.s2,b.s3,s⟩
def Bx.cs(b:Bx):List FM.V:=[.i b.s0.lo,.i b.s0.hi,.i b.s1.lo,.i b.s1.hi,.i b.s2.lo,.i b.s2.hi,.i b.s3.lo,.i b.s3.hi,.i b.s4.lo,.i b.s4.hi]
def Bx.V(b:Bx):FM.V:=.agg b.cs
structure Pt where
 p0:Int
 p1:Int
 p2:Int
 p3:Int
def Pt.cs(p:Pt):List FM.V:=[.i p.p0,.i p.p1,.i p.p2,.i p.p3]
def Pt.V(p:Pt):FM.V:=.agg p.cs
def Pt.g(p:Pt):Nat->Int
 |0=>p.p0
 |1=>p.p1
 |2=>p.p2
 |_=>p.p3
def spOf?:List FM.V->Option Sp
 |[.i a,.i b]=>AA ⟨a,b⟩
 |_=>AB
def ptOf?:List FM.V->Option Pt
 |[.i a,.i b,.i c,.i d]=>AA ⟨a,b,c,d⟩
 |_=>AB
def bxOf?:List FM.V->Option Bx
 |[.i a0,.i b0,.i a1,.i b1,.i a2,.i b2,.i a3,.i b3,.i a4,.i b4]=>AA ⟨⟨a0,b0⟩,⟨a1,b1⟩,⟨a2,b2⟩,⟨a3,b3⟩,⟨a4,b4⟩⟩
 |_=>AB
def mdOf?:List FM.V->Option Md
 |[.i d,.i c,.i b0,.i b1,.i b2,.list AC [.z,.list AD [.int .u64]] ts]=>AA ⟨d,c,b0,b1,b2,ts⟩
 |_=>AB
def qyOf?:List FM.V->Option Qy
 |[.i k,.i c,.i a0,.i b0,.i a1,.i b1,.i a2,.i b2,.i a3,.i b3,.i a4,.i b4,.i lo,.i hi,.i ft,.bool fl,.i bu]=>
  AA ⟨k,c,a0,b0,a1,b1,a2,b2,a3,b3,a4,b4,lo,hi,ft,fl,bu⟩
 |_=>AB
def vdOf?:List FM.V->Option Vd
 |[.i k,.list AC [.bool,.z,.z] p,.i a,.i b,.i c,.i d,.i t,.i s]=>AA ⟨k,p,a,b,c,d,t,s⟩
 |_=>AB
def SV{α:Type}(of:List FM.V->Option α)(v:FM.V)(k:α->R):R:=
 match v with
 |.agg l=>match of l with|some x=>k x|none=>.no
 |_=>.no
abbrev o6(v:FM.V)(k:Sp->R):R:=SV spOf? v k
abbrev QT(v:FM.V)(k:Pt->R):R:=SV ptOf? v k
abbrev JA(v:FM.V)(k:Bx->R):R:=SV bxOf? v k
abbrev H8(v:FM.V)(k:Md->R):R:=SV mdOf? v k
abbrev I2(v:FM.V)(k:Qy->R):R:=SV qyOf? v k
abbrev yI(v:FM.V)(k:Vd->R):R:=SV vdOf? v k
theorem WN{α:Type}{of:List FM.V->Option α}{v:FM.V}{k:α->R}{z:FM.V×List (List FM.V)}(h:(SV of v k).get=AA z):∃l x,v=.agg l/\of l=AA x/\(k x).get=AA z:=by
 unfold SV at h;split at h
 .rename_i l;split at h
  .rename_i x hx;exact⟨l,x,rfl,hx,h⟩
  .simp[R.get]at h
 .simp[R.get]at h
theorem yH{v:FM.V}{k:Sp->R}{z:FM.V×List (List FM.V)}(h:(o6 v k).get=AA z):∃x:Sp,v=x.V/\(k x).get=AA z:=by
 obtain⟨l,x,rfl,hx,h⟩:=WN h;unfold spOf? at hx;split at hx
 .simp only[AK]at hx;subst hx;exact⟨_,rfl,h⟩
 .cases hx
theorem RN{v:FM.V}{k:Pt->R}{z:FM.V×List (List FM.V)}(h:(QT v k).get=AA z):∃x:Pt,v=x.V/\(k x).get=AA z:=by
 obtain⟨l,x,rfl,hx,h⟩:=WN h;unfold ptOf? at hx;split at hx
 .simp only[AK]at hx;subst hx;exact⟨_,rfl,h⟩
 .cases hx
theorem JJ{v:FM.V}{k:Bx->R}{z:FM.V×List (List FM.V)}(h:(JA v k).get=AA z):∃x:Bx,v=x.V/\(k x).get=AA z:=by
 obtain⟨l,x,rfl,hx,h⟩:=WN h;unfold bxOf? at hx;split at hx
 .simp only[AK]at hx;subst hx;exact⟨_,rfl,h⟩
 .cases hx
theorem II{v:FM.V}{k:Md->R}{z:FM.V×List (List FM.V)}(h:(H8 v k).get=AA z):∃x:Md,v=x.V/\(k x).get=AA z:=by
 obtain⟨l,x,rfl,hx,h⟩:=WN h;unfold mdOf? at hx;split at hx
 .simp only[AK]at hx;subst hx;exact⟨_,rfl,h⟩
 .cases hx
theorem JB{v:FM.V}{k:Qy->R}{z:FM.V×List (List FM.V)}(h:(I2 v k).get=AA z):∃x:Qy,v=x.V/\(k x).get=AA z:=by
 obtain⟨l,x,rfl,hx,h⟩:=WN h;unfold qyOf? at hx;split at hx
 .simp only[AK]at hx;subst hx;exact⟨_,rfl,h⟩
 .cases hx
theorem Vm{v:FM.V}{k:Vd->R}{z:FM.V×List (List FM.V)}(h:(yI v k).get=AA z):∃x:Vd,v=x.V/\(k x).get=AA z:=by
 obtain⟨l,x,rfl,hx,h⟩:=WN h;unfold vdOf? at hx;split at hx
 .simp only[AK]at hx;subst hx;exact⟨_,rfl,h⟩
 .cases hx
def Sp.emp(s:Sp):Bool:=AE (s.lo>s.hi)
def Sp.has(s:Sp)(n:Int):Bool:=AE (s.lo<=n)&&AE (n<=s.hi)
def KE(lo hi:Int):Sp:=cond (AE (lo>hi)) ⟨1,0⟩ ⟨lo,hi⟩
def Sp.cutL(s:Sp)(a:Int):Sp:=KE s.lo (min s.hi a)
def Sp.cutH(s:Sp)(a:Int):Sp:=cond (AE (a>=s.hi)) ⟨1,0⟩ (KE (max s.lo (D7 (a+1))) s.hi)
def XN:D4
 |[]=>.ok (.agg [.i 1,.i 0]) []
 |_=>.no
def gA:D4
 |[.i lo,.i hi]=>.ok (KE lo hi).V []
 |_=>.no
def XL:D4
 |[s]=>o6 s λs=>.ok (.bool (s.emp)) []
 |_=>.no
def XM:D4
 |[s,.i n]=>o6 s λs=>.ok (.bool (s.has n)) []
 |_=>.no
def kM:D4
 |[s,.i n]=>o6 s λs=>.ok (.tup [(s.cutL n).V,(s.cutH n).V]) []
 |_=>.no
def Bx.I(b:Bx):IV:=.agg [.int b.s0.lo,.int b.s0.hi,.int b.s1.lo,.int b.s1.hi,.int b.s2.lo,.int b.s2.hi,.int b.s3.lo,.int b.s3.hi,.int b.s4.lo,.int b.s4.hi]
abbrev cI(x:IV)(j:Nat):Int:=(x.cell j).toInt
def EG(x:IV):Bx:=⟨⟨cI x 0,cI x 1⟩,⟨cI x 2,cI x 3⟩,⟨cI x 4,cI x 5⟩,⟨cI x 6,cI x 7⟩,⟨cI x 8,cI x 9⟩⟩
abbrev ET:List Kd:=[.z,.z,.z,.z,.z,.z,.z,.z,.z,.z]
def Bx.emp(b:Bx):Bool:=b.s0.emp||(b.s1.emp||(b.s2.emp||(b.s3.emp||b.s4.emp)))
def aB:Bx:=⟨⟨0,0⟩,⟨0,0⟩,⟨0,0⟩,⟨0,0⟩,⟨0,0⟩⟩
def HC(i:Int):Bool:=AE (0<=i)&&AE (i<5)
def Bx.cutL(b:Bx)(i a:Int):Bx:=b.p ((b.g i.toNat).cutL a) i.toNat
def Bx.cutH(b:Bx)(i a:Int):Bx:=b.p ((b.g i.toNat).cutH a) i.toNat
def Pt.p(p:Pt)(x:Int):Nat->Pt
 |0=>⟨x,p.p1,p.p2,p.p3⟩
 |1=>⟨p.p0,x,p.p2,p.p3⟩
 |2=>⟨p.p0,p.p1,x,p.p3⟩
 |_=>⟨p.p0,p.p1,p.p2,x⟩
def Bx.low(b:Bx):Pt:=⟨b.s0.lo,b.s1.lo,b.s2.lo,b.s3.lo⟩
def Bx.has(b:Bx)(p:Pt)(t:Int):Bool:=b.s0.has p.p0&&(b.s1.has p.p1&&(b.s2.has p.p2&&(b.s3.has p.p3&&b.s4.has t)))
def LX:D4
 |[b]=>JA b λb=>.ok (.bool (b.emp)) []
 |_=>.no
def dK:D4
 |[b]=>JA b λb=>.ok b.low.V []
 |_=>.no
def dJ:D4
 |[b,p,.i t]=>JA b λb=>QT p λp=>.ok (.bool (b.has p t)) []
 |_=>.no
def QV:D4
 |[b,.i i,.i a]=>JA b λb=>.br (HC i) (.ok (.tup [(b.cutL i a).V,(b.cutH i a).V]) []) .no
 |_=>.no
def G5(l:LI)(p:Pt):Nat->Int->Int×Nd
 |0,_=>(-1,Nd.zero)
 |n+1,a=>
  cond (AE (a>=ic l.length)) (-1,Nd.zero)
   (cond (!(FQ (l.getD a.toNat default).toInt)) (-1,Nd.zero)
    (cond (DT (l.getD a.toNat default).toInt).lf (a,DT (l.getD a.toNat default).toInt)
     (cond (AE (p.g (DT (l.getD a.toNat default).toInt).f.toNat<=(DT (l.getD a.toNat default).toInt).a)) (G5 l p n (DT (l.getD a.toNat default).toInt).l) (G5 l p n (DT (l.getD a.toNat default).toInt).r))))
def YG(l:LI)(p:Pt):Int:=(G5 l p 31 0).1
def hZ(l:LI)(p:Pt):Nd:=(G5 l p 31 0).2
def gE:D4
 |[.list AD [.int .u64] l,p]=>QT p λp=>.ok (.tup [.i (YG l p),(hZ l p).V]) []
 |_=>.no
def GW(l:LI)(p:Pt):Int:=(hZ l p).v
def gD:D4
 |[.list AD [.int .u64] l,p]=>QT p λp=>.ok (.i (GW l p)) []
 |_=>.no
def L0(m:Md)(c:Int):Int:=cond (c==0) m.b0 (cond (c==1) m.b1 m.b2)
abbrev WE(t:IV):Int:=cI t 0
abbrev E3(t:IV):LI:=(t.cell 1).toList
def PA(c:Int)(p:Pt):LI->Int->Int
 |[],s=>s
 |t::r,s=>PA c p r (cond (WE t==c) (s+GW (E3 t) p) s)
def HQ(m:Md)(c:Int):Bool:=AE (0<=c)&&AE (c<m.c)
def fJ:D4
 |[m,.i k,p]=>H8 m λm=>QT p λp=>.br (EU m&&HQ m k) (.ok (.i (PA k p m.ts (L0 m k))) []) .no
 |_=>.no
def D1(m:Md)(k:Int)(p:Pt):Int:=cond (EU m&&HQ m k) (PA k p m.ts (L0 m k)) 0
def fH:D4
 |[m,.i k,p]=>H8 m λm=>QT p λp=>.ok (.i (D1 m k p)) []
 |_=>.no
def YK(x:Int):List Int->List Int
 |[]=>[x]
 |y::r=>cond (AE (x<=y)) (x::y::r) (y::YK x r)
def LV:List Int->List Int
 |[]=>[]
 |x::r=>YK x (LV r)
def KX:Int->List Int->List Int
 |_,[]=>[]
 |p,x::r=>cond (x==p) (KX x r) (x::KX x r)
def JS:List Int->List Int
 |[]=>[]
 |x::r=>x::KX x r
def JO(f:Int)(w:IV):List Int:=cond (!(DT w.toInt).lf&&(DT w.toInt).f==f) [(DT w.toInt).a] []
def I9(ts:LI)(f:Int):List Int:=ts.flatMap λt=>(E3 t).flatMap (JO f)
def JV(ts:LI)(f:Int):List Int:=JS (LV (I9 ts f))
def iZ(l:List Int):LI:=l.map IV.int
def fI:D4
 |[m,.i f]=>H8 m λm=>.br (EU m) (.ok (.vec 3 AD [.z] (iZ (JV m.ts f))) []) .no
 |_=>.no
def mC:Ip:=⟨3,AD,λrs l=>match rs with
 |[]=>AA (iZ (LV (l.map IV.toInt)))
 |_=>AB⟩
def mA:Ip:=⟨3,AC,λrs l=>match rs with
 |[]=>AA (iZ (JS (l.map IV.toInt)))
 |_=>AB⟩
def LN(a b:Int)(l:List Int):List Int:=l.filter λt=>!(AE (t<a)||decide (t>=b))
def mB:Ip:=⟨3,AC,λrs l=>match rs with
 |[.clo f [.bor [.i a,.i b]]]=>cond (B2 f 152) (AA (iZ (LN a b (l.map IV.toInt)))) AB
 |_=>AB⟩
def Qy.bx(q:Qy):Bx:=⟨⟨q.a0,q.b0⟩,⟨q.a1,q.b1⟩,⟨q.a2,q.b2⟩,⟨q.a3,q.b3⟩,⟨q.a4,q.b4⟩⟩
def H3(d i:Int)(s:Sp):Bool:=!(AE (i>=d)&&!((s.lo==0)&&(s.hi==0)))&&(!s.emp&&(E4 s.lo&&E4 s.hi))
def Q9(b:Bx)(d:Int):Bool:=H3 d 0 b.s0&&(H3 d 1 b.s1&&(H3 d 2 b.s2&&(H3 d 3 b.s3&&H3 d 4 b.s4)))
def fU:D4
 |[b,.i d]=>JA b λb=>.ok (.bool (Q9 b d)) []
 |_=>.no
def OF(m:Md)(q:Qy):Bool:=
 cond (q.k==1) (AE (q.lo<=q.hi)&&((q.ft==0)&&!q.fl))
  (cond (q.k==2) (AE (m.c>=2)&&((q.lo==0)&&((q.hi==0)&&((q.ft==0)&&!q.fl))))
   (cond (q.k==3) (AE (q.ft>=0)&&(AE (q.ft<m.d)&&((q.lo==0)&&(q.hi==0)))) AD))
def E8(m:Md)(q:Qy):Bool:=EU m&&(AE (q.c>=0)&&(AE (q.c<m.c)&&(AE (q.bu>=0)&&(AE (q.bu<=65536)&&(Q9 q.bx m.d&&OF m q)))))
def G1(q:Qy):Bool:=(q.k==3)&&(AE (q.ft>=0)&&AE (q.ft<4))
def FG(q:Qy):Bx:=q.bx.p (cond (G1 q) (q.bx.g q.ft.toNat) ⟨0,0⟩) 4
def H2(q:Qy)(p:Pt)(t:Int):Pt:=cond (G1 q) (p.p t q.ft.toNat) p
def Y4(m:Md)(q:Qy)(p:Pt)(own:Int):Bool:=(vaQ m.c.toNat).any λc=>!((c:Int)==q.c)&&AE (D1 m (c:Int) p>=own)
def GH(m:Md)(q:Qy)(p:Pt)(t:Int):Bool:=
 E8 m q&&
  cond (q.k==1) (!(Sp.has ⟨q.lo,q.hi⟩ (D1 m q.c p)))
   (cond (q.k==2) (Y4 m q p (D1 m q.c p))
    (cond (AE (p.g q.ft.toNat>=t)) AD
     (cond q.fl (AE (D1 m q.c (H2 q p t)>D1 m q.c p)) (AE (D1 m q.c (H2 q p t)<D1 m q.c p)))))
def QB(n:Nd)(i:Nat)(own:LI):LI:=
 cond n.lf own ((own.set n.l.toNat ((EG (own.getD i default)).cutL n.f n.a).I).set n.r.toNat ((EG (own.getD i default)).cutH n.f n.a).I)
def jC(b:Bx)(v:Int):IV:=.agg [.int b.s0.lo,.int b.s0.hi,.int b.s1.lo,.int b.s1.hi,.int b.s2.lo,.int b.s2.hi,.int b.s3.lo,.int b.s3.hi,.int b.s4.lo,.int b.s4.hi,.int v]
abbrev H7(x:IV):Int:=cI x 10
abbrev NN:List Kd:=[.z,.z,.z,.z,.z,.z,.z,.z,.z,.z,.z]
def PD:LI->Nat->LI->LI->LI
 |[],_,_,out=>out
 |w::r,i,own,out=>PD r (i+1) (QB (DT w.toInt) i own) (cond ((DT w.toInt).lf&&!(EG (own.getD i default)).emp) (out++[jC (EG (own.getD i default)) (DT w.toInt).v]) out)
def JF(l:LI)(b:Bx):LI:=cond (GP l 4&&!b.emp) (PD l 0 ((B6 l.length aB.I).set 0 b.I) []) []
def fG:D4
 |[.list AD [.int .u64] l,b]=>JA b λb=>.ok (.list AC NN (JF l b)) []
 |_=>.no
def QD:LI->Int->Int
 |[],a=>a
 |x::r,a=>QD r (min a (H7 x))
def QC:LI->Int->Int
 |[],a=>a
 |x::r,a=>QC r (max a (H7 x))
def jG(ps:LI):Int:=QD ps (H7 (ps.getD 0 default))
def jF(ps:LI):Int:=QC ps (H7 (ps.getD 0 default))
def ZD(l:LI)(b:Bx):Bool:=!((JF l b).isEmpty)
def IT(l:LI)(b:Bx):Int:=cond (ZD l b) (jG (JF l b)) 0
def IS(l:LI)(b:Bx):Int:=cond (ZD l b) (jF (JF l b)) 0
def dI:D4
 |[.list AD [.int .u64] l,b]=>JA b λb=>.ok (.tup [.i (IT l b),.i (IS l b),.bool (ZD l b)]) []
 |_=>.no
def JN(h:LI->Int)(c:Int):LI->Int->Int
 |[],s=>s
 |t::r,s=>JN h c r (cond (WE t==c) (s+h (E3 t)) s)
def HG(m:Md)(c:Int)(b:Bx):Bool:=EU m&&(HQ m c&&!b.emp)
def EK(m:Md)(c:Int)(b:Bx):Int:=cond (HG m c b) (JN (λl=>IT l b) c m.ts (L0 m c)) 0
def EI(m:Md)(c:Int)(b:Bx):Int:=cond (HG m c b) (JN (λl=>IS l b) c m.ts (L0 m c)) 0
def S6:D4
 |[m,.i k,b]=>H8 m λm=>JA b λb=>.ok (.tup [.i (EK m k b),.i (EI m k b),.bool (HG m k b)]) []
 |_=>.no
def SD(m:Md)(c lo:Int)(b:Bx):Nat->Int->Int->Bool->Int
 |0,_,a,_=>a
 |n+1,i,a,z=>cond (i==c) (SD m c lo b n (i+1) a z)
  (cond (!z||decide (lo-EI m i b<a)) (SD m c lo b n (i+1) (lo-EI m i b) AC) (SD m c lo b n (i+1) a z))
def NP(m:Md)(c:Int)(b:Bx):Bool:=HG m c b&&AE (m.c>=2)
def T3(m:Md)(c:Int)(b:Bx):Int:=cond (NP m c b) (SD m c (EK m c b) b m.c.toNat 0 0 AD) 0
def dH:D4
 |[m,.i k,b]=>H8 m λm=>JA b λb=>.ok (.tup [.i (T3 m k b),.bool (NP m k b)]) []
 |_=>.no
def KM(q:Qy)(b:Bx):Bx:=cond (G1 q) (b.p ⟨0,0⟩ 4) b
def KR(q:Qy)(b:Bx):Bx:=cond (G1 q) ((b.p b.s4 q.ft.toNat).p ⟨0,0⟩ 4) b
def OK(q:Qy)(b:Bx):Bool:=G1 q&&(!b.emp&&AE ((b.g q.ft.toNat).lo<b.s4.hi))
def KW(m:Md)(q:Qy)(b:Bx):Bool:=G1 q&&(HG m q.c (KM q b)&&HG m q.c (KR q b))
def Q0(m:Md)(q:Qy)(b:Bx):Int:=cond (KW m q b) (EK m q.c (KR q b)-EI m q.c (KM q b)) 0
def QZ(m:Md)(q:Qy)(b:Bx):Int:=cond (KW m q b) (EI m q.c (KR q b)-EK m q.c (KM q b)) 0
def G4(m:Md)(q:Qy)(b:Bx):Bool:=
 E8 m q&&
  cond b.emp AC
   (cond (q.k==1) (HG m q.c b&&(AE (q.lo<=EK m q.c b)&&AE (EI m q.c b<=q.hi)))
    (cond (q.k==2) (NP m q.c b&&AE (T3 m q.c b>0))
     (cond (!(OK q b)) AC
      (cond q.fl (KW m q b&&AE (QZ m q b<=0)) (KW m q b&&AE (Q0 m q b>=0))))))
def IA(q:Qy)(i:Int):Int:=cond (AE (i>=0)&&AE (i<4)) i (cond ((i==4)&&(q.k==3)) q.ft (-1))
def EM(m:Md)(q:Qy)(b:Bx)(i:Nat):List Int:=
 cond (AE (IA q (i:Int)<0)) [] (LN (b.g i).lo (b.g i).hi (JV m.ts (IA q (i:Int))))
def MC(m:Md)(q:Qy)(b:Bx):Nat->Nat->Option (Int×Int)
 |0,_=>AB
 |n+1,i=>cond (AE ((EM m q b i).length>0)) (AA ((i:Int),(EM m q b i).getD (((EM m q b i).length-1)/2) 0)) (MC m q b n (i+1))
def FI(m:Md)(q:Qy)(b:Bx):Option (Int×Int):=MC m q b 5 0
def fT:D4
 |[m,q]=>H8 m λm=>I2 q λq=>.ok (.bool (OF m q)) []
 |_=>.no
def NB:D4
 |[m,q]=>H8 m λm=>I2 q λq=>.ok (.bool (E8 m q)) []
 |_=>.no
def XK:D4
 |[q]=>I2 q λq=>.ok (.bool (G1 q)) []
 |_=>.no
def QX:D4
 |[q]=>I2 q λq=>.ok (.bool (G1 q)) []
 |_=>.no
def XJ:D4
 |[q]=>I2 q λq=>.ok (FG q).V []
 |_=>.no
def fS:D4
 |[q,p,.i t]=>I2 q λq=>QT p λp=>.ok (H2 q p t).V []
 |_=>.no
def XI:D4
 |[m,q,p,.i t]=>H8 m λm=>I2 q λq=>QT p λp=>.ok (.bool (GH m q p t)) []
 |_=>.no
def eR:D4
 |[q,b]=>I2 q λq=>JA b λb=>.ok (KM q b).V []
 |_=>.no
def eU:D4
 |[q,b]=>I2 q λq=>JA b λb=>.ok (KR q b).V []
 |_=>.no
def eT:D4
 |[q,b]=>I2 q λq=>JA b λb=>.ok (.bool (OK q b)) []
 |_=>.no
def eQ:D4
 |[m,q,b]=>H8 m λm=>I2 q λq=>JA b λb=>.ok (.tup [.i (Q0 m q b),.i (QZ m q b),.bool (KW m q b)]) []
 |_=>.no
def e9:D4
 |[m,q,b]=>H8 m λm=>I2 q λq=>JA b λb=>.ok (.bool (G4 m q b)) []
 |_=>.no
def fA:D4
 |[b]=>JA b λb=>.ok (.tup [b.low.V,.i b.s4.hi]) []
 |_=>.no
def fD:D4
 |[q,.i i]=>I2 q λq=>.ok (.i (IA q i)) []
 |_=>.no
def fC:D4
 |[m,q,b,.i i]=>H8 m λm=>I2 q λq=>JA b λb=>.br (EU m&&HC i) (.ok (.list AD [.z] (iZ (EM m q b i.toNat))) []) .no
 |_=>.no
def KT(o:Option (Int×Int)):Int:=match o with|none=>0|some (i,_)=>i
def JM(o:Option (Int×Int)):Int:=match o with|none=>0|some (_,a)=>a
def fB:D4
 |[m,q,b]=>H8 m λm=>I2 q λq=>JA b λb=>.br (EU m) (.ok (.tup [.i (KT (FI m q b)),.i (JM (FI m q b)),.bool (FI m q b).isSome]) []) .no
 |_=>.no
structure Sr where
 left:LI
 proof:LI
 v:Vd
 spent:Int
def OP(s:Bool)(p a:Int):IV:=.agg [.bool s,.int p,.int a]
def EC(l:LI):Bx:=EG (l.getD (l.length-1) default)
def F3(l:LI):LI:=l.take (l.length-1)
def GO(m:Md)(q:Qy)(s:Sr):Sr:=
 cond (G4 m q (EC s.left)) ⟨F3 s.left,s.proof++[OP AC 0 0],cond (ic (s.left.length-1)==0) ⟨1,s.proof++[OP AC 0 0],0,0,0,0,0,0⟩ s.v,s.spent+1⟩
  (cond (GH m q (EC s.left).low (EC s.left).s4.hi) ⟨F3 s.left,s.proof,⟨2,[],(EC s.left).s0.lo,(EC s.left).s1.lo,(EC s.left).s2.lo,(EC s.left).s3.lo,(EC s.left).s4.hi,0⟩,s.spent+1⟩
   (cond (FI m q (EC s.left)).isSome
    ⟨F3 s.left++[((EC s.left).cutH (KT (FI m q (EC s.left))) (JM (FI m q (EC s.left)))).I,((EC s.left).cutL (KT (FI m q (EC s.left))) (JM (FI m q (EC s.left)))).I],
     s.proof++[OP AD (KT (FI m q (EC s.left))) (JM (FI m q (EC s.left)))],s.v,s.spent+1⟩
    ⟨F3 s.left,s.proof,⟨3,[],0,0,0,0,0,0⟩,s.spent+1⟩))
def KQ(q:Qy)(s:Sr):Bool:=!(s.v.kind==0)||decide (s.spent>=q.bu)
def M1(m:Md)(q:Qy):Nat->Sr->Sr
 |0,s=>s
 |n+1,s=>cond (KQ q s) s (M1 m q n (GO m q s))
def VV(m:Md)(q:Qy):Sr:=cond (E8 m q) ⟨[(FG q).I],[],Vd.none,0⟩ ⟨[],[],⟨4,[],0,0,0,0,0,0⟩,0⟩
def HV(s:Sr):Vd:=⟨cond (s.v.kind==0) 3 s.v.kind,s.v.proof,s.v.w0,s.v.w1,s.v.w2,s.v.w3,s.v.twin,s.spent⟩
def IR(m:Md)(q:Qy):Vd:=HV (M1 m q (q.bu.toNat+1) (VV m q))
def GD(m:Md)(q:Qy)(r:List FM.V):List FM.V:=m.cs++(q.cs++r)
def seOf?(l:List FM.V):Option (Md×Qy×List FM.V):=
 match mdOf? (l.take 6),qyOf? ((l.drop 6).take 17)with
 |some m,AA q=>AA (m,q,(l.drop 6).drop 17)
 |_,_=>AB
abbrev sY(l:LI):FM.V:=.vec 37 AC ET l
abbrev um(l:LI):FM.V:=.vec 101 AC EO l
abbrev lU(l:LI):FM.V:=.list AC EO l
def cK(v:Vd)(vp:FM.V)(sp:Int):List FM.V:=[.i v.kind,vp,.i v.w0,.i v.w1,.i v.w2,.i v.w3,.i v.twin,.i v.spent,.i sp]
def QM(t:Nat)(m:Md)(q:Qy)(s:Sr):List FM.V:=
 GD m q (match t with
  |0=>sY s.left::um s.proof::cK s.v .zs s.spent
  |1=>sY s.left::.zs::cK s.v .zs s.spent
  |2=>sY s.left::lU s.proof::cK s.v (lU s.v.proof) s.spent
  |_=>.zs::.zs::cK s.v .zs s.spent)
def srT?:List FM.V->Option (Nat×Sr)
 |[.vec 37 AC [.z,.z,.z,.z,.z,.z,.z,.z,.z,.z] l,.vec 101 AC [.bool,.z,.z] p,.i k,.zs,.i a,.i b,.i c,.i d,.i t,.i vs,.i sp]=>AA (0,⟨l,p,⟨k,[],a,b,c,d,t,vs⟩,sp⟩)
 |[.vec 37 AC [.z,.z,.z,.z,.z,.z,.z,.z,.z,.z] l,.zs,.i k,.zs,.i a,.i b,.i c,.i d,.i t,.i vs,.i sp]=>AA (1,⟨l,[],⟨k,[],a,b,c,d,t,vs⟩,sp⟩)
 |[.vec 37 AC [.z,.z,.z,.z,.z,.z,.z,.z,.z,.z] l,.list AC [.bool,.z,.z] p,.i k,.list AC [.bool,.z,.z] vp,.i a,.i b,.i c,.i d,.i t,.i vs,.i sp]=>AA (2,⟨l,p,⟨k,vp,a,b,c,d,t,vs⟩,sp⟩)
 |[.zs,.zs,.i k,.zs,.i a,.i b,.i c,.i d,.i t,.i vs,.i sp]=>AA (3,⟨[],[],⟨k,[],a,b,c,d,t,vs⟩,sp⟩)
 |_=>AB
def o7(v:FM.V)(k:Nat->Md->Qy->Sr->R):R:=
 match v with
 |.bor l=>match seOf? l with
  |some (m,q,r)=>match srT? r with
   |some (t,s)=>k t m q s
   |none=>.no
  |none=>.no
 |_=>.no
def oP(m:Md)(q:Qy)(t:Nat)(s:Sr):Nat:=
 cond (G4 m q (EC s.left)) (cond (ic (s.left.length-1)==0) 2 0)
  (cond (GH m q (EC s.left).low (EC s.left).s4.hi) t (cond (FI m q (EC s.left)).isSome 0 t))
def fV:D4
 |[m,q]=>H8 m λm=>I2 q λq=>.br (E8 m q) (.ok (.bor (QM 1 m q ⟨[(FG q).I],[],Vd.none,0⟩)) []) (.ok (.bor (QM 3 m q ⟨[],[],⟨4,[],0,0,0,0,0,0⟩,0⟩)) [])
 |_=>.no
def fX:D4
 |[x]=>o7 x λt m q s=>
  .br (KQ q s) (.ok (.bool AD) [QM t m q s])
   (.br (CG t 1&&(E8 m q&&(AE (0<=s.spent)&&(BV 0 s.left.length&&(CG s.left.length 100000&&CG s.proof.length 100000)))))
    (.br (G4 m q (EC s.left)) (.br (ic (s.left.length-1)==0) (.ok (.bool AC) [QM 2 m q (GO m q s)]) (.ok (.bool AC) [QM 0 m q (GO m q s)]))
     (.br (GH m q (EC s.left).low (EC s.left).s4.hi) (.ok (.bool AC) [QM t m q (GO m q s)])
      (.br (FI m q (EC s.left)).isSome (.ok (.bool AC) [QM 0 m q (GO m q s)]) (.ok (.bool AC) [QM t m q (GO m q s)])))) .no)
 |_=>.no
def fY:D4
 |[x]=>o7 x λt m q s=>.br (CG s.v.proof.length 100000) (.ok (HV s).V [QM t m q s]) .no
 |_=>.no
def fW:D4
 |[m,q]=>H8 m λm=>I2 q λq=>.ok (IR m q).V []
 |_=>.no
def kK:D4
 |[.list AC [.bool,.z,.z] l]=>.br (CG l.length 100000) (.ok (.vec 101 AC EO l) []) .no
 |_=>.no
open Go Go.Proofs
def Yk(N:Nat):Env:=EE [] [] 2 N
theorem zaM(N:Nat):EA (Yk N) Cv [.cell 0 35] [[.z,.z]] []=(AA (.agg [.i 1,.i 0],[])):=AF
def Yl(N:Nat):Env:=EE [(220,XN)] [] 12 N
theorem zaN(N:Nat)(lo hi:Int):EA (Yl N) Cw [.cell 4 35] [[.z,.z]] [.i lo,.i hi]=(cond (AE (lo>hi)) (AA (.agg [.i 1,.i 0],[])) (AA (.agg [.i lo,.i hi],[]))):=AF
def Yi(N:Nat):Env:=EE [] [] 8 N
theorem zaK(N:Nat)(s:Sp):EA (Yi N) Ct [.tmp 2] [[.bool]] [(Sp.V s)]=(AA (.bool (AE (Sp.lo s>Sp.hi s)),[])):=AF
def Yj(N:Nat):Env:=EE [] [] 15 N
theorem zaL(N:Nat)(s:Sp)(n:Int):EA (Yj N) Cu [.tmp 4] [[.bool]] [(Sp.V s),.i n]=(cond (AE (Sp.lo s<=n)) (AA (.bool (AE (n<=Sp.hi s)),[])) (AA (.bool AD,[]))):=AF
def Yh(N:Nat):Env:=EE [(220,XN),(219,gA)] [] 29 N
theorem zaJ(N:Nat)(s:Sp)(atv:Int):EA (Yh N) Cs [.cell 4 35,.cell 5 35] [[.z,.z],[.z,.z]] [(Sp.V s),.i atv]=(cond (AE (atv>=Sp.hi s)) (AA (.tup [(Sp.V (KE (Sp.lo s) (min (Sp.hi s) atv))),.agg [.i 1,.i 0]],[])) (AA (.tup [(Sp.V (KE (Sp.lo s) (min (Sp.hi s) atv))),(Sp.V (KE (max (Sp.lo s) (AI AJ (atv+1))) (Sp.hi s)))],[]))):=AF
def LD(N:Nat):Env:=EE [(51,NA)] [(3,⟨[0,3,4,5,6,9],[3,5],[]⟩)] 46 N
abbrev M7(p:Pt)(l0:LI)(x4 x6 x9:Int)(u00:Bool)(u01 u02 u03 u04 u05:Int):St:=⟨[(0,(.list AD [.int .u64] l0)),(3,(.ptr 3 0 0)),(4,(.i x4)),(5,(.ptr 5 0 0)),(6,(.i x6)),(9,(.i x9))],[(3,(AA (.box (Pt.cs p)))),(5,(AA (.box [.bool u00,.i u01,.i u02,.i u03,.i u04,.i u05])))]⟩
theorem zaZ(N:Nat)(l:LI)(p:Pt):EA (LD N) O5 [.tmp 4,.cell 5 108] [[.z],[.bool,.z,.z,.z,.z,.z]] [.list AD [.int .u64] l,(Pt.V p)]=(D3 (LD N) (DS O5 [1,1,0,1,0,0]) ⟨[0,3,4,5,6,9],[3,5],[]⟩ N (M7 p l 0 0 0 AD 0 0 0 0 0) (DW 0 (DX (LD N) (DS O5 [1,1,1]) (D2 (LD N) AB [.tmp 4,.cell 5 108] [[.z],[.bool,.z,.z,.z,.z,.z]])))):=AF
theorem Tm(N:Nat)(p:Pt)(l0:LI)(x4 x6 x9:Int)(u00:Bool)(u01 u02 u03 u04 u05:Int)(again:St->DU)(k:Out->St->DU):EY (LD N) (DS O5 [1,1,0,1,0,0]) (M7 p l0 x4 x6 x9 u00 u01 u02 u03 u04 u05) (ES again ⟨[0,3,4,5,6,9],[3,5],[]⟩ k)=(cond (AE (x9<31)) (cond (AE (x6>=ic (AN l0))) (k (.exit 0) (M7 p l0 x4 x6 x9 u00 u01 u02 u03 u04 u05)) (cond (AE (0<=x6)&&AE (x6<ic (AN l0))) (cond (!FQ (IV.toInt (AR l0 (AM x6) default))) (k .ret (M7 p l0 (-1) x6 x9 AD 0 0 0 0 0)) (cond (Nd.lf (DT (IV.toInt (AR l0 (AM x6) default)))) (k .ret ⟨[(0,(.list AD [.int .u64] l0)),(3,(.ptr 3 0 0)),(4,(.i x6)),(5,(.ptr 5 0 0)),(6,(.i x6)),(9,(.i x9))],[(3,(AA (.box (Pt.cs p)))),(5,(AA (.box (Nd.cs (DT (IV.toInt (AR l0 (AM x6) default)))))))]⟩) (cond (AE (Nd.f (DT (IV.toInt (AR l0 (AM x6) default)))=ic 0)) (cond (AE (Pt.p0 p<=Nd.a (DT (IV.toInt (AR l0 (AM x6) default))))) (again (M7 p l0 x4 (Nd.l (DT (IV.toInt (AR l0 (AM x6) default)))) (AI AJ (x9+1)) u00 u01 u02 u03 u04 u05)) (again (M7 p l0 x4 (Nd.r (DT (IV.toInt (AR l0 (AM x6) default)))) (AI AJ (x9+1)) u00 u01 u02 u03 u04 u05))) (cond (AE (Nd.f (DT (IV.toInt (AR l0 (AM x6) default)))=ic 1)) (cond (AE (Pt.p1 p<=Nd.a (DT (IV.toInt (AR l0 (AM x6) default))))) (again (M7 p l0 x4 (Nd.l (DT (IV.toInt (AR l0 (AM x6) default)))) (AI AJ (x9+1)) u00 u01 u02 u03 u04 u05)) (again (M7 p l0 x4 (Nd.r (DT (IV.toInt (AR l0 (AM x6) default)))) (AI AJ (x9+1)) u00 u01 u02 u03 u04 u05))) (cond (AE (Nd.f (DT (IV.toInt (AR l0 (AM x6) default)))=ic 2)) (cond (AE (Pt.p2 p<=Nd.a (DT (IV.toInt (AR l0 (AM x6) default))))) (again (M7 p l0 x4 (Nd.l (DT (IV.toInt (AR l0 (AM x6) default)))) (AI AJ (x9+1)) u00 u01 u02 u03 u04 u05)) (again (M7 p l0 x4 (Nd.r (DT (IV.toInt (AR l0 (AM x6) default)))) (AI AJ (x9+1)) u00 u01 u02 u03 u04 u05))) (cond (AE (Nd.f (DT (IV.toInt (AR l0 (AM x6) default)))=ic 3)) (cond (AE (Pt.p3 p<=Nd.a (DT (IV.toInt (AR l0 (AM x6) default))))) (again (M7 p l0 x4 (Nd.l (DT (IV.toInt (AR l0 (AM x6) default)))) (AI AJ (x9+1)) u00 u01 u02 u03 u04 u05)) (again (M7 p l0 x4 (Nd.r (DT (IV.toInt (AR l0 (AM x6) default)))) (AI AJ (x9+1)) u00 u01 u02 u03 u04 u05))) AB)))))) AB)) (k (.exit 0) (M7 p l0 x4 x6 x9 u00 u01 u02 u03 u04 u05))):=AF
theorem Fs(N:Nat)(p:Pt)(l0:LI)(x4 x6 x9:Int)(u00:Bool)(u01 u02 u03 u04 u05:Int):(DW 0 (DX (LD N) (DS O5 [1,1,1]) (D2 (LD N) AB [.tmp 4,.cell 5 108] [[.z],[.bool,.z,.z,.z,.z,.z]]))) (.exit 0) (M7 p l0 x4 x6 x9 u00 u01 u02 u03 u04 u05)=(AA (.tup [.i (-1),.agg [.bool AD,.i 0,.i 0,.i 0,.i 0,.i 0]],[])):=AF
theorem lc(N:Nat)(p:Pt)(l0:LI)(x4 x6 x9:Int)(u00:Bool)(u01 u02 u03 u04 u05:Int):(DW 0 (DX (LD N) (DS O5 [1,1,1]) (D2 (LD N) AB [.tmp 4,.cell 5 108] [[.z],[.bool,.z,.z,.z,.z,.z]]))) .ret (M7 p l0 x4 x6 x9 u00 u01 u02 u03 u04 u05)=(AA (.tup [.i x4,.agg [.bool u00,.i u01,.i u02,.i u03,.i u04,.i u05]],[])):=AF
def Yt(N:Nat):Env:=EE [(248,gE)] [] 15 N
theorem zaY(N:Nat)(l:LI)(p:Pt):EA (Yt N) De [.tmp 4] [[.z]] [.list AD [.int .u64] l,(Pt.V p)]=(AA (.i (Nd.v (hZ l p)),[])):=AF
def MI(N:Nat):Env:=EE [(221,gD)] [(3,⟨[1,5,6,7,15,16,17],[5],[]⟩)] 33 N
abbrev US(p:Pt)(x1 x6 x7:Int)(l15:LI)(x16 x17:Int):St:=⟨[(1,(.i x1)),(5,(.ptr 5 0 0)),(6,(.i x6)),(7,(.i x7)),(15,(.list AC G7 l15)),(16,(.i x16)),(17,(.i x17))],[(5,(AA (.box (Pt.cs p))))]⟩
theorem zai(N:Nat)(m:Md)(u00:Int)(p:Pt):EA (MI N) P4 [.tmp 6] [[.z]] [(Md.V m),.i u00,(Pt.V p)]=(cond (AE (u00=ic 0)) (D3 (MI N) (DS P4 [1,1,0,1,0,0]) ⟨[1,5,6,7,15,16,17],[5],[]⟩ N (US p u00 0 (Md.b0 m) (Md.ts m) (ic (AN (Md.ts m))) 0) (DW 0 (DX (MI N) (DS P4 [1,1,1]) (D2 (MI N) AB [.tmp 6] [[.z]])))) (cond (AE (u00=ic 1)) (D3 (MI N) (DS P4 [1,1,0,1,0,0]) ⟨[1,5,6,7,15,16,17],[5],[]⟩ N (US p u00 0 (Md.b1 m) (Md.ts m) (ic (AN (Md.ts m))) 0) (DW 0 (DX (MI N) (DS P4 [1,1,1]) (D2 (MI N) AB [.tmp 6] [[.z]])))) (cond (AE (u00=ic 2)) (D3 (MI N) (DS P4 [1,1,0,1,0,0]) ⟨[1,5,6,7,15,16,17],[5],[]⟩ N (US p u00 0 (Md.b2 m) (Md.ts m) (ic (AN (Md.ts m))) 0) (DW 0 (DX (MI N) (DS P4 [1,1,1]) (D2 (MI N) AB [.tmp 6] [[.z]])))) AB))):=AF
theorem Ss(N:Nat)(p:Pt)(x1 x6 x7:Int)(l15:LI)(x16 x17:Int)(again:St->DU)(k:Out->St->DU):EY (MI N) (DS P4 [1,1,0,1,0,0]) (US p x1 x6 x7 l15 x16 x17) (ES again ⟨[1,5,6,7,15,16,17],[5],[]⟩ k)=(cond (AE (x17<x16)) (cond (AE (0<=x17)&&AE (x17<ic (AN l15))) (cond (IV.toInt (IV.cell (AR l15 (AM x17) default) 0)==x1) (again (US p x1 x6 (AI AJ (x7+GW (IV.toList (IV.cell (AR l15 (AM x17) default) 1)) p)) l15 x16 (AI AJ (x17+1)))) (again (US p x1 x6 x7 l15 x16 (AI AJ (x17+1))))) AB) (k (.exit 0) (US p x1 x6 x7 l15 x16 x17))):=AF
theorem jm(N:Nat)(p:Pt)(x1 x6 x7:Int)(l15:LI)(x16 x17:Int):(DW 0 (DX (MI N) (DS P4 [1,1,1]) (D2 (MI N) AB [.tmp 6] [[.z]]))) (.exit 0) (US p x1 x6 x7 l15 x16 x17)=(AA (.i x7,[])):=AF
def Xq(N:Nat):Env:=EE [(49,M9),(182,fJ)] [] 24 N
theorem zae(N:Nat)(m:Md)(u00:Int)(p:Pt):EA (Xq N) Cb [.tmp 6] [[.z]] [(Md.V m),.i u00,(Pt.V p)]=(cond (!EU m) (AA (.i 0,[])) (cond (AE (u00<0)) (AA (.i 0,[])) (cond (AE (u00>=Md.c m)) (AA (.i 0,[])) (cond (EU m&&HQ m u00) (AA (.i (PA u00 p (Md.ts m) (L0 m u00)),[])) AB)))):=AF
def Wh(N:Nat):Env:=EE [(191,XL)] [(2,⟨[2,5,6],[],[]⟩)] 12 N
def Wj(N:Nat):Env:=EE [] [(3,⟨[1,2,3,5],[1,2,3],[]⟩)] 16 N
open Go Go.Proofs
def OW(N:Nat):Env:=nA [(49,M9),(51,NA)] [(195,mA),(194,mC)] [(5,⟨[1,4,5,16,17,18],[500],[⟨.tmp 5,500,3,AD,[.z]⟩]⟩),(8,⟨[1,4,5,16,17,18,23,24,25],[500],[⟨.tmp 5,500,3,AD,[.z]⟩]⟩)] 54 N
abbrev cY(x1:Int)(n5:Nat)(l16:LI)(x17 x18:Int)(u00:LI):St:=⟨[(1,(.i x1)),(4,.zs),(5,(.row 500 0 n5)),(16,(.list AC G7 l16)),(17,(.i x17)),(18,(.i x18))],[(500,(AA (.row AC 3 AD [.z] u00)))]⟩
abbrev WV(x1:Int)(n5:Nat)(l16:LI)(x17 x18:Int)(l23:LI)(x24 x25:Int)(u00:LI):St:=⟨[(1,(.i x1)),(4,.zs),(5,(.row 500 0 n5)),(16,(.list AC G7 l16)),(17,(.i x17)),(18,(.i x18)),(23,(.list AD [.int .u64] l23)),(24,(.i x24)),(25,(.i x25))],[(500,(AA (.row AC 3 AD [.z] u00)))]⟩
theorem zah(N:Nat)(m:Md)(u00:Int):EA (OW N) P3 [.tmp 4] [] [(Md.V m),.i u00]=(cond (!EU m) (AA (.any,[])) (D3 (OW N) (DS P3 [1,1,1,0,1,0,0]) ⟨[1,4,5,16,17,18],[500],[⟨(.tmp 5),500,3,AD,[.z]⟩]⟩ N (cY u00 0 (Md.ts m) (ic (AN (Md.ts m))) 0 []) (DW 0 (DX (OW N) (DS P3 [1,1,1,1]) (D2 (OW N) AB [.tmp 4] []))))):=AF
theorem So(N:Nat)(x1:Int)(n5:Nat)(l16:LI)(x17 x18:Int)(u00:LI)(again:St->DU)(k:Out->St->DU):EY (OW N) (DS P3 [1,1,1,0,1,0,0]) (cY x1 n5 l16 x17 x18 u00) (ES again ⟨[1,4,5,16,17,18],[500],[⟨(.tmp 5),500,3,AD,[.z]⟩]⟩ k)=(cond (AE (x18<x17)) (cond (AE (0<=x18)&&AE (x18<ic (AN l16))) (D3 (OW N) (DS P3 [1,1,1,0,1,0,0,1,1,0,0,1,1,0,0]) ⟨[1,4,5,16,17,18,23,24,25],[500],[⟨(.tmp 5),500,3,AD,[.z]⟩]⟩ N (WV x1 n5 l16 x17 x18 (IV.toList (IV.cell (AR l16 (AM x18) default) 1)) (ic (AN (IV.toList (IV.cell (AR l16 (AM x18) default) 1)))) 0 u00) (DW 2 (DW 1 (DX (OW N) (DS P3 [1,1,1,0,1,0,0,1,1,1]) (ES again ⟨[1,4,5,16,17,18],[500],[⟨(.tmp 5),500,3,AD,[.z]⟩]⟩ k))))) AB) (k (.exit 0) (cY x1 n5 l16 x17 x18 u00))):=AF
theorem Sq(N:Nat)(x1:Int)(n5:Nat)(l16:LI)(x17 x18:Int)(l23:LI)(x24 x25:Int)(u00:LI)(again:St->DU)(k:Out->St->DU):EY (OW N) (DS P3 [1,1,1,0,1,0,0,1,1,0,0,1,1,0,0]) (WV x1 n5 l16 x17 x18 l23 x24 x25 u00) (ES again ⟨[1,4,5,16,17,18,23,24,25],[500],[⟨(.tmp 5),500,3,AD,[.z]⟩]⟩ k)=(cond (AE (x25<x24)) (cond (AE (0<=x25)&&AE (x25<ic (AN l23))) (cond (!Nd.lf (DT (IV.toInt (AR l23 (AM x25) default)))) (cond (Nd.f (DT (IV.toInt (AR l23 (AM x25) default)))==x1) (cond (AE ((n5+1)*8<=EL)) (again (WV x1 (n5+1) l16 x17 x18 l23 x24 (AI AJ (x25+1)) (AU n5 u00++[IV.int (Nd.a (DT (IV.toInt (AR l23 (AM x25) default))))]))) AB) (again (WV x1 n5 l16 x17 x18 l23 x24 (AI AJ (x25+1)) u00))) (again (WV x1 n5 l16 x17 x18 l23 x24 (AI AJ (x25+1)) u00))) AB) (k (.exit 2) (WV x1 n5 l16 x17 x18 l23 x24 x25 u00))):=AF
theorem jk(N:Nat)(x1:Int)(n5:Nat)(l16:LI)(x17 x18:Int)(u00:LI):(DW 0 (DX (OW N) (DS P3 [1,1,1,1]) (D2 (OW N) AB [.tmp 4] []))) (.exit 0) (cY x1 n5 l16 x17 x18 u00)=(cond (B2 n5 (AN u00)) (cond (B2 (AN (iZ (LV (BG IV.toInt u00)))) (AN u00)) (cond (B2 n5 (AN (iZ (LV (BG IV.toInt u00))))) (cond (CG (AN (iZ (JS (BG IV.toInt (iZ (LV (BG IV.toInt u00))))))) (AN (iZ (LV (BG IV.toInt u00))))) (AA (.vec 3 AD [.z] (AU (AN (iZ (JS (BG IV.toInt (iZ (LV (BG IV.toInt u00))))))) (iZ (JS (BG IV.toInt (iZ (LV (BG IV.toInt u00))))))),[])) AB) AB) AB) AB):=AF
theorem jl(N:Nat)(again:St->DU)(k:Out->St->DU)(x1:Int)(n5:Nat)(l16:LI)(x17 x18:Int)(l23:LI)(x24 x25:Int)(u00:LI):(DW 2 (DW 1 (DX (OW N) (DS P3 [1,1,1,0,1,0,0,1,1,1]) (ES again ⟨[1,4,5,16,17,18],[500],[⟨(.tmp 5),500,3,AD,[.z]⟩]⟩ k)))) (.exit 2) (WV x1 n5 l16 x17 x18 l23 x24 x25 u00)=(again (cY x1 n5 l16 x17 (AI AJ (x18+1)) u00)):=AF
def Xn(N:Nat):Env:=EE [] [] 23 N
theorem zz(N:Nat)(q:Qy)(u00:Int):EA (Xn N) Bw [.tmp 4] [[.z]] [(Qy.V q),.i u00]=(cond (AE (u00>=0)) (cond (AE (u00<4)) (AA (.i u00,[])) (cond (u00==4) (cond (Qy.k q==3) (AA (.i (Qy.ft q),[])) (AA (.i (-1),[]))) (AA (.i (-1),[])))) (cond (u00==4) (cond (Qy.k q==3) (AA (.i (Qy.ft q),[])) (AA (.i (-1),[]))) (AA (.i (-1),[])))):=AF
def yT(N:Nat):Env:=nA [(149,fD),(151,fI)] [(150,mB)] [] 24 N
def Yc(N:Nat):Env:=EE [] [] 71 N
theorem zaw(N:Nat)(m:Md)(a1:Qy):EA (Yc N) Cn [.tmp 4] [[.bool]] [(Md.V m),(Qy.V a1)]=(cond (Qy.k a1==1) (cond (AE (Qy.lo a1<=Qy.hi a1)) (cond (Qy.ft a1==0) (AA (.bool (!Qy.fl a1),[])) (AA (.bool AD,[]))) (AA (.bool AD,[]))) (cond (Qy.k a1==2) (cond (AE (Md.c m>=2)) (cond (Qy.lo a1==0) (cond (Qy.hi a1==0) (cond (Qy.ft a1==0) (AA (.bool (!Qy.fl a1),[])) (AA (.bool AD,[]))) (AA (.bool AD,[]))) (AA (.bool AD,[]))) (AA (.bool AD,[]))) (cond (Qy.k a1==3) (cond (AE (Qy.ft a1>=0)) (cond (AE (Qy.ft a1<Md.d m)) (cond (Qy.lo a1==0) (AA (.bool (Qy.hi a1==0),[])) (AA (.bool AD,[]))) (AA (.bool AD,[]))) (AA (.bool AD,[]))) (AA (.bool AD,[]))))):=AF
def Xz(N:Nat):Env:=EE [(49,M9),(147,fT),(146,fU)] [] 41 N
theorem zat(N:Nat)(m:Md)(q:Qy):EA (Xz N) Ck [.tmp 4] [[.bool]] [(Md.V m),(Qy.V q)]=(cond (EU m) (cond (AE (Qy.c q>=0)) (cond (AE (Qy.c q<Md.c m)) (cond (AE (Qy.bu q>=0)) (cond (AE (Qy.bu q<=65536)) (cond (Q9 {s0:={lo:=Qy.a0 q,hi:=Qy.b0 q},s1:={lo:=Qy.a1 q,hi:=Qy.b1 q},s2:={lo:=Qy.a2 q,hi:=Qy.b2 q},s3:={lo:=Qy.a3 q,hi:=Qy.b3 q},s4:={lo:=Qy.a4 q,hi:=Qy.b4 q}} (Md.d m)) (AA (.bool (OF m q),[])) (AA (.bool AD,[]))) (AA (.bool AD,[]))) (AA (.bool AD,[]))) (AA (.bool AD,[]))) (AA (.bool AD,[]))) (AA (.bool AD,[]))):=AF
def Yd(N:Nat):Env:=EE [] [] 16 N
theorem zax(N:Nat)(q:Qy):EA (Yd N) Co [.tmp 2] [[.bool]] [(Qy.V q)]=(cond (Qy.k q==3) (cond (AE (Qy.ft q>=0)) (AA (.bool (AE (Qy.ft q<4)),[])) (AA (.bool AD,[]))) (AA (.bool AD,[]))):=AF
def Yb(N:Nat):Env:=EE [(97,XK)] [] 16 N
theorem zav(N:Nat)(q:Qy):EA (Yb N) Cm [.cell 2 37] [[.z,.z,.z,.z,.z,.z,.z,.z,.z,.z]] [(Qy.V q)]=(cond (G1 q) (cond (AE (Qy.ft q=ic 0)) (AA (.agg [.i (Qy.a0 q),.i (Qy.b0 q),.i (Qy.a1 q),.i (Qy.b1 q),.i (Qy.a2 q),.i (Qy.b2 q),.i (Qy.a3 q),.i (Qy.b3 q),.i (Qy.a0 q),.i (Qy.b0 q)],[])) (cond (AE (Qy.ft q=ic 1)) (AA (.agg [.i (Qy.a0 q),.i (Qy.b0 q),.i (Qy.a1 q),.i (Qy.b1 q),.i (Qy.a2 q),.i (Qy.b2 q),.i (Qy.a3 q),.i (Qy.b3 q),.i (Qy.a1 q),.i (Qy.b1 q)],[])) (cond (AE (Qy.ft q=ic 2)) (AA (.agg [.i (Qy.a0 q),.i (Qy.b0 q),.i (Qy.a1 q),.i (Qy.b1 q),.i (Qy.a2 q),.i (Qy.b2 q),.i (Qy.a3 q),.i (Qy.b3 q),.i (Qy.a2 q),.i (Qy.b2 q)],[])) (cond (AE (Qy.ft q=ic 3)) (AA (.agg [.i (Qy.a0 q),.i (Qy.b0 q),.i (Qy.a1 q),.i (Qy.b1 q),.i (Qy.a2 q),.i (Qy.b2 q),.i (Qy.a3 q),.i (Qy.b3 q),.i (Qy.a3 q),.i (Qy.b3 q)],[])) (cond (AE (Qy.ft q=ic 4)) (AA (.agg [.i (Qy.a0 q),.i (Qy.b0 q),.i (Qy.a1 q),.i (Qy.b1 q),.i (Qy.a2 q),.i (Qy.b2 q),.i (Qy.a3 q),.i (Qy.b3 q),.i 0,.i 0],[])) AB))))) (AA (.agg [.i (Qy.a0 q),.i (Qy.b0 q),.i (Qy.a1 q),.i (Qy.b1 q),.i (Qy.a2 q),.i (Qy.b2 q),.i (Qy.a3 q),.i (Qy.b3 q),.i 0,.i 0],[]))):=AF
def Ya(N:Nat):Env:=EE [(97,XK)] [] 14 N
theorem zau(N:Nat)(q:Qy)(p:Pt)(twin:Int):EA (Ya N) Cl [.cell 6 48] [[.z,.z,.z,.z]] [(Qy.V q),(Pt.V p),.i twin]=(cond (G1 q) (cond (AE (Qy.ft q=ic 0)) (AA (.agg [.i twin,.i (Pt.p1 p),.i (Pt.p2 p),.i (Pt.p3 p)],[])) (cond (AE (Qy.ft q=ic 1)) (AA (.agg [.i (Pt.p0 p),.i twin,.i (Pt.p2 p),.i (Pt.p3 p)],[])) (cond (AE (Qy.ft q=ic 2)) (AA (.agg [.i (Pt.p0 p),.i (Pt.p1 p),.i twin,.i (Pt.p3 p)],[])) (cond (AE (Qy.ft q=ic 3)) (AA (.agg [.i (Pt.p0 p),.i (Pt.p1 p),.i (Pt.p2 p),.i twin],[])) AB)))) (AA ((Pt.V p),[]))):=AF
def MJ(N:Nat):Env:=EE [(126,fH),(93,NB),(128,fS),(127,XM)] [(9,⟨[4,5,6,8,9,36,37],[4,5,6],[]⟩)] 75 N
abbrev UT(m:Md)(a1:Qy)(a2:Pt)(b8:Bool)(x9 x36 x37:Int):St:=⟨[(4,(.ptr 4 0 0)),(5,(.ptr 5 0 0)),(6,(.ptr 6 0 0)),(8,(.bool b8)),(9,(.i x9)),(36,(.i x36)),(37,(.i x37))],[(4,(AA (.box (Md.cs m)))),(5,(AA (.box (Qy.cs a1)))),(6,(AA (.box (Pt.cs a2))))]⟩
theorem zas(N:Nat)(m:Md)(a1:Qy)(a2:Pt)(a3:Int):EA (MJ N) O4 [.tmp 8] [[.bool]] [(Md.V m),(Qy.V a1),(Pt.V a2),.i a3]=(cond (!E8 m a1) (AA (.bool AD,[])) (cond (Qy.k a1==1) (AA ((.bool (!Sp.has {lo:=Qy.lo a1,hi:=Qy.hi a1} (D1 m (Qy.c a1) a2))),[])) (cond (Qy.k a1==2) (D3 (MJ N) (DS O4 [1,1,1,0,1,0,1,1,1,0,0,1,0,0]) ⟨[4,5,6,8,9,36,37],[4,5,6],[]⟩ N (UT m a1 a2 AD (D1 m (Qy.c a1) a2) (Md.c m) 0) (DW 1 (DX (MJ N) (DS O4 [1,1,1,0,1,0,1,1,1,0,1]) (DW 0 (DX (MJ N) (DS O4 [1,1,1,1]) (D2 (MJ N) AB [.tmp 8] [[.bool]])))))) (cond (AE (Qy.ft a1=ic 0)) (cond (AE (Pt.p0 a2>=a3)) (AA (.bool AD,[])) (cond (Qy.fl a1) (AA (.bool (AE (D1 m (Qy.c a1) (H2 a1 a2 a3)>D1 m (Qy.c a1) a2)),[])) (AA (.bool (AE (D1 m (Qy.c a1) (H2 a1 a2 a3)<D1 m (Qy.c a1) a2)),[])))) (cond (AE (Qy.ft a1=ic 1)) (cond (AE (Pt.p1 a2>=a3)) (AA (.bool AD,[])) (cond (Qy.fl a1) (AA (.bool (AE (D1 m (Qy.c a1) (H2 a1 a2 a3)>D1 m (Qy.c a1) a2)),[])) (AA (.bool (AE (D1 m (Qy.c a1) (H2 a1 a2 a3)<D1 m (Qy.c a1) a2)),[])))) (cond (AE (Qy.ft a1=ic 2)) (cond (AE (Pt.p2 a2>=a3)) (AA (.bool AD,[])) (cond (Qy.fl a1) (AA (.bool (AE (D1 m (Qy.c a1) (H2 a1 a2 a3)>D1 m (Qy.c a1) a2)),[])) (AA (.bool (AE (D1 m (Qy.c a1) (H2 a1 a2 a3)<D1 m (Qy.c a1) a2)),[])))) (cond (AE (Qy.ft a1=ic 3)) (cond (AE (Pt.p3 a2>=a3)) (AA (.bool AD,[])) (cond (Qy.fl a1) (AA (.bool (AE (D1 m (Qy.c a1) (H2 a1 a2 a3)>D1 m (Qy.c a1) a2)),[])) (AA (.bool (AE (D1 m (Qy.c a1) (H2 a1 a2 a3)<D1 m (Qy.c a1) a2)),[])))) AB))))))):=AF
theorem Sw(N:Nat)(m:Md)(a1:Qy)(a2:Pt)(b8:Bool)(x9 x36 x37:Int)(again:St->DU)(k:Out->St->DU):EY (MJ N) (DS O4 [1,1,1,0,1,0,1,1,1,0,0,1,0,0]) (UT m a1 a2 b8 x9 x36 x37) (ES again ⟨[4,5,6,8,9,36,37],[4,5,6],[]⟩ k)=(cond (AE (x37<x36)) (cond (x37 !=Qy.c a1) (cond (AE (D1 m x37 a2>=x9)) (k .ret (UT m a1 a2 AC x9 x36 x37)) (again (UT m a1 a2 b8 x9 x36 (AI AJ (x37+1))))) (again (UT m a1 a2 b8 x9 x36 (AI AJ (x37+1))))) (k (.exit 1) (UT m a1 a2 b8 x9 x36 x37))):=AF
theorem jq(N:Nat)(m:Md)(a1:Qy)(a2:Pt)(b8:Bool)(x9 x36 x37:Int):(DW 1 (DX (MJ N) (DS O4 [1,1,1,0,1,0,1,1,1,0,1]) (DW 0 (DX (MJ N) (DS O4 [1,1,1,1]) (D2 (MJ N) AB [.tmp 8] [[.bool]]))))) (.exit 1) (UT m a1 a2 b8 x9 x36 x37)=(AA (.bool AD,[])):=AF
theorem jr(N:Nat)(m:Md)(a1:Qy)(a2:Pt)(b8:Bool)(x9 x36 x37:Int):(DW 1 (DX (MJ N) (DS O4 [1,1,1,0,1,0,1,1,1,0,1]) (DW 0 (DX (MJ N) (DS O4 [1,1,1,1]) (D2 (MJ N) AB [.tmp 8] [[.bool]]))))) .ret (UT m a1 a2 b8 x9 x36 x37)=(AA (.bool b8,[])):=AF
def Ye(N:Nat):Env:=EE [(106,S4),(191,XL)] [(2,⟨[1,4,7,8],[],[]⟩)] 35 N
open Go Go.Proofs
def RX(N:Nat):Env:=EE [(124,QV),(174,LX),(51,NA),(109,XT)] [(7,⟨[4,5,6,24,25,26],[20,500],[⟨.tmp 6,500,264,AC,[.z,.z,.z,.z,.z,.z,.z,.z,.z,.z,.z]⟩]⟩)] 79 N
abbrev WU(n5 n6:Nat)(l24:LI)(x25 x26:Int)(lo20 u00:LI):St:=⟨[(4,.zs),(5,(.row 20 0 n5)),(6,(.row 500 0 n6)),(24,(.list AD [.int .u64] l24)),(25,(.i x25)),(26,(.i x26))],[(20,(AA (.row AC 37 AC ET lo20))),(500,(AA (.row AC 264 AC NN u00)))]⟩
theorem zad(N:Nat)(l:LI)(a1:Bx):EA (RX N) VI [.tmp 4] [[.list AC [.z,.z,.z,.z,.z,.z,.z,.z,.z,.z,.z]]] [.list AD [.int .u64] l,(Bx.V a1)]=(cond (!GP l 4) (AA (.list AC NN [],[])) (cond (Bx.emp a1) (AA (.list AC NN [],[])) (cond (AC&&(AC&&AE (0<=ic (AN l)))&&(AE (ic (AN l)=ic (AN l))&&AE (ic (AN l)*ic 80<=ic EL))) (cond (AE (0<=0)&&AE (0<ic (AM (ic (AN l))-0))) (D3 (RX N) (DS VI [1,1,1,1,1,0,1,0,0]) ⟨[4,5,6,24,25,26],[20,500],[⟨(.tmp 6),500,264,AC,NN⟩]⟩ N (WU (AM (ic (AN l))) 0 l (ic (AN l)) 0 (List.set (B6 (AM (ic (AN l))) (IV.agg [IV.int 0,IV.int 0,IV.int 0,IV.int 0,IV.int 0,IV.int 0,IV.int 0,IV.int 0,IV.int 0,IV.int 0])) 0 (Bx.I a1)) []) (DW 0 (DX (RX N) (DS VI [1,1,1,1,1,1]) (D2 (RX N) AB [.tmp 4] [[.list AC NN]])))) AB) AB))):=AF
theorem Sm(N n5 n6:Nat)(l24:LI)(x25 x26:Int)(lo20 u00:LI)(again:St->DU)(k:Out->St->DU):EY (RX N) (DS VI [1,1,1,1,1,0,1,0,0]) (WU n5 n6 l24 x25 x26 lo20 u00) (ES again ⟨[4,5,6,24,25,26],[20,500],[⟨(.tmp 6),500,264,AC,NN⟩]⟩ k)=(cond (AE (x26<x25)) (cond (AE (0<=x26)&&AE (x26<ic (AN l24))) (cond (!Nd.lf (DT (IV.toInt (AR l24 (AM x26) default)))) (cond (AE (0<=x26)&&AE (x26<ic (n5-0))) (cond (HC (Nd.f (DT (IV.toInt (AR l24 (AM x26) default))))) (cond (AE (0<=Nd.l (DT (IV.toInt (AR l24 (AM x26) default))))&&AE (Nd.l (DT (IV.toInt (AR l24 (AM x26) default)))<ic (n5-0))) (cond (AE (0<=Nd.r (DT (IV.toInt (AR l24 (AM x26) default))))&&AE (Nd.r (DT (IV.toInt (AR l24 (AM x26) default)))<ic (n5-0))) (again (WU n5 n6 l24 x25 (AI AJ (x26+1)) (List.set (List.set lo20 (0+AM (Nd.l (DT (IV.toInt (AR l24 (AM x26) default))))) (Bx.I (Bx.cutL (EG (AR lo20 (0+AM x26) default)) (Nd.f (DT (IV.toInt (AR l24 (AM x26) default)))) (Nd.a (DT (IV.toInt (AR l24 (AM x26) default))))))) (0+AM (Nd.r (DT (IV.toInt (AR l24 (AM x26) default))))) (Bx.I (Bx.cutH (EG (AR lo20 (0+AM x26) default)) (Nd.f (DT (IV.toInt (AR l24 (AM x26) default)))) (Nd.a (DT (IV.toInt (AR l24 (AM x26) default))))))) u00)) AB) AB) AB) AB) (cond (AE (0<=x26)&&AE (x26<ic (n5-0))) (cond (!Bx.emp (EG (AR lo20 (0+AM x26) default))) (cond (AE (0<=x26)&&AE (x26<ic (n5-0))) (cond (AE ((n6+1)*88<=EL)) (again (WU n5 (n6+1) l24 x25 (AI AJ (x26+1)) lo20 (AU n6 u00++[(jC (EG (AR lo20 (0+AM x26) default)) (Nd.v (DT (IV.toInt (AR l24 (AM x26) default)))))]))) AB) AB) (again (WU n5 n6 l24 x25 (AI AJ (x26+1)) lo20 u00))) AB)) AB) (k (.exit 0) (WU n5 n6 l24 x25 x26 lo20 u00))):=AF
theorem jh(N n5 n6:Nat)(l24:LI)(x25 x26:Int)(lo20 u00:LI):(DW 0 (DX (RX N) (DS VI [1,1,1,1,1,1]) (D2 (RX N) AB [.tmp 4] [[.list AC NN]]))) (.exit 0) (WU n5 n6 l24 x25 x26 lo20 u00)=(AA (.list AC NN (A3 0 (AU n6 u00)),[])):=AF
def RV(N:Nat):Env:=EE [(264,fG)] [(6,⟨[4,5,6,8,9,26,27,28],[],[]⟩)] 43 N
abbrev cV(x4 x5:Int)(b6:Bool)(x8 x9:Int)(l26:LI)(x27 x28:Int):St:=⟨[(4,(.i x4)),(5,(.i x5)),(6,(.bool b6)),(8,(.i x8)),(9,(.i x9)),(26,(.list AC NN l26)),(27,(.i x27)),(28,(.i x28))],[]⟩
theorem xi(N:Nat)(l:LI)(b:Bx):EA (RV N) VE [.tmp 4,.tmp 5,.tmp 6] [[.z],[.z],[.bool]] [.list AD [.int .u64] l,(Bx.V b)]=(cond (ic (AN (JF l b))==0) (AA (.tup [.i 0,.i 0,.bool AD],[])) (cond (AE (0<=0)&&AE (0<ic (AN (JF l b)))) (cond (AE (0<=0)&&AE (0<ic (AN (JF l b)))) (D3 (RV N) (DS VE [1,1,1,1,0,1,0,0]) ⟨[4,5,6,8,9,26,27,28],[],[]⟩ N (cV 0 0 AD (IV.toInt (IV.cell (AR (JF l b) (AM 0) default) 10)) (IV.toInt (IV.cell (AR (JF l b) (AM 0) default) 10)) (JF l b) (ic (AN (JF l b))) 0) (DW 0 (DX (RV N) (DS VE [1,1,1,1,1]) (D2 (RV N) AB [.tmp 4,.tmp 5,.tmp 6] [[.z],[.z],[.bool]])))) AB) AB)):=AF
theorem Rr(N:Nat)(x4 x5:Int)(b6:Bool)(x8 x9:Int)(l26:LI)(x27 x28:Int)(again:St->DU)(k:Out->St->DU):EY (RV N) (DS VE [1,1,1,1,0,1,0,0]) (cV x4 x5 b6 x8 x9 l26 x27 x28) (ES again ⟨[4,5,6,8,9,26,27,28],[],[]⟩ k)=(cond (AE (x28<x27)) (cond (AE (0<=x28)&&AE (x28<ic (AN l26))) (again (cV x4 x5 b6 (min x8 (IV.toInt (IV.cell (AR l26 (AM x28) default) 10))) (max x9 (IV.toInt (IV.cell (AR l26 (AM x28) default) 10))) l26 x27 (AI AJ (x28+1)))) AB) (k (.exit 0) (cV x4 x5 b6 x8 x9 l26 x27 x28))):=AF
theorem gj(N:Nat)(x4 x5:Int)(b6:Bool)(x8 x9:Int)(l26:LI)(x27 x28:Int):(DW 0 (DX (RV N) (DS VE [1,1,1,1,1]) (D2 (RV N) AB [.tmp 4,.tmp 5,.tmp 6] [[.z],[.z],[.bool]]))) (.exit 0) (cV x4 x5 b6 x8 x9 l26 x27 x28)=(AA (.tup [.i x8,.i x9,.bool AC],[])):=AF
def HA(N:Nat):Env:=EE [(240,dI),(174,LX),(49,M9)] [(5,⟨[1,5,6,7,8,9,10,42,43,44],[5],[]⟩)] 69 N
abbrev N4(a2:Bx)(x1 x6 x7:Int)(b8:Bool)(x9 x10:Int)(l42:LI)(x43 x44:Int):St:=⟨[(1,(.i x1)),(5,(.ptr 5 0 0)),(6,(.i x6)),(7,(.i x7)),(8,(.bool b8)),(9,(.i x9)),(10,(.i x10)),(42,(.list AC G7 l42)),(43,(.i x43)),(44,(.i x44))],[(5,(AA (.box (Bx.cs a2))))]⟩
theorem xh(N:Nat)(m:Md)(a1:Int)(a2:Bx):EA (HA N) JC [.tmp 6,.tmp 7,.tmp 8] [[.z],[.z],[.bool]] [(Md.V m),.i a1,(Bx.V a2)]=(cond (!EU m) (AA (.tup [.i 0,.i 0,.bool AD],[])) (cond (AE (a1<0)) (AA (.tup [.i 0,.i 0,.bool AD],[])) (cond (AE (a1>=Md.c m)) (AA (.tup [.i 0,.i 0,.bool AD],[])) (cond (Bx.emp a2) (AA (.tup [.i 0,.i 0,.bool AD],[])) (cond (AE (a1=ic 0)) (cond (AE (a1=ic 0)) (D3 (HA N) (DS JC [1,1,1,0,1,0,0]) ⟨[1,5,6,7,8,9,10,42,43,44],[5],[]⟩ N (N4 a2 a1 0 0 AD (Md.b0 m) (Md.b0 m) (Md.ts m) (ic (AN (Md.ts m))) 0) (DW 0 (DX (HA N) (DS JC [1,1,1,1]) (D2 (HA N) AB [.tmp 6,.tmp 7,.tmp 8] [[.z],[.z],[.bool]])))) (cond (AE (a1=ic 1)) (D3 (HA N) (DS JC [1,1,1,0,1,0,0]) ⟨[1,5,6,7,8,9,10,42,43,44],[5],[]⟩ N (N4 a2 a1 0 0 AD (Md.b0 m) (Md.b1 m) (Md.ts m) (ic (AN (Md.ts m))) 0) (DW 0 (DX (HA N) (DS JC [1,1,1,1]) (D2 (HA N) AB [.tmp 6,.tmp 7,.tmp 8] [[.z],[.z],[.bool]])))) (cond (AE (a1=ic 2)) (D3 (HA N) (DS JC [1,1,1,0,1,0,0]) ⟨[1,5,6,7,8,9,10,42,43,44],[5],[]⟩ N (N4 a2 a1 0 0 AD (Md.b0 m) (Md.b2 m) (Md.ts m) (ic (AN (Md.ts m))) 0) (DW 0 (DX (HA N) (DS JC [1,1,1,1]) (D2 (HA N) AB [.tmp 6,.tmp 7,.tmp 8] [[.z],[.z],[.bool]])))) AB))) (cond (AE (a1=ic 1)) (cond (AE (a1=ic 0)) (D3 (HA N) (DS JC [1,1,1,0,1,0,0]) ⟨[1,5,6,7,8,9,10,42,43,44],[5],[]⟩ N (N4 a2 a1 0 0 AD (Md.b1 m) (Md.b0 m) (Md.ts m) (ic (AN (Md.ts m))) 0) (DW 0 (DX (HA N) (DS JC [1,1,1,1]) (D2 (HA N) AB [.tmp 6,.tmp 7,.tmp 8] [[.z],[.z],[.bool]])))) (cond (AE (a1=ic 1)) (D3 (HA N) (DS JC [1,1,1,0,1,0,0]) ⟨[1,5,6,7,8,9,10,42,43,44],[5],[]⟩ N (N4 a2 a1 0 0 AD (Md.b1 m) (Md.b1 m) (Md.ts m) (ic (AN (Md.ts m))) 0) (DW 0 (DX (HA N) (DS JC [1,1,1,1]) (D2 (HA N) AB [.tmp 6,.tmp 7,.tmp 8] [[.z],[.z],[.bool]])))) (cond (AE (a1=ic 2)) (D3 (HA N) (DS JC [1,1,1,0,1,0,0]) ⟨[1,5,6,7,8,9,10,42,43,44],[5],[]⟩ N (N4 a2 a1 0 0 AD (Md.b1 m) (Md.b2 m) (Md.ts m) (ic (AN (Md.ts m))) 0) (DW 0 (DX (HA N) (DS JC [1,1,1,1]) (D2 (HA N) AB [.tmp 6,.tmp 7,.tmp 8] [[.z],[.z],[.bool]])))) AB))) (cond (AE (a1=ic 2)) (cond (AE (a1=ic 0)) (D3 (HA N) (DS JC [1,1,1,0,1,0,0]) ⟨[1,5,6,7,8,9,10,42,43,44],[5],[]⟩ N (N4 a2 a1 0 0 AD (Md.b2 m) (Md.b0 m) (Md.ts m) (ic (AN (Md.ts m))) 0) (DW 0 (DX (HA N) (DS JC [1,1,1,1]) (D2 (HA N) AB [.tmp 6,.tmp 7,.tmp 8] [[.z],[.z],[.bool]])))) (cond (AE (a1=ic 1)) (D3 (HA N) (DS JC [1,1,1,0,1,0,0]) ⟨[1,5,6,7,8,9,10,42,43,44],[5],[]⟩ N (N4 a2 a1 0 0 AD (Md.b2 m) (Md.b1 m) (Md.ts m) (ic (AN (Md.ts m))) 0) (DW 0 (DX (HA N) (DS JC [1,1,1,1]) (D2 (HA N) AB [.tmp 6,.tmp 7,.tmp 8] [[.z],[.z],[.bool]])))) (cond (AE (a1=ic 2)) (D3 (HA N) (DS JC [1,1,1,0,1,0,0]) ⟨[1,5,6,7,8,9,10,42,43,44],[5],[]⟩ N (N4 a2 a1 0 0 AD (Md.b2 m) (Md.b2 m) (Md.ts m) (ic (AN (Md.ts m))) 0) (DW 0 (DX (HA N) (DS JC [1,1,1,1]) (D2 (HA N) AB [.tmp 6,.tmp 7,.tmp 8] [[.z],[.z],[.bool]])))) AB))) AB))))))):=AF
theorem Rq(N:Nat)(a2:Bx)(x1 x6 x7:Int)(b8:Bool)(x9 x10:Int)(l42:LI)(x43 x44:Int)(again:St->DU)(k:Out->St->DU):EY (HA N) (DS JC [1,1,1,0,1,0,0]) (N4 a2 x1 x6 x7 b8 x9 x10 l42 x43 x44) (ES again ⟨[1,5,6,7,8,9,10,42,43,44],[5],[]⟩ k)=(cond (AE (x44<x43)) (cond (AE (0<=x44)&&AE (x44<ic (AN l42))) (cond (IV.toInt (IV.cell (AR l42 (AM x44) default) 0)!=x1) (again (N4 a2 x1 x6 x7 b8 x9 x10 l42 x43 (AI AJ (x44+1)))) (again (N4 a2 x1 x6 x7 b8 (AI AJ (x9+IT (IV.toList (IV.cell (AR l42 (AM x44) default) 1)) a2)) (AI AJ (x10+IS (IV.toList (IV.cell (AR l42 (AM x44) default) 1)) a2)) l42 x43 (AI AJ (x44+1))))) AB) (k (.exit 0) (N4 a2 x1 x6 x7 b8 x9 x10 l42 x43 x44))):=AF
theorem gi(N:Nat)(a2:Bx)(x1 x6 x7:Int)(b8:Bool)(x9 x10:Int)(l42:LI)(x43 x44:Int):(DW 0 (DX (HA N) (DS JC [1,1,1,1]) (D2 (HA N) AB [.tmp 6,.tmp 7,.tmp 8] [[.z],[.z],[.bool]]))) (.exit 0) (N4 a2 x1 x6 x7 b8 x9 x10 l42 x43 x44)=(AA (.tup [.i x9,.i x10,.bool AC],[])):=AF
def RU(N:Nat):Env:=EE [(207,S6)] [(6,⟨[1,3,5,6,7,8,11,12,33,34],[3,5],[]⟩)] 62 N
abbrev UN(m:Md)(b:Bx)(x1 x6:Int)(b7:Bool)(x8 x11:Int)(b12:Bool)(x33 x34:Int):St:=⟨[(1,(.i x1)),(3,(.ptr 3 0 0)),(5,(.ptr 5 0 0)),(6,(.i x6)),(7,(.bool b7)),(8,(.i x8)),(11,(.i x11)),(12,(.bool b12)),(33,(.i x33)),(34,(.i x34))],[(3,(AA (.box (Md.cs m)))),(5,(AA (.box (Bx.cs b))))]⟩
theorem xg(N:Nat)(m:Md)(u00:Int)(b:Bx):EA (RU N) VD [.tmp 6,.tmp 7] [[.z],[.bool]] [(Md.V m),.i u00,(Bx.V b)]=(cond (!HG m u00 b) (AA (.tup [.i 0,.bool AD],[])) (cond (AE (Md.c m<2)) (AA (.tup [.i 0,.bool AD],[])) (D3 (RU N) (DS VD [1,1,1,1,0,1,0,0]) ⟨[1,3,5,6,7,8,11,12,33,34],[3,5],[]⟩ N (UN m b u00 0 AD (EK m u00 b) 0 AD (Md.c m) 0) (DW 0 (DX (RU N) (DS VD [1,1,1,1,1]) (D2 (RU N) AB [.tmp 6,.tmp 7] [[.z],[.bool]])))))):=AF
theorem Ro(N:Nat)(m:Md)(b:Bx)(x1 x6:Int)(b7:Bool)(x8 x11:Int)(b12:Bool)(x33 x34:Int)(again:St->DU)(k:Out->St->DU):EY (RU N) (DS VD [1,1,1,1,0,1,0,0]) (UN m b x1 x6 b7 x8 x11 b12 x33 x34) (ES again ⟨[1,3,5,6,7,8,11,12,33,34],[3,5],[]⟩ k)=(cond (AE (x34<x33)) (cond (x34==x1) (again (UN m b x1 x6 b7 x8 x11 b12 x33 (AI AJ (x34+1)))) (cond (!b12) (again (UN m b x1 x6 b7 x8 (AI AJ (x8-EI m x34 b)) AC x33 (AI AJ (x34+1)))) (cond (AE (AI AJ (x8-EI m x34 b)<x11)) (again (UN m b x1 x6 b7 x8 (AI AJ (x8-EI m x34 b)) AC x33 (AI AJ (x34+1)))) (again (UN m b x1 x6 b7 x8 x11 b12 x33 (AI AJ (x34+1))))))) (k (.exit 0) (UN m b x1 x6 b7 x8 x11 b12 x33 x34))):=AF
theorem gh(N:Nat)(m:Md)(b:Bx)(x1 x6:Int)(b7:Bool)(x8 x11:Int)(b12:Bool)(x33 x34:Int):(DW 0 (DX (RU N) (DS VD [1,1,1,1,1]) (D2 (RU N) AB [.tmp 6,.tmp 7] [[.z],[.bool]]))) (.exit 0) (UN m b x1 x6 b7 x8 x11 b12 x33 x34)=(AA (.tup [.i x11,.bool AC],[])):=AF
def Xe(N:Nat):Env:=EE [] [] 16 N
theorem zk(N:Nat)(q:Qy):EA (Xe N) Bn [.tmp 2] [[.bool]] [(Qy.V q)]=(cond (Qy.k q==3) (cond (AE (Qy.ft q>=0)) (AA (.bool (AE (Qy.ft q<4)),[])) (AA (.bool AD,[]))) (AA (.bool AD,[]))):=AF
def Xb(N:Nat):Env:=EE [(241,QX)] [] 10 N
theorem zg(N:Nat)(q:Qy)(b:Bx):EA (Xb N) Bk [.cell 4 37] [[.z,.z,.z,.z,.z,.z,.z,.z,.z,.z]] [(Qy.V q),(Bx.V b)]=(cond (G1 q) (AA (.agg [.i (Sp.lo (Bx.s0 b)),.i (Sp.hi (Bx.s0 b)),.i (Sp.lo (Bx.s1 b)),.i (Sp.hi (Bx.s1 b)),.i (Sp.lo (Bx.s2 b)),.i (Sp.hi (Bx.s2 b)),.i (Sp.lo (Bx.s3 b)),.i (Sp.hi (Bx.s3 b)),.i 0,.i 0],[])) (AA ((Bx.V b),[]))):=AF
def Xd(N:Nat):Env:=EE [(241,QX)] [] 15 N
theorem zj(N:Nat)(q:Qy)(b:Bx):EA (Xd N) Bm [.cell 4 37] [[.z,.z,.z,.z,.z,.z,.z,.z,.z,.z]] [(Qy.V q),(Bx.V b)]=(cond (G1 q) (cond (AE (Qy.ft q=ic 0)) (AA (.agg [.i (Sp.lo (Bx.s4 b)),.i (Sp.hi (Bx.s4 b)),.i (Sp.lo (Bx.s1 b)),.i (Sp.hi (Bx.s1 b)),.i (Sp.lo (Bx.s2 b)),.i (Sp.hi (Bx.s2 b)),.i (Sp.lo (Bx.s3 b)),.i (Sp.hi (Bx.s3 b)),.i 0,.i 0],[])) (cond (AE (Qy.ft q=ic 1)) (AA (.agg [.i (Sp.lo (Bx.s0 b)),.i (Sp.hi (Bx.s0 b)),.i (Sp.lo (Bx.s4 b)),.i (Sp.hi (Bx.s4 b)),.i (Sp.lo (Bx.s2 b)),.i (Sp.hi (Bx.s2 b)),.i (Sp.lo (Bx.s3 b)),.i (Sp.hi (Bx.s3 b)),.i 0,.i 0],[])) (cond (AE (Qy.ft q=ic 2)) (AA (.agg [.i (Sp.lo (Bx.s0 b)),.i (Sp.hi (Bx.s0 b)),.i (Sp.lo (Bx.s1 b)),.i (Sp.hi (Bx.s1 b)),.i (Sp.lo (Bx.s4 b)),.i (Sp.hi (Bx.s4 b)),.i (Sp.lo (Bx.s3 b)),.i (Sp.hi (Bx.s3 b)),.i 0,.i 0],[])) (cond (AE (Qy.ft q=ic 3)) (AA (.agg [.i (Sp.lo (Bx.s0 b)),.i (Sp.hi (Bx.s0 b)),.i (Sp.lo (Bx.s1 b)),.i (Sp.hi (Bx.s1 b)),.i (Sp.lo (Bx.s2 b)),.i (Sp.hi (Bx.s2 b)),.i (Sp.lo (Bx.s4 b)),.i (Sp.hi (Bx.s4 b)),.i 0,.i 0],[])) (cond (AE (Qy.ft q=ic 4)) (AA (.agg [.i (Sp.lo (Bx.s0 b)),.i (Sp.hi (Bx.s0 b)),.i (Sp.lo (Bx.s1 b)),.i (Sp.hi (Bx.s1 b)),.i (Sp.lo (Bx.s2 b)),.i (Sp.hi (Bx.s2 b)),.i (Sp.lo (Bx.s3 b)),.i (Sp.hi (Bx.s3 b)),.i 0,.i 0],[])) AB))))) (AA ((Bx.V b),[]))):=AF
def Xc(N:Nat):Env:=EE [(174,LX),(241,QX)] [] 23 N
theorem zh(N:Nat)(q:Qy)(b:Bx):EA (Xc N) Bl [.tmp 4] [[.bool]] [(Qy.V q),(Bx.V b)]=(cond (G1 q) (cond (!Bx.emp b) (cond (AE (Qy.ft q=ic 0)) (AA (.bool (AE (Sp.lo (Bx.s0 b)<Sp.hi (Bx.s4 b))),[])) (cond (AE (Qy.ft q=ic 1)) (AA (.bool (AE (Sp.lo (Bx.s1 b)<Sp.hi (Bx.s4 b))),[])) (cond (AE (Qy.ft q=ic 2)) (AA (.bool (AE (Sp.lo (Bx.s2 b)<Sp.hi (Bx.s4 b))),[])) (cond (AE (Qy.ft q=ic 3)) (AA (.bool (AE (Sp.lo (Bx.s3 b)<Sp.hi (Bx.s4 b))),[])) (cond (AE (Qy.ft q=ic 4)) (AA (.bool (AE (Sp.lo (Bx.s4 b)<Sp.hi (Bx.s4 b))),[])) AB))))) (AA (.bool AD,[]))) (AA (.bool AD,[]))):=AF
def Xa(N:Nat):Env:=EE [(207,S6),(242,eR),(243,eU),(241,QX)] [] 54 N
theorem zd(N:Nat)(m:Md)(q:Qy)(b:Bx):EA (Xa N) Bj [.tmp 6,.tmp 7,.tmp 8] [[.z],[.z],[.bool]] [(Md.V m),(Qy.V q),(Bx.V b)]=(cond (!G1 q) (AA (.tup [.i 0,.i 0,.bool AD],[])) (cond (!HG m (Qy.c q) (KM q b)) (AA (.tup [.i 0,.i 0,.bool AD],[])) (cond (!HG m (Qy.c q) (KR q b)) (AA (.tup [.i 0,.i 0,.bool AD],[])) (AA (.tup [.i (AI AJ (EK m (Qy.c q) (KR q b)-EI m (Qy.c q) (KM q b))),.i (AI AJ (EI m (Qy.c q) (KR q b)-EK m (Qy.c q) (KM q b))),.bool AC],[]))))):=AF
def Xl(N:Nat):Env:=EE [(208,dH),(207,S6),(174,LX),(210,eQ),(209,eT),(93,NB)] [] 86 N
theorem zw(N:Nat)(m:Md)(a1:Qy)(a2:Bx):EA (Xl N) Bu [.tmp 6] [[.bool]] [(Md.V m),(Qy.V a1),(Bx.V a2)]=(cond (!E8 m a1) (AA (.bool AD,[])) (cond (Bx.emp a2) (AA (.bool AC,[])) (cond (Qy.k a1==1) (cond (HG m (Qy.c a1) a2) (cond (AE (Qy.lo a1<=EK m (Qy.c a1) a2)) (AA (.bool (AE (EI m (Qy.c a1) a2<=Qy.hi a1)),[])) (AA (.bool AD,[]))) (AA (.bool AD,[]))) (cond (Qy.k a1==2) (cond (NP m (Qy.c a1) a2) (AA (.bool (AE (T3 m (Qy.c a1) a2>0)),[])) (AA (.bool AD,[]))) (cond (!OK a1 a2) (AA (.bool AC,[])) (cond (Qy.fl a1) (cond (KW m a1 a2) (AA (.bool (AE (QZ m a1 a2<=0)),[])) (AA (.bool AD,[]))) (cond (KW m a1 a2) (AA (.bool (AE (Q0 m a1 a2>=0)),[])) (AA (.bool AD,[]))))))))):=AF
def Xm(N:Nat):Env:=EE [(63,dK)] [] 9 N
theorem zx(N:Nat)(b:Bx):EA (Xm N) Bv [.cell 2 48,.tmp 3] [[.z,.z,.z,.z],[.z]] [(Bx.V b)]=(AA (.tup [(Pt.V (Bx.low b)),.i (Sp.hi (Bx.s4 b))],[])):=AF
def PX(N:Nat):Env:=EE [(96,fC)] [(2,⟨[3,4,5,6,7,8,11],[3,4,5],[]⟩)] 31 N
abbrev WT(m:Md)(q:Qy)(b:Bx)(x6 x7:Int)(b8:Bool)(x11:Int):St:=⟨[(3,(.ptr 3 0 0)),(4,(.ptr 4 0 0)),(5,(.ptr 5 0 0)),(6,(.i x6)),(7,(.i x7)),(8,(.bool b8)),(11,(.i x11))],[(3,(AA (.box (Md.cs m)))),(4,(AA (.box (Qy.cs q)))),(5,(AA (.box (Bx.cs b))))]⟩
theorem zy(N:Nat)(m:Md)(q:Qy)(b:Bx):EA (PX N) TO [.tmp 6,.tmp 7,.tmp 8] [[.z],[.z],[.bool]] [(Md.V m),(Qy.V q),(Bx.V b)]=(D3 (PX N) (DS TO [1,0,1,0,0]) ⟨[3,4,5,6,7,8,11],[3,4,5],[]⟩ N (WT m q b 0 0 AD 0) (DW 0 (DX (PX N) (DS TO [1,1]) (D2 (PX N) AB [.tmp 6,.tmp 7,.tmp 8] [[.z],[.z],[.bool]])))):=AF
theorem Sl(N:Nat)(m:Md)(q:Qy)(b:Bx)(x6 x7:Int)(b8:Bool)(x11:Int)(again:St->DU)(k:Out->St->DU):EY (PX N) (DS TO [1,0,1,0,0]) (WT m q b x6 x7 b8 x11) (ES again ⟨[3,4,5,6,7,8,11],[3,4,5],[]⟩ k)=(cond (AE (x11<5)) (cond (EU m&&HC x11) (cond (AE (ic (AN (iZ (EM m q b (AM x11))))>0)) (cond (AE (0<=AI AJ (Int.tdiv (AI AJ (ic (AN (iZ (EM m q b (AM x11))))-1)) 2))&&AE (AI AJ (Int.tdiv (AI AJ (ic (AN (iZ (EM m q b (AM x11))))-1)) 2)<ic (AN (iZ (EM m q b (AM x11)))))) (k .ret (WT m q b x11 (IV.toInt (AR (iZ (EM m q b (AM x11))) (AM (AI AJ (Int.tdiv (AI AJ (ic (AN (iZ (EM m q b (AM x11))))-1)) 2))) default)) AC x11)) AB) (again (WT m q b x6 x7 b8 (AI AJ (x11+1))))) AB) (k (.exit 0) (WT m q b x6 x7 b8 x11))):=AF
theorem jf(N:Nat)(m:Md)(q:Qy)(b:Bx)(x6 x7:Int)(b8:Bool)(x11:Int):(DW 0 (DX (PX N) (DS TO [1,1]) (D2 (PX N) AB [.tmp 6,.tmp 7,.tmp 8] [[.z],[.z],[.bool]]))) (.exit 0) (WT m q b x6 x7 b8 x11)=(AA (.tup [.i 0,.i 0,.bool AD],[])):=AF
theorem jg(N:Nat)(m:Md)(q:Qy)(b:Bx)(x6 x7:Int)(b8:Bool)(x11:Int):(DW 0 (DX (PX N) (DS TO [1,1]) (D2 (PX N) AB [.tmp 6,.tmp 7,.tmp 8] [[.z],[.z],[.bool]]))) .ret (WT m q b x6 x7 b8 x11)=(AA (.tup [.i x6,.i x7,.bool b8],[])):=AF
open Go Go.Proofs
set_option maxRecDepth 100000
theorem Gz{i:Int}(h:HC i=AC):i=0\/i=1\/i=2\/i=3\/i=4:=by
 unfold HC at h;simp only[AQ,AZ]at h;omega
theorem Qf:D6 PR B0 220 XN:=by
 refine EF [] [] XN [[.z,.z]] Tryz.func220 sf trivial ?_;intro vs r hwf h;unfold XN at h;split at h
 .rw[R.get_ok]at h;exact⟨0,(zaM 0).trans h⟩
 .simp[R.get]at h
theorem zeM:D6 PR B0 219 gA:=by
 refine EF [(220,XN)] [] gA [[.z,.z]] Tryz.func219 si ⟨Qf,trivial⟩ ?_;intro vs r hwf h;unfold gA at h;split at h
 .rename_i lo hi;rw[R.get_ok]at h;refine⟨0,?_⟩;rw[<-h];refine(zaN 0 lo hi).trans ?_;unfold KE;cases AE (lo>hi)<;>rfl
 .simp[R.get]at h
theorem Qd:D6 PR B0 191 XL:=by
 refine EF [] [] XL [[.bool]] Tryz.func191 sd trivial ?_;intro vs r hwf h;unfold XL at h;split at h
 .rename_i s;replace h:=yH h;obtain⟨s,rfl,h⟩:=h;rw[R.get_ok]at h;exact⟨0,(zaK 0 s).trans h⟩
 .simp[R.get]at h
theorem Qe:D6 PR B0 127 XM:=by
 refine EF [] [] XM [[.bool]] Tryz.func127 se trivial ?_;intro vs r hwf h;unfold XM at h;split at h
 .rename_i s n;replace h:=yH h;obtain⟨s,rfl,h⟩:=h;rw[R.get_ok]at h;refine⟨0,?_⟩;rw[<-h];refine(zaL 0 s n).trans ?_;unfold Sp.has;cases AE (s.lo<=n)<;>rfl
 .simp[R.get]at h
theorem zeL:D6 PR B0 181 kM:=by
 refine EF [(220,XN),(219,gA)] [] kM [[.z,.z],[.z,.z]] Tryz.func181 sc ⟨Qf,zeM,trivial⟩ ?_;intro vs r hwf h;unfold kM at h;split at h
 .rename_i s n;replace h:=yH h;obtain⟨s,rfl,h⟩:=h;rw[R.get_ok]at h;refine⟨0,?_⟩;rw[<-h];refine(zaJ 0 s n).trans ?_;unfold Sp.cutH;cases AE (n>=s.hi)<;>rfl
 .simp[R.get]at h
theorem zc9(b:Bx):EA (Wh 6) Ap [.tmp 2] [[.bool]] [b.V]=
 cond b.s0.emp (AA (.bool AC,[])) (cond b.s1.emp (AA (.bool AC,[])) (cond b.s2.emp (AA (.bool AC,[])) (cond b.s3.emp (AA (.bool AC,[])) (cond b.s4.emp (AA (.bool AC,[])) (AA (.bool AD,[])))))):=AF
theorem ZB:D6 PR B0 174 LX:=by
 refine EF [(191,XL)] [(2,⟨[2,5,6],[],[]⟩)] LX [[.bool]] Tryz.func174 nu ⟨Qd,trivial⟩ ?_;intro vs r hwf h;unfold LX at h;split at h
 .rename_i b;replace h:=JJ h;obtain⟨b,rfl,h⟩:=h;rw[R.get_ok]at h;refine⟨6,?_⟩;rw[<-h];refine(zc9 b).trans ?_;unfold Bx.emp;cases b.s0.emp<;>cases b.s1.emp<;>cases b.s2.emp<;>cases b.s3.emp<;>cases b.s4.emp<;>rfl
 .simp[R.get]at h
theorem zda(b:Bx):EA (Wj 5) Ar [.cell 2 48] [[.z,.z,.z,.z]] [b.V]=AA (b.low.V,[]):=AF
theorem zdD:D6 PR B0 63 dK:=by
 refine EF [] [(3,⟨[1,2,3,5],[1,2,3],[]⟩)] dK [[.z,.z,.z,.z]] Tryz.func63 nw trivial ?_;intro vs r hwf h;unfold dK at h;split at h
 .rename_i b;replace h:=JJ h;obtain⟨b,rfl,h⟩:=h;rw[R.get_ok]at h;exact⟨5,(zda b).trans h⟩
 .simp[R.get]at h
theorem oE:D6 PR B0 124 QV:=by
 refine EF [(181,kM)] [] QV [[.z,.z,.z,.z,.z,.z,.z,.z,.z,.z],[.z,.z,.z,.z,.z,.z,.z,.z,.z,.z]] Tryz.func124 nq ⟨zeL,trivial⟩ ?_;intro vs r hwf h;unfold QV at h;split at h
 .rename_i b i a;replace h:=JJ h;obtain⟨b,rfl,h⟩:=h;cases hg:(HC i)with
  |false=>rw[hg]at h;simp[R.get]at h
  |true=>
  rw[hg,R.get_br,DQ,R.get_ok]at h;refine⟨0,?_⟩;rw[<-h];rcases Gz hg with rfl|rfl|rfl|rfl|rfl<;>kernel_rfl
 .simp[R.get]at h
theorem Qc:D6 PR B0 97 XK:=by
 refine EF [] [] XK [[.bool]] Tryz.func97 rr trivial ?_;intro vs r hwf h;unfold XK at h;split at h
 .rename_i q;replace h:=JB h;obtain⟨q,rfl,h⟩:=h;rw[R.get_ok]at h;refine⟨0,?_⟩;rw[<-h];refine(zax 0 q).trans ?_;unfold G1;cases(q.k==3)<;>cases AE (q.ft>=0)<;>rfl
 .simp[R.get]at h
theorem oG:D6 PR B0 241 QX:=by
 refine EF [] [] QX [[.bool]] Tryz.func241 qd trivial ?_;intro vs r hwf h;unfold QX at h;split at h
 .rename_i q;replace h:=JB h;obtain⟨q,rfl,h⟩:=h;rw[R.get_ok]at h;refine⟨0,?_⟩;rw[<-h];refine(zk 0 q).trans ?_;unfold G1;cases(q.k==3)<;>cases AE (q.ft>=0)<;>rfl
 .simp[R.get]at h
theorem QJ{q:Qy}(h:G1 q=AC):q.ft=0\/q.ft=1\/q.ft=2\/q.ft=3:=by
 unfold G1 at h;simp only[AQ,AZ]at h;omega
theorem zd8:D6 PR B0 242 eR:=by
 refine EF [(241,QX)] [] eR [[.z,.z,.z,.z,.z,.z,.z,.z,.z,.z]] Tryz.func242 qa ⟨oG,trivial⟩ ?_;intro vs r hwf h;unfold eR at h;split at h
 .rename_i q b;replace h:=JB h;obtain⟨q,rfl,h⟩:=h;replace h:=JJ h;obtain⟨b,rfl,h⟩:=h;rw[R.get_ok]at h;refine⟨0,?_⟩;rw[<-h];refine(zg 0 q b).trans ?_;unfold KM;cases G1 q<;>rfl
 .simp[R.get]at h
theorem zea:D6 PR B0 243 eU:=by
 refine EF [(241,QX)] [] eU [[.z,.z,.z,.z,.z,.z,.z,.z,.z,.z]] Tryz.func243 qc ⟨oG,trivial⟩ ?_;intro vs r hwf h;unfold eU at h;split at h
 .rename_i q b;replace h:=JB h;obtain⟨q,rfl,h⟩:=h;replace h:=JJ h;obtain⟨b,rfl,h⟩:=h;rw[R.get_ok]at h;refine⟨0,?_⟩;rw[<-h];refine(zj 0 q b).trans ?_;unfold KR;cases hp:G1 q with
  |false=>rfl
  |true=>rcases QJ hp with e|e|e|e<;>rw[e]<;>rfl
 .simp[R.get]at h
theorem zd9:D6 PR B0 209 eT:=by
 refine EF [(174,LX),(241,QX)] [] eT [[.bool]] Tryz.func209 qb ⟨ZB,oG,trivial⟩ ?_;intro vs r hwf h;unfold eT at h;split at h
 .rename_i q b;replace h:=JB h;obtain⟨q,rfl,h⟩:=h;replace h:=JJ h;obtain⟨b,rfl,h⟩:=h;rw[R.get_ok]at h;refine⟨0,?_⟩;rw[<-h];refine(zh 0 q b).trans ?_;unfold OK;cases hp:G1 q with
  |false=>rfl
  |true=>cases b.emp<;>rcases QJ hp with e|e|e|e<;>rw[e]<;>rfl
 .simp[R.get]at h
theorem Qb:D6 PR B0 38 XJ:=by
 refine EF [(97,XK)] [] XJ [[.z,.z,.z,.z,.z,.z,.z,.z,.z,.z]] Tryz.func38 ro ⟨Qc,trivial⟩ ?_;intro vs r hwf h;unfold XJ at h;split at h
 .rename_i q;replace h:=JB h;obtain⟨q,rfl,h⟩:=h;rw[R.get_ok]at h;refine⟨0,?_⟩;rw[<-h];refine(zav 0 q).trans ?_;unfold FG;cases hp:G1 q with
  |false=>rfl
  |true=>rcases QJ hp with e|e|e|e<;>rw[e]<;>rfl
 .simp[R.get]at h
theorem zez:D6 PR B0 128 fS:=by
 refine EF [(97,XK)] [] fS [[.z,.z,.z,.z]] Tryz.func128 rm ⟨Qc,trivial⟩ ?_;intro vs r hwf h;unfold fS at h;split at h
 .rename_i q p t;replace h:=JB h;obtain⟨q,rfl,h⟩:=h;replace h:=RN h;obtain⟨p,rfl,h⟩:=h;rw[R.get_ok]at h;refine⟨0,?_⟩;rw[<-h];refine(zau 0 q p t).trans ?_;unfold H2;cases hp:G1 q with
  |false=>rfl
  |true=>rcases QJ hp with e|e|e|e<;>rw[e]<;>rfl
 .simp[R.get]at h
def Y8(d i:Int)(s:Sp)(rest:DU):DU:=
 cond (AE (i>=d)) (cond (!((s.lo==0)&&((s.hi==0)&&AC))) (AA (.bool AD,[])) (cond s.emp (AA (.bool AD,[])) (cond (!(E4 s.lo)) (AA (.bool AD,[])) (cond (!(E4 s.hi)) (AA (.bool AD,[])) rest))))
  (cond s.emp (AA (.bool AD,[])) (cond (!(E4 s.lo)) (AA (.bool AD,[])) (cond (!(E4 s.hi)) (AA (.bool AD,[])) rest)))
theorem jL(d i:Int)(s:Sp)(rest:DU):Y8 d i s rest=cond (H3 d i s) rest (AA (.bool AD,[])):=by
 unfold Y8 H3;rw[CK];cases AE (i>=d)<;>cases((s.lo==0)&&(s.hi==0))<;>cases s.emp<;>cases E4 s.lo<;>cases E4 s.hi<;>rfl
theorem zdc(b:Bx)(d:Int):EA (Ye 6) Cp [.tmp 4] [[.bool]] [b.V,.i d]=Y8 d 0 b.s0 (Y8 d 1 b.s1 (Y8 d 2 b.s2 (Y8 d 3 b.s3 (Y8 d 4 b.s4 (AA (.bool AC,[])))))):=AF
theorem zeB:D6 PR B0 146 fU:=by
 refine EF [(106,S4),(191,XL)] [(2,⟨[1,4,7,8],[],[]⟩)] fU [[.bool]] Tryz.func146 rt ⟨wL,Qd,trivial⟩ ?_;intro vs r hwf h;unfold fU at h;split at h
 .rename_i b d;replace h:=JJ h;obtain⟨b,rfl,h⟩:=h;rw[R.get_ok]at h;refine⟨6,?_⟩;rw[<-h];refine(zdc b d).trans ?_;rw[jL,jL,jL,jL,jL];unfold Q9;cases H3 d 0 b.s0<;>cases H3 d 1 b.s1<;>cases H3 d 2 b.s2<;>cases H3 d 3 b.s3<;>cases H3 d 4 b.s4<;>rfl
 .simp[R.get]at h
theorem zeA:D6 PR B0 147 fT:=by
 refine EF [] [] fT [[.bool]] Tryz.func147 rp trivial ?_;intro vs r hwf h;unfold fT at h;split at h
 .rename_i m q;replace h:=II h;obtain⟨m,rfl,h⟩:=h;replace h:=JB h;obtain⟨q,rfl,h⟩:=h;rw[R.get_ok]at h;refine⟨0,?_⟩;rw[<-h];refine(zaw 0 m q).trans ?_;unfold OF;cases(q.k==1)<;>cases(q.k==2)<;>cases(q.k==3)<;>cases AE (q.lo<=q.hi)<;>cases(q.ft==0)<;>cases AE (m.c>=2)<;>cases(q.lo==0)<;>cases(q.hi==0)<;>cases AE (q.ft>=0)<;>cases AE (q.ft<m.d)<;>rfl
 .simp[R.get]at h
theorem cC:D6 PR B0 93 NB:=by
 refine EF [(49,M9),(147,fT),(146,fU)] [] NB [[.bool]] Tryz.func93 rl ⟨cA,zeA,zeB,trivial⟩ ?_;intro vs r hwf h;unfold NB at h;split at h
 .rename_i m q;replace h:=II h;obtain⟨m,rfl,h⟩:=h;replace h:=JB h;obtain⟨q,rfl,h⟩:=h;rw[R.get_ok]at h;refine⟨0,?_⟩;rw[<-h];refine(zat 0 m q).trans ?_;unfold E8 Qy.bx;generalize Q9 _ _=rg;cases EU m<;>cases AE (q.c>=0)<;>cases AE (q.c<m.c)<;>cases AE (q.bu>=0)<;>cases AE (q.bu<=65536)<;>cases rg<;>rfl
 .simp[R.get]at h
theorem bA{w:Int}(hb:FQ w=AC)(hl:(DT w).lf=AD):(0<=(DT w).f/\(DT w).f<4)/\(1<=(DT w).l/\(DT w).l<31)/\(1<=(DT w).r/\(DT w).r<31)/\E4 (DT w).a=AC:=by
 have h:=(nH hb).2;unfold IQ at h;rw[hl,DR]at h;unfold O6 at h;simp only[AQ,AZ]at h;exact⟨⟨h.2.1,h.2.2.1⟩,h.2.2.2.2.1,h.2.2.2.2.2,h.2.2.2.1⟩
theorem Jw(w:Int):E4 (DT w).v=AC:=by
 cases hb:FQ w with
 |false=>
  have e:DT w=Nd.zero:=by unfold DT;rw[hb];rfl
  rw[e];rfl
 |true=>
  have h:=(nH hb).2;unfold IQ at h;cases hl:(DT w).lf with
  |true=>
   rw[hl,DQ,AQ]at h;exact h.2
  |false=>
   rw[hl,DR,AQ,CF]at h;rw[h.1];rfl
abbrev yL(l:LI)(p:Pt)(a j:Int):St:=
 ⟨[(0,(.list AD [(.int .u64)] l)),(3,(.ptr 3 0 0)),(4,(.i 0)),(5,(.ptr 5 0 0)),(6,(.i a)),(9,(.i j))],[(3,(AA (.box (Pt.cs p)))),(5,(AA (.box [(.bool AD),(.i 0),(.i 0),(.i 0),(.i 0),(.i 0)])))]⟩
theorem rD(N:Nat)(l:LI)(p:Pt):∀(m j n:Nat) (a:Int),0<=a->j+m=31->m<n->
  D3 (LD N) (DS O5 [1,1,0,1,0,0]) ⟨[0,3,4,5,6,9],[3,5],[]⟩ n (yL l p a (j:Int)) (DW 0 (DX (LD N) (DS O5 [1,1,1]) (D2 (LD N) AB [(B7 4),(va6 5 108)] [[.z],[.bool,.z,.z,.z,.z,.z]])))=
   AA (.tup [.i (G5 l p m a).1,(G5 l p m a).2.V],[])
 |m,j,0,a,_,_,h=>absurd h AG
 |0,j,n+1,a,ha,hd,_=>by
  have hj:j=31:=by omega
  subst hj;rw[D8,Tm,AS (show¬((31:Nat):Int)<31 by omega),DR];exact Fs N p l _ _ _ _ _ _ _ _ _
 |m+1,j,n+1,a,ha,hd,hn=>by
  have ej:AI AJ ((j:Int)+1)=((j+1:Nat):Int):=GM AG;rw[D8,Tm,AL (show(j:Int)<31 by omega),DQ,G5,ej];cases hge:AE (a>=ic l.length)with
  |true=>
   rw[DQ,DQ];exact Fs N p l _ _ _ _ _ _ _ _ _
  |false=>
   have hge:=BM hge;rw[DR,DR,AL ha,AL (show a<ic l.length by omega),BR,DQ];generalize(l.getD a.toNat default).toInt=w;cases hb:FQ w with
   |false=>
    rw[BF,DQ,DQ];exact lc N p l _ _ _ _ _ _ _ _ _
   |true=>
    rw[A9,DR,DR];cases hl:(DT w).lf with
    |true=>
     rw[DQ,DQ];rfl
    |false=>
     obtain⟨⟨f0,f4⟩,⟨l1,l31⟩,⟨r1,r31⟩,_⟩:=bA hb hl;rw[DR,DR];have step:∀c:Bool,(cond c (D3 (LD N) (DS O5 [1,1,0,1,0,0]) ⟨[0,3,4,5,6,9],[3,5],[]⟩ n (yL l p (DT w).l ((j+1:Nat):Int)) (DW 0 (DX (LD N) (DS O5 [1,1,1]) (D2 (LD N) AB [(B7 4),(va6 5 108)] [[.z],[.bool,.z,.z,.z,.z,.z]]))))
       (D3 (LD N) (DS O5 [1,1,0,1,0,0]) ⟨[0,3,4,5,6,9],[3,5],[]⟩ n (yL l p (DT w).r ((j+1:Nat):Int)) (DW 0 (DX (LD N) (DS O5 [1,1,1]) (D2 (LD N) AB [(B7 4),(va6 5 108)] [[.z],[.bool,.z,.z,.z,.z,.z]])))))=
       AA (.tup [.i (cond c (G5 l p m (DT w).l) (G5 l p m (DT w).r)).1,(cond c (G5 l p m (DT w).l) (G5 l p m (DT w).r)).2.V],[]):=λc=>by
      cases c with
      |true=>exact rD N l p m (j+1) n (DT w).l AG AG AG
      |false=>exact rD N l p m (j+1) n (DT w).r AG AG AG
     obtain e|e|e|e:(DT w).f=0\/(DT w).f=1\/(DT w).f=2\/(DT w).f=3:=by omega
     all_goals
      rw[e];exact step _
theorem zeU:D6 PR B0 248 gE:=by
 refine EF [(51,NA)] [(3,⟨[0,3,4,5,6,9],[3,5],[]⟩)] gE [[.z],[.bool,.z,.z,.z,.z,.z]] Tryz.func248 ta ⟨cB,trivial⟩ ?_;intro vs r hwf h;unfold gE at h;split at h
 .rename_i l p;replace h:=RN h;obtain⟨p,rfl,h⟩:=h;rw[R.get_ok]at h;refine⟨32,?_⟩;rw[<-h];exact(zaZ 32 l p).trans (rD 32 l p 31 0 32 0 AG rfl AG)
 .simp[R.get]at h
theorem zeT:D6 PR B0 221 gD:=by
 refine EF [(248,gE)] [] gD [[.z]] Tryz.func221 sy ⟨zeU,trivial⟩ ?_;intro vs r hwf h;unfold gD at h;split at h
 .rename_i l p;replace h:=RN h;obtain⟨p,rfl,h⟩:=h;rw[R.get_ok]at h;exact⟨0,(zaY 0 l p).trans h⟩
 .simp[R.get]at h
theorem OC{n:Int}(h:E4 n=AC): -2147483648<=n/\n<=2147483647:=by
 unfold E4 at h;simpa only[AQ,AZ]using h
theorem rB(l:LI)(p:Pt):∀(n:Nat) (a:Int),E4 (G5 l p n a).2.v=AC
 |0,_=>rfl
 |n+1,a=>by
  rw[G5];cases AE (a>=ic l.length)with
  |true=>rfl
  |false=>
   rw[DR];generalize(l.getD a.toNat default).toInt=w;cases FQ w with
   |false=>rfl
   |true=>
    rw[A9,DR];cases(DT w).lf with
    |true=>exact Jw w
    |false=>
     rw[DR];cases AE (p.g (DT w).f.toNat<=(DT w).a)with
     |true=>exact rB l p n _
     |false=>exact rB l p n _
theorem Uy(l:LI)(p:Pt): -2147483648<=GW l p/\GW l p<=2147483647:=OC (rB l p 31 0)
theorem KC{m:Md}(h:EU m=AC):(1<=m.d/\m.d<=4)/\(1<=m.c/\m.c<=3)/\m.ts.length<=8/\(E4 m.b0=AC/\E4 m.b1=AC/\E4 m.b2=AC)/\m.ts.all (HH m.d m.c)=AC:=by
 unfold EU GR at h;simp only[AQ,CE,B3]at h;obtain⟨⟨h1,h2,h3,h4,h5⟩,⟨h6,h7,h8⟩,h9⟩:=h;exact⟨⟨by omega,by omega⟩,⟨by omega,by omega⟩,AX h5,⟨h6.1,h7.1,h8.1⟩,h9⟩
theorem Dv{m:Md}{k:Int}(h:HQ m k=AC):0<=k/\k<m.c:=by
 unfold HQ at h;simpa only[AQ,AZ]using h
theorem lC{m:Md}{k:Int}(hm:EU m=AC)(h:HQ m k=AC):k=0\/k=1\/k=2:=by
 have:=Dv h
 have:=(KC hm).2.1
 omega
theorem gO{m:Md}(hm:EU m=AC)(k:Int): -2147483648<=L0 m k/\L0 m k<=2147483647:=by
 obtain⟨h0,h1,h2⟩:=(KC hm).2.2.2.1;unfold L0;cases(k==0)with
 |true=>exact OC h0
 |false=>
  cases(k==1)with
  |true=>exact OC h1
  |false=>exact OC h2
abbrev zgg(ts:LI)(p:Pt)(k s i:Int):St:=
 ⟨[(1,(.i k)),(5,(.ptr 5 0 0)),(6,(.i 0)),(7,(.i s)),(15,(.list AC [.z,(.list AD [(.int .u64)])] ts)),(16,(.i (ic (AN ts)))),(17,(.i i))],[(5,(AA (.box (Pt.cs p))))]⟩
theorem rJ(N:Nat)(ts:LI)(p:Pt)(k:Int)(hts:ts.length<=8):∀(m i n:Nat) (s:Int),i+m=ts.length->m<n-> -2147483648*(i+1)<=s/\s<=2147483648*(i+1)->
  D3 (MI N) (DS P4 [1,1,0,1,0,0]) ⟨[1,5,6,7,15,16,17],[5],[]⟩ n (zgg ts p k s (i:Int)) (DW 0 (DX (MI N) (DS P4 [1,1,1]) (D2 (MI N) AB [(B7 6)] [[.z]])))=
   AA (.i (PA k p (ts.drop i) s),[])
 |m,i,0,s,_,h,_=>absurd h AG
 |0,i,n+1,s,hd,_,_=>by
  have hi:i=ts.length:=by omega
  subst hi;rw[D8,Ss,IZ (A4 _),DR,C8];exact jm N p _ _ _ _ _ _
 |m+1,i,n+1,s,hd,hn,hs=>by
  have hi:i<ts.length:=by omega
  have ei:AI AJ ((i:Int)+1)=((i+1:Nat):Int):=GM AG;rw[D8,Ss,ei,HY hi,DQ,IM,BR,DQ,IX hi,BJ hi,PA];have hv:=Uy (E3 ts[i]) p;cases hc:((ts[i].cell 0).toInt==k)with
  |true=>
   rw[DQ,DQ];have ew:AI AJ (s+GW (E3 ts[i]) p)=s+GW (E3 ts[i]) p:=ER AG AG;have ih:=rJ N ts p k hts m (i+1) n (s+GW (E3 ts[i]) p) AG AG AG;rw[<-ew]at ih;refine Eq.trans ih ?_;rw[ew]
  |false=>
   rw[DR,DR];exact rJ N ts p k hts m (i+1) n s AG AG AG
theorem zer:D6 PR B0 182 fJ:=by
 refine EF [(221,gD)] [(3,⟨[1,5,6,7,15,16,17],[5],[]⟩)] fJ [[.z]] Tryz.func182 qy ⟨zeT,trivial⟩ ?_;intro vs r hwf h;unfold fJ at h;split at h
 .rename_i m k p;replace h:=II h;obtain⟨m,rfl,h⟩:=h;replace h:=RN h;obtain⟨p,rfl,h⟩:=h;cases hg:(EU m&&HQ m k)with
  |false=>rw[hg]at h;simp[R.get]at h
  |true=>
  rw[hg,R.get_br,DQ,R.get_ok]at h;rw[AQ]at hg;have hb:=gO hg.1 k;have run:=rJ 10 m.ts p k (KC hg.1).2.2.1 m.ts.length 0 10 (L0 m k) AG (by have:=(KC hg.1).2.2.1;omega) AG;refine⟨10,?_⟩;rw[<-h];refine(zai 10 m k p).trans ?_;rcases lC hg.1 hg.2 with rfl|rfl|rfl<;>exact run
 .simp[R.get]at h
theorem zep:D6 PR B0 126 fH:=by
 refine EF [(49,M9),(182,fJ)] [] fH [[.z]] Tryz.func126 qu ⟨cA,zer,trivial⟩ ?_;intro vs r hwf h;unfold fH at h;split at h
 .rename_i m k p;replace h:=II h;obtain⟨m,rfl,h⟩:=h;replace h:=RN h;obtain⟨p,rfl,h⟩:=h;rw[R.get_ok]at h;refine⟨0,?_⟩;rw[<-h];refine(zae 0 m k p).trans ?_;unfold D1 HQ;cases EU m with
  |false=>rfl
  |true=>
   cases h0:AE (k<0)with
   |true=>rw[AS (show¬ 0<=k by have:=BB h0;omega)];rfl
   |false=>
    rw[AL (show 0<=k by have:=BM h0;omega)];cases h1:AE (k>=m.c)with
    |true=>rw[AS (show¬k<m.c by have:=BB h1;omega)];rfl
    |false=>rw[AL (show k<m.c by have:=BM h1;omega)];rfl
 .simp[R.get]at h
abbrev zf4(m:Md)(q:Qy)(p:Pt)(own i:Int):St:=
 ⟨[(4,(.ptr 4 0 0)),(5,(.ptr 5 0 0)),(6,(.ptr 6 0 0)),(8,(.bool AD)),(9,(.i own)),(36,(.i (Md.c m))),(37,(.i i))],[(4,(AA (.box (Md.cs m)))),(5,(AA (.box (Qy.cs q)))),(6,(AA (.box (Pt.cs p))))]⟩
def XX(m:Md)(q:Qy)(p:Pt)(own:Int):Nat->Nat->Bool
 |0,_=>AD
 |d+1,i=>(!((i:Int)==q.c)&&AE (D1 m (i:Int) p>=own))||XX m q p own d (i+1)
theorem pK(m:Md)(q:Qy)(p:Pt)(own:Int):∀d i,XX m q p own d i=(vbh i d).any λc=>!((c:Int)==q.c)&&AE (D1 m (c:Int) p>=own)
 |0,_=>rfl
 |d+1,i=>by rw[XX,pK m q p own d (i+1),List.range'_succ,List.any_cons]
theorem z9(N:Nat)(m:Md)(q:Qy)(p:Pt)(own:Int)(hc:0<=m.c/\m.c<=3):∀(d i n:Nat),((i+d:Nat):Int)=m.c->d<n->
  D3 (MJ N) (DS O4 [1,1,1,0,1,0,1,1,1,0,0,1,0,0]) ⟨[4,5,6,8,9,36,37],[4,5,6],[]⟩ n (zf4 m q p own (i:Int)) (DW 1 (DX (MJ N) (DS O4 [1,1,1,0,1,0,1,1,1,0,1]) (DW 0 (DX (MJ N) (DS O4 [1,1,1,1]) (D2 (MJ N) AB [(B7 8)] [[.bool]])))))=
   AA (.bool (XX m q p own d i),[])
 |d,i,0,_,h=>absurd h AG
 |0,i,n+1,hd,_=>by
  rw[D8,Sw,AS (show¬(i:Int)<m.c by omega),DR];exact jq N m q p _ _ _ _
 |d+1,i,n+1,hd,hn=>by
  have ei:AI AJ ((i:Int)+1)=((i+1:Nat):Int):=GM AG;rw[D8,Sw,ei,AL (show(i:Int)<m.c by omega),DQ,XX];have ih:=z9 N m q p own hc d (i+1) n AG AG;have en:((i:Int)!=q.c)=!((i:Int)==q.c):=rfl;rw[en];cases((i:Int)==q.c)with
  |true=>exact ih
  |false=>
   rw[BF,DQ,BI];cases AE (D1 m (i:Int) p>=own)with
   |true=>exact jr N m q p _ _ _ _
   |false=>exact ih
theorem SO{m:Md}{q:Qy}(h:E8 m q=AC):EU m=AC/\(0<=q.c/\q.c<m.c)/\(0<=q.bu/\q.bu<=65536)/\Q9 q.bx m.d=AC/\OF m q=AC:=by
 unfold E8 at h;simp only[AQ,AZ]at h;exact⟨h.1,⟨h.2.1,h.2.2.1⟩,⟨h.2.2.2.1,h.2.2.2.2.1⟩,h.2.2.2.2.2.1,h.2.2.2.2.2.2⟩
theorem aW{m:Md}{q:Qy}(h:OF m q=AC):(q.k=1/\q.lo<=q.hi/\q.ft=0/\q.fl=AD)\/(q.k=2/\2<=m.c/\q.lo=0/\q.hi=0/\q.ft=0/\q.fl=AD)\/(q.k=3/\(0<=q.ft/\q.ft<m.d)/\q.lo=0/\q.hi=0):=by
 unfold OF at h;cases h1:(q.k==1)with
 |true=>
  rw[h1,DQ]at h;simp only[AQ,AZ,CF,CE]at h;exact .inl ⟨CF.1 h1,h⟩
 |false=>
  rw[h1,DR]at h;cases h2:(q.k==2)with
  |true=>
   rw[h2,DQ]at h;simp only[AQ,AZ,CF,CE,ge_iff_le]at h;exact .inr (.inl ⟨CF.1 h2,h⟩)
  |false=>
   rw[h2,DR]at h;cases h3:(q.k==3)with
   |true=>
    rw[h3,DQ]at h;simp only[AQ,AZ,CF,ge_iff_le]at h;exact .inr (.inr ⟨CF.1 h3,⟨h.1,h.2.1⟩,h.2.2⟩)
   |false=>rw[h3,DR]at h;cases h
theorem Qa:D6 PR B0 62 XI:=by
 refine EF [(126,fH),(93,NB),(128,fS),(127,XM)] [(9,⟨[4,5,6,8,9,36,37],[4,5,6],[]⟩)] XI [[.bool]] Tryz.func62 rk ⟨zep,cC,zez,Qe,trivial⟩ ?_;intro vs r hwf h;unfold XI at h;split at h
 .rename_i m q p t;replace h:=II h;obtain⟨m,rfl,h⟩:=h;replace h:=JB h;obtain⟨q,rfl,h⟩:=h;replace h:=RN h;obtain⟨p,rfl,h⟩:=h;rw[R.get_ok]at h;refine⟨10,?_⟩;rw[<-h];refine(zas 10 m q p t).trans ?_;unfold GH;cases hr:E8 m q with
  |false=>rfl
  |true=>
   obtain⟨hm,_,_,_,hk⟩:=SO hr;have hmp:=KC hm;rw[A9,DR,BI];cases h1:(q.k==1)with
   |true=>rfl
   |false=>
    rw[DR,DR];cases h2:(q.k==2)with
    |true=>
     rw[DQ,DQ];refine(z9 10 m q p _ AG m.c.toNat 0 10 AG AG).trans ?_;rw[pK,<-List.range_eq_range'];rfl
    |false=>
     rw[DR,DR];rcases aW hk with⟨e,_⟩|⟨e,_⟩|⟨_,⟨f0,fd⟩,_⟩
     .rw[e]at h1;cases h1
     .rw[e]at h2;cases h2
     .have step:∀x:Int,cond (AE (x>=t)) (AA (V.bool AD,[])) (cond q.fl (AA (V.bool (AE (D1 m q.c (H2 q p t)>D1 m q.c p)),[])) (AA (V.bool (AE (D1 m q.c (H2 q p t)<D1 m q.c p)),[])))=
        AA (V.bool (cond (AE (x>=t)) AD (cond q.fl (AE (D1 m q.c (H2 q p t)>D1 m q.c p)) (AE (D1 m q.c (H2 q p t)<D1 m q.c p)))),([]:List (List V))):=λx=>by
       cases AE (x>=t)with
       |true=>rfl
       |false=>cases q.fl<;>rfl
      obtain e|e|e|e:q.ft=0\/q.ft=1\/q.ft=2\/q.ft=3:=by omega
      all_goals
       rw[e];exact step _
 .simp[R.get]at h
open Go
theorem bE{n:Nat}(h:n<18446744073709551616):(A0 64 (n:Int)).toNat=n:=by
 rw[BitVec.toNat_ofInt]
 have:((n:Int)%((2^64:Nat):Int)).toNat=n:=by
  rw[Int.emod_eq_of_lt AG AG];exact BE n
 exact this
theorem ST{n:Nat}(h:n<18446744073709551616):GQ (n:Int)=(n:Int):=by
 unfold GQ;rw[RK];omega
theorem pJ{x y:Nat}(hx:x<18446744073709551616)(hy:y<18446744073709551616):GG (x:Int) (y:Int)=((x&&&y:Nat):Int):=by
 unfold GG;rw[show AT AO=64 from rfl,BitVec.toNat_and,bE hx,bE hy];exact ST (vbn Nat.and_le_left hx)
theorem T8{x y:Nat}(hx:x<18446744073709551616)(hy:y<18446744073709551616):Y2 (x:Int) (y:Int)=((x|||y:Nat):Int):=by
 unfold Y2;rw[show AT AO=64 from rfl,BitVec.toNat_or,bE hx,bE hy];exact ST (Nat.or_lt_two_pow (n:=64) hx hy)
theorem Zd{x y a:Nat}(ha:a<=64)(hx:x<2^a)(hy:y*2^a<18446744073709551616):gI (x:Int) ((y*2^a:Nat):Int)=(x:Int):=by
 have hx':x<18446744073709551616:=CY hx (vaV AG ha);unfold gI;have e:(A0 (AT AO) (x:Int)&&& ~~~ (A0 (AT AO) ((y*2^a:Nat):Int))).toNat=x:=by
  rw[show AT AO=64 from rfl];apply Nat.eq_of_testBit_eq;intro i;rw[BitVec.toNat_and,Nat.testBit_and,bE hx'];by_cases hi:i<a
  .have h1:(~~~ (A0 64 ((y*2^a:Nat):Int))).toNat.testBit i=AC:=by
    rw[<-BitVec.getLsbD,BitVec.getLsbD_not];have h2:(A0 64 ((y*2^a:Nat):Int)).getLsbD i=AD:=by
     rw[BitVec.getLsbD,bE hy,Nat.mul_comm,Nat.testBit_two_pow_mul];simp[Nat.not_le.2 hi]
    rw[h2];simp;omega
   rw[h1,CK]
  .have h1:x.testBit i=AD:=Nat.testBit_lt_two_pow (CY hx (vaV AG AG));rw[h1,BP]
 rw[e];exact ST hx'
theorem WB{y a:Nat}(hy:y*2^a<18446744073709551616):OO (y:Int) a=((y*2^a:Nat):Int):=by
 unfold OO;rw[show((y:Int)*2^a)=((y*2^a:Nat):Int) by push_cast;rfl];exact ST hy
theorem Y3{x y a:Nat}(hx:x<2^a):x|||y*2^a=x+y*2^a:=by
 rw[Nat.or_comm,Nat.mul_comm,<-Nat.two_pow_add_eq_or_of_lt hx,Nat.add_comm]
theorem vK{x y a w:Nat}(haw:a+w<=64)(hx:x<2^a)(hy:y<2^w)(hM:PF (w:Int)=((2^w-1:Nat):Int)):K7 (x:Int) (a:Int) (w:Int) (y:Int)=((x+y*2^a:Nat):Int):=by
 have hp:∀z,z<2^w->z*2^a<18446744073709551616:=λz hz=>by
  have h1:z*2^a<2^w*2^a:=Nat.mul_lt_mul_of_pos_right hz (Nat.two_pow_pos a);rw[<-Nat.pow_add]at h1;exact CY h1 (show 2^(w+a)<=2^64 from vaV AG AG)
 have hm:(2^w-1)<2^w:=Nat.sub_lt (Nat.two_pow_pos w) AG;have hx':x<18446744073709551616:=CY hx (show 2^a<=2^64 from vaV AG AG);unfold K7;rw[hM,BE,WB (hp _ hm),WB (hp _ hy),Zd AG hx (hp _ hm),pJ (hp _ hy) (hp _ hm)];have e:y*2^a&&&(2^w-1)*2^a=y*2^a:=by
  rw[<-Nat.shiftLeft_eq,<-Nat.shiftLeft_eq,<-Nat.shiftLeft_and_distrib,Nat.and_two_pow_sub_one_eq_mod,Nat.mod_eq_of_lt hy]
 rw[e,T8 hx' (hp _ hy),Y3 hx]
theorem mY(a:Int):∃n:Nat,n<4294967296/\GG (GQ a) 4294967295=(n:Int):=by
 have h:∃m:Nat,m<18446744073709551616/\GQ a=(m:Int):=by
  refine⟨(GQ a).toNat,?_,?_⟩<;>unfold GQ<;>rw[RK]<;>omega
 obtain⟨m,hm,e⟩:=h;refine⟨m&&&4294967295,?_,?_⟩
 .exact vbn Nat.and_le_right (by decide)
 .rw[e];exact pJ (y:=4294967295) hm (by decide)
theorem nE(x:Nd):RB x.lf x.v x.f x.a x.l x.r=IQ x:=by
 obtain⟨lf,v,f,a,l,r⟩:=x;unfold RB IQ Nd.eq O6;cases lf
 .simp only[BK,Bool.and_assoc]
 .simp only[B5,DF,BI,CK];cases E4 v<;>cases(f==0)<;>cases(a==0)<;>cases(l==0)<;>cases(r==0)<;>rfl
theorem uW(x:Nd):HK x.lf x.v x.f x.a x.l x.r=G9 x:=by
 unfold HK G9;rw[nE];cases hr:IQ x with
 |false=>rfl
 |true=>
  obtain⟨lf,v,f,a,l,r⟩:=x;simp only[B5];cases lf with
  |true=>
   simp only[B5];unfold K7;obtain⟨n,hn,e⟩:=mY v;have e1:PF 32=4294967295:=by decide
   have e2:OO 4294967295 (AM 0)=4294967295:=by decide
   have e3:gI 9223372036854775808 4294967295=9223372036854775808:=by decide
   have e4:OO (GQ v) (AM 0)=GQ v:=by
    unfold OO GQ;rw[RK,RK];simp
   rw[e1,e2,e3,e4]
  |false=>
   simp only[BK];unfold IQ at hr;simp only[BK,AQ,AZ,O6]at hr;obtain⟨_,f0,f1,_,⟨l0,l1⟩,r0,r1⟩:=hr;obtain⟨n,hn,e⟩:=mY a;have hz:K7 0 0 32 (GQ a)=(n:Int):=by
    unfold K7;have e1:PF 32=4294967295:=by decide
    have e2:OO 4294967295 (AM 0)=4294967295:=by decide
    have e3:gI 0 4294967295=0:=by decide
    have e4:OO (GQ a) (AM 0)=GQ a:=by
     unfold OO GQ;rw[RK,RK];simp
    rw[e1,e2,e3,e4,e]
    have:=T8 (x:=0) (y:=n) AG AG
    simpa using this
   obtain⟨f',rfl⟩:=Int.eq_ofNat_of_zero_le f0;obtain⟨l',rfl⟩:=Int.eq_ofNat_of_zero_le (show 0<=l by omega);obtain⟨r',rfl⟩:=Int.eq_ofNat_of_zero_le (show 0<=r by omega);rw[hz,e,ST (n:=f') AG,ST (n:=l') AG,ST (n:=r') AG];have p1:K7 (n:Int) 32 4 (f':Int)=((n+f'*2^32:Nat):Int):=vK (a:=32) (w:=4) AG AG AG (by decide);have p2:K7 ((n+f'*2^32:Nat):Int) 40 8 (l':Int)=((n+f'*2^32+l'*2^40:Nat):Int):=vK (a:=40) (w:=8) AG AG AG (by decide);have p3:K7 ((n+f'*2^32+l'*2^40:Nat):Int) 48 8 (r':Int)=((n+f'*2^32+l'*2^40+r'*2^48:Nat):Int):=vK (a:=48) (w:=8) AG AG AG (by decide);rw[p1,p2,p3,WB (y:=f') (a:=32) AG,WB (y:=l') (a:=40) AG,WB (y:=r') (a:=48) AG];rw[T8 (x:=n) AG AG,Y3 (x:=n) (a:=32) AG,T8 AG AG,Y3 (a:=40) AG,T8 AG AG,Y3 (a:=48) AG]
theorem zbS{x:Nd}(h:IQ x=AC):G9 x≠0:=by
 rw[<-uW];unfold HK;rw[nE,h];simp only[B5];obtain⟨lf,v,f,a,l,r⟩:=x;cases lf with
 |true=>
  simp only[B5];obtain⟨n,hn,e⟩:=mY v;rw[e]
  have:=T8 (x:=9223372036854775808) (y:=n) AG AG
  have h2:9223372036854775808<=9223372036854775808|||n:=Nat.left_le_or;intro h3;have h4:((9223372036854775808|||n:Nat):Int)=0:=this▸h3;omega
 |false=>
  simp only[BK];unfold IQ at h;simp only[BK,AQ,AZ,O6]at h;obtain⟨_,f0,f1,_,⟨l0,l1⟩,r0,r1⟩:=h;obtain⟨n,hn,e⟩:=mY a;obtain⟨f',rfl⟩:=Int.eq_ofNat_of_zero_le f0;obtain⟨l',rfl⟩:=Int.eq_ofNat_of_zero_le (show 0<=l by omega);obtain⟨r',rfl⟩:=Int.eq_ofNat_of_zero_le (show 0<=r by omega);rw[e,ST (n:=f') AG,ST (n:=l') AG,ST (n:=r') AG];rw[WB (y:=f') (a:=32) AG,WB (y:=l') (a:=40) AG,WB (y:=r') (a:=48) AG];rw[T8 (x:=n) AG AG,Y3 (x:=n) (a:=32) AG,T8 AG AG,Y3 (a:=40) AG,T8 AG AG,Y3 (a:=48) AG];omega
def vO(w:Int):Bool:=IQ (L9 w)&&(G9 (L9 w)==w)
theorem wh(w:Int):vO w=FQ w:=by
 unfold vO FQ;cases hr:IQ (L9 w)with
 |true=>
  rw[BI];cases hw:G9 (L9 w)==w with
  |false=>rw[DE]
  |true=>
   have h1:=zbS hr;rw[CF.1 hw]at h1;simp[h1]
 |false=>
  have:G9 (L9 w)=0:=by
   unfold G9;rw[hr];rfl
  rw[this,BP];cases hw:(w==0)with
  |true=>rfl
  |false=>
   have:¬(0=w):=λe=>by subst e;cases hw
   simp[this]
open Go
def zfs:Md:=⟨1,1,3,0,0,[.agg [.int 0,.list [.int (HK AD 0 0 5 1 2),.int (HK AC 10 0 0 0 0),.int (HK AC 20 0 0 0 0)]]]⟩
def dV:D4
 |[]=>.ok zfs.V []
 |_=>.no
open Go
abbrev ug:List Kd:=[.z,.list AD [.z],.list AD [.z],.list AD [.z],.list AD [.z]]
structure Ft where
 d:Int
 c:Int
 bias:LI
 ts:LI
def Ft.cs(f:Ft):List FM.V:=[.i f.d,.i f.c,.list AD [.z] f.bias,.list AC ug f.ts]
def Ft.V(f:Ft):FM.V:=.agg f.cs
def Ft.M(f:Ft):Md:=nB f.d f.c f.bias f.ts
def ftOf?:List FM.V->Option Ft
 |[.i d,.i c,.list AD [.z] b,.list AC [.z,.list AD [.z],.list AD [.z],.list AD [.z],.list AD [.z]] t]=>AA ⟨d,c,b,t⟩
 |_=>AB
def akOf?:List FM.V->Option Ak
 |[.i k,.i c,.i lo,.i size,.i ft,.i bu,.bool fl,.list AD [.z] sp]=>AA ⟨k,c,lo,size,ft,bu,fl,sp⟩
 |_=>AB
abbrev o5(v:FM.V)(k:Ft->R):R:=SV ftOf? v k
abbrev Vk(v:FM.V)(k:Ak->R):R:=SV akOf? v k
theorem yG{v:FM.V}{k:Ft->R}{z:FM.V×List (List FM.V)}(h:(o5 v k).get=AA z):∃x:Ft,v=x.V/\(k x).get=AA z:=by
 obtain⟨l,x,rfl,hx,h⟩:=WN h;unfold ftOf? at hx;split at hx
 .simp only[AK]at hx;subst hx;exact⟨_,rfl,h⟩
 .cases hx
theorem zfQ{v:FM.V}{k:Ak->R}{z:FM.V×List (List FM.V)}(h:(Vk v k).get=AA z):∃x:Ak,v=x.V/\(k x).get=AA z:=by
 obtain⟨l,x,rfl,hx,h⟩:=WN h;unfold akOf? at hx;split at hx
 .simp only[AK]at hx;subst hx;exact⟨_,rfl,h⟩
 .cases hx
def IW(a:Ak)(m:Md):Qy:=JU a m.d m.c
def QI(m:Md):Bool:=(AE (1<=m.d)&&AE (m.d<=4))&&(AE (1<=m.c)&&AE (m.c<=3))
def XV:D4
 |[f]=>o5 f λf=>.ok f.M.V []
 |_=>.no
def XU:D4
 |[a,m]=>Vk a λa=>H8 m λm=>.br (QI m) (.ok (IW a m).V []) .no
 |_=>.no
def Qy.bud(q:Qy)(b:Int):Qy:=⟨q.k,q.c,q.a0,q.b0,q.a1,q.b1,q.a2,q.b2,q.a3,q.b3,q.a4,q.b4,q.lo,q.hi,q.ft,q.fl,b⟩
theorem Yz{vs:List FM.V}{z:FM.V×List (List FM.V)}(h:(XV vs).get=AA z):(kJ vs).get=AA z:=by
 unfold XV at h;split at h
 .replace h:=yG h;obtain⟨f,rfl,h⟩:=h;exact h
 .simp[R.get]at h
theorem Za{vs:List FM.V}{z:FM.V×List (List FM.V)}(h:(XU vs).get=AA z):(kI vs).get=AA z:=by
 unfold XU at h;split at h
 .replace h:=zfQ h;obtain⟨a,rfl,h⟩:=h;replace h:=II h;obtain⟨m,rfl,h⟩:=h;exact h
 .simp[R.get]at h
open Go
def YI(s:Sp):Bool:=AE (-2147483648<=s.lo)&&(AE (s.lo<=s.hi)&&AE (s.hi<=2147483647))
def goodB(b:Bx):Bool:=YI b.s0&&(YI b.s1&&(YI b.s2&&(YI b.s3&&YI b.s4)))
def dS:D4
 |[.list AD [.int .u64] l,b]=>JA b λb=>.br (GP l 4&&goodB b) (.ok (.tup [.i (IT l b),.i (IS l b)]) []) .no
 |_=>.no
def dR:D4
 |[m,.i k,b]=>H8 m λm=>JA b λb=>.br (b.emp||goodB b) (.ok (.tup [.i (EK m k b),.i (EI m k b)]) []) .no
 |_=>.no
def dT:D4
 |[m,q,b]=>H8 m λm=>I2 q λq=>JA b λb=>.br (E8 m q&&(b.emp||goodB b)) (.ok (.bool (G4 m q b)) []) .no
 |_=>.no
def K8(x:IV):Bool:=cond (I1 x) (FP x==0&&GE x==0) (AE (0<=FP x)&&AE (FP x<=4))
def fQ:D4
 |[.agg [.bool s,.i p,.i a]]=>.ok (.bool (K8 (OP s p a))) []
 |_=>.no
def NJ(st:Int×Int)(x:IV):Option (Int×Int):=
 cond (st.1==0||!(K8 x)) AB (cond (I1 x) (AA (st.1-1,st.2)) (AA (st.1+1,max st.2 (st.1+1))))
def J6:LI->Int×Int->Option (Int×Int)
 |[],st=>AA st
 |x::r,st=>match NJ st x with
  |some st'=>J6 r st'
  |none=>AB
def MP(l:LI):Int:=cond (AE (ic l.length>65536)) 0 (match J6 l (1,1)with
 |some st=>cond (!(st.1==0)||decide (st.2>200)) 0 st.2
 |none=>0)
def fP:D4
 |[.list AC [.bool,.z,.z] l]=>.ok (.i (MP l)) []
 |_=>.no
def fN:D4
 |[.list AC [.bool,.z,.z] l]=>.ok (.bool (AE (MP l>0))) []
 |_=>.no
def MY(st:LI×LI)(x:IV):Option (List IV×LI):=
 cond (I1 x) (AA (F3 st.1,st.2++[(EC st.1).I]))
  (cond (AE (GE x<((EC st.1).g (FP x).toNat).lo)||decide (GE x>=((EC st.1).g (FP x).toNat).hi)) AB
   (AA (F3 st.1++[((EC st.1).cutH (FP x) (GE x)).I,((EC st.1).cutL (FP x) (GE x)).I],st.2)))
def I7:LI->LI×LI->Option (List IV×LI)
 |[],st=>AA st
 |x::r,st=>match MY st x with
  |some st'=>I7 r st'
  |none=>AB
def LQ(b:Bx)(l:LI):Option LI:=cond (AE (MP l>0)) ((I7 l ([b.I],[])).map (·.2)) AB
def fO:D4
 |[b,.list AC [.bool,.z,.z] l]=>JA b λb=>.br (LQ b l).isSome (.ok (.tup [.list AC ET ((LQ b l).getD []),.bool AC]) []) (.ok (.tup [.list AC ET [],.bool AD]) [])
 |_=>.no
def Vd.p(v:Vd):Pt:=⟨v.w0,v.w1,v.w2,v.w3⟩
def NS(m:Md)(q:Qy)(v:Vd):Bool:=
 E8 m q&&cond (v.kind==1) (match LQ (FG q) v.proof with
   |some l=>l.all λx=>G4 m q (EG x)
   |none=>AD)
  (cond (v.kind==2) ((FG q).has v.p v.twin&&GH m q v.p v.twin) AD)
def XB:D4
 |[m,q,v]=>H8 m λm=>I2 q λq=>yI v λv=>.ok (.bool (NS m q v)) []
 |_=>.no
open Go
def NI(j:Nat):Bx->List Int->List Bx
 |c,[]=>[c]
 |c,a::r=>c.cutL (j:Int) a::NI j (c.cutH (j:Int) a) r
def JR(m:Md)(q:Qy)(b:Bx):Nat->List Bx
 |0=>[b]
 |j+1=>(JR m q b j).flatMap λc=>NI j c (EM m q b j)
def K0(m:Md)(q:Qy):Bool:=(JR m q (FG q) 5).all λc=>!(GH m q c.low c.s4.hi)
def IL(m:Md)(q:Qy)(b:Bx):Nat->Nat
 |0=>1
 |j+1=>IL m q b j*(1+(EM m q b j).length)
def I6(m:Md)(q:Qy)(b:Bx)(most:Int):Bool:=AE (ic (IL m q b 5)>most)
open Go
def eE:D4
 |[.i n,.i w]=>.br (AE (w=32)&&(AE (0<=n)&&AE (n<=4294967295))) (.ok (.i (KH n)) []) .no
 |_=>.no
def QW:D4
 |[.int .u64 w]=>.ok (.tup [.agg [.bool (DT w).lf,.i (DT w).v,.i (DT w).f,.i (DT w).a,.i (DT w).l,.i (DT w).r],.bool (FQ w)]) []
 |_=>.no
def eH:D4
 |[.list AD [.int .u64] l,.i dim]=>.ok (.bool (GP l dim)) []
 |_=>.no
def eO:D4
 |[.list AD [.int .u64] l,p]=>QT p λp=>.ok (.i (YG l p)) []
 |_=>.no
def eJ:D4
 |[.list AD [.int .u64] l,p]=>QT p λp=>.ok (.i (GW l p)) []
 |_=>.no
def XC:D4
 |[m]=>H8 m λm=>.ok (.bool (EU m)) []
 |_=>.no
def eG:D4
 |[m,.i k,p]=>H8 m λm=>QT p λp=>.ok (.i (D1 m k p)) []
 |_=>.no
def eB:D4
 |[m,q]=>H8 m λm=>I2 q λq=>.ok (.bool (E8 m q)) []
 |_=>.no
def eC:D4
 |[q]=>I2 q λq=>.ok (FG q).V []
 |_=>.no
def d9:D4
 |[b]=>JA b λb=>.ok b.low.V []
 |_=>.no
def dZ:D4
 |[m,q,p,.i t]=>H8 m λm=>I2 q λq=>QT p λp=>.ok (.bool (GH m q p t)) []
 |_=>.no
def d8:D4
 |[m,q,b,.i i]=>H8 m λm=>I2 q λq=>JA b λb=>.br (EU m&&HC i) (.ok (.list AD [.z] (iZ (EM m q b i.toNat))) []) .no
 |_=>.no
def Sp.goodB(s:Sp):Bool:=AE (-2147483648<=s.lo)&&(AE (s.lo<=s.hi)&&AE (s.hi<=2147483647))
def Bx.goodB(b:Bx):Bool:=b.s0.goodB&&(b.s1.goodB&&(b.s2.goodB&&(b.s3.goodB&&b.s4.goodB)))
def d7:D4
 |[m,q,b,.i most]=>H8 m λm=>I2 q λq=>JA b λb=>
  .br (EU m&&(b.goodB&&(AE (1<=most)&&AE (most<=65536)))) (.ok (.tup [.list AC ET (cond (I6 m q b most) [] ((JR m q b 5).map Bx.I)),.bool (!(I6 m q b most))]) []) .no
 |_=>.no
def eD:D4
 |[m,q,.i most]=>H8 m λm=>I2 q λq=>
  .br (E8 m q&&(AE (1<=most)&&AE (most<=65536))) (.ok (.tup [.bool (!(I6 m q (FG q) most)&&K0 m q),.bool (!(I6 m q (FG q) most))]) []) .no
 |_=>.no
open Go Go.Proofs Go.RowKit Go.Sort
theorem sA(x:Int):∀l,(YK x l).Perm (x::l)
 |[]=>vbI _
 |y::r=>by
  rw[YK];cases AE (x<=y)with
  |true=>exact vbI _
  |false=>exact((sA x r).cons y).trans (List.Perm.swap x y r)
theorem UD:∀l,(LV l).Perm l
 |[]=>vbI _
 |x::r=>(sA x (LV r)).trans ((UD r).cons x)
theorem He(x:Int):∀{l:List Int},l.Pairwise (·<=·)->(YK x l).Pairwise (·<=·)
 |[],_=>by simp[YK]
 |y::r,h=>by
  rw[YK];cases hd:AE (x<=y)with
  |true=>
   have hd:=BB hd;rw[DQ];rw[vbB]at h ⊢;refine⟨λz hz=>?_,by rw[vbB];exact h⟩;rcases AW.1 hz with rfl|hz
   .exact hd
   .exact Int.le_trans hd (h.1 z hz)
  |false=>
   have hd:=BM hd;rw[DR];rw[vbB]at h ⊢;refine⟨λz hz=>?_,He x h.2⟩;rcases AW.1 ((sA x r).mem_iff.1 hz)with rfl|hz
   .omega
   .exact h.1 z hz
theorem wZ:∀l,(LV l).Pairwise (·<=·)
 |[]=>List.Pairwise.nil
 |x::r=>He x (wZ r)
theorem vw(l:List Int):(l.mergeSort λx y=>AE (x<=y))=LV l:=by
 refine List.Perm.eq_of_pairwise (le:=(·<=·)) (λa b _ _ h1 h2=>Int.le_antisymm h1 h2) ?_ (wZ l) ((List.mergeSort_perm l _).trans (UD l).symm)
 have:=List.pairwise_mergeSort (le:=λ(x y:Int)=>AE (x<=y)) (λa b c h1 h2=>AL (Int.le_trans (BB h1) (BB h2))) (λa b=>by
  rcases Int.le_total a b with h|h
  .rw[AL h];rfl
  .rw[AL h,Bool.or_true]) l
 exact this.imp λh=>by simpa using h
theorem Dy(x:Int):∀(l:List Int) (p:Int),KX p (l++[x])=KX p l++cond ((l.getLast?.getD p)==x) [] [x]
 |[],p=>by
  show cond (x==p) (KX x []) (x::KX x [])=_;rw[show((([]:List Int).getLast?.getD p)==x)=(x==p) by show(p==x)=(x==p);rw[vaB,CF,CF];exact eq_comm];cases(x==p)<;>rfl
 |y::r,p=>by
  rw[C9,KX,KX,Dy x r y];have e:((y::r).getLast?.getD p)=r.getLast?.getD y:=by
   cases r with
   |nil=>rfl
   |cons z r=>rw[List.getLast?_cons_cons,List.getLast?_eq_some_getLast (List.cons_ne_nil z r)];rfl
  rw[e];cases(y==p)<;>rfl
theorem cw(x:Int)(l:List Int):JS (l++[x])=JS l++cond (l.getLast?==AA x) [] [x]:=by
 cases l with
 |nil=>rfl
 |cons y r=>
  rw[C9,JS,JS,Dy,C9];congr 2
  have:((y::r).getLast?==AA x)=(r.getLast?.getD y==x):=by
   cases r with
   |nil=>show(AA y==AA x)=(y==x);rw[vaB];simp
   |cons z r=>rw[List.getLast?_cons_cons,List.getLast?_eq_some_getLast (List.cons_ne_nil z r)];rw[vaB];simp
  rw[this]
theorem da(l:List Int):Lib.compact l=JS l:=by
 have key:∀m,m<=l.length->vbp l.toArray m=JS (l.take m):=by
  intro m
  induction m with
  |zero=>intro _;rfl
  |succ m ih=>
   intro hm;have e1:vbp l.toArray (m+1)=vbp l.toArray m++cond (Lib.keeps l.toArray m) [l.toArray[m]!] []:=by
    unfold vbp;rw[List.range_succ,List.filter_append,List.map_append];congr 1;cases hk:Lib.keeps l.toArray m<;>simp[hk]
   have hml:m<l.length:=by omega
   have e2:l.toArray[m]! =l[m]:=by simp[hml]
   rw[e1,ih AG,List.take_succ_eq_append_getElem hml,cw,e2];congr 1;cases m with
   |zero=>simp[Lib.keeps]
   |succ k=>
    have hk:k<l.length:=by omega
    have e3:(l.take (k+1)).getLast?=AA l[k]:=by rw[List.getLast?_take];simp[hk]
    rw[e3];have e4:l.toArray[k]! =l[k]:=by simp[hk]
    cases hq:Lib.keeps l.toArray (k+1)with
    |true=>
     have:¬(l[k+1]=l[k]):=λhe=>by
      rw[Lib.keeps_neg (Nat.succ_pos k) (by show l.toArray[k+1]! =l.toArray[k]!;rw[e2,e4];exact he)]at hq;cases hq
     rw[DQ];rw[show(AA l[k]==AA l[k+1])=AD by simp;exact λh=>this h.symm];rfl
    |false=>
     have:l[k+1]=l[k]:=by
      by_cases he:l[k+1]=l[k]
      .exact he
      .rw[Lib.keeps_pos (by show l.toArray[k+1]!≠l.toArray[k]!;rw[e2,e4];exact he)]at hq;cases hq
     rw[DR,this];rw[show(AA l[k]==AA l[k])=AC by simp];rfl
 unfold Lib.compact;rw[key _ (A4 _),BS]
theorem Dw:∀(l:List Int) (p:Int),(KX p l).length<=l.length
 |[],_=>A4 _
 |x::r,p=>by
  have:=Dw r x
  rw[KX];cases(x==p)
  .rw[DR,AV,AV];omega
  .rw[DQ,AV];omega
theorem lD(l:List Int):(JS l).length<=l.length:=by
 cases l with
 |nil=>exact A4 _
 |cons x r=>rw[JS,AV,AV];have:=Dw r x;omega
theorem qK{p x:Int}:∀{l:List Int},x∈KX p l->x∈l
 |[],h=>by cases h
 |y::r,h=>by
  rw[KX]at h;cases hb:(y==p)
  .rw[hb,DR]at h;rcases AW.1 h with h|h
   .exact h▸AY ..
   .exact A6 _ (qK h)
  .rw[hb,DQ]at h;exact A6 _ (qK h)
theorem Dz{x:Int}{l:List Int}(h:x∈JS l):x∈l:=by
 cases l with
 |nil=>cases h
 |cons y r=>
  rcases AW.1 h with h|h
  .exact h▸AY ..
  .exact A6 _ (qK h)
theorem LM(l:List Int):(iZ l).length=l.length:=BW ..
theorem rW(l:List Int):(iZ l).map IV.toInt=l:=by
 unfold iZ;rw[List.map_map];exact List.map_id l
theorem qF(l:List Int):NH (iZ l)=l.map (Value.int .i64):=by
 unfold NH iZ;rw[List.map_map];rfl
theorem cg(l:LI):NH l=(l.map IV.toInt).map (Value.int .i64):=by
 unfold NH;rw[List.map_map];rfl
abbrev J9:Int->Value:=Value.int .i64
theorem nN{w:World}{e g n cap:Nat}{zs:List Int}(h:w.ownsRow 0 e 1 (.slice (AA ⟨g,0,AB⟩) n cap) zs.length (zs.map J9)):n=zs.length/\n<=cap/\cap<=maxLen/\g<w.heap.size/\Holds J9 w g 0 zs.toArray:=by
 rcases h.2 with⟨h1,_⟩|⟨g',cap',cur,h1,_,h2,h3,h4,h5,h6⟩
 .cases h1
 .simp only[CW,AK,DI,CI]at h1;obtain⟨rfl,rfl,rfl⟩:=h1;refine⟨rfl,h3,h4,(DK.1 h2).1,λj hj=>?_⟩;have hj':j<zs.length:=by simpa using hj
  rw[BU];constructor
  .have hc:cur[j]?=AA (J9 zs[j]):=by
    have:(cur.toList.take (zs.length*1))[j]?=AA (J9 zs[j]):=by rw[h6];simp[hj']
    rw[C3,BX AG]at this;simpa using this
   simp only[vaI,h2];simp[hc,hj']
  .simp[World.frozen?,h2]
theorem th{w:World}{g:Nat}{cur:Array Value}{e:TypeId}{fr:Nat×Nat}(h:w.heap[g]?=AA (.cells cur e fr))(q:Nat)(os:Array Obj)(zs:List Int):
  (grow (putRow J9 (vbE w q) g 0 zs.toArray) os).heap[g]?=AA (.cells (putCells J9 0 zs.toArray cur) e fr):=by
 have hg:g<w.heap.size:=(DK.1 h).1;have h0:(putRow J9 (vbE w q) g 0 zs.toArray).heap[g]?=AA (.cells (putCells J9 0 zs.toArray cur) e fr):=by
  unfold putRow mapBlock;simp[vaP,onCells,h]
 unfold grow;simp only;rw[Array.getElem?_append_left (by rw[size_putRow];exact hg)];exact h0
theorem zcm{cur:Array Value}{zs:List Int}(h:zs.length<=cur.size):(putCells J9 0 zs.toArray cur).size=cur.size/\(putCells J9 0 zs.toArray cur).toList.take zs.length=zs.map J9:=by
 refine⟨by simp[putCells],?_⟩;apply List.ext_getElem?;intro k;rw[C3];by_cases hk:k<zs.length
 .rw[BX hk];have hc:k<cur.size:=by omega
  simp[putCells,hk,hc]
 .rw[BO hk];simp[hk]
theorem uM{w:World}{e g n cap:Nat}{zs:List Int}(h:w.ownsRow 0 e 1 (.slice (AA ⟨g,0,AB⟩) n cap) zs.length (zs.map J9))(q:Nat)(os:Array Obj)(ys rest:List Int)(hl:(ys++rest).length=zs.length):
  w.grownBy (grow (putRow J9 (vbE w q) g 0 (ys++rest).toArray) os) (AA g)/\
   (grow (putRow J9 (vbE w q) g 0 (ys++rest).toArray) os).ownsRow 0 e 1 (.slice (AA ⟨g,0,AB⟩) ys.length cap) ys.length (ys.map J9):=by
 have hh:=nN h;rcases h.2 with⟨h1,_⟩|⟨g',cap',cur,h1,_,h2,h3,h4,h5,h6⟩
 .cases h1
 .simp only[CW,AK,DI,CI]at h1;obtain⟨rfl,rfl,rfl⟩:=h1;rw[A2]at hl;have hcur:(ys++rest).length<=cur.size:=by rw[A2];omega
  obtain⟨p1,p2⟩:=zcm (zs:=ys++rest) hcur;refine⟨⟨rfl,rfl,rfl,?_,λk hk hne=>?_⟩,by simp,.inr ⟨g,cap,_,rfl,CH _,th h2 q os _,by omega,h4,by rw[p1,h5],?_⟩⟩
  .show w.heap.size<=((putRow J9 (vbE w q) g 0 (ys++rest).toArray).heap++os).size;rw[Array.size_append,size_putRow];exact Nat.le_add_right _ _
  .have hne':g≠k:=λe=>hne (by rw[e])
   unfold grow;simp only;rw[Array.getElem?_append_left (by rw[size_putRow];exact hk)];unfold putRow mapBlock;simp[vaP,hne']
  .rw[Nat.mul_one]
   have:=congrArg (AU ys.length) p2
   rw[List.take_take,vaG (by rw[A2];omega),List.map_append,List.take_left' (by simp)]at this;exact this
theorem Gq(w:World)(r:Option Nat):w.grownBy w r:=⟨rfl,rfl,rfl,A4 _,λ_ _ _=>rfl⟩
theorem vZ{l:LI}(h:∀x∈l,AJ.min<=x.toInt/\x.toInt<=AJ.max){ys:List Int}(hs:∀y∈ys,y∈l.map IV.toInt):∀x∈iZ ys,AJ.min<=x.toInt/\x.toInt<=AJ.max:=by
 intro x hx;obtain⟨y,hy,rfl⟩:=CU.1 hx;obtain⟨z,hz,hzy⟩:=CU.1 (hs y hy);show AJ.min<=y/\y<=AJ.max;rw[<-hzy];exact h z hz
theorem uK{w:World}{e:Nat}{v:Value}{l:LI}(h:w.ownsRow 0 e 1 v l.length (NH l)):(v=.slice AB 0 0/\l=[])\/∃g cap,v=.slice (AA ⟨g,0,AB⟩) (l.map IV.toInt).length cap/\w.ownsRow 0 e 1 (.slice (AA ⟨g,0,AB⟩) (l.map IV.toInt).length cap) (l.map IV.toInt).length ((l.map IV.toInt).map J9):=by
 rcases h.2 with⟨h1,h2⟩|⟨g,cap,cur,h1,_⟩
 .exact .inl ⟨h1,List.length_eq_zero_iff.1 h2⟩
 .rw[h1]at h;refine .inr ⟨g,cap,by rw[h1,BW],?_⟩;rw[BW,<-cg];exact h
theorem zen:S1 PR 194 mC:=by
 intro w v l l' rs ys hown hrng hlen hr hg;unfold mC at hg;simp only at hg;split at hg
 .simp only[AK]at hg;subst hg;obtain rfl:ys=[]:=by
   cases ys with
   |nil=>rfl
   |cons y ys=>simp[V6]at hr
  refine Does.of_calls Tryz.func194 AF AF ?_;have hmem:∀y∈LV (l.map IV.toInt),y∈l.map IV.toInt:=λy hy=>(UD _).mem_iff.1 hy
  rcases uK hown with⟨rfl,rfl⟩|⟨g,cap,rfl,ho⟩
  .refine(Tryz.slices_Sort_int_none AB 0 w).mono ?_;rintro e w' ⟨rfl,rfl⟩;exact⟨_,rfl,Gq _ _,λx hx=>(by cases hx),λh=>(by cases h),λ_=>hown⟩
  .obtain⟨_,_,hcm,hgs,hH⟩:=nN ho;refine(Tryz.slices_Sort_int g 0 cap (l.map IV.toInt) w hH hgs (by rw[BW];unfold strMax at hlen;omega)).mono ?_;rintro e w' ⟨rfl,q,os,rfl⟩;rw[vw];have hl:(LV (l.map IV.toInt)++[]).length=(l.map IV.toInt).length:=by rw[vab];exact(UD _).length_eq
   have hp:=uM ho q os (LV (l.map IV.toInt)) [] hl;rw[vab]at hp hl;refine⟨_,rfl,hp.1,vZ hrng hmem,λh=>(by cases h),λ_=>?_⟩;rw[qF,LM,<-hl];exact hp.2
 .cases hg
theorem zel:S1 PR 195 mA:=by
 intro w v l l' rs ys hown hrng hlen hr hg;unfold mA at hg;simp only at hg;split at hg
 .simp only[AK]at hg;subst hg;obtain rfl:ys=[]:=by
   cases ys with
   |nil=>rfl
   |cons y ys=>simp[V6]at hr
  refine Does.of_calls Tryz.func195 AF AF ?_;rcases uK hown with⟨rfl,rfl⟩|⟨g,cap,rfl,ho⟩
  .refine(Tryz.slices_Compact_int_empty AB 0 w).mono ?_;rintro e w' ⟨rfl,rfl⟩;exact⟨_,rfl,Gq _ _,λx hx=>(by cases hx),λ_=>⟨hown,λb hb=>(by simp[CO]at hb)⟩,λh=>by cases h⟩
  .obtain⟨_,hnc,hcm,hgs,hH⟩:=nN ho;refine(Tryz.slices_Compact_int g 0 cap (l.map IV.toInt) w hH (by rw[BW];unfold strMax at hlen;omega) hnc).mono ?_;rintro e w' ⟨rfl,q,rfl⟩;rw[da];have hlc:=lD (l.map IV.toInt);have hp:=uM ho q #[] (JS (l.map IV.toInt)) (B6 ((l.map IV.toInt).length-(JS (l.map IV.toInt)).length) 0) (by rw[A2,List.length_replicate];omega);rw[grow_empty]at hp;refine⟨_,rfl,hp.1,vZ hrng λy hy=>Dz hy,λ_=>⟨?_,λb hb=>.inl hb⟩,λh=>by cases h⟩;rw[qF,LM];exact hp.2
 .cases hg
set_option maxHeartbeats 1000000 in
theorem Eo (a b x:Int) (B:Nat) (W:World) (ha:W.cell? ⟨B,0,none⟩=some (.int .i64 a)) (hb:W.cell? ⟨B,1,none⟩=some (.int .i64 b)) :
  FnGives Tryz.prog 152 #[.pointer (some ⟨B,0,none⟩)] #[.int .i64 x] (.bool (decide (x < a)||decide (x≥b))) W:=by
 show Calls Tryz.prog 152 #[.int .i64 x,.pointer (some ⟨B,0,none⟩)] W _
 go_enter Tryz.func152,Tryz.ntmps152
 go_wp2
 all_goals (go_ret; exact ⟨by simp_all,0,rfl⟩)
set_option maxHeartbeats 1000000 in
theorem ey (fv:Value) (w:World):Calls Tryz.prog 150 #[.slice none 0 0,fv] w fun e w'=>e = .returned (.slice none 0 0)∧∃ q,w'=w.drewN q:=by
 go_enter Tryz.func150,Tryz.ntmps150
 go_wp2_with (go_at_call 193; refine (Tryz.slices_IndexFunc_empty (α:=Int) none 0 fv _).mono ?_; rintro e w' ⟨rfl,rfl⟩)
 go_ret
 exact ⟨rfl,0,rfl⟩
theorem zb3{w:World}{v:Value}{f:Nat}{a b:Int}{ys:List Value}(h:V6 w v [.clo f [.bor [.int .i64 a,.int .i64 b]]] ys):∃B,ys=[.func (.func f) #[] #[.pointer (AA ⟨B,0,AB⟩)]]/\B<w.heap.size/\w.cell? ⟨B,0,AB⟩=AA (.int .i64 a)/\w.cell? ⟨B,1,AB⟩=AA (.int .i64 b)/\v.ownBlock≠AA B:=by
 cases ys with
 |nil=>simp[V6]at h
 |cons y r=>
  cases r with
  |cons _ _=>simp[V6]at h
  |nil=>
   simp only[V6]at h;obtain⟨B,c,T,rfl,hh,hc,hne⟩:=h;refine⟨B,rfl,(DK.1 hh).1,?_,?_,hne⟩
   .simp only[vaI,hh];rw[<-vaE,hc];rfl
   .simp only[vaI,hh];rw[<-vaE,hc];rfl
theorem zem:S1 PR 150 mB:=by
 intro w v l l' rs ys hown hrng hlen hr hg;unfold mB at hg;simp only at hg;split at hg
 .rename_i f a b;cases hf:B2 f 152 with
  |false=>rw[hf,DR]at hg;cases hg
  |true=>
   rw[hf,DQ,AK]at hg;subst hg;obtain rfl:=F1.1 hf;obtain⟨B,rfl,hBs,ha,hb,hne⟩:=zb3 hr;have pe:LN a b (l.map IV.toInt)=(l.map IV.toInt).filter λx=>!(AE (x<a)||decide (x>=b)):=rfl
   have eg:∀args w,(callFunc 152 args).run Tryz.prog w=.ok (.enter 152 args) w:=enters_of Tryz.func152 AF rfl;have hp:PredAt Tryz.prog 152 #[.pointer (AA ⟨B,0,AB⟩)] J9 (λx=>AE (x<a)||decide (x>=b)) w:=
    λW x hbw=>Eo a b x B W ((hbw.cell (p:=⟨B,0,AB⟩) hBs).trans ha) ((hbw.cell (p:=⟨B,1,AB⟩) hBs).trans hb)
   rcases uK hown with⟨rfl,rfl⟩|⟨g,cap,rfl,ho⟩
   .refine Does.of_calls Tryz.func150 AF AF ((ey _ w).mono ?_);rintro e w' ⟨rfl,q,rfl⟩;exact⟨_,rfl,⟨rfl,rfl,rfl,A4 _,λ_ _ _=>rfl⟩,λx hx=>(by cases hx),λ_=>⟨World.ownsRow_nil _ 0 _ _,λb hb=>(by simp[CO]at hb)⟩,λh=>by cases h⟩
   .obtain⟨_,hnc,hcm,hgs,hH⟩:=nN ho;have hBg:B≠g:=λe=>hne (by rw[e];rfl)
    have hpo:PredOver Tryz.prog 152 #[.pointer (AA ⟨B,0,AB⟩)] J9 (λx=>AE (x<a)||decide (x>=b)) g 0 (l.map IV.toInt).toArray.size w:=
     λn os dk x _=>by
      have hcell:∀o u,w.cell? ⟨B,o,AB⟩=AA u->(sortWorld J9 w g 0 n dk os).cell? ⟨B,o,AB⟩=AA u:=λo u hu=>by
       unfold sortWorld;rw[cell?_grow _ _ _ (by show B<(putRow _ _ _ _ _).heap.size;rw[size_putRow];exact hBs),cell?_putRow_other _ _ g 0 _ _ (Or.inl hBg)];exact hu
      exact Eo a b x B _ (hcell 0 _ ha) (hcell 1 _ hb)
    refine Does.of_calls Tryz.func150 AF AF ?_;have hcall:=Tryz.slices_DeleteFunc J9 (λ_=>rfl) (λx=>AE (x<a)||decide (x>=b)) 152 #[.pointer (AA ⟨B,0,AB⟩)] eg 0 Tryz.zeroValue3 g 0 cap (l.map IV.toInt).toArray w hp hpo hH (by simp;unfold strMax at hlen;omega) (by simp;rw[BW]at hnc;exact hnc);have es:(l.map IV.toInt).toArray.size=(l.map IV.toInt).length:=by simp
    rw[es]at hcall;refine hcall.mono ?_;rintro e w' ⟨rfl,q,rfl⟩;have ef:(l.map IV.toInt).toArray.toList.filter (λx=>!(AE (x<a)||decide (x>=b)))=LN a b (l.map IV.toInt):=rfl;rw[ef];have hlc:(LN a b (l.map IV.toInt)).length<=(l.map IV.toInt).length:=List.length_filter_le ..
    have hp2:=uM ho q #[] (LN a b (l.map IV.toInt)) (B6 ((l.map IV.toInt).length-(LN a b (l.map IV.toInt)).length) 0) (by rw[A2,List.length_replicate];omega);rw[grow_empty]at hp2;refine⟨_,rfl,hp2.1,vZ hrng λy hy=>(List.mem_filter.1 hy).1,λ_=>⟨?_,λb hb=>.inl hb⟩,λh=>by cases h⟩;rw[qF,LM];exact hp2.2
 .cases hg
open Go Go.Proofs
set_option maxRecDepth 100000
theorem Jx{dim n:Int}:∀{l:LI} {i k:Nat} (hk:k<l.length),JH dim n i l=AC->FQ (l[k]).toInt=AC/\OD dim n (i+k) (DT (l[k]).toInt)=AC
 |[],i,k,hk,_=>absurd hk (Nat.not_lt_zero k)
 |w::r,i,0,hk,h=>by
  rw[JH]at h;simp only[AQ]at h;exact h.1
 |w::r,i,k+1,hk,h=>by
  rw[JH,AQ]at h
  have:=Jx (k:=k) (by simpa using hk) h.2
  rw[show i+1+k=i+(k+1) by omega]at this;exact this
theorem oW{l:LI}{dim:Int}(h:GP l dim=AC):(1<=l.length/\l.length<=31)/\(∀k (hk:k<l.length),FQ (l[k]).toInt=AC/\OD dim (ic l.length) k (DT (l[k]).toInt)=AC)/\V0 l=AC:=by
 unfold GP at h;simp only[AQ]at h;refine⟨⟨AX h.1.1,AX h.1.2⟩,λk hk=>?_,h.2.2⟩
 have:=Jx hk h.2.1
 rwa [BU]at this
theorem mb{dim n:Int}{i:Nat}{x:Nd}(h:OD dim n i x=AC)(hl:x.lf=AD):x.f<dim/\x.l≠x.r/\((i:Int)<x.l/\(i:Int)<x.r)/\(x.l<n/\x.r<n):=by
 unfold OD at h;rw[hl,DR]at h;simp only[AQ,CE,B3,BH]at h;obtain⟨h1,h2,h3,h4⟩:=h;exact⟨by omega,h2,by omega,by omega⟩
theorem zfz{l:LI}{d e:Int}(h:GP l d=AC)(hde:d<=e):GP l e=AC:=by
 have key:∀(l:LI) (n:Int) (i:Nat),JH d n i l=AC->JH e n i l=AC:=by
  intro l n
  induction l with
  |nil=>intro _ _;rfl
  |cons w r ih=>
   intro i h;rw[JH]at h ⊢;simp only[AQ]at h ⊢;refine⟨⟨h.1.1,?_⟩,ih _ h.2⟩;have h2:=h.1.2;unfold OD at h2 ⊢;cases hl:(DT w.toInt).lf with
   |true=>rfl
   |false=>
    rw[hl,DR]at h2;rw[DR];simp only[AQ,CE,B3]at h2 ⊢;exact⟨by omega,h2.2⟩
 unfold GP at h ⊢;simp only[AQ]at h ⊢;exact⟨h.1,key _ _ _ h.2.1,h.2.2⟩
abbrev ul:KP:=⟨[4,5,6,24,25,26],[20,500],[⟨(.tmp 6),500,264,AC,NN⟩]⟩
abbrev Vp(l:LI)(i:Int)(own out:LI):St:=
 ⟨[(4,.zs),(5,(.row 20 0 l.length)),(6,(.row 500 0 out.length)),(24,(.list AD [(.int .u64)] l)),(25,(.i (ic (AN l)))),(26,(.i i))],[(20,(AA (.row AC 37 AC ET own))),(500,(AA (.row AC 264 AC NN out)))]⟩
theorem mT(N:Nat)(l:LI)(ht:GP l 4=AC):∀(m i n:Nat) (own out:LI),i+m=l.length->m<n->own.length=l.length->out.length<=i->
  D3 (RX N) (DS VI [1,1,1,1,1,0,1,0,0]) ul n (Vp l (i:Int) own out) (DW 0 (DX (RX N) (DS VI [1,1,1,1,1,1]) (D2 (RX N) AB [(B7 4)] [[(.list AC NN)]])))=
   AA (.list AC NN (PD (l.drop i) i own out),[])
 |m,i,0,_,_,_,h,_,_=>absurd h AG
 |0,i,n+1,own,out,hd,_,_,_=>by
  have hi:i=l.length:=by omega
  subst hi;rw[D8,Sm,IZ (A4 _),DR,jh,C8,PD,CD,BS]
 |m+1,i,n+1,own,out,hd,hn,ho,hu=>by
  obtain⟨⟨l1,l31⟩,hat,_⟩:=oW ht;have hi:i<l.length:=by omega
  have ei:AI AJ ((i:Int)+1)=((i+1:Nat):Int):=GM AG;obtain⟨hb,hf⟩:=hat i hi;have io:AE ((i:Int)<ic (l.length-0))=AC:=HY hi;rw[D8,Sm,ei,HY hi,DQ,IM,BR,DQ,IX hi,io,BR,BE,BJ hi,PD];simp only[BU];cases hl:(DT (l[i]).toInt).lf with
  |true=>
   rw[A9,DR,DQ,DQ,BI];have e1:QB (DT (l[i]).toInt) i own=own:=by unfold QB;rw[hl,DQ]
   rw[e1];cases(EG (own.getD i default)).emp with
   |true=>exact mT N l ht m (i+1) n own out AG AG ho AG
   |false=>
    have ih:=mT N l ht m (i+1) n own (out++[jC (EG (own.getD i default)) (DT (l[i]).toInt).v]) AG AG ho (by rw[A2];simp;omega);unfold Vp at ih;rw[A2,DG]at ih;rw[BF,DQ,DQ,AL (show(out.length+1)*88<=EL by unfold EL;omega),DQ,BS];exact ih
  |false=>
   obtain⟨f4,_,_,⟨ln,rn⟩⟩:=mb hf hl;obtain⟨⟨f0,_⟩,⟨a1,_⟩,⟨b1,_⟩,_⟩:=bA hb hl;have hp:HC (DT (l[i]).toInt).f=AC:=by unfold HC;rw[AL f0,AL AG];rfl
   have el:(AE (0<=(DT (l[i]).toInt).l)&&AE ((DT (l[i]).toInt).l<ic (l.length-0)))=AC:=by rw[AL AG,AL (show(DT (l[i]).toInt).l<ic (l.length-0)from ln)];rfl
   have er:(AE (0<=(DT (l[i]).toInt).r)&&AE ((DT (l[i]).toInt).r<ic (l.length-0)))=AC:=by rw[AL AG,AL (show(DT (l[i]).toInt).r<ic (l.length-0)from rn)];rfl
   rw[BF,DQ,DQ,hp,DQ,el,DQ,er,DQ,BP,DR];have e1:QB (DT (l[i]).toInt) i own=(own.set (DT (l[i]).toInt).l.toNat ((EG (own.getD i default)).cutL (DT (l[i]).toInt).f (DT (l[i]).toInt).a).I).set (DT (l[i]).toInt).r.toNat ((EG (own.getD i default)).cutH (DT (l[i]).toInt).f (DT (l[i]).toInt).a).I:=by unfold QB;rw[hl,DR]
   rw[e1];exact mT N l ht m (i+1) n _ out AG AG (by rw[vaL,vaL];exact ho) AG
theorem zeo:D6 PR B0 264 fG:=by
 refine EF [(124,QV),(174,LX),(51,NA),(109,XT)] [(7,⟨[4,5,6,24,25,26],[20,500],[⟨.tmp 6,500,264,AC,[.z,.z,.z,.z,.z,.z,.z,.z,.z,.z,.z]⟩]⟩)] fG [[.list AC [.z,.z,.z,.z,.z,.z,.z,.z,.z,.z,.z]]] Tryz.func264 qt ⟨oE,ZB,cB,Qp,trivial⟩ ?_;intro vs r hwf h;unfold fG at h;split at h
 .rename_i l b;replace h:=JJ h;obtain⟨b,rfl,h⟩:=h;rw[R.get_ok]at h;refine⟨40,?_⟩;rw[<-h];refine(zad 40 l b).trans ?_;unfold JF;cases ht:GP l 4 with
  |false=>rfl
  |true=>
   rw[A9,DR,BI];cases b.emp with
   |true=>rfl
   |false=>
    obtain⟨⟨l1,l31⟩,_,_⟩:=oW ht;have run:=mT 40 l ht l.length 0 40 ((B6 l.length aB.I).set 0 b.I) [] AG AG (by simp) (CH _);rw[DR,AL (show(0:Int)<=ic l.length by simp only[ic];omega),AL (show ic l.length=ic l.length from rfl),AL (show ic l.length*ic 80<=ic EL by unfold EL;simp only[ic];omega),BR,BR,DQ,
     AL (show 0<=0 from A4 0),AL (show(0:Int)<ic (AM (ic l.length)-0) by simp only[ic];omega),BR,DQ]
    exact run
 .simp[R.get]at h
abbrev zgd(l:LI)(lo hi i:Int):St:=⟨[(4,(.i 0)),(5,(.i 0)),(6,(.bool AD)),(8,(.i lo)),(9,(.i hi)),(26,(.list AC NN l)),(27,(.i (ic (AN l)))),(28,(.i i))],[]⟩
theorem z8(N:Nat)(l:LI)(hl:l.length<=strMax):∀(m i n:Nat) (lo hi:Int),i+m=l.length->m<n->
  D3 (RV N) (DS VE [1,1,1,1,0,1,0,0]) ⟨[4,5,6,8,9,26,27,28],[],[]⟩ n (zgd l lo hi (i:Int)) (DW 0 (DX (RV N) (DS VE [1,1,1,1,1]) (D2 (RV N) AB [(B7 4),(B7 5),(B7 6)] [[.z],[.z],[.bool]])))=
   AA (.tup [.i (QD (l.drop i) lo),.i (QC (l.drop i) hi),.bool AC],[])
 |m,i,0,_,_,_,h=>absurd h AG
 |0,i,n+1,lo,hi,hd,_=>by
  have hi:i=l.length:=by omega
  subst hi;rw[D8,Rr,IZ (A4 _),DR,C8];exact gj N _ _ _ _ _ l _ _
 |m+1,i,n+1,lo,hi,hd,hn=>by
  have hi:i<l.length:=by omega
  have mx:strMax=140737488355327:=rfl;have ei:AI AJ ((i:Int)+1)=((i+1:Nat):Int):=GM AG;rw[D8,Rr,ei,HY hi,DQ,IM,BR,DQ,IX hi,BJ hi,QD,QC];exact z8 N l hl m (i+1) n _ _ AG AG
theorem Ix:∀(l:LI) (i:Nat) (own out:LI),(PD l i own out).length<=out.length+l.length
 |[],_,_,out=>A4 _
 |w::r,i,own,out=>by
  rw[PD]
  have:=Ix r (i+1) (QB (DT w.toInt) i own) (cond ((DT w.toInt).lf&&!(EG (own.getD i default)).emp) (out++[jC (EG (own.getD i default)) (DT w.toInt).v]) out)
  refine DD this ?_;cases((DT w.toInt).lf&&!(EG (own.getD i default)).emp)with
  |true=>rw[DQ,A2,DG,AV];omega
  |false=>rw[DR,AV];omega
theorem ut(l:LI)(b:Bx):(JF l b).length<=31:=by
 unfold JF;cases ht:GP l 4 with
 |false=>exact CH _
 |true=>
  cases b.emp with
  |true=>exact CH _
  |false=>
   have:=Ix l 0 ((B6 l.length aB.I).set 0 b.I) []
   have h2:=(oW ht).1.2;simp only[BN,BU]at this;exact DD this h2
theorem zdB:D6 PR B0 240 dI:=by
 refine EF [(264,fG)] [(6,⟨[4,5,6,8,9,26,27,28],[],[]⟩)] dI [[.z],[.z],[.bool]] Tryz.func240 nn ⟨zeo,trivial⟩ ?_;intro vs r hwf h;unfold dI at h;split at h
 .rename_i l b;replace h:=JJ h;obtain⟨b,rfl,h⟩:=h;rw[R.get_ok]at h;refine⟨40,?_⟩;rw[<-h];refine(xi 40 l b).trans ?_;have h31:=ut l b;unfold IT IS ZD jG jF;generalize JF l b=ps at h31 ⊢;cases ps with
  |nil=>rfl
  |cons x r=>
   have run:=z8 40 (x::r) (DD h31 (by decide)) (x::r).length 0 40 (H7 x) (H7 x) AG AG;have e0:(ic (x::r).length==0)=AD:=by
    simp only[ic,AV,BH];omega
   have e1:(AE (0<=0)&&AE (0<ic (x::r).length))=AC:=by
    rw[AL (show 0<=0 from A4 0),AL (show 0<ic (x::r).length by simp only[ic,AV];omega)];rfl
   rw[e0,DR,e1,DQ,DQ];exact run
 .simp[R.get]at h
theorem vx{l:LI}:∀{a:Int},E4 a=AC->(∀x∈l,E4 (H7 x)=AC)->E4 (QD l a)=AC:=by
 induction l with
 |nil=>intro a h _;exact h
 |cons x r ih=>
  intro a h hx;rw[QD];refine ih ?_ λy hy=>hx y (A6 _ hy)
  have:=OC h
  have:=OC (hx x (AY ..))
  unfold E4;rw[AL AG,AL AG];rfl
theorem vr{l:LI}:∀{a:Int},E4 a=AC->(∀x∈l,E4 (H7 x)=AC)->E4 (QC l a)=AC:=by
 induction l with
 |nil=>intro a h _;exact h
 |cons x r ih=>
  intro a h hx;rw[QC];refine ih ?_ λy hy=>hx y (A6 _ hy)
  have:=OC h
  have:=OC (hx x (AY ..))
  unfold E4;rw[AL AG,AL AG];rfl
theorem Iw:∀(l:LI) (i:Nat) (own out:LI),(∀x∈out,E4 (H7 x)=AC)->∀x∈PD l i own out,E4 (H7 x)=AC
 |[],_,_,_,h=>h
 |w::r,i,own,out,h=>by
  rw[PD];refine Iw r (i+1) _ _ ?_;cases((DT w.toInt).lf&&!(EG (own.getD i default)).emp)with
  |true=>
   intro x hx;rcases A5.1 hx with hx|hx
   .exact h x hx
   .obtain rfl:=BZ.1 hx;exact Jw _
  |false=>exact h
theorem ur(l:LI)(b:Bx):∀x∈JF l b,E4 (H7 x)=AC:=by
 unfold JF;cases(GP l 4&&!b.emp)with
 |true=>exact Iw _ _ _ _ (λx hx=>by cases hx)
 |false=>intro x hx;cases hx
theorem oR(l:LI)(b:Bx):E4 (IT l b)=AC/\E4 (IS l b)=AC:=by
 unfold IT IS ZD;have hf:=ur l b;generalize JF l b=ps at hf ⊢;cases ps with
 |nil=>exact⟨rfl,rfl⟩
 |cons x r=>exact⟨vx (hf x (AY ..)) hf,vr (hf x (AY ..)) hf⟩
abbrev zgc(ts:LI)(b:Bx)(k lo hi i:Int):St:=⟨[(1,(.i k)),(5,(.ptr 5 0 0)),(6,(.i 0)),(7,(.i 0)),(8,(.bool AD)),(9,(.i lo)),(10,(.i hi)),(42,(.list AC G7 ts)),(43,(.i (ic (AN ts)))),(44,(.i i))],[(5,(AA (.box (Bx.cs b))))]⟩
theorem xN(N:Nat)(ts:LI)(b:Bx)(k:Int)(hts:ts.length<=8):∀(m i n:Nat) (lo hi:Int),i+m=ts.length->m<n->(-2147483648*(i+1)<=lo/\lo<=2147483648*(i+1))->(-2147483648*(i+1)<=hi/\hi<=2147483648*(i+1))->
  D3 (HA N) (DS JC [1,1,1,0,1,0,0]) ⟨[1,5,6,7,8,9,10,42,43,44],[5],[]⟩ n (zgc ts b k lo hi (i:Int)) (DW 0 (DX (HA N) (DS JC [1,1,1,1]) (D2 (HA N) AB [(B7 6),(B7 7),(B7 8)] [[.z],[.z],[.bool]])))=
   AA (.tup [.i (JN (λl=>IT l b) k (ts.drop i) lo),.i (JN (λl=>IS l b) k (ts.drop i) hi),.bool AC],[])
 |m,i,0,_,_,_,h,_,_=>absurd h AG
 |0,i,n+1,lo,hi,hd,_,_,_=>by
  have hlt:i=ts.length:=by omega
  subst hlt;rw[D8,Rq,IZ (A4 _),DR,C8];exact gi N b _ _ _ _ _ _ _ _ _
 |m+1,i,n+1,lo,hi,hd,hn,h1,h2=>by
  have hlt:i<ts.length:=by omega
  have ei:AI AJ ((i:Int)+1)=((i+1:Nat):Int):=GM AG;rw[D8,Rq,ei,HY hlt,DQ,IM,BR,DQ,IX hlt,BJ hlt,JN,JN];obtain⟨q1,q2⟩:=oR (E3 ts[i]) b;have q1:=OC q1;have q2:=OC q2;have en:((ts[i].cell 0).toInt !=k)=!((ts[i].cell 0).toInt==k):=rfl;rw[en];cases((ts[i].cell 0).toInt==k)with
  |true=>
   rw[A9,DR,DQ,DQ];have ew:AI AJ (lo+IT (E3 ts[i]) b)=lo+IT (E3 ts[i]) b:=ER AG AG;have ew2:AI AJ (hi+IS (E3 ts[i]) b)=hi+IS (E3 ts[i]) b:=ER AG AG;have ih:=xN N ts b k hts m (i+1) n (lo+IT (E3 ts[i]) b) (hi+IS (E3 ts[i]) b) AG AG AG AG;rw[<-ew,<-ew2]at ih;refine Eq.trans ih ?_;rw[ew,ew2]
  |false=>
   rw[BF,DQ,DR,DR];exact xN N ts b k hts m (i+1) n lo hi AG AG AG AG
theorem wO:D6 PR B0 207 S6:=by
 refine EF [(240,dI),(174,LX),(49,M9)] [(5,⟨[1,5,6,7,8,9,10,42,43,44],[5],[]⟩)] S6 [[.z],[.z],[.bool]] Tryz.func207 nk ⟨zdB,ZB,cA,trivial⟩ ?_;intro vs r hwf h;unfold S6 at h;split at h
 .rename_i m k b;replace h:=II h;obtain⟨m,rfl,h⟩:=h;replace h:=JJ h;obtain⟨b,rfl,h⟩:=h;rw[R.get_ok]at h;refine⟨10,?_⟩;rw[<-h];refine(xh 10 m k b).trans ?_;unfold EK EI HG;cases hm:EU m with
  |false=>rfl
  |true=>
   rw[A9,DR];cases h0:AE (k<0)with
   |true=>
    have:HQ m k=AD:=by unfold HQ;rw[AS (show¬ 0<=k by have:=BB h0;omega)];rfl
    rw[this];rfl
   |false=>
    rw[DR];cases h1:AE (k>=m.c)with
    |true=>
     have:HQ m k=AD:=by unfold HQ;rw[AS (show¬k<m.c by have:=BB h1;omega),DE]
     rw[this];rfl
    |false=>
     have hc:HQ m k=AC:=by unfold HQ;rw[AL (show 0<=k by have:=BM h0;omega),AL (show k<m.c by have:=BM h1;omega)];rfl
     rw[DR,hc];cases b.emp with
     |true=>rfl
     |false=>
      have hb:=gO hm k;have run:=xN 10 m.ts b k (KC hm).2.2.1 m.ts.length 0 10 (L0 m k) (L0 m k) AG (by have:=(KC hm).2.2.1;omega) AG AG;rw[DR];rcases lC hm hc with rfl|rfl|rfl<;>exact run
 .simp[R.get]at h
theorem xL(g:LI->Int)(hg:∀l,-2147483648<=g l/\g l<=2147483648)(k:Int):∀(ts:LI) (s:Int) (n:Nat),(-2147483648*(n:Int)<=s/\s<=2147483648*(n:Int))-> -2147483648*((n+ts.length:Nat):Int)<=JN g k ts s/\JN g k ts s<=2147483648*((n+ts.length:Nat):Int)
 |[],s,n,h=>by
  rw[JN];simpa using h
 |t::r,s,n,h=>by
  rw[JN];have h1:=hg (E3 t)
  have:=xL g hg k r (cond (WE t==k) (s+g (E3 t)) s) (n+1) (by cases(WE t==k)<;>simp only[B5,BK]<;>omega)
  rw[AV];rw[show n+1+r.length=n+(r.length+1) by omega]at this;exact this
theorem n9{m:Md}(k:Int)(b:Bx):(-34359738368<=EK m k b/\EK m k b<=34359738368)/\(-34359738368<=EI m k b/\EI m k b<=34359738368):=by
 unfold EK EI;cases hs:HG m k b with
 |false=>simp only[BK];omega
 |true=>
  unfold HG at hs;simp only[AQ]at hs;have hb:=gO hs.1 k;have h8:=(KC hs.1).2.2.1;have h1:=xL (λl=>IT l b) (λl=>by have:=OC (oR l b).1;omega) k m.ts (L0 m k) 1 AG;have h2:=xL (λl=>IS l b) (λl=>by have:=OC (oR l b).2;omega) k m.ts (L0 m k) 1 AG;rw[DQ,DQ];omega
abbrev zf6(m:Md)(b:Bx)(k lo a:Int)(z:Bool)(i:Int):St:=⟨[(1,(.i k)),(3,(.ptr 3 0 0)),(5,(.ptr 5 0 0)),(6,(.i 0)),(7,(.bool AD)),(8,(.i lo)),(11,(.i a)),(12,(.bool z)),(33,(.i (Md.c m))),(34,(.i i))],[(3,(AA (.box (Md.cs m)))),(5,(AA (.box (Bx.cs b))))]⟩
theorem Jd(N:Nat)(m:Md)(b:Bx)(k:Int)(hc:0<=m.c/\m.c<=3)(lo:Int)(hlo: -34359738368<=lo/\lo<=34359738368):∀(d i n:Nat) (a:Int) (z:Bool),((i+d:Nat):Int)=m.c->d<n->
  D3 (RU N) (DS VD [1,1,1,1,0,1,0,0]) ⟨[1,3,5,6,7,8,11,12,33,34],[3,5],[]⟩ n (zf6 m b k lo a z (i:Int)) (DW 0 (DX (RU N) (DS VD [1,1,1,1,1]) (D2 (RU N) AB [(B7 6),(B7 7)] [[.z],[.bool]])))=
   AA (.tup [.i (SD m k lo b d (i:Int) a z),.bool AC],[])
 |d,i,0,_,_,_,h=>absurd h AG
 |0,i,n+1,a,z,hd,_=>by
  rw[D8,Ro,AS (show¬(i:Int)<m.c by omega),DR];exact gh N m b _ _ _ _ _ _ _ _
 |d+1,i,n+1,a,z,hd,hn=>by
  have ei:AI AJ ((i:Int)+1)=((i+1:Nat):Int):=GM AG;have hs:=(n9 (m:=m) (i:Int) b).2;have ew:AI AJ (lo-EI m (i:Int) b)=lo-EI m (i:Int) b:=ER AG AG;have ec:(i:Int)+1=((i+1:Nat):Int):=by omega
  rw[D8,Ro,ei,ew,AL (show(i:Int)<m.c by omega),DQ,SD,ec];have ih:=λa z=>Jd N m b k hc lo hlo d (i+1) n a z AG AG
  cases((i:Int)==k)with
  |true=>exact ih a z
  |false=>
   rw[DR,DR];cases z with
   |false=>exact ih _ AC
   |true=>
    rw[A9,DR,vaF];cases AE (lo-EI m (i:Int) b<a)with
    |true=>exact ih _ AC
    |false=>exact ih a AC
theorem zdA:D6 PR B0 208 dH:=by
 refine EF [(207,S6)] [(6,⟨[1,3,5,6,7,8,11,12,33,34],[3,5],[]⟩)] dH [[.z],[.bool]] Tryz.func208 nj ⟨wO,trivial⟩ ?_;intro vs r hwf h;unfold dH at h;split at h
 .rename_i m k b;replace h:=II h;obtain⟨m,rfl,h⟩:=h;replace h:=JJ h;obtain⟨b,rfl,h⟩:=h;rw[R.get_ok]at h;refine⟨10,?_⟩;rw[<-h];refine(xg 10 m k b).trans ?_;unfold T3 NP;cases hs:HG m k b with
  |false=>rfl
  |true=>
   have hm:EU m=AC:=by unfold HG at hs;simp only[AQ]at hs;exact hs.1
   have hc:=(KC hm).2.1;rw[A9,DR];cases h2:AE (m.c<2)with
   |true=>rw[AS (show¬m.c>=2 by have:=BB h2;omega)];rfl
   |false=>
    rw[AL (show m.c>=2 by have:=BM h2;omega),DR];exact Jd 10 m b k AG (EK m k b) (n9 k b).1 m.c.toNat 0 10 0 AD AG AG
 .simp[R.get]at h
theorem zd7:D6 PR B0 210 eQ:=by
 refine EF [(207,S6),(242,eR),(243,eU),(241,QX)] [] eQ [[.z],[.z],[.bool]] Tryz.func210 pz ⟨wO,zd8,zea,oG,trivial⟩ ?_;intro vs r hwf h;unfold eQ at h;split at h
 .rename_i m q b;replace h:=II h;obtain⟨m,rfl,h⟩:=h;replace h:=JB h;obtain⟨q,rfl,h⟩:=h;replace h:=JJ h;obtain⟨b,rfl,h⟩:=h;rw[R.get_ok]at h;refine⟨0,?_⟩;rw[<-h];refine(zd 0 m q b).trans ?_;have h1:=n9 (m:=m) q.c (KM q b);have h2:=n9 (m:=m) q.c (KR q b);rw[ER (n:=EK m q.c (KR q b)-EI m q.c (KM q b)) AG AG,ER (n:=EI m q.c (KR q b)-EK m q.c (KM q b)) AG AG];unfold Q0 QZ KW;cases G1 q<;>cases HG m q.c (KM q b)<;>cases HG m q.c (KR q b)<;>rfl
 .simp[R.get]at h
theorem zee:D6 PR B0 169 e9:=by
 refine EF [(208,dH),(207,S6),(174,LX),(210,eQ),(209,eT),(93,NB)] [] e9 [[.bool]] Tryz.func169 ql ⟨zdA,wO,ZB,zd7,zd9,cC,trivial⟩ ?_;intro vs r hwf h;unfold e9 at h;split at h
 .rename_i m q b;replace h:=II h;obtain⟨m,rfl,h⟩:=h;replace h:=JB h;obtain⟨q,rfl,h⟩:=h;replace h:=JJ h;obtain⟨b,rfl,h⟩:=h;rw[R.get_ok]at h;refine⟨0,?_⟩;rw[<-h];refine(zw 0 m q b).trans ?_;unfold G4;cases E8 m q<;>cases b.emp<;>cases(q.k==1)<;>cases(q.k==2)<;>cases HG m q.c b<;>cases AE (q.lo<=EK m q.c b)<;>cases NP m q.c b<;>cases OK q b<;>cases q.fl<;>cases KW m q b<;>rfl
 .simp[R.get]at h
theorem zef:D6 PR B0 170 fA:=by
 refine EF [(63,dK)] [] fA [[.z,.z,.z,.z],[.z]] Tryz.func170 qm ⟨zdD,trivial⟩ ?_;intro vs r hwf h;unfold fA at h;split at h
 .rename_i b;replace h:=JJ h;obtain⟨b,rfl,h⟩:=h;rw[R.get_ok]at h;exact⟨0,(zx 0 b).trans h⟩
 .simp[R.get]at h
theorem zei:D6 PR B0 149 fD:=by
 refine EF [] [] fD [[.z]] Tryz.func149 qp trivial ?_;intro vs r hwf h;unfold fD at h;split at h
 .rename_i q i;replace h:=JB h;obtain⟨q,rfl,h⟩:=h;rw[R.get_ok]at h;refine⟨0,?_⟩;rw[<-h];refine(zz 0 q i).trans ?_;unfold IA;cases AE (i>=0)<;>cases AE (i<4)<;>cases(i==4)<;>cases(q.k==3)<;>rfl
 .simp[R.get]at h
def qT(m:Md)(f:Int)(s:Sp):DU:=
 cond (AE (f<0)) (AA (.list AD [.z] [],[]))
  (cond (EU m)
   (cond (B2 (iZ (JV m.ts f)).length (iZ (JV m.ts f)).length)
    (cond (CG (iZ (LN s.lo s.hi ((iZ (JV m.ts f)).map IV.toInt))).length (iZ (JV m.ts f)).length)
     (AA (.list AD [.z] (A3 0 (AU (iZ (LN s.lo s.hi ((iZ (JV m.ts f)).map IV.toInt))).length (iZ (LN s.lo s.hi ((iZ (JV m.ts f)).map IV.toInt))))),[])) AB) AB) AB)
theorem dl{m:Md}(hm:EU m=AC)(f:Int)(s:Sp):qT m f s=AA (.list AD [.z] (iZ (cond (AE (f<0)) [] (LN s.lo s.hi (JV m.ts f)))),[]):=by
 unfold qT;cases AE (f<0)with
 |true=>rfl
 |false=>
  rw[DR,hm,DQ,vbj,DQ,rW,DR];have hle:(iZ (LN s.lo s.hi (JV m.ts f))).length<=(iZ (JV m.ts f)).length:=by
   rw[LM,LM];exact List.length_filter_le ..
  rw[CV hle,DQ,CD,BS]
theorem zdb(m:Md)(q:Qy)(b:Bx):∀i:Nat,i<5->EA (yT 0) qA [.tmp 8] [[.list AD [.z]]] [m.V,q.V,b.V,.i (i:Int)]=qT m (IA q (i:Int)) (b.g i)
 |0,_=>by kernel_rfl
 |1,_=>by kernel_rfl
 |2,_=>by kernel_rfl
 |3,_=>by kernel_rfl
 |4,_=>by kernel_rfl
 |i+5,h=>absurd h AG
abbrev Hw:KP:=⟨[1,4,5,16,17,18],[500],[⟨(.tmp 5),500,3,AD,[.z]⟩]⟩
abbrev Hx:KP:=⟨[1,4,5,16,17,18,23,24,25],[500],[⟨(.tmp 5),500,3,AD,[.z]⟩]⟩
abbrev pC(f:Int)(ts:LI)(i:Int)(W:LI)(j:Int)(O:LI):St:=
 ⟨[(1,(.i f)),(4,.zs),(5,(.row 500 0 O.length)),(16,(.list AC G7 ts)),(17,(.i (ic ts.length))),(18,(.i i)),(23,(.list AD [(.int .u64)] W)),(24,(.i (ic W.length))),(25,(.i j))],[(500,(AA (.row AC 3 AD [.z] O)))]⟩
theorem oT(N:Nat)(f:Int)(ts:LI)(i:Int)(W:LI)(hW:W.length<=31)(K:Out->St->DU):∀(m j n:Nat) (O:LI),j+m=W.length->m<n->O.length+m<=1000->
  D3 (OW N) (DS P3 [1,1,1,0,1,0,0,1,1,0,0,1,1,0,0]) Hx n (pC f ts i W (j:Int) O) K=K (.exit 2) (pC f ts i W (ic W.length) (O++iZ ((W.drop j).flatMap (JO f))))
 |m,j,0,_,_,h,_=>absurd h AG
 |0,j,n+1,O,hd,_,_=>by
  have hj:j=W.length:=by omega
  subst hj;rw[D8,Sq,IZ (A4 _),DR,C8];show K (.exit 2) _=K (.exit 2) (pC f ts i W (ic W.length) (O++[]));rw[vab]
 |m+1,j,n+1,O,hd,hn,hO=>by
  have hj:j<W.length:=by omega
  have ej:AI AJ ((j:Int)+1)=((j+1:Nat):Int):=GM AG;rw[D8,Sq,ej,HY hj,DQ,IM,BR,DQ,IX hj,BJ hj,vaA];unfold JO;cases(DT (W[j]).toInt).lf with
  |true=>
   rw[A9,DR,BP,DR,vac];exact oT N f ts i W hW K m (j+1) n O AG AG AG
  |false=>
   rw[BF,DQ,BI];cases((DT (W[j]).toInt).f==f)with
   |false=>
    rw[DR,DR,vac];exact oT N f ts i W hW K m (j+1) n O AG AG AG
   |true=>
    rw[DQ,DQ,AL (show(O.length+1)*8<=EL by unfold EL;omega),DQ,BS];have ih:=oT N f ts i W hW K m (j+1) n (O++[IV.int (DT (W[j]).toInt).a]) AG AG (by rw[A2,DG];omega);rw[vaz]at ih;unfold pC at ih ⊢;rw[A2,DG]at ih;exact ih
abbrev yN(f:Int)(ts:LI)(i:Int)(O:LI):St:=
 ⟨[(1,(.i f)),(4,.zs),(5,(.row 500 0 O.length)),(16,(.list AC G7 ts)),(17,(.i (ic ts.length))),(18,(.i i))],[(500,(AA (.row AC 3 AD [.z] O)))]⟩
theorem xR(f:Int):∀W:LI,(W.flatMap (JO f)).length<=W.length
 |[]=>A4 _
 |w::r=>by
  rw[vaA,A2,AV]
  have:=xR f r
  unfold JO at this ⊢;cases(!(DT w.toInt).lf&&(DT w.toInt).f==f)<;>simp only[B5,BK,BN,DG]<;>omega
theorem Ug{d c:Int}{t:IV}(h:HH d c t=AC):(0<=WE t/\WE t<c)/\GP (E3 t) d=AC:=by
 unfold HH at h;simp only[AQ,CE,B3]at h;exact⟨⟨by show 0<=(t.cell 0).toInt;omega,by show(t.cell 0).toInt<c;omega⟩,h.2.2⟩
theorem Uj{d c:Int}{ts:LI}(h:ts.all (HH d c)=AC){t:IV}(ht:t∈ts):(E3 t).length<=31:=by
 have:=(Ug (CZ.1 h t ht)).2
 exact(oW this).1.2
theorem Ub(N:Nat)(hN:40<=N)(f:Int)(ts:LI)(hts:ts.length<=8)(hW:∀t∈ts,(E3 t).length<=31)(K:Out->St->DU):∀(m i n:Nat) (O:LI),i+m=ts.length->m<n->O.length<=31*i->
  D3 (OW N) (DS P3 [1,1,1,0,1,0,0]) Hw n (yN f ts (i:Int) O) K=K (.exit 0) (yN f ts (ic ts.length) (O++iZ (I9 (ts.drop i) f)))
 |m,i,0,_,_,h,_=>absurd h AG
 |0,i,n+1,O,hd,_,_=>by
  have hi:i=ts.length:=by omega
  subst hi;rw[D8,So,IZ (A4 _),DR,C8];show K (.exit 0) _=K (.exit 0) (yN f ts (ic ts.length) (O++[]));rw[vab]
 |m+1,i,n+1,O,hd,hn,hO=>by
  have hi:i<ts.length:=by omega
  have ei:AI AJ ((i:Int)+1)=((i+1:Nat):Int):=GM AG;have hw:=hW ts[i] (C0 hi);have hl:=xR f (E3 ts[i]);rw[D8,So,HY hi,DQ,IM,BR,DQ,IX hi,BJ hi];refine(oT N f ts (i:Int) (E3 ts[i]) hw _ (E3 ts[i]).length 0 N O AG AG AG).trans ?_;rw[jl,ei,CD];have ih:=Ub N hN f ts hts hW K m (i+1) n (O++iZ ((E3 ts[i]).flatMap (JO f))) AG AG (by rw[A2,LM];omega);have e:I9 (ts[i]::ts.drop (i+1)) f=(E3 ts[i]).flatMap (JO f)++I9 (ts.drop (i+1)) f:=by unfold I9;rw[vaA]
  rw[e];have e2:iZ ((E3 ts[i]).flatMap (JO f)++I9 (ts.drop (i+1)) f)=iZ ((E3 ts[i]).flatMap (JO f))++iZ (I9 (ts.drop (i+1)) f):=by unfold iZ;rw[List.map_append]
  rw[e2,<-vaz];exact ih
theorem zeq:D6 PR B0 151 fI:=by
 refine Px [(49,M9),(51,NA)] [(195,mA),(194,mC)] [(5,Hw),(8,Hx)] fI [] Tryz.func151 qx ⟨cA,cB,trivial⟩ ⟨zel,zen,trivial⟩ ?_;intro vs r hwf h;unfold fI at h;split at h
 .rename_i m f;replace h:=II h;obtain⟨m,rfl,h⟩:=h;cases hm:EU m with
  |false=>rw[hm]at h;simp[R.get]at h
  |true=>
   rw[hm,R.get_br,DQ,R.get_ok]at h;refine⟨40,?_⟩;rw[<-h];refine(zah 40 m f).trans ?_;have hmp:=KC hm;rw[hm,A9,DR];refine(Ub 40 AG f m.ts hmp.2.2.1 (λt ht=>Uj hmp.2.2.2.2 ht) _ m.ts.length 0 40 [] AG (by have:=hmp.2.2.1;omega) (CH _)).trans ?_;rw[CD,vac,jk,vbj,DQ,rW];have e1:(iZ (LV (I9 m.ts f))).length=(iZ (I9 m.ts f)).length:=by rw[LM,LM];exact(UD _).length_eq
   have e2:(iZ (JS (LV (I9 m.ts f)))).length<=(iZ (I9 m.ts f)).length:=by rw[<-e1,LM,LM];exact lD _
   rw[e1,vbj,DQ,DQ,rW,CV e2,DQ,BS];rfl
 .simp[R.get]at h
theorem zeh:D6 PR B0 96 fC:=by
 refine Px [(149,fD),(151,fI)] [(150,mB)] [] fC [[.list AD [.z]]] Tryz.func96 qo ⟨zei,zeq,trivial⟩ ⟨zem,trivial⟩ ?_;intro vs r hwf h;unfold fC at h;split at h
 .rename_i m q b i;replace h:=II h;obtain⟨m,rfl,h⟩:=h;replace h:=JB h;obtain⟨q,rfl,h⟩:=h;replace h:=JJ h;obtain⟨b,rfl,h⟩:=h;cases hg:(EU m&&HC i)with
  |false=>rw[hg]at h;simp[R.get]at h
  |true=>
  rw[hg,R.get_br,DQ,R.get_ok]at h;rw[AQ]at hg;refine⟨0,?_⟩;rw[<-h];have key:∀k:Nat,k<5->EA (yT 0) qA [.tmp 8] [[.list AD [.z]]] [m.V,q.V,b.V,.i (k:Int)]=AA (.list AD [.z] (iZ (EM m q b k)),[]):=λk hk=>by
   rw[zdb m q b k hk,dl hg.1];rfl
  rcases Gz hg.2 with rfl|rfl|rfl|rfl|rfl
  .exact key 0 AG
  .exact key 1 AG
  .exact key 2 AG
  .exact key 3 AG
  .exact key 4 AG
 .simp[R.get]at h
abbrev zf7(m:Md)(q:Qy)(b:Bx)(i:Int):St:=⟨[(3,(.ptr 3 0 0)),(4,(.ptr 4 0 0)),(5,(.ptr 5 0 0)),(6,(.i 0)),(7,(.i 0)),(8,(.bool AD)),(11,(.i i))],[(3,(AA (.box (Md.cs m)))),(4,(AA (.box (Qy.cs q)))),(5,(AA (.box (Bx.cs b))))]⟩
theorem Ep{m:Md}(hm:EU m=AC)(q:Qy)(b:Bx)(i:Nat):(EM m q b i).length<=248:=by
 have key:∀(ts:LI) (f:Int),(∀t∈ts,(E3 t).length<=31)->(I9 ts f).length<=31*ts.length:=by
  intro ts f
  induction ts with
  |nil=>intro _;exact A4 _
  |cons t r ih=>
   intro ht;have h1:=ih λu hu=>ht u (A6 _ hu)
   have h2:=xR f (E3 t);have h3:=ht t (AY ..);unfold I9 at h1 ⊢;rw[vaA,A2,AV];omega
 have hmp:=KC hm;have h1:=key m.ts (IA q (i:Int)) λt ht=>Uj hmp.2.2.2.2 ht
 unfold EM;cases AE (IA q (i:Int)<0)with
 |true=>exact CH _
 |false=>
  rw[DR];have h2:(LN (b.g i).lo (b.g i).hi (JV m.ts (IA q (i:Int)))).length<=(JV m.ts (IA q (i:Int))).length:=List.length_filter_le ..
  have h3:(JV m.ts (IA q (i:Int))).length<=(I9 m.ts (IA q (i:Int))).length:=by
   unfold JV;exact DD (lD _) (Nat.le_of_eq (UD _).length_eq)
  have:=hmp.2.2.1
  omega
theorem Rg(N:Nat)(m:Md)(hm:EU m=AC)(q:Qy)(b:Bx):∀(d i n:Nat),i+d=5->d<n->
  D3 (PX N) (DS TO [1,0,1,0,0]) ⟨[3,4,5,6,7,8,11],[3,4,5],[]⟩ n (zf7 m q b (i:Int)) (DW 0 (DX (PX N) (DS TO [1,1]) (D2 (PX N) AB [(B7 6),(B7 7),(B7 8)] [[.z],[.z],[.bool]])))=
   AA (.tup [.i (KT (MC m q b d i)),.i (JM (MC m q b d i)),.bool (MC m q b d i).isSome],[])
 |d,i,0,_,h=>absurd h AG
 |0,i,n+1,hd,_=>by
  have hi:i=5:=by omega
  subst hi;rw[D8,Sl,AS (show¬((5:Nat):Int)<5 by omega),DR];exact jf N m q b _ _ _ _
 |d+1,i,n+1,hd,hn=>by
  have hp:HC (i:Int)=AC:=by unfold HC;rw[AL (show(0:Int)<=(i:Int) by omega),AL (show(i:Int)<5 by omega)];rfl
  have ei:AI AJ ((i:Int)+1)=((i+1:Nat):Int):=GM AG;have hc:=Ep hm q b i;rw[D8,Sl,ei,AL (show(i:Int)<5 by omega),DQ,hm,hp,BR,DQ,BE,MC,LM];generalize EM m q b i=cs at hc ⊢;have ed:AE (ic cs.length>0)=AE (cs.length>0):=by rw[vaB];simp
  rw[ed];cases hpos:AE (cs.length>0)with
  |true=>
   have hpos:=BB hpos;have ew:AI AJ (Int.tdiv (AI AJ (ic cs.length-1)) 2)=(((cs.length-1)/2:Nat):Int):=by
    have e1:AI AJ (ic cs.length-1)=((cs.length-1:Nat):Int):=by rw[ER (by simp only[ic];omega) (by simp only[ic];omega)];simp only[ic];omega
    have e2:Int.tdiv ((cs.length-1:Nat):Int) 2=(((cs.length-1)/2:Nat):Int):=by
     rw[Int.tdiv_eq_ediv_of_nonneg AG];omega
    rw[e1,e2,ER AG AG]
   have hlt:(cs.length-1)/2<cs.length:=by omega
   rw[DQ,ew,IM,AL (show(((cs.length-1)/2:Nat):Int)<ic cs.length by simp only[ic];omega),BR,DQ,DQ,BE];have eg:IV.toInt (AR (iZ cs) ((cs.length-1)/2) default)=cs.getD ((cs.length-1)/2) 0:=by
    unfold iZ;rw[BY,BY,CJ,BD hlt];rfl
   rw[eg];exact jg N m q b _ _ _ _
  |false=>
   rw[DR,DR];exact Rg N m hm q b d (i+1) n AG AG
theorem zeg:D6 PR B0 171 fB:=by
 refine EF [(96,fC)] [(2,⟨[3,4,5,6,7,8,11],[3,4,5],[]⟩)] fB [[.z],[.z],[.bool]] Tryz.func171 qn ⟨zeh,trivial⟩ ?_;intro vs r hwf h;unfold fB at h;split at h
 .rename_i m q b;replace h:=II h;obtain⟨m,rfl,h⟩:=h;replace h:=JB h;obtain⟨q,rfl,h⟩:=h;replace h:=JJ h;obtain⟨b,rfl,h⟩:=h;cases hg:(EU m)with
  |false=>rw[hg]at h;simp[R.get]at h
  |true=>
  rw[hg,R.get_br,DQ,R.get_ok]at h;refine⟨10,?_⟩;rw[<-h];exact(zy 10 m q b).trans (Rg 10 m hg q b 5 0 10 rfl AG)
 .simp[R.get]at h
end Go.FM
