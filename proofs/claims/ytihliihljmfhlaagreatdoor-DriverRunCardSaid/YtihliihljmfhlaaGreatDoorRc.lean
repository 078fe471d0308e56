/-
  A small machine that reckons what a call comes to; the functions of the program, one by one. (DERIVED: THE SHELF's CONTRACTS AT THIS DUMP, IN PLAIN WORDS , THE LIBRARY's strconv.FormatUint AT BASE 10: the number's de, WHAT THE LIBRARY's FUNCTIONS OVER SLICES OF STRINGS COME TO,, and so on.)
-/
import Derived.Shelf.Strings.OnBuilder
import Derived.Shelf.Strings.Trim
import Derived.Shelf.Small.Utf8
import Derived.Shelf.Small.Wraps
import Derived.Shelf.Strconv.Itoa3
import Derived.Shelf.Strconv.ErrVarAll
import Derived.Shelf.Strconv.ParseUint10b64
import Derived.Shelf.Pu.ErrVarParseUint
import Derived.Shelf.Strings.Shaped
import Derived.Shelf.Sort.Plain
import Derived.Shelf.Strings.SplitShaped
import Derived.Shelf.Strings.Runes
import Derived.Shelf.Strings.AsciiSet
import Derived.Shelf.Strings.Explode
import Derived.Shelf.Strings.Repeat
import Derived.Shelf.Unicode.DecodeSlow
import Derived.Shelf.Slices.Turned
import Derived.Shelf.Slices.Cells
import Derived.Shelf.Slices.In.SortNone
import Derived.Shelf.SlicesE.DeleteFunc
import Derived.Test.YtihliihljmfhlaaGreatDoorRb
import Derived.Lib.AppendIntMem
set_option linter.all false
set_option maxRecDepth 100000
open Array renaming length_toList→C8,toList_append→vaj
open BitVec renaming ofInt→A0,toNat→B1
open Bool renaming and_eq_true→AP,not_true→A9,true_and→BE,not_false→BG,false_and→BP,and_self→BX,not_eq_true'→CC,and_true→CJ,and_false→DB,eq_iff_iff→vac,false_or→vam,or_eq_true→vap,true→AC,false→AD
open ByteArray renaming size→AR,size_append→A7,toList→BY,empty→CQ,append_assoc→DM,size_extract→vaQ,size_push→va6
open Decidable renaming decide→AE
open Go.Addr.mk renaming injEq→DG
open Go.IntKind renaming wrap→AI,i64→AJ,u64→AO,bits→AT,signed→vak,u8→vbb,wrap_u64→vbg
open Go.Lib renaming decDigits→CS,strCells→DQ,strCells_length→vaz,join→vaJ,bytesWorld→vaR,split→va3,itoa→va7,indexByte→vbj,parseUint10→vbA,parseUintB_64→vbK
open Go.ResultVar renaming tmp→B9,cell→vbm
open Go.World renaming cell?→vaH
open Int renaming toNat→AM,toNat_natCast→BH,fdiv→C3,le_refl→DO,fdiv_eq_ediv_of_nonneg→vaD
open List renaming length→AN,getD→AQ,take→AU,length_cons→AV,mem_cons→AY,mem_cons_self→AZ,length_append→A2,drop→A3,mem_append→A4,mem_cons_of_mem→A6,map_cons→A8,drop_eq_getElem_cons→BD,getElem?_eq_getElem→BF,length_take→BJ,getD_eq_getElem?_getD→BK,length_nil→BL,map→BQ,replicate→BU,take_length→BW,getElem?_eq_some_iff→B2,getElem?_eq_none→B4,mem_singleton→B7,length_map→B8,drop_zero→CA,getElem?_cons_zero→CB,not_mem_nil→CD,getElem?_map→CK,map_nil→CN,mem_map→CV,all_eq_true→CZ,cons_append→C0,drop_of_length_le→C1,getElem?_take→C2,drop_length→C4,take_of_length_le→C9,getElem_mem→DC,length_singleton→DD,length_drop→DL,length_set→DP,mem_of_getElem?→vab,append_nil→vad,size_toArray→vaf,getElem?_append→vai,all_cons→van,getElem?_drop→vat,mem_of_mem_take→vav,append_assoc→vax,range→vaA,mem_range→vaF,getElem?_set_ne→vaG,mem_of_mem_drop→vaL,set→vaM,map_append→va5,range'→va8,sum_cons→vbc,getElem?_set_self→vbh,isPrefixOf→vbu,eraseIdx_eq_take_drop_succ→vbM
open Nat renaming le_of_ble_eq_true→AX,le_refl→A5,zero_add→BS,blt→BV,beq→BZ,ble→CF,ble_eq_true_of_le→CU,le_trans→DF,add_zero→DH,eq_of_beq_eq_true→vag,add_assoc→vaW,strongRecOn→vbD
open Option renaming map_eq_some_iff→DR,some→AA,none→AB
open Option.some renaming injEq→AK,inj→CI
open Prod.mk renaming injEq→A1
open UInt8 renaming toNat_ofNat_of_lt'→vaX
namespace Go.Proofs
open Go.Shelf
def Tryz.lays156_ren:Go.Shelf.Ren:=⟨λ|156=>44|165=>103|166=>94|169=>47|240=>148|241=>162|276=>192|277=>205|n=>n,λ|31=>65|9=>9|3=>3|4=>4|0=>0|20=>20|72=>98|76=>150|70=>96|37=>51|75=>149|127=>161|164=>226|5=>5|80=>102|n=>n,λ|n=>n⟩
theorem Tryz.lays156:Go.Proofs.Lays.n156 Tryz.prog Tryz.lays156_ren:=by constructor<;>first|kernel_rfl|(intro _;kernel_rfl)
theorem Tryz.Builder_Extra_156:Builder.Extra Tryz.prog Tryz.lays156_ren:={
 sizeBuilder:=by kernel_rfl
 liesBuilder:=by kernel_rfl
 t5:=Tryz.underlying5
 a5:=Tryz.isAgg5
 z5:=Tryz.sizeOf5
 v5:=Tryz.zeroValue5
 infoByte:=by kernel_rfl
 cellsByte:=by kernel_rfl
 sizeByte:=by kernel_rfl
 neB5:=by decide}
open Go.RowKit in
theorem Tryz.strings_Join_none (a:Option Addr) (c:Nat) (sep:BA) (w:World) :
 Calls Tryz.prog 44 #[.slice a 0 c,.string sep] w fun e w'=>e = .returned (.string ⟨#[]⟩)∧w'=w:=Any.strings_Join_none Tryz.lays156 Tryz.Builder_Extra_156 a c sep w
open Go.RowKit in
theorem Tryz.strings_Join (bk o c:Nat) (xs:List BA) (sep:BA) (w:World) (hcells:∀ (j:Nat) x,xs[j]?=some x→w.cell? ⟨bk,o+j,none⟩=some (.string x)) (hbk:bk < w.heap.size) (hN:xs.length≤140737488355328) (hcap:xs.length≤c) (hlen:(Lib.join (xs.map (·.data.toList)) sep.data.toList).length≤140737488355328) :
 Calls Tryz.prog 44 #[.slice (some ⟨bk,o,none⟩) xs.length c,.string sep] w fun e w'=>e = .returned (.string ⟨(Lib.join (xs.map (·.data.toList)) sep.data.toList).toArray⟩)∧Below w.heap.size w w':=Any.strings_Join Tryz.lays156 Tryz.Builder_Extra_156 bk o c xs sep w hcells hbk hN hcap hlen
def Tryz.lays162_ren:Go.Shelf.Ren:=⟨λ|162=>101|232=>155|227=>156|234=>157|236=>158|228=>200|271=>201|151=>202|120=>238|197=>223|152=>239|260=>249|137=>121|119=>263|224=>227|225=>226|217=>177|266=>213|n=>n,λ|9=>9|4=>4|3=>3|5=>5|117=>195|116=>194|0=>0|124=>198|21=>21|105=>237|46=>156|119=>296|139=>299|138=>298|n=>n,λ|3=>4|4=>5|n=>n⟩
theorem Tryz.lays162:Go.Proofs.Lays.n162 Tryz.prog Tryz.lays162_ren:=by constructor<;>first|kernel_rfl|(intro _;kernel_rfl)
open Go.RowKit in
theorem Tryz.strings_TrimRight_one (s:BA) (c:UInt8) (hc:c.toNat < 128) (w:World) (hs:s.size≤9223372036854775807) :
 Calls Tryz.prog 101 #[.string s,.string ⟨#[c]⟩] w fun e w'=>e = .returned (.string ⟨(Lib.trimRightB s.data.toList c).toArray⟩)∧w'=w:=Any.strings_TrimRight_one Tryz.lays162 s c hc w hs
def Tryz.lays103_ren:Go.Shelf.Ren:=⟨λ|103=>55|210=>120|206=>176|n=>n,λ|9=>9|4=>4|24=>112|3=>3|n=>n,λ|n=>n⟩
theorem Tryz.lays103:Go.Proofs.Lays.n103 Tryz.prog Tryz.lays103_ren:=by constructor<;>first|kernel_rfl|(intro _;kernel_rfl)
open Go.RowKit in
theorem Tryz.strings_CutPrefix (s p:BA) (w:World) :
 Calls Tryz.prog 55 #[.string s,.string p] w fun e w'=>e = .returned (.tuple #[.string ⟨(Lib.trimPrefix s.data.toList p.data.toList).toArray⟩,.bool (Lib.hasPrefix s.data.toList p.data.toList)])∧w'=w:=Any.strings_CutPrefix Tryz.lays103 s p w
def Tryz.lays283_ren:Go.Shelf.Ren:=⟨λ|283=>196|n=>n,λ|3=>3|9=>9|4=>4|n=>n,λ|n=>n⟩
theorem Tryz.lays283:Go.Proofs.Lays.n283 Tryz.prog Tryz.lays283_ren:=by constructor<;>first|kernel_rfl|(intro _;kernel_rfl)
open Go.Lib in
theorem Tryz.internal_strconv_small (i:Nat) (h:i < 100) (w:World) :
 Calls Tryz.prog 196 #[.int .i64 i] w fun e w'=>e = .returned (.string ⟨(Lib.decDigits i).toArray⟩)∧w'=w:=Any.internal_strconv_small Tryz.lays283 i h w
def Tryz.laysM284_ren:Go.Shelf.Ren:=⟨λ|284=>197|129=>234|317=>233|318=>235|n=>n,λ|53=>106|3=>3|212=>268|0=>0|4=>4|46=>156|5=>5|9=>9|n=>n,λ|17=>1|n=>n⟩
theorem Tryz.laysM284:Go.Proofs.LaysM.n284 Tryz.prog Tryz.laysM284_ren:=by constructor<;>first|kernel_rfl|(intro _;kernel_rfl)|(constructor<;>first|kernel_rfl|(intro _;kernel_rfl)|(constructor<;>first|kernel_rfl|(intro _;kernel_rfl)))
open Go.Lib in
theorem Tryz.internal_strconv_numDigits (u:Nat) (h1:1≤u) (h2:u < 18446744073709551616) (w:World) (htab:Lib.TabIs Tryz.prog w "internal/strconv.uint64pow10" .u64 Lib.pow10Tab) :
 Calls Tryz.prog 197 #[.int .u64 u] w fun e w'=>e = .returned (.int .i64 (Lib.nDigits u))∧w'=w:=Any.internal_strconv_numDigits Tryz.laysM284 u h1 h2 w htab
def Tryz.lays285_ren:Go.Shelf.Ren:=⟨λ|285=>198|n=>n,λ|37=>51|53=>106|3=>3|4=>4|51=>240|9=>9|5=>5|0=>0|n=>n,λ|n=>n⟩
theorem Tryz.lays285:Go.Proofs.Lays.n285 Tryz.prog Tryz.lays285_ren:=by constructor<;>first|kernel_rfl|(intro _;kernel_rfl)
open Go.RowKit Go.Sort Go.Lib in
theorem Tryz.internal_strconv_formatBase10 (blk off cap:Nat) (u:Nat) (d:Array UInt8) (w:World) (hH:Holds (fun (b:UInt8)=>Value.int .u8 (b.toNat:Int)) w blk off d) (hu:u < 10 ^ d.size) (hu64:u < 18446744073709551616) (hsz:d.size < 4611686018427387904) :
 Calls Tryz.prog 198 #[.slice (some ⟨blk,off,none⟩) d.size cap,.int .u64 u] w fun e w'=>
  e = .returned (.tuple #[])∧∃ (n v':Nat) (dk:Array UInt8),w'=(putRow (fun (b:UInt8)=>Value.int .u8 (b.toNat:Int)) w blk off dk).drewN n∧FmtInv d.size u 0 v' dk:=Any.internal_strconv_formatBase10 Tryz.lays285 blk off cap u d w hH hu hu64 hsz
def Tryz.laysM171_ren:Go.Shelf.Ren:=⟨λ|171=>42|243=>98|246=>153|283=>196|284=>197|285=>198|286=>199|129=>234|317=>233|318=>235|319=>236|320=>237|337=>261|338=>262|n=>n,λ|3=>3|9=>9|2=>2|4=>4|171=>231|0=>0|53=>106|37=>51|5=>5|173=>234|212=>268|51=>240|20=>20|213=>269|46=>156|232=>305|233=>306|n=>n,λ|17=>1|18=>6|19=>7|n=>n⟩
theorem Tryz.laysM171:Go.Proofs.LaysM.n171 Tryz.prog Tryz.laysM171_ren:=by constructor<;>first|kernel_rfl|(intro _;kernel_rfl)|(constructor<;>first|kernel_rfl|(intro _;kernel_rfl)|(constructor<;>first|kernel_rfl|(intro _;kernel_rfl)))
open Go.RowKit Go.Sort Go.Lib in
theorem Tryz.strconv_Itoa (n:Int) (h0 : -9223372036854775808≤n) (h1:n≤9223372036854775807) (w:World) (htab:Lib.TabIs Tryz.prog w "internal/strconv.uint64pow10" .u64 Lib.pow10Tab) :
 Calls Tryz.prog 42 #[.int .i64 n] w fun e w'=>e = .returned (.string ⟨(Lib.itoa n).toArray⟩)∧∃ k os,w'=grow (w.drewN k) os:=Any.strconv_Itoa Tryz.laysM171 n h0 h1 w htab
def Tryz.laysC172_ren:Go.Shelf.Ren:=⟨λ|172=>122|244=>178|245=>179|247=>214|279=>215|280=>216|281=>217|282=>218|287=>245|316=>246|171=>42|205=>247|321=>265|322=>266|243=>98|246=>153|283=>196|284=>197|285=>198|286=>199|129=>234|317=>233|318=>235|319=>236|320=>237|337=>261|338=>262|n=>n,λ|9=>9|3=>3|75=>149|76=>150|4=>4|5=>5|167=>250|37=>51|0=>0|85=>251|2=>2|168=>253|53=>106|175=>258|46=>156|210=>277|127=>161|145=>295|143=>293|21=>21|171=>231|173=>234|212=>268|51=>240|20=>20|213=>269|232=>305|233=>306|80=>102|n=>n,λ|15=>2|16=>3|17=>1|18=>6|19=>7|n=>n⟩
theorem Tryz.laysC172:Go.Proofs.LaysC.n172 Tryz.prog Tryz.laysC172_ren:=by constructor<;>first|kernel_rfl|(intro _;kernel_rfl)|(constructor<;>first|kernel_rfl|(intro _;kernel_rfl)|(constructor<;>first|kernel_rfl|(intro _;kernel_rfl)))
open Go.RowKit in
theorem Tryz.strconv_Atoi_ok (s:BA) (hmax:s.size≤9223372036854775806) (v:Int) (h:Lib.atoiAll s.data.toList = .ok v) (w:World) :
 Calls Tryz.prog 122 #[.string s] w fun e w'=>e = .returned (.tuple #[.int .i64 v,.nilIface])∧(w'=w∨∃ t,w'=Lib.bytesWorld w 5 t):=Any.strconv_Atoi_ok Tryz.laysC172 s hmax v h w
open Go.RowKit in
theorem Tryz.strconv_Atoi_syntax (s:BA) (hlim:s.size≤281474976710656) (h:Lib.atoiAll s.data.toList=Lib.NumEnd.syntax) (ev:Value) (w:World) (hv:w.cell? ⟨2,0,none⟩=some ev) (hev:ev = .nilIface∨∃ te pe,ev = .iface te pe) :
 Calls Tryz.prog 122 #[.string s] w fun e w'=>∃ N,e = .returned (.tuple #[.int .i64 (0),.iface 253 (.pointer (some ⟨N,0,none⟩))])∧w.heap.size≤N∧w'.heap[N]?=some (.cells #[.string ⟨#[65,116,111,105]⟩,.string s,ev] 277 (0,0))∧Below w.heap.size w w':=Any.strconv_Atoi_syntax Tryz.laysC172 s hlim h ev w hv hev
open Go.RowKit in
theorem Tryz.strconv_Atoi_range (s:BA) (hlim:s.size≤281474976710656) (h:Lib.atoiAll s.data.toList = .range) (ev:Value) (w:World) (hv:w.cell? ⟨3,0,none⟩=some ev) (hev:ev = .nilIface∨∃ te pe,ev = .iface te pe) :
 Calls Tryz.prog 122 #[.string s] w fun e w'=>∃ N,e = .returned (.tuple #[.int .i64 (Lib.atoiSat s.data.toList),.iface 253 (.pointer (some ⟨N,0,none⟩))])∧w.heap.size≤N∧w'.heap[N]?=some (.cells #[.string ⟨#[65,116,111,105]⟩,.string s,ev] 277 (0,0))∧Below w.heap.size w w':=Any.strconv_Atoi_range Tryz.laysC172 s hlim h ev w hv hev
def Tryz.laysPu14_ren:Go.Shelf.Ren:=⟨λ|14=>225|16=>245|17=>179|19=>265|20=>266|21=>215|22=>216|23=>217|24=>218|25=>246|27=>42|26=>247|28=>98|29=>153|30=>196|31=>197|32=>198|33=>199|35=>234|34=>233|36=>235|37=>236|38=>237|39=>261|40=>262|n=>n,λ|9=>9|3=>3|22=>106|24=>149|25=>258|4=>4|34=>250|5=>5|36=>156|37=>51|0=>0|39=>253|21=>21|44=>277|47=>161|50=>295|48=>293|2=>2|52=>231|55=>234|59=>268|60=>240|20=>20|61=>269|65=>305|66=>306|67=>102|n=>n,λ|0=>2|1=>3|2=>1|3=>6|4=>7|n=>n⟩
theorem Tryz.laysPu14:Go.Proofs.LaysPu.n14 Tryz.prog Tryz.laysPu14_ren:=by constructor<;>first|kernel_rfl|(intro _;kernel_rfl)|(constructor<;>first|kernel_rfl|(intro _;kernel_rfl)|(constructor<;>first|kernel_rfl|(intro _;kernel_rfl)))
open Go.RowKit in
theorem Tryz.strconv_ParseUint_10_at64_ok (s:BA) (hmax:s.size≤9223372036854775806) (u:Nat) (h:Lib.parseUintB 64 s.data.toList = .ok u) (w:World) :
 Calls Tryz.prog 225 #[.string s,.int .i64 10,.int .i64 64] w fun e w'=>e = .returned (.tuple #[.int .u64 u,.nilIface])∧(w'=w∨w'=Lib.bytesWorld w 5 s):=Any.strconv_ParseUint_10_at64_ok Tryz.laysPu14 s hmax u h w
open Go.RowKit in
theorem Tryz.strconv_ParseUint_10_at64_syntax (s:BA) (hlim:s.size≤281474976710656) (h:Lib.parseUintB 64 s.data.toList=Lib.NumEnd.syntax) (ev:Value) (w:World) (hv:w.cell? ⟨2,0,none⟩=some ev) (hev:ev = .nilIface∨∃ te pe,ev = .iface te pe) :
 Calls Tryz.prog 225 #[.string s,.int .i64 10,.int .i64 64] w fun e w'=>∃ N,e = .returned (.tuple #[.int .u64 0,.iface 253 (.pointer (some ⟨N,0,none⟩))])∧w.heap.size≤N∧w'.heap[N]?=some (.cells #[.string ⟨#[80,97,114,115,101,85,105,110,116]⟩,.string s,ev] 277 (0,0))∧Below w.heap.size w w':=Any.strconv_ParseUint_10_at64_syntax Tryz.laysPu14 s hlim h ev w hv hev
open Go.RowKit in
theorem Tryz.strconv_ParseUint_10_at64_range (s:BA) (hlim:s.size≤281474976710656) (h:Lib.parseUintB 64 s.data.toList = .range) (ev:Value) (w:World) (hv:w.cell? ⟨3,0,none⟩=some ev) (hev:ev = .nilIface∨∃ te pe,ev = .iface te pe) :
 Calls Tryz.prog 225 #[.string s,.int .i64 10,.int .i64 64] w fun e w'=>∃ N,e = .returned (.tuple #[.int .u64 18446744073709551615,.iface 253 (.pointer (some ⟨N,0,none⟩))])∧w.heap.size≤N∧w'.heap[N]?=some (.cells #[.string ⟨#[80,97,114,115,101,85,105,110,116]⟩,.string s,ev] 277 (0,0))∧Below w.heap.size w w':=Any.strconv_ParseUint_10_at64_range Tryz.laysPu14 s hlim h ev w hv hev
def Tryz.lays145_ren:Go.Shelf.Ren:=⟨λ|145=>82|220=>139|219=>188|217=>177|225=>226|224=>227|267=>228|266=>213|314=>250|n=>n,λ|9=>9|4=>4|59=>114|3=>3|5=>5|46=>156|146=>241|51=>240|n=>n,λ|1=>0|n=>n⟩
theorem Tryz.lays145:Go.Proofs.Lays.n145 Tryz.prog Tryz.lays145_ren:=by constructor<;>first|kernel_rfl|(intro _;kernel_rfl)
open Go.RowKit Go.Lib in
theorem Tryz.strings_Cut (s sep:BA) (m:Int) (w:World) (hs:s.size < 4294967281) (hm:w.cell? ⟨0,0,none⟩=some (.int .i64 m)) :
 Calls Tryz.prog 82 #[.string s,.string sep] w fun e w'=>e = .returned (.tuple #[.string ⟨(Lib.cut s.data.toList sep.data.toList).1.toArray⟩,.string ⟨(Lib.cut s.data.toList sep.data.toList).2.1.toArray⟩,.bool (Lib.cut s.data.toList sep.data.toList).2.2])∧∃ n,w'=w.drewN n:=Any.strings_Cut Tryz.lays145 s sep m w hs hm
def Tryz.lays189_ren:Go.Shelf.Ren:=⟨λ|189=>194|125=>232|257=>231|128=>260|129=>234|294=>251|295=>252|296=>253|297=>254|298=>255|299=>256|216=>257|300=>258|301=>259|328=>267|329=>268|330=>269|331=>270|332=>271|215=>272|343=>273|n=>n,λ|28=>22|3=>3|46=>156|0=>0|51=>240|53=>106|4=>4|183=>284|182=>283|131=>86|5=>5|9=>9|218=>300|222=>303|228=>307|229=>211|n=>n,λ|n=>n⟩
theorem Tryz.lays189:Go.Proofs.Lays.n189 Tryz.prog Tryz.lays189_ren:=by constructor<;>first|kernel_rfl|(intro _;kernel_rfl)
open Go.Sort Go.RowKit in
theorem Tryz.slices_Sort_int (blk off cap:Nat) (zs:List Int) (w:World) (hH:Holds (Value.int .i64) w blk off zs.toArray) (hblk:blk < w.heap.size) (hsz:zs.length < 4611686018427387904) :
 Calls Tryz.prog 194 #[.slice (some ⟨blk,off,none⟩) zs.length cap] w fun e w'=>
  e = .returned (.tuple #[])∧∃ n os,w'=grow (putRow (Value.int .i64) (Sort.ahead w n) blk off (zs.mergeSort fun x y=>decide (x≤y)).toArray) os:=Any.slices_Sort_int Tryz.lays189 blk off cap zs w hH hblk hsz
def Tryz.lays146_ren:Go.Shelf.Ren:=⟨λ|146=>64|221=>129|268=>183|138=>184|143=>185|195=>222|197=>223|218=>224|219=>188|260=>249|217=>177|225=>226|224=>227|267=>228|266=>213|314=>250|n=>n,λ|9=>9|31=>65|3=>3|4=>4|0=>0|105=>237|21=>21|5=>5|46=>156|119=>296|139=>299|138=>298|146=>241|51=>240|n=>n,λ|1=>0|3=>4|4=>5|n=>n⟩
theorem Tryz.lays146:Go.Proofs.Lays.n146 Tryz.prog Tryz.lays146_ren:=by constructor<;>first|kernel_rfl|(intro _;kernel_rfl)
open Go.RowKit Go.Lib in
theorem Tryz.strings_Split (s sep:BA) (m:Int) (w:World) (hs:s.size < 4294967281) (hm:w.cell? ⟨0,0,none⟩=some (.int .i64 m)) (h1:1≤sep.size) :
 Calls Tryz.prog 64 #[.string s,.string sep] w fun e w'=>
  e = .returned (.slice (some ⟨w.heap.size,0,none⟩) (Lib.countB s sep+1) (Lib.countB s sep+1))∧w'=w.alloc (.cells ((Lib.splitB sep 0 (Lib.countB s sep) s).map Value.string).toArray 9):=Any.strings_Split Tryz.lays146 (by kernel_rfl) s sep m w hs hm h1
def Tryz.lays105_ren:Go.Shelf.Ren:=⟨λ|105=>102|212=>159|99=>160|165=>103|166=>94|170=>161|169=>47|263=>203|264=>204|206=>176|240=>148|241=>162|276=>192|277=>205|n=>n,λ|9=>9|3=>3|4=>4|20=>20|0=>0|46=>156|109=>199|5=>5|72=>98|76=>150|51=>240|146=>241|53=>106|148=>243|70=>96|37=>51|75=>149|127=>161|164=>226|80=>102|n=>n,λ|n=>n⟩
theorem Tryz.lays105:Go.Proofs.Lays.n105 Tryz.prog Tryz.lays105_ren:=by constructor<;>first|kernel_rfl|(intro _;kernel_rfl)
theorem Tryz.Builder_Extra_105:Builder.Extra Tryz.prog Tryz.lays105_ren:={
 sizeBuilder:=by kernel_rfl
 liesBuilder:=by kernel_rfl
 t5:=Tryz.underlying5
 a5:=Tryz.isAgg5
 z5:=Tryz.sizeOf5
 v5:=Tryz.zeroValue5
 infoByte:=by kernel_rfl
 cellsByte:=by kernel_rfl
 sizeByte:=by kernel_rfl
 neB5:=by decide}
open Go.RowKit Go.Lib in
theorem Tryz.strings_Repeat (s:BA) (c:Nat) (w:World) (hc:c≤9223372036854775807) (hlen:s.size*c≤140737488355328) :
 Calls Tryz.prog 102 #[.string s,.int .i64 c] w fun e w'=>e = .returned (.string ⟨(Lib.repeatL s.data.toList c).toArray⟩)∧Below w.heap.size w w':=Any.strings_Repeat Tryz.lays105 Tryz.Builder_Extra_105 s c w hc hlen
def Tryz.laysNm220_ren:Go.Shelf.Ren:=⟨λ|20=>195|n=>n,λ|22=>22|3=>3|4=>4|0=>0|n=>n,λ|n=>n⟩
theorem Tryz.laysNm220:Go.Proofs.Lays2.n20 Tryz.prog Tryz.laysNm220_ren:=by constructor<;>first|kernel_rfl|(intro _;kernel_rfl)|(constructor<;>first|kernel_rfl|(intro _;kernel_rfl)|(constructor<;>first|kernel_rfl|(intro _;kernel_rfl)))
open Go.RowKit Go.Lib Go.Sort in
theorem Tryz.slices_Compact_int (blk off cap:Nat) (zs:List Int) (w:World) (hH:Holds (Value.int .i64) w blk off zs.toArray) (hsz:zs.length≤9223372036854775807) (hcap:zs.length≤cap) :
 Calls Tryz.prog 195 #[.slice (some ⟨blk,off,none⟩) zs.length cap] w fun e w'=>e = .returned (.slice (some ⟨blk,off,none⟩) (Lib.compact zs).length cap)∧∃ q,w'=putRow (Value.int .i64) (Sort.ahead w q) blk off (Lib.compact zs++List.replicate (zs.length - (Lib.compact zs).length) 0).toArray:=Any.slices_Compact_int Tryz.laysNm220 blk off cap zs w hH hsz hcap
open Go.RowKit Go.Lib Go.Sort in
theorem Tryz.slices_Compact_int_empty (a:Option Addr) (cap:Nat) (w:World) :
 Calls Tryz.prog 195 #[.slice a 0 cap] w fun e w'=>e = .returned (.slice a 0 cap)∧w'=w:=Any.slices_Compact_int_empty Tryz.laysNm220 a cap w
open Go.RowKit Go.Sort in
theorem Tryz.slices_Sort_int_none (p:Option Addr) (cap:Nat) (w:World) :
 Calls Tryz.prog 194 #[.slice p 0 cap] w fun e w'=>e = .returned (.tuple #[])∧w'=w:=Any.slices_Sort_int_none Tryz.lays189 p cap w
def Tryz.laysSlH6_f193_ren:Go.Shelf.Ren:=⟨λ|6=>193|n=>n,λ|22=>22|23=>3|25=>91|3=>3|0=>0|4=>4|n=>n,λ|n=>n⟩
theorem Tryz.laysSlH6_f193:Go.Proofs.SlLaysH.n6 Tryz.prog Tryz.laysSlH6_f193_ren:={
 mixed:=by kernel_rfl
 f6:=⟨Tryz.f193.name,by decide,Tryz.func193.trans (congrArg some (by kernel_rfl))⟩
 t0:=Tryz.underlying0
 a0:=Tryz.isAgg0
 z0:=Tryz.sizeOf0
 v0:=Tryz.zeroValue0
 t3:=Tryz.underlying3
 a3:=Tryz.isAgg3
 z3:=Tryz.sizeOf3
 v3:=Tryz.zeroValue3
 t4:=Tryz.underlying4
 a4:=Tryz.isAgg4
 z4:=Tryz.sizeOf4
 v4:=Tryz.zeroValue4
 t22:=Tryz.underlying22
 a22:=Tryz.isAgg22
 z22:=Tryz.sizeOf22
 v22:=Tryz.zeroValue22
 a23:=Tryz.isAgg3
 z23:=Tryz.sizeOf3
 t25:=Tryz.underlying91
 a25:=Tryz.isAgg91
 z25:=Tryz.sizeOf91
 v25:=Tryz.zeroValue91}
open Go.RowKit Go.Lib in
theorem Tryz.slices_IndexFunc_empty {α:Type} [Inhabited α] (a:Option Addr) (c:Nat) (fv:Value) (w:World) :
 Calls Tryz.prog 193 #[.slice a 0 c,fv] w fun e w'=>e = .returned (.int .i64 (-1))∧w'=w:=AnyE.slices_IndexFunc_empty Tryz.laysSlH6_f193 a c fv w
def Tryz.laysSlH10_f150_ren:Go.Shelf.Ren:=⟨λ|10=>150|6=>193|n=>n,λ|22=>22|23=>3|25=>91|3=>3|4=>4|0=>0|n=>n,λ|n=>n⟩
theorem Tryz.laysSlH10_f150:Go.Proofs.SlLaysH.n10 Tryz.prog Tryz.laysSlH10_f150_ren:={
 mixed:=by kernel_rfl
 f6:=⟨Tryz.f193.name,by decide,Tryz.func193.trans (congrArg some (by kernel_rfl))⟩
 f10:=⟨Tryz.f150.name,by decide,Tryz.func150.trans (congrArg some (by kernel_rfl))⟩
 t0:=Tryz.underlying0
 a0:=Tryz.isAgg0
 z0:=Tryz.sizeOf0
 v0:=Tryz.zeroValue0
 t3:=Tryz.underlying3
 a3:=Tryz.isAgg3
 z3:=Tryz.sizeOf3
 v3:=Tryz.zeroValue3
 t4:=Tryz.underlying4
 a4:=Tryz.isAgg4
 z4:=Tryz.sizeOf4
 v4:=Tryz.zeroValue4
 t22:=Tryz.underlying22
 a22:=Tryz.isAgg22
 z22:=Tryz.sizeOf22
 v22:=Tryz.zeroValue22
 a23:=Tryz.isAgg3
 z23:=Tryz.sizeOf3
 t25:=Tryz.underlying91
 a25:=Tryz.isAgg91
 z25:=Tryz.sizeOf91
 v25:=Tryz.zeroValue91}
open Go.RowKit Go.Lib Go.Sort in
theorem Tryz.slices_DeleteFunc {α:Type} [Inhabited α] (enc:α→Value) (hO:OneCell enc) (p:α→Bool) (g:Nat) (lb:Array Value) (eg:∀ args w,(callFunc g args).run Tryz.prog w = .ok (.enter g args) w) (zr:α) (v23:∀ w,(zeroValue 3).run Tryz.prog w = .ok (enc zr) w) (blk off cap:Nat) (d:Array α) (w:World) (hp:PredAt Tryz.prog g lb enc p w) (hpo:PredOver Tryz.prog g lb enc p blk off d.size w) (hH:Holds enc w blk off d) (hsz:d.size≤9223372036854775807) (hcap:d.size≤cap) :
 Calls Tryz.prog 150 #[.slice (some ⟨blk,off,none⟩) d.size cap,.func (.func g) #[] lb] w fun e w'=>e = .returned (.slice (some ⟨blk,off,none⟩) (d.toList.filter fun x=>!p x).length cap)∧∃ q,w'=putRow enc (Sort.ahead w q) blk off ((d.toList.filter fun x=>!p x)++List.replicate (d.size - (d.toList.filter fun x=>!p x).length) zr).toArray:=AnyE.slices_DeleteFunc Tryz.laysSlH10_f150 enc hO p g lb eg zr v23 blk off cap d w hp hpo hH hsz hcap
end Go.Proofs
namespace Go.FM
open Go Go.Proofs Go.RowKit Go.Sort Go.Lib
set_option maxHeartbeats 12800000 in
theorem md (u:Nat) (hu64:u < 18446744073709551616) (w:World) (htab:Lib.TabIs Tryz.prog w "internal/strconv.uint64pow10" .u64 Lib.pow10Tab) :
  Calls Tryz.prog 154 #[.int .u64 u,.int .i64 10] w fun e w'=>e = .returned (.string ⟨(Lib.decDigits u).toArray⟩)∧∃ k os,w'=grow (w.drewN k) os:=by
 by_cases hs:u < 100
 ·have hwr:IntKind.i64.wrap (u:Int)=(u:Int):=by rw [IntKind.wrap_i64]; omega
  have iu:(u:Int) < 100:=by omega
  go_enter Tryz.func154,Tryz.ntmps154
  go_wp2_with (go_at_call 196; refine (Tryz.internal_strconv_small u hs _).mono ?_; rintro e w' ⟨rfl,rfl⟩)
  go_ret
  exact ⟨rfl,0,#[],by simp [World.drewN_zero]⟩
 ·have hu1:1≤u:=by omega
  have hnd20:Lib.nDigits u≤20:=by have:=Lib.numDigits_eq u hu1 hu64; split at this <;> omega
  have hal:Tryz.prog.arrayLen 231=24:=by simp [Program.arrayLen,Tryz.underlying231]
  have hsl:∀ W,(Instr.sliceAt 231 (.pointer (some ⟨w.heap.size,0,none⟩)) none (some (.int .i64 (Lib.nDigits u:Int))) none).run Tryz.prog W = .ok (.slice (some ⟨w.heap.size,0,none⟩) (Lib.nDigits u) 24) W:=fun W=>by
   rw [run_sliceAt_array_h W 231 ⟨w.heap.size,0,none⟩ (by simp [Program.arrayLen,Program.elem,Tryz.underlying231]) .i64 (Lib.nDigits u:Int) (by omega) (by rw [hal]; omega)]
   go_simp
  have hH0:=Lib.holds_zero0 w 231 (Lib.nDigits u) (by omega);have hfmt:=Tryz.internal_strconv_formatBase10 w.heap.size 0 24 u (Array.replicate (Lib.nDigits u) 0) (w.alloc (.cells Lib.zeros24 231)) hH0 (by rw [Array.size_replicate]; exact Lib.lt_pow_nDigits u) hu64 (by rw [Array.size_replicate]; omega);rw [Array.size_replicate] at hfmt;have HH0:=Lib.hid hH0;have iu:¬ (u:Int) < 100:=by omega
  clear hH0 hal hs
  go_enter Tryz.func154,Tryz.ntmps154
  go_wp2_with (first
   | (go_at_call 197; refine (Tryz.internal_strconv_numDigits u hu1 hu64 _ (Lib.tabIs_alloc htab _)).mono ?_; rintro e w' ⟨rfl,rfl⟩))
  go_at_call 198
  refine hfmt.mono ?_;rintro e w' ⟨rfl,k,v',dk,rfl,hF⟩;have hcv:(convert 51 9 (.slice (some ⟨w.heap.size,0,none⟩) (Lib.nDigits u) 24)).run Tryz.prog ((putRow (fun (b:UInt8)=>Value.int .u8 (b.toNat:Int)) (w.alloc (.cells Lib.zeros24 231)) w.heap.size 0 dk).drewN k) = .ok (.string ⟨(Lib.decDigits u).toArray⟩) ((putRow (fun (b:UInt8)=>Value.int .u8 (b.toNat:Int)) (w.alloc (.cells Lib.zeros24 231)) w.heap.size 0 dk).drewN k):=by
   have h:=run_convert_bytes_back (P:=Tryz.prog) ((putRow (fun (b:UInt8)=>Value.int .u8 (b.toNat:Int)) (w.alloc (.cells Lib.zeros24 231)) w.heap.size 0 dk).drewN k) 51 9 5 ⟨w.heap.size,0,none⟩ 24 (Lib.decDigits u) Tryz.underlying51 Tryz.underlying5 Tryz.underlying9 (fun j hj=>by
    rw [Lib.row_is_numeral hF j hj,Lib.add_plain,World.cell?_drewN];exact cell?_putRow (fun (b:UInt8)=>Value.int .u8 (b.toNat:Int)) _ w.heap.size 0 _ dk HH0.out (by rw [hF.size,Array.size_replicate]) j (by rw [hF.size]; rw [Lib.decDigits_length] at hj; exact hj))
   rw [Lib.decDigits_length] at h;exact h
  go_wp2
  go_ret
  obtain ⟨os,eo⟩:=Lib.fin_at w (.cells Lib.zeros24 231) dk k 0;exact ⟨rfl,k,os,eo⟩
set_option maxHeartbeats 1600000 in
theorem mc (u:Nat) (hu64:u < 18446744073709551616) (w:World) (htab:Lib.TabIs Tryz.prog w "internal/strconv.uint64pow10" .u64 Lib.pow10Tab) :
  Calls Tryz.prog 99 #[.int .u64 u,.int .i64 10] w fun e w'=>e = .returned (.string ⟨(Lib.decDigits u).toArray⟩)∧∃ k os,w'=grow (w.drewN k) os:=by
 go_enter Tryz.func99,Tryz.ntmps99
 go_wp2_with (go_at_call 154; refine (md u hu64 _ htab).mono ?_; rintro e w' ⟨rfl,hw⟩)
 go_ret
 exact ⟨rfl,hw⟩
theorem zfb:(PR.info? 9).map (λi=>(i.zero,i.size,i.bytes))=AA (AA (.string .empty),1,16):=AF
set_option maxHeartbeats 4000000 in
theorem cu (b:Addr) (n c:Nat) (news:List Value) (w:World) (hl:news.length=n) (hn:n≤maxLen) (hbig:n*16≤140737488355328)
  (hc:∀ j u,news[j]?=some u→w.cell? (b.add j)=some u) (h1:∀ u∈news,u.oneCell'=true) :
  Calls Tryz.prog 138 #[.slice (some b) n c] w fun e w'=>∃ v',e = .returned v'∧w'.ownsRow w.heap.size 9 1 v' n news∧Below w.heap.size w w':=by
 obtain ⟨i0,hi,hz0,hz1,hz2⟩:=info_parts zfb;have qS:∀ (w:World) (a:Option Addr) (n c n' c':Nat),(binOp .eql 65 (.slice a n c) (.slice none n' c')).run Tryz.prog w = .ok (.bool a.isNone) w:=fun w a n c n' c'=>Lib.run_eql_slice_nil w _ _ a n c n' c' Tryz.underlying65
 have A:Aside (∀ j u,news[j]?=some u→w.cell? (b.add j)=some u):=hc;clear hc
 go_enter Tryz.func138,Tryz.ntmps138
 go_wp2_with (at_builtin; refine wpList_append_own _ rfl _ _ 65 rfl w.heap.size 9 i0 (.string .empty) 1 16 Tryz.underlying65 hi hz0 hz1 hz2 rfl (by decide) _ _ _ rfl (World.ownsRow_made w #[] 0 (Nat.le_refl _) (Nat.zero_le _) (by simp)) b n c news rfl ?qc1 ?qc2 ?qc3 ?qc4 ?qc5 ?qc6 ?_)
 case qc1=>rw [Nat.mul_one]; exact hl
 case qc2=>
  intro j u hj;exact Lib.cell?_alloc_some _ (A.out j u hj)
 case qc3=>exact h1
 case qc4=>rw [Nat.zero_add]; exact hn
 case qc5=>rw [Nat.zero_add]; exact hbig
 case qc6=>simp
 intro v' w1 hown hgrow hnil
 go_wp2
 go_ret
 refine ⟨v',rfl,by simpa using hown,?_⟩;exact ((Below.refl _ w).alloc (Nat.le_refl _) _).grown hgrow (by simp) (by intro k hk; simp [Value.ownBlock] at hk; omega)
set_option maxHeartbeats 1000000 in
theorem cn (n c:Nat) (w:World):Calls Tryz.prog 138 #[.slice none n c] w fun e w'=>e = .returned (.slice none 0 0)∧w'=w:=by
 have qS:∀ (w:World) (a:Option Addr) (n c n' c':Nat),(binOp .eql 65 (.slice a n c) (.slice none n' c')).run Tryz.prog w = .ok (.bool a.isNone) w:=fun w a n c n' c'=>Lib.run_eql_slice_nil w _ _ a n c n' c' Tryz.underlying65
 go_enter Tryz.func138,Tryz.ntmps138
 go_wp2
 go_ret
 exact ⟨rfl,rfl⟩
open Go Go.RowKit
def kB:D5
 |[.list AD [.str] l]=>.br (AE (l.length<=4294967296)) (.ok (.vec 9 AD [.str] l) []) .no
 |_=>.no
def fG:D5
 |[.list AD [.str] l,.str s]=>.ok (.int .i64 (GC l s 0)) []
 |_=>.no
open Go Go.Proofs Go.RowKit
structure GF (h:Nat->Option Obj):Prop where
 unit:True
 gm:∃c T fr m,h 0=AA (.cells c T fr)/\c[0]?=AA (.int .i64 m)
 gp:∃T fr,h 1=AA (.cells (Lib.pow10Tab.map λz=>Value.int .u64 z).toArray T fr)
 gs:∃c T fr te pe,h 2=AA (.cells c T fr)/\c[0]?=AA (.iface te pe)
 gr:∃c T fr te pe,h 3=AA (.cells c T fr)/\c[0]?=AA (.iface te pe)
def B0:BT:={T:=98,e:=5,ng:=4,F:=GF}
theorem lN{w:World}{h:Nat->Option Obj}(hh:h=λb=>if b<B0.ng then w.heap[b]? else AB){g:Nat}(hg:g<4){o:Obj}(ho:h g=AA o):w.heap[g]?=AA o:=by
 rw[hh]at ho;simp only at ho;rw[B3 (show g<B0.ng from hg)]at ho;exact ho
theorem Fz{w:World}(h:Glob B0 w):∃m,w.cell? ⟨0,0,AB⟩=AA (.int .i64 m):=by
 obtain⟨c,T,fr,m,h1,h2⟩:=h.2.gm;exact⟨m,by simp only[vaH,lN rfl (by decide) h1];exact h2⟩
theorem Ga{w:World}(h:Glob B0 w):Lib.TabIs Tryz.prog w "internal/strconv.uint64pow10" .u64 Lib.pow10Tab:=by
 obtain⟨T,fr,h1⟩:=h.2.gp;have hn:Tryz.prog.globalNamed "internal/strconv.uint64pow10" =AA 1:=by kernel_rfl
 unfold Lib.TabIs World.var?;rw[hn];simp only[Option.bind_some,lN rfl (by decide) h1]
theorem Gc{w:World}(h:Glob B0 w):∃ev,w.cell? ⟨2,0,AB⟩=AA ev/\(ev=.nilIface\/∃te pe,ev=.iface te pe):=by
 obtain⟨c,T,fr,te,pe,h1,h2⟩:=h.2.gs;exact⟨_,by simp only[vaH,lN rfl (by decide) h1];exact h2,.inr ⟨te,pe,rfl⟩⟩
theorem Gb{w:World}(h:Glob B0 w):∃ev,w.cell? ⟨3,0,AB⟩=AA ev/\(ev=.nilIface\/∃te pe,ev=.iface te pe):=by
 obtain⟨c,T,fr,te,pe,h1,h2⟩:=h.2.gr;exact⟨_,by simp only[vaH,lN rfl (by decide) h1];exact h2,.inr ⟨te,pe,rfl⟩⟩
theorem Keep.below{w w':World}(h:Below w.heap.size w w'):Keep (λ_=>False) w w':=⟨h.os,h.tape,h.output,h.size,λb hb _=>h.block b hb⟩
theorem Keep.drewN{O:Nat->Prop}(w:World):∀n,Keep O w (w.drewN n):=λ_=>⟨rfl,rfl,rfl,A5 _,λ_ _ _=>rfl⟩
theorem Keep.grow(w:World)(os:Array Obj):Keep (λ_=>False) w (Go.Sort.grow w os):=⟨rfl,rfl,rfl,by simp[Go.Sort.grow],λb hb _=>by simp[Go.Sort.grow,Array.getElem?_append_left hb]⟩
theorem wN:D9 PR B0 94 UN:=by
 intro w X γ vs xs r out hsp hg hx hR hV;unfold UN at hsp;simp only at hsp;split at hsp
 .rename_i s t;cases hc:AE (s.size+t.size<=strMax)with
  |false=>rw[hc]at hsp;simp[R.get]at hsp
  |true=>
   rw[hc]at hsp;simp only[R.get,AK,A1]at hsp;obtain⟨rfl,rfl⟩:=hsp;have hle:s.size+t.size<=strMax:=BB hc;refine wC hR rfl rfl (λγ' o w' O x h=>by
    simp only[VRel]at h ⊢;obtain⟨cs,rfl,h⟩:=h;refine⟨cs,rfl,?_⟩
    match cs,h with
    |⟨[a,b]⟩,h=>simp only[VRels,VRel]at h ⊢;exact h) (λb v p hgm hB=>?_)
   obtain⟨x0,x1,rfl⟩:∃x0 x1,xs=[x0,x1]:=by
    have:=hV.length
    simp at this
    match xs,this with
    |[a,b],_=>exact⟨a,b,rfl⟩
   simp only[A8,CN,EW,VRels]at hV;have h0:=pI hgm hV.1;have h1:=hV.2.1;simp only[VRel]at h1;obtain⟨rfl,ht⟩:=h1;subst h0;refine Does.of_calls Tryz.func94 AF AF ((be b p v (DQ s) t w hB.self hB.heap (by rw[vaz];exact hB.own) hB.ne (by rw[vaz];unfold strMax at hle;omega)).mono ?_);rintro e w' ⟨rfl,v',q1,q2,q3,q4,q5⟩;refine⟨_,rfl,⟨_,v',⟨.inr rfl,q1,?_,q3,?_⟩,q4,q5⟩,λO=>?_⟩
   .have e1:DQ (s++t)=DQ s++DQ t:=by simp[DQ]
    have e2:(s++t).size=(DQ s++DQ t).length:=by simp[vaz]
    rw[e1,e2];exact q2
   .simp only[A7];exact hle
   .simp only[VRel];refine⟨_,rfl,?_⟩;simp only[VRels,VRel,ic,CH];refine⟨trivial,?_,?_⟩
    .have:AJ.min= -9223372036854775808:=rfl
     omega
    .have:AJ.max=9223372036854775807:=rfl
     unfold strMax at hle;omega
 .simp[R.get]at hsp
theorem bh{c:Int}(h0:vbb.min<=c)(h1:c<=vbb.max):(Value.int .u8 ((NW c).toNat:Int))=.int .u8 c:=by
 have e1:vbb.min=0:=rfl;have e2:vbb.max=255:=rfl
 have:((NW c).toNat:Int)=c:=by
  unfold NW;rw[vaX (by simp[UInt8.size];omega)];omega
 rw[this]
theorem Qh:D9 PR B0 105 ZH:=by
 intro w X γ vs xs r out hsp hg hx hR hV;unfold ZH at hsp;simp only at hsp;split at hsp
 .rename_i s c;cases hc:AE (s.size+1<=strMax)with
  |false=>rw[hc]at hsp;simp[R.get]at hsp
  |true=>
   rw[hc]at hsp;simp only[R.get,AK,A1]at hsp;obtain⟨rfl,rfl⟩:=hsp;have hle:s.size+1<=strMax:=BB hc;refine wC hR rfl rfl (λγ' o w' O x h=>by simp only[VRel]at h ⊢;exact h) (λb v p hgm hB=>?_);obtain⟨x0,x1,rfl⟩:∃x0 x1,xs=[x0,x1]:=by
    have:=hV.length
    simp at this
    match xs,this with
    |[a,b],_=>exact⟨a,b,rfl⟩
   simp only[A8,CN,EW,VRels]at hV;have h0:=pI hgm hV.1;have h1:=hV.2.1;simp only[VRel]at h1;obtain⟨rfl,hc0,hc1⟩:=h1;subst h0;refine Does.of_calls Tryz.func105 AF AF ((bd b p v (DQ s) c w hB.self hB.heap (by rw[vaz];exact hB.own) hB.ne (by rw[vaz];unfold strMax at hle;omega)).mono ?_);rintro e w' ⟨rfl,v',q1,q2,q3,q4,q5⟩;refine⟨_,rfl,⟨_,v',⟨.inr rfl,q1,?_,q3,?_⟩,q4,q5⟩,λO=>by simp only[VRel]⟩
   .have e1:DQ (s.push (NW c))=DQ s++[.int .u8 c]:=by
     rw[<-bh hc0 hc1];simp[DQ]
    have e2:(s.push (NW c)).size=(DQ s++[Value.int .u8 c]).length:=by simp[vaz]
    rw[e1,e2];exact q2
   .simp only[va6];exact hle
 .simp[R.get]at hsp
theorem wM:D9 PR B0 47 UM:=by
 intro w X γ vs xs r out hsp hg hx hR hV;unfold UM at hsp;simp only at hsp;split at hsp
 .rename_i s;simp only[R.get,AK,A1]at hsp;obtain⟨rfl,rfl⟩:=hsp;refine wC hR rfl rfl (λγ' o w' O x h=>by simp only[VRel]at h ⊢;exact h) (λb v p hgm hB=>?_);obtain⟨x0,rfl⟩:∃x0,xs=[x0]:=by
   have:=hV.length
   simp at this
   match xs,this with
   |[a],_=>exact⟨a,rfl⟩
  simp only[A8,CN,EW,VRels]at hV;have h0:=pI hgm hV.1;subst h0;refine Does.of_calls Tryz.func47 AF AF ((ax b p v s w hB.heap hB.own hB.ne).mono ?_);rintro e w' ⟨rfl,q1,q2,q3⟩;exact⟨_,rfl,⟨p,v,⟨hB.self,q1,q2,hB.ne,hB.size⟩,q3,λk hk=>.inl hk⟩,λO=>by simp only[VRel];exact⟨trivial,hB.size⟩⟩
 .simp[R.get]at hsp
theorem nV:D9 PR B0 42 RI:=by
 intro w X γ vs xs r out hsp hg hx hR hV;unfold RI at hsp;simp only at hsp;split at hsp
 .rename_i n;simp only[R.get,AK,A1]at hsp;obtain⟨rfl,rfl⟩:=hsp;obtain⟨x0,rfl⟩:∃x0,xs=[x0]:=by
   have:=hV.length
   simp at this
   match xs,this with
   |[a],_=>exact⟨a,rfl⟩
  simp only[A8,CN,EW,VRels,VRel,CH]at hV;obtain⟨rfl,h0,h1⟩:=hV;refine SB hR rfl rfl (Does.of_calls Tryz.func42 AF AF ((Tryz.strconv_Itoa n h0 h1 w (Ga hg)).mono ?_));rintro e w' ⟨rfl,k,os,rfl⟩;exact⟨_,rfl,((Keep.drewN w k).trans (Keep.grow _ os) (λ_ _ h=>h)),λO _=>by
   simp only[VRel];exact⟨rfl,by have:=gV h0 h1;unfold strMax;omega⟩⟩
 .simp[R.get]at hsp
theorem Qg:D9 PR B0 122 ZG:=by
 intro w X γ vs xs r out hsp hg hx hR hV;unfold ZG at hsp;simp only at hsp;split at hsp
 .rename_i s;simp only[R.get,AK,A1]at hsp;obtain⟨rfl,rfl⟩:=hsp;obtain⟨x0,rfl⟩:∃x0,xs=[x0]:=by
   have:=hV.length
   simp at this
   match xs,this with
   |[a],_=>exact⟨a,rfl⟩
  simp only[A8,CN,EW,VRels,VRel,CH]at hV;obtain⟨rfl,hs⟩:=hV;unfold strMax at hs;have hb:=af s;refine SB hR rfl rfl (Does.of_calls Tryz.func122 AF AF ?_);cases ha:Lib.atoiAll s.data.toList
  .rename_i v;refine(Tryz.strconv_Atoi_ok s AG v ha w).mono ?_;rintro e w' ⟨rfl,hw⟩;have e1:GK s=v:=by unfold GK;rw[ha]
   have e2:OM s=AC:=by unfold OM;rw[ha]
   rw[e1]at hb ⊢;rw[e2];refine⟨_,rfl,?_,λO _=>?_⟩
   .rcases hw with rfl|⟨t,rfl⟩
    .exact Keep.refl _ _
    .unfold vaR;have h1:=Keep.alloc (λ_=>False) w.drew (.cells (Lib.bytesCells w 5 t) 5);refine((Keep.drew (λ_=>False) w).trans h1 (λ_ _ h=>h)).trans (Keep.freeze (O:=λk=>k=w.heap.size) _ ⟨w.heap.size,_,AB⟩ 1 rfl) (λb hb h=>?_);subst h;exact absurd hb (Nat.lt_irrefl _)
   .simp only[VRel];exact⟨_,rfl,by simp only[VRels,VRel,CH,vaP];exact hb⟩
  .skip
   obtain⟨ev,h1,h2⟩:=Gc hg;refine(Tryz.strconv_Atoi_syntax s AG ha ev w h1 h2).mono ?_;rintro e w' ⟨N,rfl,_,_,hw⟩;have e1:GK s=0:=by unfold GK;rw[ha]
   have e2:OM s=AD:=by unfold OM;rw[ha]
   rw[e1]at hb ⊢;rw[e2];refine⟨_,rfl,Keep.below hw,λO _=>?_⟩;simp only[VRel];exact⟨_,rfl,by simp only[VRels,VRel,CH];exact⟨⟨trivial,hb⟩,_,_,rfl⟩⟩
  .skip
   obtain⟨ev,h1,h2⟩:=Gb hg;refine(Tryz.strconv_Atoi_range s AG ha ev w h1 h2).mono ?_;rintro e w' ⟨N,rfl,_,_,hw⟩;have e1:GK s=Lib.atoiSat s.data.toList:=by unfold GK;rw[ha]
   have e2:OM s=AD:=by unfold OM;rw[ha]
   rw[e1]at hb ⊢;rw[e2];refine⟨_,rfl,Keep.below hw,λO _=>?_⟩;simp only[VRel];exact⟨_,rfl,by simp only[VRels,VRel,CH];exact⟨⟨trivial,hb⟩,_,_,rfl⟩⟩
 .simp[R.get]at hsp
theorem zeK:D9 PR B0 99 kD:=by
 intro w X γ vs xs r out hsp hg hx hR hV;unfold kD at hsp;simp only at hsp;split at hsp
 .rename_i n b;cases hc:AE (b=10)with
  |false=>rw[hc]at hsp;simp[R.get]at hsp
  |true=>
   rw[hc]at hsp;have hb:=BB hc;subst hb;simp only[R.get,AK,A1]at hsp;obtain⟨rfl,rfl⟩:=hsp;obtain⟨x0,x1,rfl⟩:∃x0 x1,xs=[x0,x1]:=by
    have:=hV.length
    simp at this
    match xs,this with
    |[a,b],_=>exact⟨a,b,rfl⟩
   simp only[A8,CN,EW,VRels,VRel,CH]at hV;obtain⟨⟨rfl,h0,h1⟩,rfl,_⟩:=hV;have e0:AO.min=0:=rfl;have e1:AO.max=18446744073709551615:=rfl;rw[e0]at h0;rw[e1]at h1;obtain⟨u,rfl⟩:∃u:Nat,n=u:=⟨n.toNat,by omega⟩;refine SB hR rfl rfl (Does.of_calls Tryz.func99 AF AF ((mc u AG w (Ga hg)).mono ?_));rintro e w' ⟨rfl,k,os,rfl⟩;refine⟨_,rfl,((Keep.drewN w k).trans (Keep.grow _ os) (λ_ _ h=>h)),λO _=>?_⟩;simp only[VRel];have hz:=tP h0 h1;exact⟨by simp[FK],by unfold strMax;omega⟩
 .simp[R.get]at hsp
theorem zeL:D9 PR B0 225 kE:=by
 intro w X γ vs xs r out hsp hg hx hR hV;unfold kE at hsp;simp only at hsp;split at hsp
 .rename_i s b c;cases hc:(AE (b=10)&&AE (c=64))with
  |false=>rw[hc]at hsp;simp[R.get]at hsp
  |true=>
   rw[hc]at hsp;simp only[AP,AW]at hc;obtain⟨rfl,rfl⟩:=hc;simp only[R.get,AK,A1]at hsp;obtain⟨rfl,rfl⟩:=hsp;obtain⟨x0,x1,x2,rfl⟩:∃x0 x1 x2,xs=[x0,x1,x2]:=by
    have:=hV.length
    simp at this
    match xs,this with
    |[a,b,c],_=>exact⟨a,b,c,rfl⟩
   simp only[A8,CN,EW,VRels,VRel,CH]at hV;obtain⟨⟨rfl,hs⟩,⟨rfl,_⟩,rfl,_⟩:=hV;unfold strMax at hs;have hb:=uV s;refine SB hR rfl rfl (Does.of_calls Tryz.func225 AF AF ?_);cases ha:Lib.parseMag s.data.toList
   .rename_i v;refine(Tryz.strconv_ParseUint_10_at64_ok s AG v (by rw[vbK];exact ha) w).mono ?_;rintro e w' ⟨rfl,hw⟩;have e1:G6 s=v:=by unfold G6;rw[ha]
    have e2:JY s=AC:=by unfold JY;rw[ha]
    rw[e1]at hb ⊢;rw[e2];refine⟨_,rfl,?_,λO _=>?_⟩
    .rcases hw with rfl|rfl
     .exact Keep.refl _ _
     .unfold vaR;have h1:=Keep.alloc (λ_=>False) w.drew (.cells (Lib.bytesCells w 5 s) 5);refine((Keep.drew (λ_=>False) w).trans h1 (λ_ _ h=>h)).trans (Keep.freeze (O:=λk=>k=w.heap.size) _ ⟨w.heap.size,_,AB⟩ 1 rfl) (λb hb h=>?_);subst h;exact absurd hb (Nat.lt_irrefl _)
    .simp only[VRel];exact⟨_,rfl,by simp only[VRels,VRel,CH,vaP];exact hb⟩
   .skip
    obtain⟨ev,h1,h2⟩:=Gc hg;refine(Tryz.strconv_ParseUint_10_at64_syntax s AG (by rw[vbK];exact ha) ev w h1 h2).mono ?_;rintro e w' ⟨N,rfl,_,_,hw⟩;have e1:G6 s=0:=by unfold G6;rw[ha]
    have e2:JY s=AD:=by unfold JY;rw[ha]
    rw[e1]at hb ⊢;rw[e2];refine⟨_,rfl,Keep.below hw,λO _=>?_⟩;simp only[VRel];exact⟨_,rfl,by simp only[VRels,VRel,CH];exact⟨⟨trivial,hb⟩,_,_,rfl⟩⟩
   .skip
    obtain⟨ev,h1,h2⟩:=Gb hg;refine(Tryz.strconv_ParseUint_10_at64_range s AG (by rw[vbK];exact ha) ev w h1 h2).mono ?_;rintro e w' ⟨N,rfl,_,_,hw⟩;have e1:G6 s=18446744073709551615:=by unfold G6;rw[ha]
    have e2:JY s=AD:=by unfold JY;rw[ha]
    rw[e1]at hb ⊢;rw[e2];refine⟨_,rfl,Keep.below hw,λO _=>?_⟩;simp only[VRel];exact⟨_,rfl,by simp only[VRels,VRel,CH];exact⟨⟨trivial,hb⟩,_,_,rfl⟩⟩
 .simp[R.get]at hsp
theorem zeN:D9 PR B0 101 kG:=by
 intro w X γ vs xs r out hsp hg hx hR hV;unfold kG at hsp;simp only at hsp;split at hsp
 .rename_i s cs;cases hc:(AE (cs.size=1)&&AE ((cs.data.toList.headD 0).toNat<128))with
  |false=>rw[hc]at hsp;simp[R.get]at hsp
  |true=>
   rw[hc]at hsp;simp only[AP,AW]at hc;simp only[R.get,AK,A1]at hsp;obtain⟨rfl,rfl⟩:=hsp;obtain⟨c,rfl⟩:∃c,cs=⟨#[c]⟩:=by
    obtain⟨⟨l⟩⟩:=cs;have h1:l.length=1:=hc.1
    match l,h1 with
    |[c],_=>exact⟨c,rfl⟩
   obtain⟨x0,x1,rfl⟩:∃x0 x1,xs=[x0,x1]:=by
    have:=hV.length
    simp at this
    match xs,this with
    |[a,b],_=>exact⟨a,b,rfl⟩
   simp only[A8,CN,EW,VRels,VRel,CH]at hV;obtain⟨⟨rfl,hs⟩,rfl,_⟩:=hV;have hz:=Uv s ⟨#[c]⟩;unfold strMax at hs;refine SB hR rfl rfl (Does.of_calls Tryz.func101 AF AF ((Tryz.strings_TrimRight_one s c hc.2 w AG).mono ?_));rintro e w' ⟨rfl,rfl⟩;refine⟨_,rfl,Keep.refl _ _,λO _=>?_⟩;simp only[VRel];exact⟨rfl,by unfold strMax;omega⟩
 .simp[R.get]at hsp
theorem Qk:D9 PR B0 102 ZK:=by
 intro w X γ vs xs r out hsp hg hx hR hV;unfold ZK at hsp;simp only at hsp;split at hsp
 .rename_i s n;cases hc:(AE (0<=n)&&AE (s.size*n.toNat<=strMax))with
  |false=>rw[hc]at hsp;simp[R.get]at hsp
  |true=>
   rw[hc]at hsp;simp only[AP,AW]at hc;simp only[R.get,AK,A1]at hsp;obtain⟨rfl,rfl⟩:=hsp;obtain⟨x0,x1,rfl⟩:∃x0 x1,xs=[x0,x1]:=by
    have:=hV.length
    simp at this
    match xs,this with
    |[a,b],_=>exact⟨a,b,rfl⟩
   simp only[A8,CN,EW,VRels,VRel,CH]at hV;obtain⟨⟨rfl,hs⟩,rfl,_,hn1⟩:=hV;have e1:AJ.max=9223372036854775807:=rfl;rw[e1]at hn1;obtain⟨c,rfl⟩:∃c:Nat,n=c:=⟨n.toNat,by omega⟩;have hz:=vE s c;have hle:=hc.2;simp only[BH]at hle ⊢;unfold strMax at hle;refine SB hR rfl rfl (Does.of_calls Tryz.func102 AF AF ((Tryz.strings_Repeat s c w AG AG).mono ?_));rintro e w' ⟨rfl,hw⟩;refine⟨_,rfl,Keep.below hw,λO _=>?_⟩;simp only[VRel];exact⟨rfl,by rw[hz];unfold strMax;omega⟩
 .simp[R.get]at hsp
theorem zeM:D9 PR B0 55 kF:=by
 intro w X γ vs xs r out hsp hg hx hR hV;unfold kF at hsp;simp only at hsp;split at hsp
 .rename_i s p;simp only[R.get,AK,A1]at hsp;obtain⟨rfl,rfl⟩:=hsp;obtain⟨x0,x1,rfl⟩:∃x0 x1,xs=[x0,x1]:=by
   have:=hV.length
   simp at this
   match xs,this with
   |[a,b],_=>exact⟨a,b,rfl⟩
  simp only[A8,CN,EW,VRels,VRel,CH]at hV;obtain⟨⟨rfl,hs⟩,rfl,_⟩:=hV;have hz:=Uu s p;refine SB hR rfl rfl (Does.of_calls Tryz.func55 AF AF ((Tryz.strings_CutPrefix s p w).mono ?_));rintro e w' ⟨rfl,rfl⟩;refine⟨_,rfl,Keep.refl _ _,λO _=>?_⟩;simp only[VRel];exact⟨_,rfl,by simp only[VRels,VRel,CH];exact⟨⟨rfl,by omega⟩,rfl⟩⟩
 .simp[R.get]at hsp
theorem Qi:D9 PR B0 82 ZI:=by
 intro w X γ vs xs r out hsp hg hx hR hV;unfold ZI at hsp;simp only at hsp;split at hsp
 .rename_i s sep;cases hc:AE (s.size<4294967281)with
  |false=>rw[hc]at hsp;simp[R.get]at hsp
  |true=>
   rw[hc]at hsp;simp only[R.get,AK,A1]at hsp;obtain⟨rfl,rfl⟩:=hsp;obtain⟨x0,x1,rfl⟩:∃x0 x1,xs=[x0,x1]:=by
    have:=hV.length
    simp at this
    match xs,this with
    |[a,b],_=>exact⟨a,b,rfl⟩
   simp only[A8,CN,EW,VRels,VRel,CH]at hV;obtain⟨⟨rfl,hs⟩,rfl,hsep⟩:=hV;obtain⟨m,hm⟩:=Fz hg;refine SB hR rfl rfl (Does.of_calls Tryz.func82 AF AF ((Tryz.strings_Cut s sep m w (BB hc) hm).mono ?_));rintro e w' ⟨rfl,n,rfl⟩;have hsz:=Dt s sep;refine⟨_,rfl,Keep.drewN w n,λO _=>?_⟩;simp only[VRel];exact⟨_,rfl,by simp only[VRels,VRel,CH];exact⟨⟨rfl,by omega⟩,⟨rfl,by omega⟩,rfl⟩⟩
 .simp[R.get]at hsp
theorem nW:D9 PR B0 64 RJ:=by
 intro w X γ vs xs r out hsp hg hx hR hV;unfold RJ at hsp;simp only at hsp;split at hsp
 .rename_i s sep;cases hc:(AE (s.size<4294967281)&&AE (1<=sep.size))with
  |false=>rw[hc]at hsp;simp[R.get]at hsp
  |true=>
   rw[hc]at hsp;simp only[AP,AW]at hc;simp only[R.get,AK,A1]at hsp;obtain⟨rfl,rfl⟩:=hsp;obtain⟨x0,x1,rfl⟩:∃x0 x1,xs=[x0,x1]:=by
    have:=hV.length
    simp at this
    match xs,this with
    |[a,b],_=>exact⟨a,b,rfl⟩
   simp only[A8,CN,EW,VRels,VRel,CH]at hV;obtain⟨⟨rfl,hs⟩,rfl,hsep⟩:=hV;obtain⟨m,hm⟩:=Fz hg;have hlen:=Lib.splitB_all sep hc.2 0 _ s rfl;have hcnt:=Lib.countB_le sep hc.2 s.size s (A5 _);refine SB hR rfl rfl (Does.of_calls Tryz.func64 AF AF ((Tryz.strings_Split s sep m w hc.1 hm hc.2).mono ?_));rintro e w' ⟨rfl,rfl⟩;refine⟨_,rfl,Keep.alloc _ w _,λO hO=>?_⟩;simp only[VRel]
   have:=zfc (w:=w) (w':=w.alloc (.cells ((EP s sep).map Value.string).toArray 9)) hO (g:=w.heap.size) (A5 _) (vaq w _) (l:=EP s sep) (c:=Lib.countB s sep+1) (by unfold EP;omega) (by unfold maxLen;omega) (by unfold EP strMax;omega) (λp hp=>DF ((bL sep _ s).2 p hp) hs)
   unfold EP at this ⊢;rw[hlen]at this;exact this
 .simp[R.get]at hsp
theorem Tx{w:World}{O:Nat->Prop}{l:LI}{x:Value}(h:Kd.Rel w O (.list AD [.str]) (.list l) x):∃p c,x=.slice p l.length c/\l.length<=c/\c<=maxLen/\l.length<=strMax/\∀j y,l[j]?=AA y->∃b o,p=AA ⟨b,o,AB⟩/\b<w.heap.size/\w.cell? ⟨b,o+j,AB⟩=AA (.string y.toStr)/\y.toStr.size<=strMax:=by
 simp only[Kd.Rel,IV.toList]at h;obtain⟨p,c,rfl,hc,hm,hl,hi⟩:=h;refine⟨p,c,rfl,hc,hm,hl,λj y hy=>?_⟩;obtain⟨b,o,rfl,_,hb,hr⟩:=hi j y hy;simp only[Kd.RelAll,AV,BL,BS,Nat.mul_one,DH,CH]at hr;obtain⟨u,hu,hs⟩:=hr;simp only[Kd.Rel,GO]at hs;obtain⟨rfl,hs⟩:=hs;exact⟨b,o,rfl,hb,hu,hs⟩
theorem Qj:D9 PR B0 44 ZJ:=by
 intro w X γ vs xs r out hsp hg hx hR hV;unfold ZJ at hsp;simp only at hsp;split at hsp
 .rename_i l sep;cases hc:(AE (l.length<=strMax)&&AE ((GV (l.map IV.toStr) sep).size<=strMax))with
  |false=>rw[hc]at hsp;simp[R.get]at hsp
  |true=>
   rw[hc]at hsp;simp only[AP,AW]at hc;simp only[R.get,AK,A1]at hsp;obtain⟨rfl,rfl⟩:=hsp;obtain⟨x0,x1,rfl⟩:∃x0 x1,xs=[x0,x1]:=by
    have:=hV.length
    simp at this
    match xs,this with
    |[a,b],_=>exact⟨a,b,rfl⟩
   simp only[A8,CN,EW,VRels,VRel,CH]at hV;obtain⟨h0,rfl,_⟩:=hV;obtain⟨p,c,rfl,hc1,hc2,hc3,hcell⟩:=Tx h0;have hz:(GV (l.map IV.toStr) sep).size=(vaJ ((l.map IV.toStr).map (·.data.toList)) sep.data.toList).length:=by
    show(Array.size (List.toArray _))=_;rw[vaf]
   have hle:=hc.2;rw[hz]at hle;unfold strMax at hle hc3;refine SB hR rfl rfl (Does.of_calls Tryz.func44 AF AF (Calls.mono (R:=λe w'=>e=.returned (.string (GV (l.map IV.toStr) sep))/\Below w.heap.size w w') ?_ ?_))
   .cases l with
    |nil=>
     refine(Tryz.strings_Join_none p c sep w).mono ?_;rintro e w' ⟨rfl,rfl⟩;exact⟨rfl,Below.refl _ _⟩
    |cons y r=>
     obtain⟨b,o,rfl,hb,_⟩:=hcell 0 y rfl
     have:=Tryz.strings_Join b o c ((y::r).map IV.toStr) sep w (λj x hj=>by
      rw[CK,DR]at hj;obtain⟨y',hj,rfl⟩:=hj;obtain⟨b',o',hp,_,hu,_⟩:=hcell j y' hj;simp only[AK,DG,CH]at hp;obtain⟨rfl,rfl⟩:=hp;exact hu) hb (by rw[B8];omega) (by rw[B8];omega) AG
     rw[B8]at this;exact this
   .rintro e w' ⟨rfl,hw⟩;refine⟨_,rfl,Keep.below hw,λO _=>?_⟩;simp only[VRel];exact⟨trivial,by rw[hz];unfold strMax;omega⟩
 .simp[R.get]at hsp
theorem zeE:D9 PR B0 138 kB:=by
 intro w X γ vs xs r out hsp hg hx hR hV;unfold kB at hsp;simp only at hsp;split at hsp
 .rename_i l;cases hc:AE (l.length<=4294967296)with
  |false=>rw[hc]at hsp;simp[R.get]at hsp
  |true=>
   rw[hc]at hsp;have hc:=BB hc;simp only[R.get,AK,A1]at hsp;obtain⟨rfl,rfl⟩:=hsp;obtain⟨x0,rfl⟩:∃x0,xs=[x0]:=by
    have:=hV.length
    simp at this
    match xs,this with
    |[a],_=>exact⟨a,rfl⟩
   simp only[A8,CN,EW,VRels,VRel,CH]at hV;obtain⟨p,c,rfl,hc1,hc2,hc3,hcell⟩:=Tx hV;have hel:∀(w':World) (O:Nat->Prop) i y,l[i]?=AA y->Kd.RelAll w' O [.str] (GO AD y) 0 (λj u=>(l.map λy=>Value.string y.toStr)[i*[Kd.str].length+j]?=AA u):=λw' O i y hy=>by
    obtain⟨b,o,_,_,_,hs⟩:=hcell i y hy;simp only[Kd.RelAll,AV,BL,BS,Nat.mul_one,DH,CH];refine⟨.string y.toStr,by rw[CK,hy];rfl,?_⟩;simp only[Kd.Rel,GO];exact⟨trivial,hs⟩
   refine Pv hR rfl (by decide) (by decide) hc3 (Does.of_calls Tryz.func138 AF AF ?_);cases p with
   |none=>
    have h0:l=[]:=by
     cases l with
     |nil=>rfl
     |cons y r=>
      obtain⟨b,o,hp,_⟩:=hcell 0 y rfl;cases hp
    subst h0;refine(cn _ c w).mono ?_;rintro e w' ⟨rfl,rfl⟩;exact⟨_,[],rfl,Keep.refl _ _,⟨rfl,.inl ⟨rfl,rfl⟩⟩,hel _⟩
   |some a=>
    refine(cu a l.length c (l.map λy=>Value.string y.toStr) w (by rw[B8]) (by unfold maxLen;omega) AG (λj u hj=>?_) (λu hu=>?_)).mono ?_
    .rw[CK,DR]at hj;obtain⟨y,hj,rfl⟩:=hj;obtain⟨b,o,hp,_,hu,_⟩:=hcell j y hj;simp only[AK]at hp;subst hp;rw[Addr.add_lit];exact hu
    .rw[CV]at hu;obtain⟨y,_,rfl⟩:=hu;rfl
    .rintro e w' ⟨v',rfl,hown,hw⟩;exact⟨v',_,rfl,Keep.below hw,hown,hel _⟩
 .simp[R.get]at hsp
def SpsOK:List (Nat×D5)->Prop
 |[]=>True
 |(f,sp)::r=>D9 PR B0 f sp/\SpsOK r
theorem SpsOK.get:∀{l:List (Nat×D5)},SpsOK l->∀f sp,lk l f=AA sp->D9 PR B0 f sp
 |[],_,f,sp,h=>by simp[lk]at h
 |(g,sg)::r,hs,f,sp,h=>by
  simp only[lk]at h;split at h
  .rename_i hb;simp only[AK]at h;subst h;rw[<-F1.1 hb];exact hs.1
  .exact SpsOK.get hs.2 f sp h
theorem EJ{f:Nat}{fn:Func}{code:Code}{rs:List ResultVar}{nt:Nat}(sps:List (Nat×D5))(lp:List (Nat×KP))(sp:D5)(rks:List (List Kd))(hf:PR.funcs[f]?=AA fn)
  (hc:(fn.name== "runtime.NumGoroutine")=AD/\fn.body=AA code/\fn.ntmps=nt/\CF nt 900000=AC/\fn.results.toList=rs) (hs:SpsOK sps)
  (h:∀vs r,(K4 vs (FX vs)->T5 vs)->(sp vs).get=AA r->∃N,EB (EI sps lp nt N) code rs rks vs=AA r):D9 PR B0 f sp:=
 Pw (EI sps lp nt) sp rks hf hc (λ_=>rfl) Jh (λ_=>Uh rfl Ug) (λ_=>Eu rfl Et) (λ_=>hs.get) (λ_ f p hp=>by cases hp) (λ_ h=>zG h) h
def IpsOK:List (Nat×Ip)->Prop
 |[]=>True
 |(f,p)::r=>SP PR f p/\IpsOK r
theorem IpsOK.get:∀{l:List (Nat×Ip)},IpsOK l->∀f p,lk l f=AA p->SP PR f p
 |[],_,f,p,h=>by simp[lk]at h
 |(g,pg)::r,hs,f,p,h=>by
  simp only[lk]at h;split at h
  .rename_i hb;simp only[AK]at h;subst h;rw[<-F1.1 hb];exact hs.1
  .exact IpsOK.get hs.2 f p h
theorem Px{f:Nat}{fn:Func}{code:Code}{rs:List ResultVar}{nt:Nat}(sps:List (Nat×D5))(ips:List (Nat×Ip))(lp:List (Nat×KP))(sp:D5)(rks:List (List Kd))(hf:PR.funcs[f]?=AA fn)
  (hc:(fn.name== "runtime.NumGoroutine")=AD/\fn.body=AA code/\fn.ntmps=nt/\CF nt 900000=AC/\fn.results.toList=rs) (hs:SpsOK sps) (hi:IpsOK ips)
  (h:∀vs r,(K4 vs (FX vs)->T5 vs)->(sp vs).get=AA r->∃N,EB (mV sps ips lp nt N) code rs rks vs=AA r):D9 PR B0 f sp:=
 Pw (mV sps ips lp nt) sp rks hf hc (λ_=>rfl) Jh (λ_=>Uh rfl Ug) (λ_=>Eu rfl Et) (λ_=>hs.get) (λ_=>hi.get) (λ_ h=>zG h) h
open Go Go.RowKit
theorem ER{n:Int}(h0: -9223372036854775808<=n)(h1:n<=9223372036854775807):AI .i64 n=n:=by
 have e:AI .i64 n=(n+9223372036854775808)%18446744073709551616-9223372036854775808:=by
  simp[AI,AT,vak];omega
 rw[e];omega
theorem H0{α:Type}{l:List α}{i:Nat}(h:i<l.length):AE ((i:Int)<ic l.length)=AC:=by simp[ic];omega
theorem I6{α:Type}{l:List α}{i:Nat}(h:l.length<=i):AE ((i:Int)<ic l.length)=AD:=by simp[ic];omega
theorem IG{i:Nat}:AE (0<=(i:Int))=AC:=by simp
theorem GQ{i:Nat}(h:i<9223372036854775807):AI .i64 ((i:Int)+1)=((i+1:Nat):Int):=by rw[ER AG AG];rfl
theorem IK{α:Type}[Inhabited α]{l:List α}{i:Nat}(h:i<l.length):l.getD (i:Int).toNat default=l[i]:=by simp[h]
theorem qF(a b:Int):AE (a<=b)=!decide (b<a):=by rw[vac];simp
theorem qE(a b:Int):AE (a>b)=AE (b<a):=rfl
theorem UQ(a b:Int):(a==b)=AE (a=b):=rfl
theorem zK(a b:Int):(a !=b)=!decide (a=b):=rfl
theorem DS{α:Type _}(a b:α):cond AC a b=a:=Eq.trans (Eq.refl a) (Eq.refl a)
theorem DT{α:Type _}(a b:α):cond AD a b=b:=Eq.trans (Eq.refl b) (Eq.refl b)
open Go
def D6(n:Int):Int:=AI .i64 n
def GT(n:Int):Int:=AI .u64 n
def MB(lo hi:Int):Int:=D6 (D6 (hi-lo)+1)
def D2(n lo hi:Int):Int:=cond (AE (n.tmod (MB lo hi)<0)) (D6 (lo+D6 (D6 (D6 (n.tmod (MB lo hi)+hi)-lo)+1))) (D6 (lo+n.tmod (MB lo hi)))
def OI:D5
 |[.i n,.i lo,.i hi]=>.br (AE (MB lo hi=0)) .no (.ok (.i (D2 n lo hi)) [])
 |_=>.no
abbrev YY:BA:=⟨#[45]⟩
abbrev Vm:BA:=⟨#[46]⟩
abbrev zfP:BA:=⟨#[48]⟩
abbrev YZ:BA:=⟨#[]⟩
def WV:D5
 |[]=>.ok (.int .u64 390625) []
 |_=>.no
def KX(r:Nat):List UInt8:=Lib.trimRightB (Lib.repeatL [48] (8-(CS (r*390625)).length)++CS (r*390625)) 48
def JF(u:Nat):List UInt8:=CS (u/256)++(if u%256=0 then[]else 46::KX (u%256))
def LM(n:Int):List UInt8:=if n<0 then 45::JF n.natAbs else JF n.natAbs
def D8(n:Int):BA:=⟨(LM n).toArray⟩
def SZ:D5
 |[.i n]=>.ok (.str (D8 n)) []
 |_=>.no
def dX:D5
 |[.str s]=>.ok (.tup [.int .u64 (G6 s),.bool (JY s)]) []
 |_=>.no
def QM(s:BA):BA:=cutL (HO s YY) Vm
def J9(s:BA):BA:=HP (HO s YY) Vm
def N1(s:BA):BA:=J9 s++IP zfP (8-(J9 s).size)
def QL(s:BA):Int:=GT (GT (G6 (QM s)*256)+G6 (N1 s)/390625)
def gJ(s:BA):Int:=D6 (cond (U8 s YY) (GT (0-QL s)) (QL s))
def XQ(s:BA):Bool:=
 AE ((J9 s).size<=8)&&(JY (QM s)&&(JY (N1 s)&&(AE (G6 (QM s)<=36028797018963968)&&(AE (G6 (N1 s)%390625=0)&&AE (D8 (gJ s)=s)))))
def GP(s:BA):Int:=cond (XQ s) (gJ s) 0
def WU:D5
 |[.str s]=>.br (AE (s.size<4294967281)) (.ok (.tup [.i (GP s),.bool (XQ s)]) []) .no
 |_=>.no
open Go Go.Proofs
def Wp(N:Nat):Env:=EI [] [] 24 N
theorem xi(N:Nat)(n lo hi:Int):EB (Wp N) Ad [.tmp 6] [[.z]] [.i n,.i lo,.i hi]=
 (cond (AE (AI AJ (AI AJ (hi-lo)+1)=0))
 AB
 (cond (AE (Int.tmod n (AI AJ (AI AJ (hi-lo)+1))<0))
 (AA (.i (AI AJ (lo+AI AJ (AI AJ (AI AJ (Int.tmod n (AI AJ (AI AJ (hi-lo)+1))+hi)-lo)+1))),[]))
 (AA (.i (AI AJ (lo+Int.tmod n (AI AJ (AI AJ (hi-lo)+1)))),[])))):=AF
def Xp(N:Nat):Env:=EI [] [(3,⟨[0,1,2],[],[]⟩)] 8 N
def Xo(N:Nat):Env:=EI [(225,kE)] [] 19 N
theorem zj(N:Nat)(s:BA):EB (Xo N) Be [.tmp 2,.tmp 3] [[.int .u64],[.bool]] [.str s]=
 (cond (JY s)
 (cond (AE (0<=0)&&AE (0<ic (AR s)))
 (AA (.tup [.int .u64 (G6 s),.bool (ic (UInt8.toNat (AQ (Array.toList (ByteArray.data s)) (AM 0) 0))!=43)],[]))
 AB)
 (AA (.tup [.int .u64 (G6 s),.bool AD],[]))):=AF
def Xm(N:Nat):Env:=EI [(100,WV),(99,kD),(102,ZK),(101,kG)] [] 38 N
theorem zg(N:Nat)(n:Int):EB (Xm N) Bc [.tmp 2] [[.str]] [.i n]=
 (cond (AE (n<0))
 (cond (AE (AR {data:=#[45]}+AR (FK (C3 (AI AO (0-AI AO n)) (2^min (AM 8) (AT AO))))<=strMax))
 (cond (AI AO (ic (B1 (A0 (AT AO) (AI AO (0-AI AO n))&&&A0 (AT AO) 255)))==0)
 (AA ((.str ({data:=#[45]}++FK (C3 (AI AO (0-AI AO n)) (2^min (AM 8) (AT AO))))),[]))
 (cond (AE (AR ({data:=#[45]}++FK (C3 (AI AO (0-AI AO n)) (2^min (AM 8) (AT AO))))+AR {data:=#[46]}<=strMax))
 (cond (AE (0<=AI AJ (8-ic (AR (FK (AI AO (AI AO (ic (B1 (A0 (AT AO) (AI AO (0-AI AO n))&&&A0 (AT AO) 255)))*390625))))))&&AE (AR {data:=#[48]}*AM (AI AJ (8-ic (AR (FK (AI AO (AI AO (ic (B1 (A0 (AT AO) (AI AO (0-AI AO n))&&&A0 (AT AO) 255)))*390625))))))<=strMax))
 (cond (AE (AR (IP {data:=#[48]} (AM (AI AJ (8-ic (AR (FK (AI AO (AI AO (ic (B1 (A0 (AT AO) (AI AO (0-AI AO n))&&&A0 (AT AO) 255)))*390625))))))))+AR (FK (AI AO (AI AO (ic (B1 (A0 (AT AO) (AI AO (0-AI AO n))&&&A0 (AT AO) 255)))*390625)))<=strMax))
 (cond (AE (AR ({data:=#[45]}++FK (C3 (AI AO (0-AI AO n)) (2^min (AM 8) (AT AO)))++{data:=#[46]})+AR (P8 (IP {data:=#[48]} (AM (AI AJ (8-ic (AR (FK (AI AO (AI AO (ic (B1 (A0 (AT AO) (AI AO (0-AI AO n))&&&A0 (AT AO) 255)))*390625)))))))++FK (AI AO (AI AO (ic (B1 (A0 (AT AO) (AI AO (0-AI AO n))&&&A0 (AT AO) 255)))*390625))) {data:=#[48]})<=strMax))
 (AA ((.str ({data:=#[45]}++FK (C3 (AI AO (0-AI AO n)) (2^min (AM 8) (AT AO)))++{data:=#[46]}++P8 (IP {data:=#[48]} (AM (AI AJ (8-ic (AR (FK (AI AO (AI AO (ic (B1 (A0 (AT AO) (AI AO (0-AI AO n))&&&A0 (AT AO) 255)))*390625)))))))++FK (AI AO (AI AO (ic (B1 (A0 (AT AO) (AI AO (0-AI AO n))&&&A0 (AT AO) 255)))*390625))) {data:=#[48]})),[]))
 AB)
 AB)
 AB)
 AB))
 AB)
 (cond (AE (AR {data:=#[]}+AR (FK (C3 (AI AO n) (2^min (AM 8) (AT AO))))<=strMax))
 (cond (AI AO (ic (B1 (A0 (AT AO) (AI AO n)&&&A0 (AT AO) 255)))==0)
 (AA ((.str ({data:=#[]}++FK (C3 (AI AO n) (2^min (AM 8) (AT AO))))),[]))
 (cond (AE (AR ({data:=#[]}++FK (C3 (AI AO n) (2^min (AM 8) (AT AO))))+AR {data:=#[46]}<=strMax))
 (cond (AE (0<=AI AJ (8-ic (AR (FK (AI AO (AI AO (ic (B1 (A0 (AT AO) (AI AO n)&&&A0 (AT AO) 255)))*390625))))))&&AE (AR {data:=#[48]}*AM (AI AJ (8-ic (AR (FK (AI AO (AI AO (ic (B1 (A0 (AT AO) (AI AO n)&&&A0 (AT AO) 255)))*390625))))))<=strMax))
 (cond (AE (AR (IP {data:=#[48]} (AM (AI AJ (8-ic (AR (FK (AI AO (AI AO (ic (B1 (A0 (AT AO) (AI AO n)&&&A0 (AT AO) 255)))*390625))))))))+AR (FK (AI AO (AI AO (ic (B1 (A0 (AT AO) (AI AO n)&&&A0 (AT AO) 255)))*390625)))<=strMax))
 (cond (AE (AR ({data:=#[]}++FK (C3 (AI AO n) (2^min (AM 8) (AT AO)))++{data:=#[46]})+AR (P8 (IP {data:=#[48]} (AM (AI AJ (8-ic (AR (FK (AI AO (AI AO (ic (B1 (A0 (AT AO) (AI AO n)&&&A0 (AT AO) 255)))*390625)))))))++FK (AI AO (AI AO (ic (B1 (A0 (AT AO) (AI AO n)&&&A0 (AT AO) 255)))*390625))) {data:=#[48]})<=strMax))
 (AA ((.str ({data:=#[]}++FK (C3 (AI AO n) (2^min (AM 8) (AT AO)))++{data:=#[46]}++P8 (IP {data:=#[48]} (AM (AI AJ (8-ic (AR (FK (AI AO (AI AO (ic (B1 (A0 (AT AO) (AI AO n)&&&A0 (AT AO) 255)))*390625)))))))++FK (AI AO (AI AO (ic (B1 (A0 (AT AO) (AI AO n)&&&A0 (AT AO) 255)))*390625))) {data:=#[48]})),[]))
 AB)
 AB)
 AB)
 AB))
 AB)):=AF
open Go Go.Proofs
theorem jF:D9 PR B0 32 OI:=by
 refine EJ [] [] OI [[.z]] Tryz.func32 od trivial ?_;intro vs r hwf h;unfold OI at h;split at h
 .rename_i n lo hi;refine⟨0,?_⟩;rw[<-h];refine(xi 0 n lo hi).trans ?_;simp only[R.get_br,R.get_ok,R.get_no];unfold D2 MB D6;cases AE (AI AJ (AI AJ (hi-lo)+1)=0)<;>cases AE (Int.tmod n (AI AJ (AI AJ (hi-lo)+1))<0)<;>rfl
 .simp[R.get]at h
open Go
theorem US{s t:BA}(h:s.data.toList=t.data.toList):s=t:=ByteArray.ext (Array.ext' h)
theorem kS(s t:BA):(s.toList==t.toList)=AE (s=t):=by
 rw[Lib.toList_data,Lib.toList_data];by_cases h:s=t
 .subst h;simp
 .rw[AS h,BI];exact λe=>h (US e)
theorem TX(s:BA):s.size=s.data.toList.length:=by rw[C8];rfl
theorem XP(u:Nat):∀c∈CS u,48<=c.toNat/\c.toNat<=57:=by
 induction u using vbD with
 |_ u ih=>
  intro c hc;rw[CS]at hc;split at hc
  .rename_i h;simp only[B7]at hc;subst hc;rw[vaX (by simp[UInt8.size];omega)];omega
  .rename_i h;rw[A4,B7]at hc;rcases hc with hc|hc
   .exact ih (u/10) AG c hc
   .subst hc;rw[vaX (by simp[UInt8.size];omega)];omega
theorem k8(u:Nat):CS u≠[]:=by
 rw[CS];split<;>simp
theorem uc(n:Int):∀c∈va7 n,c.toNat=45\/(48<=c.toNat/\c.toNat<=57):=by
 intro c hc;unfold va7 at hc;split at hc
 .rcases AY.1 hc with h|h
  .subst h;exact .inl rfl
  .exact .inr (XP _ c h)
 .exact .inr (XP _ c hc)
theorem zbT(u:Nat):∀(acc:Nat) (r:List UInt8),acc*10^(CS u).length+u<18446744073709551616->
  vbA acc (CS u++r)=vbA (acc*10^(CS u).length+u) r:=by
 induction u using vbD with
 |_ u ih=>
  intro acc r hlt;rw[CS]at hlt ⊢;split at hlt
  .rename_i h;rw[dif_pos h];simp only[DD,Nat.pow_one,List.singleton_append]at hlt ⊢;have hc:(UInt8.ofNat (48+u)).toNat=48+u:=vaX (by simp[UInt8.size];omega);rw[vbA,hc,B3 AG,BO AG,BO AG];congr 1;omega
  .rename_i h;rw[dif_neg h];simp only[A2,DD,Nat.pow_succ,vax,List.singleton_append]at hlt ⊢;have ea:acc*(10^(CS (u/10)).length*10)=acc*10^(CS (u/10)).length*10:=by rw[Nat.mul_assoc]
   rw[ea]at hlt ⊢;rw[ih (u/10) AG acc _ AG];have hc:(UInt8.ofNat (48+u%10)).toNat=48+u%10:=vaX (by simp[UInt8.size];omega);rw[vbA,hc,B3 AG,BO AG,BO AG];congr 1;omega
theorem uI(u:Nat)(h:u<18446744073709551616):Lib.parseMag (CS u)=.ok u:=by
 unfold Lib.parseMag;rw[BO (k8 u)]
 have:=zbT u 0 [] AG
 rw[vad]at this;rw[this,Nat.zero_mul,BS];rfl
theorem y9(n:Int)(h0: -9223372036854775808<=n)(h1:n<=9223372036854775807):Lib.atoiAll (va7 n)=.ok n:=by
 unfold va7;split
 .rename_i hn;unfold Lib.atoiAll;have e:(45:UInt8).toNat=45:=rfl;simp only[e,or_true,CX,uI n.natAbs AG,vbw,false_and,if_false,vaP];rw[BO AG];congr 1;omega
 .rename_i hn;obtain⟨c,r,hl⟩:∃c r,CS n.toNat=c::r:=by
   cases h:CS n.toNat with
   |nil=>exact absurd h (k8 _)
   |cons c r=>exact⟨c,r,rfl⟩
  have hc:=XP n.toNat c (by rw[hl];exact AZ ..);have hm:=uI n.toNat AG;rw[hl]at hm ⊢;unfold Lib.atoiAll;have e1:¬c.toNat=43:=by omega
  have e2:¬c.toNat=45:=by omega
  simp only[e1,e2,or_self,if_false,hm,false_and,not_false_eq_true,vaP];rw[BO AG];congr 1;omega
theorem y8{s:BA}{n:Int}(h:s.data.toList=va7 n)(h0: -9223372036854775808<=n)(h1:n<=9223372036854775807):GK s=n:=by
 unfold GK;rw[h,y9 n h0 h1]
theorem rP:∀(w r:List UInt8) (c:UInt8),c∉w->vbj (w++c::r) c=w.length
 |[],r,c,_=>by simp[vbj]
 |b::w,r,c,h=>by
  simp only[AY,not_or]at h;have e:(b==c)=AD:=BI.2 (λe=>h.1 e.symm);have e2:((w.length:Int)== -1)=AD:=by rw[BI];omega
  simp only[C0,vbj,e,rP w r c h.2,e2,AV];simp
theorem Gp:∀(w:List UInt8) (c:UInt8),c∉w->vbj w c= -1
 |[],c,_=>rfl
 |b::w,c,h=>by
  simp only[AY,not_or]at h;have e:(b==c)=AD:=BI.2 (λe=>h.1 e.symm);simp[vbj,e,Gp w c h.2]
theorem dn(w r:List UInt8)(c:UInt8)(h:c∉w):Lib.cut (w++c::r) [c]=(w,r,AC):=by
 unfold Lib.cut;rw[Lib.index_one,rP w r c h,B3 AG];simp
theorem Re(w r:List UInt8)(c:UInt8)(h:c∉w):va3 (w++c::r) [c]=w::va3 r [c]:=by
 unfold va3;have ec:Lib.count (w++c::r) [c]=Lib.count r [c]+1:=by
  rw[Lib.count_one,Lib.count_one,List.count_append,List.count_eq_zero_of_not_mem h,List.count_cons_self,BS]
 rw[ec,Lib.splitK,Lib.index_one,rP w r c h];have e2:((w.length:Int)== -1)=AD:=by rw[BI];omega
 rw[e2];simp
theorem Rg(w:List UInt8)(c:UInt8)(h:c∉w):va3 w [c]=[w]:=by
 unfold va3;rw[Lib.count_one,List.count_eq_zero_of_not_mem h];rfl
theorem Rc(s sep:BA):(EP s sep).map (·.data.toList)=va3 s.data.toList sep.data.toList:=by
 unfold EP va3;rw[Lib.splitB_data]
open Go
theorem zft{n m:Int}(h:0<m): -m<n.tmod m/\n.tmod m<m:=by
 constructor
 .rcases Int.lt_or_le n 0 with hn|hn
  .have e:n.tmod m= -((-n).tmod m):=by rw[Int.neg_tmod,Int.neg_neg]
   have:=Int.tmod_lt_of_pos (-n) h
   omega
  .have:=Int.tmod_nonneg m hn
   omega
 .exact Int.tmod_lt_of_pos n h
theorem HZ{n lo hi:Int}(h:lo<=hi)(h0: -2000000000000000000<=lo)(h1:hi<=2000000000000000000):MB lo hi=hi-lo+1/\lo<=D2 n lo hi/\D2 n lo hi<=hi:=by
 have e1:D6 (hi-lo)=hi-lo:=ER AG AG;have e2:MB lo hi=hi-lo+1:=by
  unfold MB;rw[e1];exact ER AG AG
 refine⟨e2,?_⟩;unfold D2;rw[e2];obtain⟨t0,t1⟩:=zft (n:=n) (m:=hi-lo+1) AG;generalize n.tmod (hi-lo+1)=q at t0 t1 ⊢;cases hq:AE (q<0)with
 |true=>
  have hq:=BB hq;simp only[BN];have a1:D6 (q+hi)=q+hi:=ER AG AG;have a2:D6 (q+hi-lo)=q+hi-lo:=ER AG AG;have a3:D6 (q+hi-lo+1)=q+hi-lo+1:=ER AG AG;have a4:D6 (lo+(q+hi-lo+1))=lo+(q+hi-lo+1):=ER AG AG;rw[a1,a2,a3,a4];omega
 |false=>
  have hq:=BM hq;simp only[BC];have a1:D6 (lo+q)=lo+q:=ER AG AG;rw[a1];omega
theorem Q4(n:Int):AI .u64 n=n%18446744073709551616:=by simp[AI,AT,vak]
abbrev EN(n:Int):Prop:= -9223372036854775808<=n/\n<=9223372036854775807
theorem yQ{f:Nat->Bool}(h:(vaA 256).all f=AC){r:Nat}(hr:r<256):f r=AC:=CZ.1 h r (vaF.2 hr)
def Kl(r:Nat):Bool:=match Lib.parseMag ((if r=0 then[]else KX r)++Lib.repeatL [48] (8-(if r=0 then[]else KX r).length))with|.ok v=>BZ v (r*390625)|_=>AD
theorem zbW:(vaA 256).all Kl=AC:=AF
theorem zbV{r:Nat}(h:r<256):Lib.parseMag ((if r=0 then[]else KX r)++Lib.repeatL [48] (8-(if r=0 then[]else KX r).length))=.ok (r*390625):=by
 have:=yQ zbW h
 unfold Kl at this;split at this
 .rename_i v hv;rw[hv,vag this]
 .cases this
def Ki(r:Nat):Bool:=BZ r 0||(CF (KX r).length 8&&((KX r).all (λc=>CF 48 c.toNat&&CF c.toNat 57)&&(match(KX r).reverse with|[]=>AD|c::_=>!(BZ c.toNat 48))))
theorem eu:(vaA 256).all Ki=AC:=AF
theorem k9{r:Nat}(h0:r≠0)(h:r<256):(KX r).length<=8/\(∀c∈KX r,48<=c.toNat/\c.toNat<=57)/\∃l c,KX r=l++[c]/\c.toNat≠48:=by
 have:=yQ eu h
 unfold Ki at this;simp only[vap,AP,CZ]at this;rcases this with h1|⟨h1,h2,h3⟩
 .exact absurd (vag h1) h0
 .refine⟨AX h1,λc hc=>⟨AX (h2 c hc).1,AX (h2 c hc).2⟩,?_⟩;cases hr:(KX r).reverse with
  |nil=>rw[hr]at h3;cases h3
  |cons c l=>
   rw[hr]at h3;refine⟨l.reverse,c,?_,?_⟩
   .have:=congrArg List.reverse hr
    simpa using this
   .intro e;have h3:(!c.toNat.beq 48)=AC:=h3;rw[e]at h3;cases h3
theorem jE(u:Nat):JF u=CS (u/256)++(if u%256=0 then[]else 46::KX (u%256)):=rfl
theorem dw(v:Nat):∃c r,CS v=c::r/\48<=c.toNat/\c.toNat<=57:=by
 cases h:CS v with
 |nil=>exact absurd h (k8 v)
 |cons c r=>exact⟨c,r,rfl,XP v c (by rw[h];exact AZ ..)⟩
theorem v8(u:Nat):∃c r,JF u=c::r/\48<=c.toNat/\c.toNat<=57:=by
 obtain⟨c,r,h,h1⟩:=dw (u/256);exact⟨c,r++_,by rw[jE,h];rfl,h1⟩
theorem dx(v:Nat){c:UInt8}(h:c.toNat<48):c∉CS v:=λhc=>by
 have:=XP v c hc
 omega
theorem dr(w:List UInt8)(c:UInt8)(h:c∉w):Lib.cut w [c]=(w,[],AD):=by
 unfold Lib.cut;rw[Lib.index_one,Gp w c h,BO AG]
theorem zdk(u:Nat):(Lib.cut (JF u) [46]).1=CS (u/256)/\(Lib.cut (JF u) [46]).2.1=(if u%256=0 then[]else KX (u%256)):=by
 have hno:(46:UInt8)∉CS (u/256):=dx _ (by decide);rw[jE];by_cases h:u%256=0
 .rw[B3 h,B3 h,vad,dr _ _ hno];exact⟨rfl,rfl⟩
 .rw[BO h,BO h,dn _ _ _ hno];exact⟨rfl,rfl⟩
theorem zb6(n:Int):U8 (D8 n) YY=AE (n<0)/\HO (D8 n) YY=⟨(JF n.natAbs).toArray⟩:=by
 unfold U8 HO Lib.trimPrefix Lib.hasPrefix D8 LM;show[(45:UInt8)].isPrefixOf (if n<0 then 45::JF n.natAbs else JF n.natAbs)=_/\(⟨(if[(45:UInt8)].isPrefixOf (if n<0 then 45::JF n.natAbs else JF n.natAbs)=AC then _ else(if n<0 then 45::JF n.natAbs else JF n.natAbs)).toArray⟩:BA)=_;by_cases h:n<0
 .rw[B3 h,AL h];have e:[(45:UInt8)].isPrefixOf (45::JF n.natAbs)=AC:=by simp[vbu]
  rw[e,B3 rfl];exact⟨rfl,rfl⟩
 .rw[BO h,AS h];obtain⟨c,r,hc,hc1,_⟩:=v8 n.natAbs;have e:[(45:UInt8)].isPrefixOf (JF n.natAbs)=AD:=by
   rw[hc];simp only[vbu,CJ,BI];intro e;rw[<-e]at hc1;revert hc1;decide
  rw[e];simp
theorem Me{s:BA}{v:Nat}(h:Lib.parseMag s.data.toList=.ok v):G6 s=v/\JY s=AC:=by
 unfold G6 JY;rw[h];exact⟨rfl,rfl⟩
theorem zb8{n:Int}(hn:EN n):XQ (D8 n)=AC/\GP (D8 n)=n:=by
 obtain⟨hn0,hn1⟩:=hn;obtain⟨hm,hb⟩:=zb6 n;have hu:n.natAbs<=9223372036854775808:=by omega
 obtain⟨c1,c2⟩:=zdk n.natAbs;have hW:QM (D8 n)=⟨(CS (n.natAbs/256)).toArray⟩:=by
  unfold QM cutL;rw[hb];show(⟨(Lib.cut (JF n.natAbs) [46]).1.toArray⟩:BA)=_;rw[c1]
 have hP:J9 (D8 n)=⟨(if n.natAbs%256=0 then[]else KX (n.natAbs%256)).toArray⟩:=by
  unfold J9 HP;rw[hb];show(⟨(Lib.cut (JF n.natAbs) [46]).2.1.toArray⟩:BA)=_;rw[c2]
 have hr:n.natAbs%256<256:=by omega
 obtain⟨v1,n1⟩:=Me (s:=QM (D8 n)) (v:=n.natAbs/256) (by rw[hW];exact uI _ AG);have hz:(J9 (D8 n)).size=(if n.natAbs%256=0 then([]:List UInt8)else KX (n.natAbs%256)).length:=by rw[hP,TX]
 have h8:(J9 (D8 n)).size<=8:=by
  rw[hz];split
  .simp
  .rename_i h0;exact(k9 h0 hr).1
 obtain⟨v2,n2⟩:=Me (s:=N1 (D8 n)) (v:=n.natAbs%256*390625) (by
  have:=zbV hr
  unfold N1;rw[hz,hP];simp only[ByteArray.data_append,vaj];exact this)
 have hS:QL (D8 n)=(n.natAbs:Int):=by
  unfold QL GT;rw[v1,v2];rw[Q4,Q4];omega
 have hN:gJ (D8 n)=n:=by
  unfold gJ;rw[hm,hS];unfold D6 GT;cases hd:AE (n<0)with
  |true=>
   have:=BB hd
   simp only[BN];rw[IntKind.wrap_i64,Q4];omega
  |false=>
   have:=BM hd
   simp only[BC];rw[ER AG AG];omega
 have hI:XQ (D8 n)=AC:=by
  unfold XQ;rw[AL h8,n1,n2,v1,v2,hN,AL (show((n.natAbs/256:Nat):Int)<=36028797018963968 by omega),AL (show((n.natAbs%256*390625:Nat):Int)%390625=0 by omega),AL rfl];rfl
 refine⟨hI,?_⟩;unfold GP;rw[hI,hN];rfl
theorem Ls(n:Int):∃c r,(D8 n).data.toList=c::r/\c.toNat≠43:=by
 show∃c r,LM n=c::r/\c.toNat≠43;unfold LM;split
 .exact⟨45,_,rfl,by decide⟩
 .obtain⟨c,r,h,h1,_⟩:=v8 n.natAbs;exact⟨c,r,h,by omega⟩
theorem YJ(n:Int)(hn:EN n):1<=(D8 n).size/\(D8 n).size<=40:=by
 obtain⟨c,r,h,_⟩:=Ls n;refine⟨by rw[TX,h];simp,?_⟩;rw[TX];show(LM n).length<=40;have hs:(JF n.natAbs).length<=30:=by
  rw[jE,A2];have h1:(CS (n.natAbs/256)).length<=20:=by
   have:=tP (n:=((n.natAbs/256:Nat):Int)) AG (by obtain⟨_,_⟩:=hn;omega)
   rw[TX]at this;exact this
  split
  .simp;omega
  .rename_i h0
   have:=(k9 h0 (by omega:n.natAbs%256<256)).1
   simp only[AV];omega
 unfold LM;split
 .simp only[AV];omega
 .omega
open Go
structure Qy where
 k:Int
 c:Int
 a0:Int
 b0:Int
 a1:Int
 b1:Int
 a2:Int
 b2:Int
 a3:Int
 b3:Int
 a4:Int
 b4:Int
 lo:Int
 hi:Int
 ft:Int
 fl:Bool
 bu:Int
def Qy.V(q:Qy):V:=.agg [.i q.k,.i q.c,.i q.a0,.i q.b0,.i q.a1,.i q.b1,.i q.a2,.i q.b2,.i q.a3,.i q.b3,.i q.a4,.i q.b4,.i q.lo,.i q.hi,.i q.ft,.bool q.fl,.i q.bu]
def Qy.none:Qy:=⟨0,0,0,0,0,0,0,0,0,0,0,0,0,0,0,AD,0⟩
def Qy.eq(p q:Qy):Bool:=
 (p.k==q.k)&&((p.c==q.c)&&((p.a0==q.a0)&&((p.b0==q.b0)&&((p.a1==q.a1)&&((p.b1==q.b1)&&((p.a2==q.a2)&&((p.b2==q.b2)&&((p.a3==q.a3)&&((p.b3==q.b3)&&((p.a4==q.a4)&&((p.b4==q.b4)&&((p.lo==q.lo)&&((p.hi==q.hi)&&((p.ft==q.ft)&&((p.fl==q.fl)&&((p.bu==q.bu)&&AC))))))))))))))))
def F3(q:Qy)(d:Int):Qy:=
 ⟨q.k,q.c,cond (AE (0<d)) q.a0 0,cond (AE (0<d)) q.b0 0,cond (AE (1<d)) q.a1 0,cond (AE (1<d)) q.b1 0,cond (AE (2<d)) q.a2 0,cond (AE (2<d)) q.b2 0,cond (AE (3<d)) q.a3 0,cond (AE (3<d)) q.b3 0,cond (AE (4<d)) q.a4 0,cond (AE (4<d)) q.b4 0,
  cond (q.k==1) q.lo 0,cond (q.k==1) q.hi 0,cond (q.k==3) q.ft 0,cond (q.k==3) q.fl AD,q.bu⟩
def cM:D5
 |[.agg [.i k,.i c,.i a0,.i b0,.i a1,.i b1,.i a2,.i b2,.i a3,.i b3,.i a4,.i b4,.i lo,.i hi,.i ft,.bool fl,.i bu],.i d]=>
  .br (AE (0<=d)&&AE (d<=5)) (.ok (.agg [.i (F3 ⟨k,c,a0,b0,a1,b1,a2,b2,a3,b3,a4,b4,lo,hi,ft,fl,bu⟩ d).k,.i (F3 ⟨k,c,a0,b0,a1,b1,a2,b2,a3,b3,a4,b4,lo,hi,ft,fl,bu⟩ d).c,
   .i (F3 ⟨k,c,a0,b0,a1,b1,a2,b2,a3,b3,a4,b4,lo,hi,ft,fl,bu⟩ d).a0,.i (F3 ⟨k,c,a0,b0,a1,b1,a2,b2,a3,b3,a4,b4,lo,hi,ft,fl,bu⟩ d).b0,
   .i (F3 ⟨k,c,a0,b0,a1,b1,a2,b2,a3,b3,a4,b4,lo,hi,ft,fl,bu⟩ d).a1,.i (F3 ⟨k,c,a0,b0,a1,b1,a2,b2,a3,b3,a4,b4,lo,hi,ft,fl,bu⟩ d).b1,
   .i (F3 ⟨k,c,a0,b0,a1,b1,a2,b2,a3,b3,a4,b4,lo,hi,ft,fl,bu⟩ d).a2,.i (F3 ⟨k,c,a0,b0,a1,b1,a2,b2,a3,b3,a4,b4,lo,hi,ft,fl,bu⟩ d).b2,
   .i (F3 ⟨k,c,a0,b0,a1,b1,a2,b2,a3,b3,a4,b4,lo,hi,ft,fl,bu⟩ d).a3,.i (F3 ⟨k,c,a0,b0,a1,b1,a2,b2,a3,b3,a4,b4,lo,hi,ft,fl,bu⟩ d).b3,
   .i (F3 ⟨k,c,a0,b0,a1,b1,a2,b2,a3,b3,a4,b4,lo,hi,ft,fl,bu⟩ d).a4,.i (F3 ⟨k,c,a0,b0,a1,b1,a2,b2,a3,b3,a4,b4,lo,hi,ft,fl,bu⟩ d).b4,
   .i (F3 ⟨k,c,a0,b0,a1,b1,a2,b2,a3,b3,a4,b4,lo,hi,ft,fl,bu⟩ d).lo,.i (F3 ⟨k,c,a0,b0,a1,b1,a2,b2,a3,b3,a4,b4,lo,hi,ft,fl,bu⟩ d).hi,
   .i (F3 ⟨k,c,a0,b0,a1,b1,a2,b2,a3,b3,a4,b4,lo,hi,ft,fl,bu⟩ d).ft,.bool (F3 ⟨k,c,a0,b0,a1,b1,a2,b2,a3,b3,a4,b4,lo,hi,ft,fl,bu⟩ d).fl,
   .i (F3 ⟨k,c,a0,b0,a1,b1,a2,b2,a3,b3,a4,b4,lo,hi,ft,fl,bu⟩ d).bu]) []) .no
 |_=>.no
def KR(n:Int):Bool:=AE (0<=n)&&AE (n<=1073741824)
def cL:D5
 |[.i n]=>.ok (.bool (KR n)) []
 |_=>.no
def WL:D5
 |[.str s]=>.ok (.i (GK s)) []
 |_=>.no
def WM:D5
 |[.str s]=>.br (AE (s.size<4294967281)) (.ok (.i (GP s)) []) .no
 |_=>.no
abbrev NR:BA:=⟨#[114,97,110,103,101]⟩
abbrev PB:BA:=⟨#[98,101,115,116]⟩
abbrev NS:BA:=⟨#[114,105,115,101,115]⟩
abbrev M4:BA:=⟨#[102,97,108,108,115]⟩
abbrev VX:BA:=⟨#[102,114,111,109]⟩
abbrev VY:BA:=⟨#[116,111]⟩
abbrev PC:BA:=⟨#[98,121]⟩
abbrev OE:BA:=⟨#[105,110]⟩
abbrev VW:BA:=⟨#[98,117,100,103,101,116]⟩
abbrev bT:BA:=⟨#[46,46]⟩
abbrev HH:BA:=⟨#[32]⟩
def NQ(a b:Int):BA:=D8 a++bT++D8 b
def IL(q:Qy):List BA:=
 cond (q.k==1) [NR,D0 q.c,VX,D8 q.lo,VY,D8 q.hi]
 (cond (q.k==2) [PB,D0 q.c] [cond q.fl M4 NS,D0 q.c,PC,D0 q.ft])
def Qy.spans(q:Qy):List (Int×Int):=[(q.a0,q.b0),(q.a1,q.b1),(q.a2,q.b2),(q.a3,q.b3),(q.a4,q.b4)]
def I3(q:Qy)(d:Nat):List BA:=IL q++OE::((q.spans.take d).map λs=>NQ s.1 s.2)++[VW,D0 q.bu]
def N8(q:Qy)(d:Int):Bool:=
 (!(AE (d<1))&&!(AE (d>4)))&&(q.eq (F3 q d)&&(KR q.c&&(KR q.ft&&(KR q.bu&&((q.k==1)||((q.k==2)||(q.k==3)))))))
def G0(q:Qy)(d:Int):BA:=cond (N8 q d) (GV (I3 q d.toNat) HH) YZ
def WK:D5
 |[.agg [.i k,.i c,.i a0,.i b0,.i a1,.i b1,.i a2,.i b2,.i a3,.i b3,.i a4,.i b4,.i lo,.i hi,.i ft,.bool fl,.i bu],.i d]=>
  .ok (.str (G0 ⟨k,c,a0,b0,a1,b1,a2,b2,a3,b3,a4,b4,lo,hi,ft,fl,bu⟩ d)) []
 |_=>.no
def EF(l:LI)(i:Nat):BA:=(l.getD i default).toStr
def E4(l:LI):Qy:=
 cond ((EF l 0).toList==NR.toList) ⟨1,GK (EF l 1),0,0,0,0,0,0,0,0,0,0,GP (EF l 3),GP (EF l 5),0,AD,0⟩
 (cond ((EF l 0).toList==PB.toList) ⟨2,GK (EF l 1),0,0,0,0,0,0,0,0,0,0,0,0,0,AD,0⟩
 (cond ((EF l 0).toList==NS.toList||(EF l 0).toList==M4.toList) ⟨3,GK (EF l 1),0,0,0,0,0,0,0,0,0,0,0,0,GK (EF l 3),(EF l 0).toList==M4.toList,0⟩
 ⟨0,GK (EF l 1),0,0,0,0,0,0,0,0,0,0,0,0,0,AD,0⟩))
def cK:D5
 |[.list AD [.str] l]=>.br (AE (l.length<=4294967290)&&l.all (λx=>AE (x.toStr.size<4294967281)))
  (.ok (.agg [.i (E4 l).k,.i (E4 l).c,.i (E4 l).a0,.i (E4 l).b0,.i (E4 l).a1,.i (E4 l).b1,.i (E4 l).a2,.i (E4 l).b2,.i (E4 l).a3,.i (E4 l).b3,.i (E4 l).a4,.i (E4 l).b4,
   .i (E4 l).lo,.i (E4 l).hi,.i (E4 l).ft,.bool (E4 l).fl,.i (E4 l).bu]) []) .no
 |_=>.no
def SC(l:LI)(i:Nat):Int:=GP (cutL (EF l i) bT)
def SD(l:LI)(i:Nat):Int:=GP (HP (EF l i) bT)
def iY(l:LI)(i d:Nat):Qy:=
 ⟨(
  E4 (l.take i)).k,(E4 (l.take i)).c,
  cond (BV 0 d) (SC l (i+1)) 0,cond (BV 0 d) (SD l (i+1)) 0,cond (BV 1 d) (SC l (i+2)) 0,cond (BV 1 d) (SD l (i+2)) 0,cond (BV 2 d) (SC l (i+3)) 0,cond (BV 2 d) (SD l (i+3)) 0,cond (BV 3 d) (SC l (i+4)) 0,cond (BV 3 d) (SD l (i+4)) 0,0,0,
  (E4 (l.take i)).lo,(E4 (l.take i)).hi,(E4 (l.take i)).ft,(E4 (l.take i)).fl,GK (EF l (l.length-1))⟩
def H1(s:BA):LI:=(EP s HH).map IV.str
def N4(s:BA):Int:=GC (H1 s) OE 0
def OW(s:BA):Int:=ic (H1 s).length-2-N4 s-1
def hZ(s:BA):Qy:=iY (H1 s) (N4 s).toNat (OW s).toNat
def MH(s:BA):Bool:=(!(AE (N4 s<0))&&(!(AE (OW s<1))&&!(AE (OW s>4))))&&(G0 (hZ s) (OW s)).toList==s.toList
def GJ(s:BA):Qy:=cond (MH s) (hZ s) Qy.none
def NA(s:BA):Int:=cond (MH s) (OW s) 0
def WJ:D5
 |[.str s]=>.br (AE (s.size<4294967281))
  (.ok (.tup [.agg [.i (GJ s).k,.i (GJ s).c,.i (GJ s).a0,.i (GJ s).b0,.i (GJ s).a1,.i (GJ s).b1,.i (GJ s).a2,.i (GJ s).b2,.i (GJ s).a3,.i (GJ s).b3,.i (GJ s).a4,.i (GJ s).b4,
   .i (GJ s).lo,.i (GJ s).hi,.i (GJ s).ft,.bool (GJ s).fl,.i (GJ s).bu],.i (NA s),.bool (MH s)]) []) .no
 |_=>.no
open Go
def E0(l:LI)(i:Int):Int:=cond (ic l.length==0) 0 (l.getD (i.tmod (ic l.length)).toNat default).toInt
def ST:D5
 |[.list AD [.z] l,.i i]=>.br (AE (0<=i)) (.ok (.i (E0 l i)) []) .no
 |_=>.no
def EV(n:Int):Bool:=AE (-2147483648<=n)&&AE (n<=2147483647)
def SW:D5
 |[.i n,.i w]=>.br (AE (w=32)) (.ok (.bool (EV n)) []) .no
 |_=>.no
def QY(lf:Bool)(v f a l r:Int):Bool:=
 cond lf (EV v&&((f==0)&&((a==0)&&((l==0)&&(r==0)))))
  ((v==0)&&(AE (0<=f)&&(AE (f<4)&&(EV a&&(AE (1<=l)&&(AE (l<31)&&(AE (1<=r)&&AE (r<31))))))))
def WS:D5
 |[.agg [.bool lf,.i v,.i f,.i a,.i l,.i r]]=>.ok (.bool (QY lf v f a l r)) []
 |_=>.no
def GI(a b:Int):Int:=GT (ic (B1 (A0 (AT AO) a&&&A0 (AT AO) b)))
def YF(a b:Int):Int:=GT (ic (B1 (A0 (AT AO) a|||A0 (AT AO) b)))
def OC(a:Int)(k:Nat):Int:=GT (a*2^k)
def HT(lf:Bool)(v f a l r:Int):Int:=
 cond (QY lf v f a l r)
  (cond lf (YF 9223372036854775808 (GI (GT v) 4294967295))
   (YF (YF (YF (GI (GT a) 4294967295) (OC (GT f) 32)) (OC (GT l) 40)) (OC (GT r) 48)))
  0
def SX:D5
 |[.agg [.bool lf,.i v,.i f,.i a,.i l,.i r]]=>.ok (.int .u64 (HT lf v f a l r)) []
 |_=>.no
def TM(lf:Bool)(v f a l r:Int):IV:=.agg [.bool lf,.int v,.int f,.int a,.int l,.int r]
def MS(v:Int):IV:=TM AC v 0 0 0 0
def TR(x:IV):IV:=.int (HT (x.cell 0).toBool (x.cell 1).toInt (x.cell 2).toInt (x.cell 3).toInt (x.cell 4).toInt (x.cell 5).toInt)
structure Ns where
 nodes:LI
 leaves:LI
def IZ(part:LI)(i:Nat)(s:Ns):Int:=D2 (part.getD i default).toInt 0 (ic s.leaves.length-1)
def RY(part:LI)(i:Nat)(s:Ns):Int:=(s.leaves.getD (IZ part i s).toNat default).toInt
def K2(part byl atl val:LI)(dim:Int)(i:Nat)(s:Ns):Ns:=
 ⟨s.nodes.set (RY part i s).toNat (TM AD 0 (D2 (E0 byl (i:Int)) 0 (dim-1)) (D2 (E0 atl (i:Int)) 0 9) (ic s.nodes.length) (ic s.nodes.length+1))++
   [MS (D2 (E0 val (2*(i:Int)+1)) (-3000) 3000),MS (D2 (E0 val (2*(i:Int)+2)) (-3000) 3000)],
  s.leaves.take (IZ part i s).toNat++s.leaves.drop ((IZ part i s).toNat+1)++[.int (ic s.nodes.length),.int (ic s.nodes.length+1)]⟩
def aS(part byl atl val:LI)(dim:Int):Nat->Nat->Ns->Ns
 |0,_,s=>s
 |d+1,i,s=>aS part byl atl val dim d (i+1) (K2 part byl atl val dim i s)
def PY(part byl atl val:LI)(dim:Int):Ns:=aS part byl atl val dim (min part.length 7) 0 ⟨[MS (D2 (E0 val 0) (-3000) 3000)],[.int 0]⟩
def NI(part byl atl val:LI)(dim:Int):LI:=(PY part byl atl val dim).nodes.map TR
def c9:D5
 |[.agg [.i _,.list AD [.z] part,.list AD [.z] byl,.list AD [.z] atl,.list AD [.z] val],.i dim]=>
  .br (AE (1<=dim)&&AE (dim<=4)) (.ok (.list AD [.int .u64] (NI part byl atl val dim)) []) .no
 |_=>.no
def OS(d:Int):Int:=D2 d 1 3
def LF(c:Int):Int:=D2 c 1 3
def S4(c:Int)(bias:LI)(j:Int):Int:=cond (AE (j<LF c)) (D2 (E0 bias j) (-500) 500) 0
def bP(d c:Int)(t:IV):IV:=.agg [.int (D2 (t.cell 0).toInt 0 (LF c-1)),.list (NI (t.cell 1).toList (t.cell 2).toList (t.cell 3).toList (t.cell 4).toList (OS d))]
def SF(d c:Int)(ts:LI):LI:=(ts.take 4).map (bP d c)
def j9:D5
 |[.agg [.i d,.i c,.list AD [.z] bias,.list AC [.z,.list AD [.z],.list AD [.z],.list AD [.z],.list AD [.z]] ts]]=>
  .ok (.agg [.i (OS d),.i (LF c),.i (S4 c bias 0),.i (S4 c bias 1),.i (S4 c bias 2),.list AC [.z,.list AD [.int .u64]] (SF d c ts)]) []
 |_=>.no
def F7(d:Int)(l:LI)(i:Int):Int:=cond (AE (i<d)) (D2 (E0 l (2*i)) (-2) 9) 0
def F8(d:Int)(l:LI)(i:Int):Int:=cond (AE (i<d)) (D2 (E0 l (2*i)) (-2) 9+D2 (E0 l (2*i+1)) 0 11) 0
def c7:D5
 |[.agg [.i d,.i _,.i _,.i _,.i _,.list AC [.z,.list AD [.int .u64]] _],.list AD [.z] l]=>
  .br (AE (0<=d)&&AE (d<=4)) (.ok (.agg [.i (F7 d l 0),.i (F8 d l 0),.i (F7 d l 1),.i (F8 d l 1),.i (F7 d l 2),.i (F8 d l 2),.i (F7 d l 3),.i (F8 d l 3),.i 0,.i 0]) []) .no
 |_=>.no
structure Ak where
 k:Int
 c:Int
 lo:Int
 size:Int
 ft:Int
 bu:Int
 fl:Bool
 sp:LI
def FU(a:Ak)(cls:Int):Int:=cond (D2 a.k 1 3==2&&AE (cls<2)) 1 (D2 a.k 1 3)
def KZ(a:Ak):Int:=D2 a.lo (-9000) 9000
def JZ(a:Ak)(dim cls:Int):Qy:=
 ⟨FU a cls,D2 a.c 0 (cls-1),F7 dim a.sp 0,F8 dim a.sp 0,F7 dim a.sp 1,F8 dim a.sp 1,F7 dim a.sp 2,F8 dim a.sp 2,F7 dim a.sp 3,F8 dim a.sp 3,0,0,
  cond (FU a cls==1) (KZ a) 0,cond (FU a cls==1) (KZ a+D2 a.size 0 18000) 0,cond (FU a cls==3) (D2 a.ft 0 (dim-1)) 0,cond (FU a cls==3) a.fl AD,D2 a.bu 0 65536⟩
def j8:D5
 |[.agg [.i k,.i c,.i lo,.i size,.i ft,.i bu,.bool fl,.list AD [.z] sp],.agg [.i dim,.i cls,.i _,.i _,.i _,.list AC [.z,.list AD [.int .u64]] _]]=>
  .br ((AE (1<=dim)&&AE (dim<=4))&&(AE (1<=cls)&&AE (cls<=3)))
   (.ok (.agg [.i (JZ ⟨k,c,lo,size,ft,bu,fl,sp⟩ dim cls).k,.i (JZ ⟨k,c,lo,size,ft,bu,fl,sp⟩ dim cls).c,
    .i (JZ ⟨k,c,lo,size,ft,bu,fl,sp⟩ dim cls).a0,.i (JZ ⟨k,c,lo,size,ft,bu,fl,sp⟩ dim cls).b0,.i (JZ ⟨k,c,lo,size,ft,bu,fl,sp⟩ dim cls).a1,.i (JZ ⟨k,c,lo,size,ft,bu,fl,sp⟩ dim cls).b1,
    .i (JZ ⟨k,c,lo,size,ft,bu,fl,sp⟩ dim cls).a2,.i (JZ ⟨k,c,lo,size,ft,bu,fl,sp⟩ dim cls).b2,.i (JZ ⟨k,c,lo,size,ft,bu,fl,sp⟩ dim cls).a3,.i (JZ ⟨k,c,lo,size,ft,bu,fl,sp⟩ dim cls).b3,
    .i (JZ ⟨k,c,lo,size,ft,bu,fl,sp⟩ dim cls).a4,.i (JZ ⟨k,c,lo,size,ft,bu,fl,sp⟩ dim cls).b4,.i (JZ ⟨k,c,lo,size,ft,bu,fl,sp⟩ dim cls).lo,.i (JZ ⟨k,c,lo,size,ft,bu,fl,sp⟩ dim cls).hi,
    .i (JZ ⟨k,c,lo,size,ft,bu,fl,sp⟩ dim cls).ft,.bool (JZ ⟨k,c,lo,size,ft,bu,fl,sp⟩ dim cls).fl,.i (JZ ⟨k,c,lo,size,ft,bu,fl,sp⟩ dim cls).bu]) []) .no
 |_=>.no
open Go Go.Proofs
def Wt(N:Nat):Env:=EI [] [] 15 N
theorem xq(N:Nat)(l:LI)(i:Int):EB (Wt N) Ah [.tmp 4] [[.z]] [.list AD [.z] l,.i i]=(cond (ic (AN l)==0) (AA (.i 0,[])) (cond (AE (ic (AN l)=0)) AB (cond (AE (0<=Int.tmod i (ic (AN l)))&&AE (Int.tmod i (ic (AN l))<ic (AN l))) (AA (.i (IV.toInt (AQ l (AM (Int.tmod i (ic (AN l)))) default)),[])) AB))):=AF
def Xa(N:Nat):Env:=EI [] [] 27 N
theorem yk(N:Nat)(n w:Int):EB (Xa N) Ap [.tmp 4] [[.bool]] [.i n,.i w]=(cond (AE (w<1)) (AA (.bool AD,[])) (cond (AE (w>64)) (AA (.bool AD,[])) (cond (w==64) (AA (.bool AC,[])) (cond (AE (AI AJ (w-1)<0)) AB (cond (AE (n>=AI AJ (0-AI AJ (1*2^min (AM (AI AJ (w-1))) (AT AJ))))) (AA (.bool (AE (n<=AI AJ (AI AJ (1*2^min (AM (AI AJ (w-1))) (AT AJ))-1))),[])) (AA (.bool AD,[]))))))):=AF
def Xe(N:Nat):Env:=EI [(134,SW)] [] 66 N
theorem yr(N:Nat)(u01:Bool)(u04 u00 n_At u02 u03:Int):EB (Xe N) Au [.tmp 2] [[.bool]] [.agg [.bool u01,.i u04,.i u00,.i n_At,.i u02,.i u03]]=(cond u01 (cond (EV u04) (cond (u00==0) (cond (n_At==0) (cond (u02==0) (AA (.bool (u03==0),[])) (AA (.bool AD,[]))) (AA (.bool AD,[]))) (AA (.bool AD,[]))) (AA (.bool AD,[]))) (cond (u04==0) (cond (AE (u00>=0)) (cond (AE (u00<4)) (cond (EV n_At) (cond (AE (u02>=1)) (cond (AE (u02<31)) (cond (AE (u03>=1)) (AA (.bool (AE (u03<31)),[])) (AA (.bool AD,[]))) (AA (.bool AD,[]))) (AA (.bool AD,[]))) (AA (.bool AD,[]))) (AA (.bool AD,[]))) (AA (.bool AD,[]))) (AA (.bool AD,[])))):=AF
def Xd(N:Nat):Env:=EI [(133,WS)] [] 32 N
theorem yp(N:Nat)(u01:Bool)(u04 u00 n_At u02 u03:Int):EB (Xd N) As [.tmp 2] [[.int .u64]] [.agg [.bool u01,.i u04,.i u00,.i n_At,.i u02,.i u03]]=(cond (!QY u01 u04 u00 n_At u02 u03) (AA (.int .u64 0,[])) (cond u01 (AA (.int .u64 (AI AO (ic (B1 (A0 (AT AO) 9223372036854775808|||A0 (AT AO) (AI AO (ic (B1 (A0 (AT AO) (AI AO u04)&&&A0 (AT AO) 4294967295)))))))),[])) (AA (.int .u64 (AI AO (ic (B1 (A0 (AT AO) (AI AO (ic (B1 (A0 (AT AO) (AI AO (ic (B1 (A0 (AT AO) (AI AO (ic (B1 (A0 (AT AO) (AI AO n_At)&&&A0 (AT AO) 4294967295))))|||A0 (AT AO) (AI AO (AI AO u00*2^min (AM 32) (AT AO)))))))|||A0 (AT AO) (AI AO (AI AO u02*2^min (AM 40) (AT AO)))))))|||A0 (AT AO) (AI AO (AI AO u03*2^min (AM 48) (AT AO))))))),[])))):=AF
def SO(N:Nat):Env:=EI [(32,OI),(35,ST)] [(3,⟨[1,4,5,9,10],[4,5],[]⟩)] 32 N
abbrev SJ(l1:LI)(x9 x10 u00 u01 u02 u03 u04 u05 u06 u07 u08 u09 u0a u0b u0c u0d u0e u0f u0g u0h u0i u0j:Int):St:=⟨[(1,(.list AD [.z] l1)),(4,(.ptr 4 0 0)),(5,(.ptr 5 0 0)),(9,(.i x9)),(10,(.i x10))],[(4,(AA (.box [.i u00,.i u01,.i u02,.i u03,.i u04,.i u05,.i u06,.i u07,.i u08,.i u09]))),(5,(AA (.box [.i u0a,.i u0b,.i u0c,.i u0d,.i u0e,.i u0f,.i u0g,.i u0h,.i u0i,.i u0j])))]⟩
theorem xl(N:Nat)(u04 u03 u00 u01 u02:Int)(u05 l:LI):EB (SO N) UY [.cell 4 37] [[.z,.z,.z,.z,.z,.z,.z,.z,.z,.z]] [.agg [.i u04,.i u03,.i u00,.i u01,.i u02,.list AC [.z,.list AD [.int .u64]] u05],.list AD [.z] l]=(D7 (SO N) (DU UY [1,1,0,1,0,0]) ⟨[1,4,5,9,10],[4,5],[]⟩ N (SJ l u04 0 0 0 0 0 0 0 0 0 0 0 0 0 0 0 0 0 0 0 0 0) (DZ 0 (D1 (SO N) (DU UY [1,1,1]) (D4 (SO N) AB [.cell 4 37] [[.z,.z,.z,.z,.z,.z,.z,.z,.z,.z]])))):=AF
theorem Sa(N:Nat)(l1:LI)(x9 x10 u00 u01 u02 u03 u04 u05 u06 u07 u08 u09 u0a u0b u0c u0d u0e u0f u0g u0h u0i u0j:Int)(again:St->DW)(k:Out->St->DW):E3 (SO N) (DU UY [1,1,0,1,0,0]) (SJ l1 x9 x10 u00 u01 u02 u03 u04 u05 u06 u07 u08 u09 u0a u0b u0c u0d u0e u0f u0g u0h u0i u0j) (ES again ⟨[1,4,5,9,10],[4,5],[]⟩ k)=(cond (AE (x10<x9)) (cond (AE (0<=AI AJ (2*x10))) (cond (AE (0<=AI AJ (AI AJ (2*x10)+1))) (cond (AE (x10=ic 0)) (again (SJ l1 x9 (AI AJ (x10+1)) u00 u01 u02 u03 u04 u05 u06 u07 u08 u09 (D2 (E0 l1 (AI AJ (2*x10))) (-2) 9) (AI AJ (D2 (E0 l1 (AI AJ (2*x10))) (-2) 9+D2 (E0 l1 (AI AJ (AI AJ (2*x10)+1))) 0 11)) u0c u0d u0e u0f u0g u0h u0i u0j)) (cond (AE (x10=ic 1)) (again (SJ l1 x9 (AI AJ (x10+1)) u00 u01 u02 u03 u04 u05 u06 u07 u08 u09 u0a u0b (D2 (E0 l1 (AI AJ (2*x10))) (-2) 9) (AI AJ (D2 (E0 l1 (AI AJ (2*x10))) (-2) 9+D2 (E0 l1 (AI AJ (AI AJ (2*x10)+1))) 0 11)) u0e u0f u0g u0h u0i u0j)) (cond (AE (x10=ic 2)) (again (SJ l1 x9 (AI AJ (x10+1)) u00 u01 u02 u03 u04 u05 u06 u07 u08 u09 u0a u0b u0c u0d (D2 (E0 l1 (AI AJ (2*x10))) (-2) 9) (AI AJ (D2 (E0 l1 (AI AJ (2*x10))) (-2) 9+D2 (E0 l1 (AI AJ (AI AJ (2*x10)+1))) 0 11)) u0g u0h u0i u0j)) (cond (AE (x10=ic 3)) (again (SJ l1 x9 (AI AJ (x10+1)) u00 u01 u02 u03 u04 u05 u06 u07 u08 u09 u0a u0b u0c u0d u0e u0f (D2 (E0 l1 (AI AJ (2*x10))) (-2) 9) (AI AJ (D2 (E0 l1 (AI AJ (2*x10))) (-2) 9+D2 (E0 l1 (AI AJ (AI AJ (2*x10)+1))) 0 11)) u0i u0j)) (cond (AE (x10=ic 4)) (again (SJ l1 x9 (AI AJ (x10+1)) u00 u01 u02 u03 u04 u05 u06 u07 u08 u09 u0a u0b u0c u0d u0e u0f u0g u0h (D2 (E0 l1 (AI AJ (2*x10))) (-2) 9) (AI AJ (D2 (E0 l1 (AI AJ (2*x10))) (-2) 9+D2 (E0 l1 (AI AJ (AI AJ (2*x10)+1))) 0 11)))) AB))))) AB) AB) (k (.exit 0) (SJ l1 x9 x10 u00 u01 u02 u03 u04 u05 u06 u07 u08 u09 u0a u0b u0c u0d u0e u0f u0g u0h u0i u0j))):=AF
theorem ij(N:Nat)(l1:LI)(x9 x10 u00 u01 u02 u03 u04 u05 u06 u07 u08 u09 u0a u0b u0c u0d u0e u0f u0g u0h u0i u0j:Int):(DZ 0 (D1 (SO N) (DU UY [1,1,1]) (D4 (SO N) AB [.cell 4 37] [[.z,.z,.z,.z,.z,.z,.z,.z,.z,.z]]))) (.exit 0) (SJ l1 x9 x10 u00 u01 u02 u03 u04 u05 u06 u07 u08 u09 u0a u0b u0c u0d u0e u0f u0g u0h u0i u0j)=(AA (.agg [.i u0a,.i u0b,.i u0c,.i u0d,.i u0e,.i u0f,.i u0g,.i u0h,.i u0i,.i u0j],[])):=AF
open Go Go.Proofs
def Wq(N:Nat):Env:=EI [(32,OI),(39,c7)] [] 58 N
theorem xj(N:Nat)(u04 u01 a_Lo u05 u03 u00:Int)(u02:Bool)(u06:LI)(u0b u0a u07 u08 u09:Int)(u0c:LI):EB (Wq N) Ae [.cell 4 39] [[.z,.z,.z,.z,.z,.z,.z,.z,.z,.z,.z,.z,.z,.z,.z,.bool,.z]] [.agg [.i u04,.i u01,.i a_Lo,.i u05,.i u03,.i u00,.bool u02,.list AD [.z] u06],.agg [.i u0b,.i u0a,.i u07,.i u08,.i u09,.list AC [.z,.list AD [.int .u64]] u0c]]=(cond (AE (MB 0 (AI AJ (u0a-1))=0)) AB (cond (AE (0<=u0b)&&AE (u0b<=4)) (cond (D2 u04 1 3==2) (cond (AE (u0a<2)) (AA (.agg [.i 1,.i (D2 u01 0 (AI AJ (u0a-1))),.i (F7 u0b u06 0),.i (F8 u0b u06 0),.i (F7 u0b u06 1),.i (F8 u0b u06 1),.i (F7 u0b u06 2),.i (F8 u0b u06 2),.i (F7 u0b u06 3),.i (F8 u0b u06 3),.i 0,.i 0,.i (D2 a_Lo (-9000) 9000),.i (AI AJ (D2 a_Lo (-9000) 9000+D2 u05 0 18000)),.i 0,.bool AD,.i (D2 u00 0 65536)],[])) (cond (D2 u04 1 3==1) (AA (.agg [.i (D2 u04 1 3),.i (D2 u01 0 (AI AJ (u0a-1))),.i (F7 u0b u06 0),.i (F8 u0b u06 0),.i (F7 u0b u06 1),.i (F8 u0b u06 1),.i (F7 u0b u06 2),.i (F8 u0b u06 2),.i (F7 u0b u06 3),.i (F8 u0b u06 3),.i 0,.i 0,.i (D2 a_Lo (-9000) 9000),.i (AI AJ (D2 a_Lo (-9000) 9000+D2 u05 0 18000)),.i 0,.bool AD,.i (D2 u00 0 65536)],[])) (AA (.agg [.i (D2 u04 1 3),.i (D2 u01 0 (AI AJ (u0a-1))),.i (F7 u0b u06 0),.i (F8 u0b u06 0),.i (F7 u0b u06 1),.i (F8 u0b u06 1),.i (F7 u0b u06 2),.i (F8 u0b u06 2),.i (F7 u0b u06 3),.i (F8 u0b u06 3),.i 0,.i 0,.i 0,.i 0,.i 0,.bool AD,.i (D2 u00 0 65536)],[])))) (cond (D2 u04 1 3==3) (cond (AE (MB 0 (AI AJ (u0b-1))=0)) AB (cond (D2 u04 1 3==1) (AA (.agg [.i (D2 u04 1 3),.i (D2 u01 0 (AI AJ (u0a-1))),.i (F7 u0b u06 0),.i (F8 u0b u06 0),.i (F7 u0b u06 1),.i (F8 u0b u06 1),.i (F7 u0b u06 2),.i (F8 u0b u06 2),.i (F7 u0b u06 3),.i (F8 u0b u06 3),.i 0,.i 0,.i (D2 a_Lo (-9000) 9000),.i (AI AJ (D2 a_Lo (-9000) 9000+D2 u05 0 18000)),.i (D2 u03 0 (AI AJ (u0b-1))),.bool u02,.i (D2 u00 0 65536)],[])) (AA (.agg [.i (D2 u04 1 3),.i (D2 u01 0 (AI AJ (u0a-1))),.i (F7 u0b u06 0),.i (F8 u0b u06 0),.i (F7 u0b u06 1),.i (F8 u0b u06 1),.i (F7 u0b u06 2),.i (F8 u0b u06 2),.i (F7 u0b u06 3),.i (F8 u0b u06 3),.i 0,.i 0,.i 0,.i 0,.i (D2 u03 0 (AI AJ (u0b-1))),.bool u02,.i (D2 u00 0 65536)],[])))) (cond (D2 u04 1 3==1) (AA (.agg [.i (D2 u04 1 3),.i (D2 u01 0 (AI AJ (u0a-1))),.i (F7 u0b u06 0),.i (F8 u0b u06 0),.i (F7 u0b u06 1),.i (F8 u0b u06 1),.i (F7 u0b u06 2),.i (F8 u0b u06 2),.i (F7 u0b u06 3),.i (F8 u0b u06 3),.i 0,.i 0,.i (D2 a_Lo (-9000) 9000),.i (AI AJ (D2 a_Lo (-9000) 9000+D2 u05 0 18000)),.i 0,.bool AD,.i (D2 u00 0 65536)],[])) (AA (.agg [.i (D2 u04 1 3),.i (D2 u01 0 (AI AJ (u0a-1))),.i (F7 u0b u06 0),.i (F8 u0b u06 0),.i (F7 u0b u06 1),.i (F8 u0b u06 1),.i (F7 u0b u06 2),.i (F8 u0b u06 2),.i (F7 u0b u06 3),.i (F8 u0b u06 3),.i 0,.i 0,.i 0,.i 0,.i 0,.bool AD,.i (D2 u00 0 65536)],[]))))) AB)):=AF
open Go Go.Proofs
theorem wE:D9 PR B0 35 ST:=by
 refine EJ [] [] ST [[.z]] Tryz.func35 om trivial ?_;intro vs r hwf h;unfold ST at h;split at h
 .rename_i l i;cases hc:AE (0<=i)with
  |false=>rw[hc]at h;simp[R.get]at h
  |true=>
   rw[hc,R.get_br,DS,R.get_ok]at h;have hc:=BB hc;refine⟨0,?_⟩;rw[<-h];refine(xq 0 l i).trans ?_;unfold E0;cases h0:(ic (AN l)==0)with
   |true=>rfl
   |false=>
    rw[UQ]at h0;have h0':=BM h0;have hl:0<(l.length:Int):=by simp only[ic]at h0';omega
    have t0:=Int.tmod_nonneg (l.length:Int) hc;have t1:=Int.tmod_lt_of_pos i hl;rw[DT,h0,DT,AL (show 0<=Int.tmod i (ic (AN l))from t0),AL (show Int.tmod i (ic (AN l))<ic (AN l)from t1),CJ,DS,DT]
 .simp[R.get]at h
theorem wH:D9 PR B0 134 SW:=by
 refine EJ [] [] SW [[.bool]] Tryz.func134 po trivial ?_;intro vs r hwf h;unfold SW at h;split at h
 .rename_i n w;cases hc:AE (w=32)with
  |false=>rw[hc]at h;simp[R.get]at h
  |true=>
   rw[hc,R.get_br,DS,R.get_ok]at h;have hc:=BB hc;subst hc;refine⟨0,?_⟩;rw[<-h];refine(yk 0 n 32).trans ?_;have e1:AI AJ (0-AI AJ (1*2^min (AM (AI AJ ((32:Int)-1))) (AT AJ)))= -2147483648:=by kernel_rfl
   have e2:AI AJ (AI AJ (1*2^min (AM (AI AJ ((32:Int)-1))) (AT AJ))-1)=2147483647:=by kernel_rfl
   have e3:AE (AI AJ ((32:Int)-1)<0)=AD:=by kernel_rfl
   rw[e1,e2,e3];unfold EV;have e4:AE (n>= -2147483648)=AE (-2147483648<=n):=rfl;rw[e4];cases AE (-2147483648<=n)<;>rfl
 .simp[R.get]at h
theorem Dk(a b:Bool):cond a (AA (V.bool b,[])) (AA (V.bool AD,[]))=(AA (V.bool (a&&b),[]):DW):=by cases a<;>rfl
theorem Po:D9 PR B0 133 WS:=by
 refine EJ [(134,SW)] [] WS [[.bool]] Tryz.func133 px ⟨wH,trivial⟩ ?_;intro vs r hwf h;unfold WS at h;split at h
 .rename_i lf v f a l r';refine⟨0,?_⟩;rw[<-h];refine(yr 0 lf v f a l r').trans ?_;simp only[R.get_ok,Dk];unfold QY;cases lf with
  |true=>rfl
  |false=>rfl
 .simp[R.get]at h
theorem wI:D9 PR B0 74 SX:=by
 refine EJ [(133,WS)] [] SX [[.int .u64]] Tryz.func74 pu ⟨Po,trivial⟩ ?_;intro vs r hwf h;unfold SX at h;split at h
 .rename_i lf v f a l r';refine⟨0,?_⟩;rw[<-h];refine(yp 0 lf v f a l r').trans ?_;unfold HT;cases QY lf v f a l r' with
  |false=>rfl
  |true=>cases lf<;>rfl
 .simp[R.get]at h
def M0(l:LI)(j:Int):Int:=D2 (E0 l (2*j)) (-2) 9
def L8(l:LI)(j:Int):Int:=D2 (E0 l (2*j)) (-2) 9+D2 (E0 l (2*j+1)) 0 11
def rgC(l:LI)(i:Nat):List V:=[.i (cond (BV 0 i) (M0 l 0) 0),.i (cond (BV 0 i) (L8 l 0) 0),.i (cond (BV 1 i) (M0 l 1) 0),.i (cond (BV 1 i) (L8 l 1) 0),.i (cond (BV 2 i) (M0 l 2) 0),.i (cond (BV 2 i) (L8 l 2) 0),.i (cond (BV 3 i) (M0 l 3) 0),.i (cond (BV 3 i) (L8 l 3) 0),.i 0,.i 0]
abbrev n8(l:LI)(D:Int)(i:Nat)(x:Int):St:=⟨[(1,(.list AD [.z] l)),(4,(.ptr 4 0 0)),(5,(.ptr 5 0 0)),(9,(.i D)),(10,(.i x))],[(4,(AA (.box [(.i 0),(.i 0),(.i 0),(.i 0),(.i 0),(.i 0),(.i 0),(.i 0),(.i 0),(.i 0)]))),(5,(AA (.box (rgC l i))))]⟩
theorem zff(l:LI)(j:Int):AI AJ (D2 (E0 l (2*j)) (-2) 9+D2 (E0 l (2*j+1)) 0 11)=L8 l j:=by
 obtain⟨_,a1,a2⟩:=HZ (n:=E0 l (2*j)) (lo:= -2) (hi:=9) AG AG AG;obtain⟨_,b1,b2⟩:=HZ (n:=E0 l (2*j+1)) (lo:=0) (hi:=11) AG AG AG;exact ER AG AG
theorem zcC(N:Nat)(l:LI)(D:Int)(i:Nat)(hi:(i:Int)<D)(h4:i<4)(again:St->DW)(k:Out->St->DW):
  E3 (SO N) (DU UY [1,1,0,1,0,0]) (n8 l D i (i:Int)) (ES again ⟨[1,4,5,9,10],[4,5],[]⟩ k)=again (n8 l D (i+1) ((i+1:Nat):Int)):=by
 refine(Sa N l D i 0 0 0 0 0 0 0 0 0 0 (cond (BV 0 i) (M0 l 0) 0) (cond (BV 0 i) (L8 l 0) 0) (cond (BV 1 i) (M0 l 1) 0) (cond (BV 1 i) (L8 l 1) 0) (cond (BV 2 i) (M0 l 2) 0) (cond (BV 2 i) (L8 l 2) 0) (cond (BV 3 i) (M0 l 3) 0) (cond (BV 3 i) (L8 l 3) 0) 0 0 again k).trans ?_;have w2:AI AJ (2*(i:Int))=2*(i:Int):=ER AG AG;have w3:AI AJ (2*(i:Int)+1)=2*(i:Int)+1:=ER AG AG;rw[AL hi,DS,w2,w3,AL (show 0<=2*(i:Int) by omega),DS,AL (show 0<=2*(i:Int)+1 by omega),DS,zff];have hi4:i=0\/i=1\/i=2\/i=3:=by omega
 rcases hi4 with rfl|rfl|rfl|rfl
 .rw[show AE (((0:Nat):Int)=ic 0)=AC from rfl,DS];rfl
 .rw[show AE (((1:Nat):Int)=ic 0)=AD from rfl,show AE (((1:Nat):Int)=ic 1)=AC from rfl,DT,DS];rfl
 .rw[show AE (((2:Nat):Int)=ic 0)=AD from rfl,show AE (((2:Nat):Int)=ic 1)=AD from rfl,show AE (((2:Nat):Int)=ic 2)=AC from rfl,DT,DT,DS];rfl
 .rw[show AE (((3:Nat):Int)=ic 0)=AD from rfl,show AE (((3:Nat):Int)=ic 1)=AD from rfl,show AE (((3:Nat):Int)=ic 2)=AD from rfl,show AE (((3:Nat):Int)=ic 3)=AC from rfl,DT,DT,DT,DS];rfl
theorem Na(N:Nat)(l:LI)(D:Nat)(hD:D<=4)(K:Out->St->DW):∀(d i n:Nat),i+d=D->d<n->
  D7 (SO N) (DU UY [1,1,0,1,0,0]) ⟨[1,4,5,9,10],[4,5],[]⟩ n (n8 l D i (i:Int)) K=K (.exit 0) (n8 l D D (D:Int))
 |0,i,n+1,hd,hn=>by
  have hi:i=D:=by omega
  subst hi;rw[ED];refine(Sa N l _ _ 0 0 0 0 0 0 0 0 0 0 (cond (BV 0 i) (M0 l 0) 0) (cond (BV 0 i) (L8 l 0) 0) (cond (BV 1 i) (M0 l 1) 0) (cond (BV 1 i) (L8 l 1) 0) (cond (BV 2 i) (M0 l 2) 0) (cond (BV 2 i) (L8 l 2) 0) (cond (BV 3 i) (M0 l 3) 0) (cond (BV 3 i) (L8 l 3) 0) 0 0 _ _).trans ?_;rw[AS (show¬(i:Int)<(i:Int) by omega),DT];rfl
 |d+1,i,n+1,hd,hn=>by
  rw[ED,zcC N l D i AG AG];exact Na N l D hD K d (i+1) n AG AG
 |_,_,0,_,h=>by omega
theorem zdK:D9 PR B0 39 c7:=by
 refine EJ [(32,OI),(35,ST)] [(3,⟨[1,4,5,9,10],[4,5],[]⟩)] c7 [[.z,.z,.z,.z,.z,.z,.z,.z,.z,.z]] Tryz.func39 oh
  ⟨jF,wE,trivial⟩ ?_
 intro vs r hwf h;unfold c7 at h;split at h
 .rename_i d c b0 b1 b2 ts l;cases hc:(AE (0<=d)&&AE (d<=4))with
  |false=>rw[hc]at h;simp[R.get]at h
  |true=>
   rw[hc,R.get_br,DS,R.get_ok]at h;simp only[AP,AW]at hc;refine⟨10,?_⟩;rw[<-h];refine(xl 10 d c b0 b1 b2 ts l).trans ?_;obtain⟨D,rfl⟩:∃D:Nat,d=D:=⟨d.toNat,by omega⟩;refine(Na 10 l D AG _ D 0 10 AG AG).trans ?_;refine(ij 10 l D D 0 0 0 0 0 0 0 0 0 0 (cond (BV 0 D) (M0 l 0) 0) (cond (BV 0 D) (L8 l 0) 0) (cond (BV 1 D) (M0 l 1) 0) (cond (BV 1 D) (L8 l 1) 0) (cond (BV 2 D) (M0 l 2) 0) (cond (BV 2 D) (L8 l 2) 0) (cond (BV 3 D) (M0 l 3) 0) (cond (BV 3 D) (L8 l 3) 0) 0 0).trans ?_;have hD:D=0\/D=1\/D=2\/D=3\/D=4:=by omega
   rcases hD with rfl|rfl|rfl|rfl|rfl<;>rfl
 .simp[R.get]at h
theorem zdI:D9 PR B0 9 j8:=by
 refine EJ [(32,OI),(39,c7)] [] j8 [[.z,.z,.z,.z,.z,.z,.z,.z,.z,.z,.z,.z,.z,.z,.z,.bool,.z]] Tryz.func9 oe
  ⟨jF,zdK,trivial⟩ ?_
 intro vs r hwf h;unfold j8 at h;split at h
 .rename_i k c lo size ft bu fl sp dim cls b0 b1 b2 ts;cases hc:((AE (1<=dim)&&AE (dim<=4))&&(AE (1<=cls)&&AE (cls<=3)))with
  |false=>rw[hc]at h;simp[R.get]at h
  |true=>
   rw[hc,R.get_br,DS,R.get_ok]at h;simp only[AP,AW]at hc;obtain⟨⟨d1,d4⟩,c1,c3⟩:=hc;refine⟨0,?_⟩;rw[<-h];refine(xj 0 k c lo size ft bu fl sp dim cls b0 b1 b2 ts).trans ?_;have w1:AI AJ (cls-1)=cls-1:=ER AG AG;have w2:AI AJ (dim-1)=dim-1:=ER AG AG;obtain⟨m1,_,_⟩:=HZ (n:=c) (lo:=0) (hi:=cls-1) AG AG AG;obtain⟨m2,_,_⟩:=HZ (n:=ft) (lo:=0) (hi:=dim-1) AG AG AG;obtain⟨_,l1,l2⟩:=HZ (n:=lo) (lo:= -9000) (hi:=9000) AG AG AG;obtain⟨_,s1,s2⟩:=HZ (n:=size) (lo:=0) (hi:=18000) AG AG AG;have w3:AI AJ (D2 lo (-9000) 9000+D2 size 0 18000)=D2 lo (-9000) 9000+D2 size 0 18000:=ER AG AG;rw[w1,w2,w3,m1,m2,AS (show¬(cls-1-0+1=0) by omega),AS (show¬(dim-1-0+1=0) by omega),AL (show 0<=dim by omega),AL (show dim<=4 by omega)];unfold JZ FU KZ;obtain⟨_,k1,k2⟩:=HZ (n:=k) (lo:=1) (hi:=3) AG AG AG;generalize D2 k 1 3=K at k1 k2;have hK:K=1\/K=2\/K=3:=by omega
   simp only;generalize AE (cls<2)=cl;rcases hK with rfl|rfl|rfl<;>cases cl<;>rfl
 .simp[R.get]at h
open Go
def SQ:D5
 |[.i n,.i w]=>.br (AE (w=32)) (.ok (.bool (EV n)) []) .no
 |_=>.no
def WN:D5
 |[.i a,.i w]=>.br (AE (0<=a)&&AE (a<64)) (.ok (.bool (AE (1<=w)&&AE (w<=64-a))) []) .no
 |_=>.no
def OY(w:Int):Int:=(18446744073709551615:Int).fdiv (2^(64-w).toNat)
def WO:D5
 |[.i w]=>.br (AE (1<=w)&&AE (w<=64)) (.ok (.int .u64 (OY w)) []) .no
 |_=>.no
def fV(a b:Int):Int:=GT (ic (B1 (A0 (AT AO) a&&& ~~~ (A0 (AT AO) b))))
def K5(x a w y:Int):Int:=YF (fV x (OC (OY w) a.toNat)) (GI (OC y a.toNat) (OC (OY w) a.toNat))
def HB(x a w:Int):Int:=GI (x.fdiv (2^a.toNat)) (OY w)
def cN:D5
 |[.int .u64 x,.i a,.i w,.int .u64 y]=>.br (AE (0<=a)&&(AE (a<64)&&(AE (1<=w)&&AE (w<=64-a)))) (.ok (.int .u64 (K5 x a w y)) []) .no
 |_=>.no
def SR:D5
 |[.int .u64 x,.i a,.i w]=>.br (AE (0<=a)&&(AE (a<64)&&(AE (1<=w)&&AE (w<=64-a)))) (.ok (.int .u64 (HB x a w)) []) .no
 |_=>.no
def KK(n:Int):Int:=(D6 (n*2^32)).fdiv (2^32)
def cP:D5
 |[.i n,.i w]=>.br (AE (w=32)) (.ok (.i (KK n)) []) .no
 |_=>.no
def L9(x:Int):Int:=KK (D6 (HB x 0 32))
def cO:D5
 |[.int .u64 x,.i a,.i w]=>.br (AE (a=0)&&AE (w=32)) (.ok (.i (L9 x)) []) .no
 |_=>.no
structure Nd where
 lf:Bool
 v:Int
 f:Int
 a:Int
 l:Int
 r:Int
def Nd.eq(x y:Nd):Bool:=(x.lf==y.lf)&&((x.v==y.v)&&((x.f==y.f)&&((x.a==y.a)&&((x.l==y.l)&&((x.r==y.r)&&AC)))))
def Nd.zero:Nd:=⟨AD,0,0,0,0,0⟩
def NY(n:Int):Bool:=AE (1<=n)&&AE (n<31)
def eQ:D5
 |[.i n]=>.ok (.bool (NY n)) []
 |_=>.no
def IQ(x:Nd):Bool:=
 cond x.lf (x.eq ⟨AC,x.v,0,0,0,0⟩&&EV x.v)
  ((x.v==0)&&(AE (0<=x.f)&&(AE (x.f<4)&&(EV x.a&&(NY x.l&&NY x.r)))))
def eJ:D5
 |[.agg [.bool lf,.i v,.i f,.i a,.i l,.i r]]=>.ok (.bool (IQ ⟨lf,v,f,a,l,r⟩)) []
 |_=>.no
def HG(x:Nd):Int:=
 cond (IQ x)
  (cond x.lf (K5 9223372036854775808 0 32 (GT x.v))
   (K5 (K5 (K5 (K5 0 0 32 (GT x.a)) 32 4 (GT x.f)) 40 8 (GT x.l)) 48 8 (GT x.r)))
  0
def WZ:D5
 |[.agg [.bool lf,.i v,.i f,.i a,.i l,.i r]]=>.ok (.int .u64 (HG ⟨lf,v,f,a,l,r⟩)) []
 |_=>.no
def L7(w:Int):Nd:=
 cond (HB w 63 1==0) ⟨AD,0,D6 (HB w 32 4),L9 w,D6 (HB w 40 8),D6 (HB w 48 8)⟩ ⟨AC,L9 w,0,0,0,0⟩
def FJ(w:Int):Bool:=!(w==0)&&(HG (L7 w)==w)
def DV(w:Int):Nd:=cond (FJ w) (L7 w) Nd.zero
def M8:D5
 |[.int .u64 w]=>.ok (.tup [.agg [.bool (DV w).lf,.i (DV w).v,.i (DV w).f,.i (DV w).a,.i (DV w).l,.i (DV w).r],.bool (FJ w)]) []
 |_=>.no
def eO:D5
 |[.i a,.i w,.bor [.int .u64 x]]=>.br (AE (0<=a)&&(AE (a<64)&&(AE (1<=w)&&AE (w<=64-a)))) (.ok (.i (D6 (HB x a w))) [[.int .u64 x]]) .no
 |_=>.no
def KQ(x:Nd)(j:Nat):Nat:=cond x.lf 0 ((if x.l=(j:Int)then 1 else 0)+(if x.r=(j:Int)then 1 else 0))
def G5(l:LI)(j:Nat):Nat:=(l.map λw=>KQ (DV w.toInt) j).sum
def N2(dim n:Int)(i:Nat)(x:Nd):Bool:=
 cond x.lf AC (!(AE (x.f>=dim))&&(!(x.l==x.r)&&(!(AE (min x.l x.r<=(i:Int)))&&!(AE (max x.l x.r>=n)))))
def IY(dim n:Int):Nat->LI->Bool
 |_,[]=>AC
 |i,w::r=>(FJ w.toInt&&N2 dim n i (DV w.toInt))&&IY dim n (i+1) r
def VH(l:LI):Bool:=(vaA (l.length-1)).all λj=>G5 l (j+1)==1
def F5(l:LI)(dim:Int):Bool:=(CF 1 l.length&&CF l.length 31)&&(IY dim (ic l.length) 0 l&&VH l)
def XB:D5
 |[.list AD [.int .u64] l,.i dim]=>.ok (.bool (F5 l dim)) []
 |_=>.no
structure Md where
 d:Int
 c:Int
 b0:Int
 b1:Int
 b2:Int
 ts:LI
def HN(d c:Int)(t:IV):Bool:=!(AE ((t.cell 0).toInt<0))&&(!(AE ((t.cell 0).toInt>=c))&&F5 (t.cell 1).toList d)
def GU(c j b:Int):Bool:=EV b&&!(AE (j>=c)&&!(b==0))
def ET(m:Md):Bool:=
 (!(AE (m.d<1))&&(!(AE (m.d>4))&&(!(AE (m.c<1))&&(!(AE (m.c>3))&&CF m.ts.length 8))))&&
  ((GU m.c 0 m.b0&&(GU m.c 1 m.b1&&GU m.c 2 m.b2))&&m.ts.all (HN m.d m.c))
abbrev G3:List Kd:=[.z,.list AD [.int .u64]]
def WY:D5
 |[.agg [.i k,.list AD [.int .u64] l],.bor [.i d,.i c,.i b0,.i b1,.i b2,.list AC [.z,.list AD [.int .u64]] ts]]=>
  .ok (.bool (!(HN d c (.agg [.int k,.list l])))) [[.i d,.i c,.i b0,.i b1,.i b2,.list AC G3 ts]]
 |_=>.no
def XW(d c:Int):LI->Int->Int
 |[],_=> -1
 |t::r,i=>cond (HN d c t) (XW d c r (i+1)) i
def fF:D5
 |[.list AC [.z,.list AD [.int .u64]] l,.clo 108 [.bor [.i d,.i c,.i b0,.i b1,.i b2,.list AC [.z,.list AD [.int .u64]] ts]]]=>
  .ok (.i (XW d c l 0)) [[.i d,.i c,.i b0,.i b1,.i b2,.list AC G3 ts]]
 |_=>.no
def fE:D5
 |[.list AC [.z,.list AD [.int .u64]] l,.clo 108 [.bor [.i d,.i c,.i b0,.i b1,.i b2,.list AC [.z,.list AD [.int .u64]] ts]]]=>
  .ok (.bool (!(l.all (HN d c)))) [[.i d,.i c,.i b0,.i b1,.i b2,.list AC G3 ts]]
 |_=>.no
def M7:D5
 |[.agg [.i d,.i c,.i b0,.i b1,.i b2,.list AC [.z,.list AD [.int .u64]] ts]]=>.ok (.bool (ET ⟨d,c,b0,b1,b2,ts⟩)) []
 |_=>.no
abbrev OD:BA:=⟨#[102,111,114,101,115,116]⟩
abbrev JS:BA:=⟨#[98,105,97,115]⟩
abbrev PD:BA:=⟨#[116,114,101,101]⟩
abbrev T4:BA:=⟨#[108,101,97,102]⟩
abbrev oO:BA:=⟨#[105,102]⟩
abbrev xU:BA:=⟨#[60,61]⟩
abbrev xV:BA:=⟨#[116,104,101,110]⟩
abbrev xS:BA:=⟨#[101,108,115,101]⟩
abbrev QB:BA:=⟨#[10]⟩
def FV(ws:List BA):BA:=GV ws HH++QB
def GL:List (List BA)->BA
 |[]=>CQ
 |l::r=>FV l++GL r
def MY(x:Nd):List BA:=
 cond x.lf [T4,D8 x.v] [oO,D0 x.f,xU,D8 x.a,xV,D0 x.l,xS,D0 x.r]
def IM(l:LI):List (List BA):=l.map λw=>MY (DV w.toInt)
def T2(t:IV):List (List BA):=[PD,D0 (t.cell 0).toInt,D0 (ic (t.cell 1).toList.length)]::IM (t.cell 1).toList
def G9:LI->List (List BA)
 |[]=>[]
 |t::r=>T2 t++G9 r
def TG(m:Md):List (List BA):=[[OD,D0 m.d,D0 m.c],JS::([m.b0,m.b1,m.b2].take m.c.toNat).map D8]
def MT(m:Md):List (List BA):=TG m++G9 m.ts
def H2(m:Md):BA:=cond (ET m) (GL (MT m)) YZ
def FS(s:BA)(most:Int):Int:=cond (OM s&&(!(AE (GK s<0))&&!(AE (GK s>most)))) (GK s) 0
def FG(ls:LI):LI:=match ls with|[]=>[]|l::_=>H1 l.toStr
def N9(l:LI):Nd:=
 cond ((EF l 0).toList==T4.toList) ⟨AC,GP (EF l 1),0,0,0,0⟩ ⟨AD,0,FS (EF l 1) 4,GP (EF l 3),FS (EF l 5) 31,FS (EF l 7) 31⟩
def NN(ls:LI)(k:Nat):LI:=(vaA k).map λi=>.int (HG (N9 (FG (ls.drop i))))
def NK(ls:LI):Nat:=(FS (EF (FG ls) 2) 31).toNat
def bA(ls:LI):IV:=.agg [.int (FS (EF (FG ls) 1) 3),.list (NN (ls.drop 1) (NK ls))]
def L6:Nat->LI->LI
 |0,_=>[]
 |n+1,ls=>match ls with
  |[]=>[]
  |l::r=>bA (l::r)::L6 n (r.drop (NK (l::r)))
def L5(ls:LI)(c:Int)(j:Nat):Int:=cond (AE ((j:Int)<c)) (GP (EF (FG (ls.drop 1)) (1+j))) 0
def a9(ls:LI):Int:=FS (EF (FG ls) 2) 3
def u9(ls:LI):Md:=⟨FS (EF (FG ls) 1) 4,a9 ls,L5 ls (a9 ls) 0,L5 ls (a9 ls) 1,L5 ls (a9 ls) 2,L6 9 (ls.drop 2)⟩
def QS(s t:BA):Bool:=AE (t.size<=s.size)&&(s.extract (s.size-t.size) s.size).toList==t.toList
def JA(s t:BA):BA:=cond (QS s t) (s.extract 0 (s.size-t.size)) s
def bR(s:BA):BA:=JA s QB
def VB(s:BA):LI:=(EP (bR s) QB).map IV.str
def Z3(s:BA):Md:=u9 (VB s)
def Md.zero:Md:=⟨0,0,0,0,0,[]⟩
def Q3(s:BA):Bool:=!(s.toList==YZ.toList)&&(H2 (Z3 s)).toList==s.toList
def JG(s:BA):Md:=cond (Q3 s) (Z3 s) Md.zero
def K3(l:LI):Bool:=l.all λx=>AE (x.toStr.size<4294967281)
def fJ:D5
 |[.bor [.bld s],.list AD [.str] ws]=>.br (CF ws.length 1000&&AE (s.size+(FV (ws.map IV.toStr)).size<=1000000000)) (.ok (.tup []) [[.bld (s++FV (ws.map IV.toStr))]]) .no
 |_=>.no
def S1:D5
 |[.agg [.i d,.i c,.i b0,.i b1,.i b2,.list AC [.z,.list AD [.int .u64]] ts]]=>.ok (.str (H2 ⟨d,c,b0,b1,b2,ts⟩)) []
 |_=>.no
def W8:D5
 |[.bor [.list AD [.str] ls]]=>.br (K3 ls) (.ok (.list AD [.str] (FG ls)) [[.list AD [.str] (ls.drop 1)]]) .no
 |_=>.no
def XA:D5
 |[.list AD [.str] l,.i i]=>.br (AE (0<=i)) (.ok (.str (EF l i.toNat)) []) .no
 |_=>.no
def W7:D5
 |[.str s,.i most]=>.ok (.i (FS s most)) []
 |_=>.no
def W9:D5
 |[.str s]=>.br (AE (s.size<4294967281)) (.ok (.i (GP s)) []) .no
 |_=>.no
def fK:D5
 |[.bor [.list AD [.str] ls]]=>.br (K3 ls) (.ok (.int .u64 (HG (N9 (FG ls)))) [[.list AD [.str] (ls.drop 1)]]) .no
 |_=>.no
def d9:D5
 |[.str s,.str t]=>.ok (.bool (QS s t)) []
 |_=>.no
def eB:D5
 |[.str s,.str t]=>.ok (.str (JA s t)) []
 |_=>.no
def W6:D5
 |[.str s,.str t]=>.ok (.str (JA s t)) []
 |_=>.no
def fI:D5
 |[.str s]=>.br (AE (s.size<4294967281)) (.ok (.tup [.agg [.i (JG s).d,.i (JG s).c,.i (JG s).b0,.i (JG s).b1,.i (JG s).b2,.list AC G3 (JG s).ts],.bool (Q3 s)]) []) .no
 |_=>.no
open Go Go.Proofs
def We(N:Nat):Env:=EI [] [] 25 N
theorem wn(N:Nat)(n w:Int):EB (We N) zW [.tmp 4] [[.bool]] [.i n,.i w]=(cond (AE (w<1)) (AA (.bool AD,[])) (cond (AE (w>64)) (AA (.bool AD,[])) (cond (AE (AI AO (AI AJ (w-1))<0)) AB (cond (C3 n (2^min (AM (AI AO (AI AJ (w-1)))) (AT AJ))==0) (AA (.bool AC,[])) (cond (AE (AI AO (AI AJ (w-1))<0)) AB (AA (.bool (C3 n (2^min (AM (AI AO (AI AJ (w-1)))) (AT AJ))== -1),[]))))))):=AF
def Wi(N:Nat):Env:=EI [] [] 21 N
theorem wt(N:Nat)(n w:Int):EB (Wi N) z6 [.tmp 4] [[.z]] [.i n,.i w]=(cond (AE (w<1)) (AA (.i n,[])) (cond (AE (w>=64)) (AA (.i n,[])) (cond (AE (AI AO (AI AJ (64-w))<0)) AB (cond (AE (AI AO (AI AJ (64-w))<0)) AB (AA (.i (C3 (AI AJ (n*2^min (AM (AI AO (AI AJ (64-w)))) (AT AJ))) (2^min (AM (AI AO (AI AJ (64-w)))) (AT AJ))),[])))))):=AF
def Wj(N:Nat):Env:=EI [] [] 21 N
theorem wu(N:Nat)(atv w:Int):EB (Wj N) z7 [.tmp 4] [[.bool]] [.i atv,.i w]=(cond (AE (atv>=0)) (cond (AE (atv<64)) (cond (AE (w>=1)) (AA (.bool (AE (w<=AI AJ (64-atv))),[])) (AA (.bool AD,[]))) (AA (.bool AD,[]))) (AA (.bool AD,[]))):=AF
def Wk(N:Nat):Env:=EI [] [] 7 N
theorem wv(N:Nat)(w:Int):EB (Wk N) z8 [.tmp 2] [[.int .u64]] [.i w]=(cond (AE (AI AO (AI AJ (64-w))<0)) AB (AA (.int .u64 (C3 18446744073709551615 (2^min (AM (AI AO (AI AJ (64-w)))) (AT AO))),[]))):=AF
def Wg(N:Nat):Env:=EI [(165,WN),(166,WO)] [] 30 N
theorem wq(N:Nat)(x atv w y:Int):EB (Wg N) zY [.tmp 8] [[.int .u64]] [.int .u64 x,.i atv,.i w,.int .u64 y]=(cond (AE (0<=atv)&&AE (atv<64)) (cond (! (AE (1<=w)&&AE (w<=64-atv))) (AA (.int .u64 x,[])) (cond (AE (1<=w)&&AE (w<=64)) (cond (AE (AI AO atv<0)) AB (cond (AE (AI AO atv<0)) AB (AA (.int .u64 (AI AO (ic (B1 (A0 (AT AO) (AI AO (ic (B1 (A0 (AT AO) x&&& ~~~A0 (AT AO) (AI AO (OY w*2^min (AM (AI AO atv)) (AT AO)))))))|||A0 (AT AO) (AI AO (ic (B1 (A0 (AT AO) (AI AO (y*2^min (AM (AI AO atv)) (AT AO)))&&&A0 (AT AO) (AI AO (OY w*2^min (AM (AI AO atv)) (AT AO))))))))))),[])))) AB)) AB):=AF
def Wf(N:Nat):Env:=EI [(165,WN),(166,WO)] [] 18 N
theorem wo(N:Nat)(x atv w:Int):EB (Wf N) zX [.tmp 6] [[.int .u64]] [.int .u64 x,.i atv,.i w]=(cond (AE (0<=atv)&&AE (atv<64)) (cond (! (AE (1<=w)&&AE (w<=64-atv))) (AA (.int .u64 0,[])) (cond (AE (AI AO atv<0)) AB (cond (AE (1<=w)&&AE (w<=64)) (AA (.int .u64 (AI AO (ic (B1 (A0 (AT AO) (C3 x (2^min (AM (AI AO atv)) (AT AO)))&&&A0 (AT AO) (OY w))))),[])) AB))) AB):=AF
def Wh(N:Nat):Env:=EI [(111,SR),(164,cP)] [] 14 N
theorem wr(N:Nat)(x atv w:Int):EB (Wh N) zZ [.tmp 6] [[.z]] [.int .u64 x,.i atv,.i w]=(cond (AE (0<=atv)&&(AE (atv<64)&&(AE (1<=w)&&AE (w<=64-atv)))) (cond (AE (w=32)) (AA (.i (KK (AI AJ (HB x atv w))),[])) AB) AB):=AF
def Yd(N:Nat):Env:=EI [] [] 9 N
theorem zaj(N:Nat)(n:Int):EB (Yd N) Bt [.tmp 2] [[.bool]] [.i n]=(cond (AE (n>=1)) (AA (.bool (AE (n<31)),[])) (AA (.bool AD,[]))):=AF
def Ya(N:Nat):Env:=EI [(106,SQ),(206,eQ)] [] 43 N
theorem zag(N:Nat)(u01:Bool)(u04 u00 n_At u02 u03:Int):EB (Ya N) Bq [.tmp 2] [[.bool]] [.agg [.bool u01,.i u04,.i u00,.i n_At,.i u02,.i u03]]=(cond u01 (cond (u01==AC&&(u04==u04&&(u00==0&&(n_At==0&&(u02==0&&(u03==0&&AC)))))) (AA (.bool (EV u04),[])) (AA (.bool AD,[]))) (cond (u04==0) (cond (AE (u00>=0)) (cond (AE (u00<4)) (cond (EV n_At) (cond (NY u02) (AA (.bool (NY u03),[])) (AA (.bool AD,[]))) (AA (.bool AD,[]))) (AA (.bool AD,[]))) (AA (.bool AD,[]))) (AA (.bool AD,[])))):=AF
def Xz(N:Nat):Env:=EI [(168,cN),(167,eJ)] [] 32 N
theorem zaf(N:Nat)(u01:Bool)(u04 u00 n_At u02 u03:Int):EB (Xz N) Bp [.tmp 2] [[.int .u64]] [.agg [.bool u01,.i u04,.i u00,.i n_At,.i u02,.i u03]]=(cond (!IQ {lf:=u01,v:=u04,f:=u00,a:=n_At,l:=u02,r:=u03}) (AA (.int .u64 0,[])) (cond u01 (AA (.int .u64 (K5 9223372036854775808 0 32 (AI AO u04)),[])) (AA (.int .u64 (K5 (K5 (K5 (K5 0 0 32 (AI AO n_At)) 32 4 (AI AO u00)) 40 8 (AI AO u02)) 48 8 (AI AO u03)),[])))):=AF
def Yc(N:Nat):Env:=EI [(111,SR)] [] 11 N
theorem zai(N:Nat)(a w x:Int):EB (Yc N) Bs [.tmp 5] [[.z]] [.i a,.i w,.bor [.int .u64 x]]=(cond (AE (0<=a)&&(AE (a<64)&&(AE (1<=w)&&AE (w<=64-a)))) (AA (.i (AI AJ (HB x a w)),[[.int .u64 x]])) AB):=AF
def Yb(N:Nat):Env:=EI [(111,SR),(110,cO),(113,WZ),(112,eO)] [] 33 N
theorem zah(N:Nat)(w:Int):EB (Yb N) Br [.cell 2 108,.tmp 3] [[.bool,.z,.z,.z,.z,.z],[.bool]] [.int .u64 w]=(cond (HB w 63 1==0) (cond (w==0) (AA (.tup [.agg [.bool AD,.i 0,.i 0,.i 0,.i 0,.i 0],.bool AD],[])) (cond (HG {lf:=AD,v:=0,f:=D6 (HB w 32 4),a:=L9 w,l:=D6 (HB w 40 8),r:=D6 (HB w 48 8)}!=w) (AA (.tup [.agg [.bool AD,.i 0,.i 0,.i 0,.i 0,.i 0],.bool AD],[])) (AA (.tup [.agg [.bool AD,.i 0,.i (D6 (HB w 32 4)),.i (L9 w),.i (D6 (HB w 40 8)),.i (D6 (HB w 48 8))],.bool AC],[])))) (cond (w==0) (AA (.tup [.agg [.bool AD,.i 0,.i 0,.i 0,.i 0,.i 0],.bool AD],[])) (cond (HG {lf:=AC,v:=L9 w,f:=0,a:=0,l:=0,r:=0}!=w) (AA (.tup [.agg [.bool AD,.i 0,.i 0,.i 0,.i 0,.i 0],.bool AD],[])) (AA (.tup [.agg [.bool AC,.i (L9 w),.i 0,.i 0,.i 0,.i 0],.bool AC],[]))))):=AF
open Go Go.Proofs
theorem xL{n:Int}(h0:0<=n)(h1:n<18446744073709551616):AI AO n=n:=by
 rw[Q4];omega
theorem wA:D9 PR B0 106 SQ:=by
 refine EJ [] [] SQ [[.bool]] Tryz.func106 mr trivial ?_;intro vs r hwf h;unfold SQ at h;split at h
 .rename_i n w;cases hc:AE (w=32)with
  |false=>rw[hc]at h;simp[R.get]at h
  |true=>
   rw[hc,R.get_br,DS,R.get_ok]at h;have hc:=BB hc;subst hc;refine⟨0,?_⟩;rw[<-h];refine(wn 0 n 32).trans ?_;have e3:AE (AI AO (AI AJ ((32:Int)-1))<0)=AD:=by kernel_rfl
   have e4:(2:Int)^min (AM (AI AO (AI AJ ((32:Int)-1)))) (AT AJ)=2147483648:=by kernel_rfl
   rw[e3,e4,AS (show¬(32:Int)<1 by omega),AS (show¬(32:Int)>64 by omega),DT,DT,DT,DT];have h0:=Int.fdiv_mul_add_fmod n 2147483648;have h1:=Int.fmod_nonneg_of_pos n (show(0:Int)<2147483648 by omega);have h2:=Int.fmod_lt_of_pos n (show(0:Int)<2147483648 by omega);generalize C3 n 2147483648=q at h0 ⊢;generalize Int.fmod n 2147483648=m at h0 h1 h2;unfold EV;rw[UQ,UQ];cases hq:AE (q=0)with
   |true=>
    have hq:=BB hq;rw[AL (show -2147483648<=n by omega),AL (show n<=2147483647 by omega)];rfl
   |false=>
    have hq:=BM hq;cases hp:AE (q= -1)with
    |true=>
     have hp:=BB hp;rw[AL (show -2147483648<=n by omega),AL (show n<=2147483647 by omega)];rfl
    |false=>
     have hp:=BM hp;rw[DT];congr 3
     symm
     rw[Bool.and_eq_false_iff,B6,B6];omega
 .simp[R.get]at h
theorem zdv:D9 PR B0 164 cP:=by
 refine EJ [] [] cP [[.z]] Tryz.func164 mw trivial ?_;intro vs r hwf h;unfold cP at h;split at h
 .rename_i n w;cases hc:AE (w=32)with
  |false=>rw[hc]at h;simp[R.get]at h
  |true=>
   rw[hc,R.get_br,DS,R.get_ok]at h;have hc:=BB hc;subst hc;refine⟨0,?_⟩;rw[<-h];refine(wt 0 n 32).trans ?_;have e3:AE (AI AO (AI AJ ((64:Int)-32))<0)=AD:=by kernel_rfl
   have e4:min (AM (AI AO (AI AJ ((64:Int)-32)))) (AT AJ)=32:=by kernel_rfl
   rw[e3,e4,AS (show¬(32:Int)<1 by omega),AS (show¬(32:Int)>=64 by omega),DT,DT,DT,DT];rfl
 .simp[R.get]at h
theorem Pj:D9 PR B0 165 WN:=by
 refine EJ [] [] WN [[.bool]] Tryz.func165 my trivial ?_;intro vs r hwf h;unfold WN at h;split at h
 .rename_i a w;cases hc:(AE (0<=a)&&AE (a<64))with
  |false=>rw[hc]at h;simp[R.get]at h
  |true=>
   rw[hc,R.get_br,DS,R.get_ok]at h;rw[AP,AW,AW]at hc;refine⟨0,?_⟩;rw[<-h];refine(wu 0 a w).trans ?_;have e:AI AJ (64-a)=64-a:=ER AG AG;have e1:AE (w>=1)=AE (1<=w):=rfl;rw[AL (show a>=0 by omega),AL hc.2,DS,DS,e,e1];cases AE (1<=w)<;>rfl
 .simp[R.get]at h
theorem Pk:D9 PR B0 166 WO:=by
 refine EJ [] [] WO [[.int .u64]] Tryz.func166 mz trivial ?_;intro vs r hwf h;unfold WO at h;split at h
 .rename_i w;cases hc:(AE (1<=w)&&AE (w<=64))with
  |false=>rw[hc]at h;simp[R.get]at h
  |true=>
   rw[hc,R.get_br,DS,R.get_ok]at h;rw[AP,AW,AW]at hc;refine⟨0,?_⟩;rw[<-h];refine(wv 0 w).trans ?_;have e:AI AJ (64-w)=64-w:=ER AG AG;have e2:AI AO (64-w)=64-w:=xL AG AG;have e3:min (64-w).toNat (AT AO)=(64-w).toNat:=by
    have:AT AO=64:=rfl
    omega
   rw[e,e2,e3,AS (show¬(64-w<0) by omega),DT];rfl
 .simp[R.get]at h
theorem Ff{a w:Int}(hc:(AE (0<=a)&&(AE (a<64)&&(AE (1<=w)&&AE (w<=64-a))))=AC):0<=a/\a<64/\1<=w/\w<=64-a:=by
 simpa only[AP,AW]using hc
theorem zdt:D9 PR B0 168 cN:=by
 refine EJ [(165,WN),(166,WO)] [] cN [[.int .u64]] Tryz.func168 mu ⟨Pj,Pk,trivial⟩ ?_;intro vs r hwf h;unfold cN at h;split at h
 .rename_i x a w y;cases hc:(AE (0<=a)&&(AE (a<64)&&(AE (1<=w)&&AE (w<=64-a))))with
  |false=>rw[hc]at h;simp[R.get]at h
  |true=>
   rw[hc,R.get_br,DS,R.get_ok]at h;obtain⟨h1,h2,h3,h4⟩:=Ff hc;refine⟨0,?_⟩;rw[<-h];refine(wq 0 x a w y).trans ?_;have e2:AI AO a=a:=xL AG AG;have e3:min a.toNat (AT AO)=a.toNat:=by
    have:AT AO=64:=rfl
    omega
   rw[e2,e3,AL h1,AL h2,AL h3,AL h4,AL (show w<=64 by omega),AS (show¬a<0 by omega)];simp only[BX,A9,DS,DT];rfl
 .simp[R.get]at h
theorem wB:D9 PR B0 111 SR:=by
 refine EJ [(165,WN),(166,WO)] [] SR [[.int .u64]] Tryz.func111 mt ⟨Pj,Pk,trivial⟩ ?_;intro vs r hwf h;unfold SR at h;split at h
 .rename_i x a w;cases hc:(AE (0<=a)&&(AE (a<64)&&(AE (1<=w)&&AE (w<=64-a))))with
  |false=>rw[hc]at h;simp[R.get]at h
  |true=>
   rw[hc,R.get_br,DS,R.get_ok]at h;obtain⟨h1,h2,h3,h4⟩:=Ff hc;refine⟨0,?_⟩;rw[<-h];refine(wo 0 x a w).trans ?_;have e2:AI AO a=a:=xL AG AG;have e3:min a.toNat (AT AO)=a.toNat:=by
    have:AT AO=64:=rfl
    omega
   rw[e2,e3,AL h1,AL h2,AL h3,AL h4,AL (show w<=64 by omega),AS (show¬a<0 by omega)];simp only[BX,A9,DS,DT];rfl
 .simp[R.get]at h
theorem zdu:D9 PR B0 110 cO:=by
 refine EJ [(111,SR),(164,cP)] [] cO [[.z]] Tryz.func110 mv ⟨wB,zdv,trivial⟩ ?_;intro vs r hwf h;unfold cO at h;split at h
 .rename_i x a w;cases hc:(AE (a=0)&&AE (w=32))with
  |false=>rw[hc]at h;simp[R.get]at h
  |true=>
   rw[hc,R.get_br,DS,R.get_ok]at h;rw[AP,AW,AW]at hc;obtain⟨rfl,rfl⟩:=hc;refine⟨0,?_⟩;rw[<-h];refine(wr 0 x 0 32).trans ?_;rfl
 .simp[R.get]at h
theorem zer:D9 PR B0 206 eQ:=by
 refine EJ [] [] eQ [[.bool]] Tryz.func206 ri trivial ?_;intro vs r hwf h;unfold eQ at h;split at h
 .rename_i n;refine⟨0,?_⟩;rw[R.get_ok]at h;rw[<-h];refine(zaj 0 n).trans ?_;unfold NY;have e1:AE (n>=1)=AE (1<=n):=rfl;rw[e1];cases AE (1<=n)<;>rfl
 .simp[R.get]at h
theorem zep:D9 PR B0 167 eJ:=by
 refine EJ [(106,SQ),(206,eQ)] [] eJ [[.bool]] Tryz.func167 re ⟨wA,zer,trivial⟩ ?_;intro vs r hwf h;unfold eJ at h;split at h
 .rename_i lf v f a l r';refine⟨0,?_⟩;rw[<-h];refine(zag 0 lf v f a l r').trans ?_;simp only[R.get_ok,Dk];unfold IQ;cases lf with
  |true=>rfl
  |false=>rfl
 .simp[R.get]at h
theorem Pz:D9 PR B0 113 WZ:=by
 refine EJ [(168,cN),(167,eJ)] [] WZ [[.int .u64]] Tryz.func113 rc ⟨zdt,zep,trivial⟩ ?_;intro vs r hwf h;unfold WZ at h;split at h
 .rename_i lf v f a l r';refine⟨0,?_⟩;rw[<-h];refine(zaf 0 lf v f a l r').trans ?_;unfold HG;cases IQ ⟨lf,v,f,a,l,r'⟩with
  |false=>rfl
  |true=>cases lf<;>rfl
 .simp[R.get]at h
theorem zeq:D9 PR B0 112 eO:=by
 refine EJ [(111,SR)] [] eO [[.z]] Tryz.func112 rh ⟨wB,trivial⟩ ?_;intro vs r hwf h;unfold eO at h;split at h
 .rename_i a w x;cases hc:(AE (0<=a)&&(AE (a<64)&&(AE (1<=w)&&AE (w<=64-a))))with
  |false=>rw[hc]at h;simp[R.get]at h
  |true=>
   rw[hc,R.get_br,DS,R.get_ok]at h;refine⟨0,?_⟩;rw[<-h];refine(zai 0 a w x).trans ?_;rw[hc];rfl
 .simp[R.get]at h
theorem bK:D9 PR B0 51 M8:=by
 refine EJ [(111,SR),(110,cO),(113,WZ),(112,eO)] [] M8 [[.bool,.z,.z,.z,.z,.z],[.bool]] Tryz.func51 rf ⟨wB,zdu,Pz,zeq,trivial⟩ ?_;intro vs r hwf h;unfold M8 at h;split at h
 .rename_i w;refine⟨0,?_⟩;rw[<-h];refine(zah 0 w).trans ?_;rw[R.get_ok];unfold DV FJ L7;cases(HB w 63 1==0)with
  |true=>
   simp only[BN];cases hw:(w==0)with
   |true=>rfl
   |false=>
    simp only[BC,BG,BE];have e:(HG ⟨AD,0,D6 (HB w 32 4),L9 w,D6 (HB w 40 8),D6 (HB w 48 8)⟩!=w)=!(HG ⟨AD,0,D6 (HB w 32 4),L9 w,D6 (HB w 40 8),D6 (HB w 48 8)⟩==w):=rfl;rw[e];cases(HG ⟨AD,0,D6 (HB w 32 4),L9 w,D6 (HB w 40 8),D6 (HB w 48 8)⟩==w)<;>rfl
  |false=>
   simp only[BC];cases hw:(w==0)with
   |true=>rfl
   |false=>
    simp only[BC,BG,BE];have e:(HG ⟨AC,L9 w,0,0,0,0⟩!=w)=!(HG ⟨AC,L9 w,0,0,0,0⟩==w):=rfl;rw[e];cases(HG ⟨AC,L9 w,0,0,0,0⟩==w)<;>rfl
 .simp[R.get]at h
open Go Go.Proofs
def IU(N:Nat):Env:=EI [(51,M8)] [(5,⟨[0,1,4,5,23,24,25],[22],[]⟩),(17,⟨[4,85,86,87],[22],[]⟩)] 94 N
abbrev PI(l0:LI)(x1:Int)(b4:Bool)(n5:Nat)(l23:LI)(x24 x25:Int)(lo22:LI):St:=⟨[(0,(.list AD [.int .u64] l0)),(1,(.i x1)),(4,(.bool b4)),(5,(.row 22 0 n5)),(23,(.list AD [.int .u64] l23)),(24,(.i x24)),(25,(.i x25))],[(22,(AA (.row AC 3 AD [.z] lo22)))]⟩
abbrev WF(b4:Bool)(n85:Nat)(x86 x87:Int)(lo22:LI):St:=⟨[(4,(.bool b4)),(85,(.row 22 1 n85)),(86,(.i x86)),(87,(.i x87))],[(22,(AA (.row AC 3 AD [.z] lo22)))]⟩
theorem zaT(N:Nat)(l:LI)(a1:Int):EB (IU N) MK [.tmp 4] [[.bool]] [.list AD [.int .u64] l,.i a1]=(cond (AE (ic (AN l)<1)) (AA (.bool AD,[])) (cond (AE (ic (AN l)>31)) (AA (.bool AD,[])) (cond (BV 0 (TI.size (Env.tyd (IU N) 3))&&(BV 3 1000000&&AE (0<=ic (AN l)))&&(AE (ic (AN l)=ic (AN l))&&AE (ic (AN l)*ic (TI.bytes (Env.tyd (IU N) 3))<=ic EM))) (D7 (IU N) (DU MK [1,1,1,0,1,0,0]) ⟨[0,1,4,5,23,24,25],[22],[]⟩ N (PI l a1 AD (AM (ic (AN l))) l (ic (AN l)) 0 (BU (AM (ic (AN l))) (IV.int 0))) (DZ 0 (D1 (IU N) (DU MK [1,1,1,1]) (D4 (IU N) AB [.tmp 4] [[.bool]])))) AB))):=AF
theorem Tn(N:Nat)(l0:LI)(x1:Int)(b4:Bool)(n5:Nat)(l23:LI)(x24 x25:Int)(lo22:LI)(again:St->DW)(k:Out->St->DW):E3 (IU N) (DU MK [1,1,1,0,1,0,0]) (PI l0 x1 b4 n5 l23 x24 x25 lo22) (ES again ⟨[0,1,4,5,23,24,25],[22],[]⟩ k)=(cond (AE (x25<x24)) (cond (AE (0<=x25)&&AE (x25<ic (AN l23))) (cond (!FJ (IV.toInt (AQ l23 (AM x25) default))) (k .ret (PI l0 x1 AD n5 l23 x24 x25 lo22)) (cond (Nd.lf (DV (IV.toInt (AQ l23 (AM x25) default)))) (again (PI l0 x1 b4 n5 l23 x24 (AI AJ (x25+1)) lo22)) (cond (AE (Nd.f (DV (IV.toInt (AQ l23 (AM x25) default)))>=x1)) (k .ret (PI l0 x1 AD n5 l23 x24 x25 lo22)) (cond (Nd.l (DV (IV.toInt (AQ l23 (AM x25) default)))==Nd.r (DV (IV.toInt (AQ l23 (AM x25) default)))) (k .ret (PI l0 x1 AD n5 l23 x24 x25 lo22)) (cond (AE (min (Nd.l (DV (IV.toInt (AQ l23 (AM x25) default)))) (Nd.r (DV (IV.toInt (AQ l23 (AM x25) default))))<=x25)) (k .ret (PI l0 x1 AD n5 l23 x24 x25 lo22)) (cond (AE (max (Nd.l (DV (IV.toInt (AQ l23 (AM x25) default)))) (Nd.r (DV (IV.toInt (AQ l23 (AM x25) default))))>=ic (AN l0))) (k .ret (PI l0 x1 AD n5 l23 x24 x25 lo22)) (cond (AE (0<=Nd.l (DV (IV.toInt (AQ l23 (AM x25) default))))&&AE (Nd.l (DV (IV.toInt (AQ l23 (AM x25) default)))<ic (n5-0))) (cond (AE (0<=Nd.l (DV (IV.toInt (AQ l23 (AM x25) default))))&&AE (Nd.l (DV (IV.toInt (AQ l23 (AM x25) default)))<ic (n5-0))) (cond (AE (0<=Nd.r (DV (IV.toInt (AQ l23 (AM x25) default))))&&AE (Nd.r (DV (IV.toInt (AQ l23 (AM x25) default)))<ic (n5-0))) (cond (AE (0<=Nd.r (DV (IV.toInt (AQ l23 (AM x25) default))))&&AE (Nd.r (DV (IV.toInt (AQ l23 (AM x25) default)))<ic (n5-0))) (again (PI l0 x1 b4 n5 l23 x24 (AI AJ (x25+1)) (vaM (vaM lo22 (0+AM (Nd.l (DV (IV.toInt (AQ l23 (AM x25) default))))) (LN AD [Kd.int AJ] (AQ lo22 (0+AM (Nd.l (DV (IV.toInt (AQ l23 (AM x25) default))))) default) 0 [IV.int (AI AJ (IV.toInt (AQ lo22 (0+AM (Nd.l (DV (IV.toInt (AQ l23 (AM x25) default))))) default)+1))])) (0+AM (Nd.r (DV (IV.toInt (AQ l23 (AM x25) default))))) (LN AD [Kd.int AJ] (AQ (vaM lo22 (0+AM (Nd.l (DV (IV.toInt (AQ l23 (AM x25) default))))) (LN AD [Kd.int AJ] (AQ lo22 (0+AM (Nd.l (DV (IV.toInt (AQ l23 (AM x25) default))))) default) 0 [IV.int (AI AJ (IV.toInt (AQ lo22 (0+AM (Nd.l (DV (IV.toInt (AQ l23 (AM x25) default))))) default)+1))])) (0+AM (Nd.r (DV (IV.toInt (AQ l23 (AM x25) default))))) default) 0 [IV.int (AI AJ (IV.toInt (AQ (vaM lo22 (0+AM (Nd.l (DV (IV.toInt (AQ l23 (AM x25) default))))) (LN AD [Kd.int AJ] (AQ lo22 (0+AM (Nd.l (DV (IV.toInt (AQ l23 (AM x25) default))))) default) 0 [IV.int (AI AJ (IV.toInt (AQ lo22 (0+AM (Nd.l (DV (IV.toInt (AQ l23 (AM x25) default))))) default)+1))])) (0+AM (Nd.r (DV (IV.toInt (AQ l23 (AM x25) default))))) default)+1))])))) AB) AB) AB) AB))))))) AB) (k (.exit 0) (PI l0 x1 b4 n5 l23 x24 x25 lo22))):=AF
theorem ld(N:Nat)(l0:LI)(x1:Int)(b4:Bool)(n5:Nat)(l23:LI)(x24 x25:Int)(lo22:LI):(DZ 0 (D1 (IU N) (DU MK [1,1,1,1]) (D4 (IU N) AB [.tmp 4] [[.bool]]))) (.exit 0) (PI l0 x1 b4 n5 l23 x24 x25 lo22)=(cond (AE (0<=1)&&AE (1<=ic (n5-0))) (D7 (IU N) (DU MK [1,1,1,1,0,1,0,0]) ⟨[4,85,86,87],[22],[]⟩ N (WF b4 (0+(n5-0)) (ic (0+(n5-0)-1)) 0 lo22) (DZ 2 (D1 (IU N) (DU MK [1,1,1,1,1]) (D4 (IU N) AB [.tmp 4] [[.bool]])))) AB):=AF
theorem lg(N:Nat)(l0:LI)(x1:Int)(b4:Bool)(n5:Nat)(l23:LI)(x24 x25:Int)(lo22:LI):(DZ 0 (D1 (IU N) (DU MK [1,1,1,1]) (D4 (IU N) AB [.tmp 4] [[.bool]]))) .ret (PI l0 x1 b4 n5 l23 x24 x25 lo22)=(AA (.bool b4,[])):=AF
theorem To(N:Nat)(b4:Bool)(n85:Nat)(x86 x87:Int)(lo22:LI)(again:St->DW)(k:Out->St->DW):E3 (IU N) (DU MK [1,1,1,1,0,1,0,0]) (WF b4 n85 x86 x87 lo22) (ES again ⟨[4,85,86,87],[22],[]⟩ k)=(cond (AE (x87<x86)) (cond (AE (0<=x87)&&AE (x87<ic (n85-1))) (cond (IV.toInt (AQ lo22 (1+AM x87) default)!=1) (k .ret (WF AD n85 x86 x87 lo22)) (again (WF b4 n85 x86 (AI AJ (x87+1)) lo22))) AB) (k (.exit 2) (WF b4 n85 x86 x87 lo22))):=AF
theorem lh(N:Nat)(b4:Bool)(n85:Nat)(x86 x87:Int)(lo22:LI):(DZ 2 (D1 (IU N) (DU MK [1,1,1,1,1]) (D4 (IU N) AB [.tmp 4] [[.bool]]))) (.exit 2) (WF b4 n85 x86 x87 lo22)=(AA (.bool AC,[])):=AF
theorem lj(N:Nat)(b4:Bool)(n85:Nat)(x86 x87:Int)(lo22:LI):(DZ 2 (D1 (IU N) (DU MK [1,1,1,1,1]) (D4 (IU N) AB [.tmp 4] [[.bool]]))) .ret (WF b4 n85 x86 x87 lo22)=(AA (.bool b4,[])):=AF
def Xy(N:Nat):Env:=EI [(109,XB)] [] 22 N
theorem zac(N:Nat)(k:Int)(l:LI)(d c b0 b1 b2:Int)(ts:LI):EB (Xy N) Bo [.tmp 3] [[.bool]] [.agg [.i k,.list AD [.int .u64] l],.bor [.i d,.i c,.i b0,.i b1,.i b2,.list AC [.z,.list AD [.int .u64]] ts]]=(cond (AE (k<0)) (AA (.bool AC,[[.i d,.i c,.i b0,.i b1,.i b2,.list AC [.z,.list AD [.int .u64]] ts]])) (cond (AE (k>=c)) (AA (.bool AC,[[.i d,.i c,.i b0,.i b1,.i b2,.list AC [.z,.list AD [.int .u64]] ts]])) (AA (.bool (!F5 l d),[[.i d,.i c,.i b0,.i b1,.i b2,.list AC [.z,.list AD [.int .u64]] ts]])))):=AF
def PL(N:Nat):Env:=EI [(108,WY)] [(2,⟨[0,1,4,7,8],[900000],[]⟩)] 19 N
abbrev WB(l0:LI)(x4 x7 x8 u01 u02 u03 u04 u05:Int)(u00:LI):St:=⟨[(0,(.list AC [.z,.list AD [.int .u64]] l0)),(1,(.clo 108 [.ptr 900000 0 0])),(4,(.i x4)),(7,(.i x7)),(8,(.i x8))],[(900000,(AA (.box [.i u01,.i u02,.i u03,.i u04,.i u05,.list AC [.z,.list AD [.int .u64]] u00])))]⟩
theorem zaD(N:Nat)(l:LI)(d c b0 b1 b2:Int)(ts:LI):EB (PL N) S7 [.tmp 4] [[.z]] [.list AC [.z,.list AD [.int .u64]] l,.clo 108 [.bor [.i d,.i c,.i b0,.i b1,.i b2,.list AC [.z,.list AD [.int .u64]] ts]]]=(D7 (PL N) (DU S7 [1,0,1,0,0]) ⟨[0,1,4,7,8],[900000],[]⟩ N (WB l 0 (ic (AN l)) 0 d c b0 b1 b2 ts) (DZ 0 (D1 (PL N) (DU S7 [1,1]) (D4 (PL N) (AA [.i d,.i c,.i b0,.i b1,.i b2,.list AC [.z,.list AD [.int .u64]] ts]) [.tmp 4] [[.z]])))):=AF
theorem Ti(N:Nat)(l0:LI)(x4 x7 x8 u01 u02 u03 u04 u05:Int)(u00:LI)(again:St->DW)(k:Out->St->DW):E3 (PL N) (DU S7 [1,0,1,0,0]) (WB l0 x4 x7 x8 u01 u02 u03 u04 u05 u00) (ES again ⟨[0,1,4,7,8],[900000],[]⟩ k)=(cond (AE (x8<x7)) (cond (AE (0<=x8)&&AE (x8<ic (AN l0))) (cond (!HN u01 u02 (IV.agg [IV.int (IV.toInt (IV.cell (AQ l0 (AM x8) default) 0)),IV.list (IV.toList (IV.cell (AQ l0 (AM x8) default) 1))])) (k .ret (WB l0 x8 x7 x8 u01 u02 u03 u04 u05 u00)) (again (WB l0 x4 x7 (AI AJ (x8+1)) u01 u02 u03 u04 u05 u00))) AB) (k (.exit 0) (WB l0 x4 x7 x8 u01 u02 u03 u04 u05 u00))):=AF
theorem ko(N:Nat)(d c b0 b1 b2:Int)(ts l0:LI)(x4 x7 x8 u01 u02 u03 u04 u05:Int)(u00:LI):(DZ 0 (D1 (PL N) (DU S7 [1,1]) (D4 (PL N) (AA [.i d,.i c,.i b0,.i b1,.i b2,.list AC [.z,.list AD [.int .u64]] ts]) [.tmp 4] [[.z]]))) (.exit 0) (WB l0 x4 x7 x8 u01 u02 u03 u04 u05 u00)=(AA (.i (-1),[[.i u01,.i u02,.i u03,.i u04,.i u05,.list AC [.z,.list AD [.int .u64]] u00]])):=AF
theorem kr(N:Nat)(d c b0 b1 b2:Int)(ts l0:LI)(x4 x7 x8 u01 u02 u03 u04 u05:Int)(u00:LI):(DZ 0 (D1 (PL N) (DU S7 [1,1]) (D4 (PL N) (AA [.i d,.i c,.i b0,.i b1,.i b2,.list AC [.z,.list AD [.int .u64]] ts]) [.tmp 4] [[.z]]))) .ret (WB l0 x4 x7 x8 u01 u02 u03 u04 u05 u00)=(AA (.i x4,[[.i u01,.i u02,.i u03,.i u04,.i u05,.list AC [.z,.list AD [.int .u64]] u00]])):=AF
def Yn(N:Nat):Env:=EI [(163,fF)] [] 9 N
theorem zaC(N:Nat)(l:LI)(d c b0 b1 b2:Int)(ts:LI):EB (Yn N) Cf [.tmp 4] [[.bool]] [.list AC [.z,.list AD [.int .u64]] l,.clo 108 [.bor [.i d,.i c,.i b0,.i b1,.i b2,.list AC [.z,.list AD [.int .u64]] ts]]]=(AA (.bool (AE (XW d c l 0>=0)),[[.i d,.i c,.i b0,.i b1,.i b2,.list AC [.z,.list AD [.int .u64]] ts]])):=AF
def OG(N:Nat):Env:=EI [(106,SQ),(108,WY),(107,fE)] [(4,⟨[1,2,30,31],[1,53005],[]⟩)] 54 N
abbrev LU(b2:Bool)(u01 u02 u03 x31 u04 u05 u06 u07 u08:Int)(u00:LI):St:=⟨[(1,(.ptr 1 0 0)),(2,(.bool b2)),(30,(.agg [.i u01,.i u02,.i u03])),(31,(.i x31))],[(1,(AA (.box [.i u04,.i u05,.i u06,.i u07,.i u08,.list AC [.z,.list AD [.int .u64]] u00]))),(53005,AB)]⟩
theorem zab(N:Nat)(u04 u03 u00 u01 u02:Int)(u05:LI):EB (OG N) RL [.tmp 2] [[.bool]] [.agg [.i u04,.i u03,.i u00,.i u01,.i u02,.list AC [.z,.list AD [.int .u64]] u05]]=(cond (AE (u04<1)) (AA (.bool AD,[])) (cond (AE (u04>4)) (AA (.bool AD,[])) (cond (AE (u03<1)) (AA (.bool AD,[])) (cond (AE (u03>3)) (AA (.bool AD,[])) (cond (AE (ic (AN u05)>8)) (AA (.bool AD,[])) (D7 (OG N) (DU RL [1,1,0,1,0,0]) ⟨[1,2,30,31],[1,53005],[]⟩ N (LU AD u00 u01 u02 0 u04 u03 u00 u01 u02 u05) (DZ 0 (D1 (OG N) (DU RL [1,1,1]) (D4 (OG N) AB [.tmp 2] [[.bool]]))))))))):=AF
theorem So(N:Nat)(b2:Bool)(u01 u02 u03 x31 u04 u05 u06 u07 u08:Int)(u00:LI)(again:St->DW)(k:Out->St->DW):E3 (OG N) (DU RL [1,1,0,1,0,0]) (LU b2 u01 u02 u03 x31 u04 u05 u06 u07 u08 u00) (ES again ⟨[1,2,30,31],[1,53005],[]⟩ k)=(cond (AE (x31<3)) (cond (AE (x31=ic 0)) (cond (!EV u01) (k .ret (LU AD u01 u02 u03 x31 u04 u05 u06 u07 u08 u00)) (cond (AE (x31>=u05)) (cond (u01 !=0) (k .ret (LU AD u01 u02 u03 x31 u04 u05 u06 u07 u08 u00)) (again (LU b2 u01 u02 u03 (AI AJ (x31+1)) u04 u05 u06 u07 u08 u00))) (again (LU b2 u01 u02 u03 (AI AJ (x31+1)) u04 u05 u06 u07 u08 u00)))) (cond (AE (x31=ic 1)) (cond (!EV u02) (k .ret (LU AD u01 u02 u03 x31 u04 u05 u06 u07 u08 u00)) (cond (AE (x31>=u05)) (cond (u02 !=0) (k .ret (LU AD u01 u02 u03 x31 u04 u05 u06 u07 u08 u00)) (again (LU b2 u01 u02 u03 (AI AJ (x31+1)) u04 u05 u06 u07 u08 u00))) (again (LU b2 u01 u02 u03 (AI AJ (x31+1)) u04 u05 u06 u07 u08 u00)))) (cond (AE (x31=ic 2)) (cond (!EV u03) (k .ret (LU AD u01 u02 u03 x31 u04 u05 u06 u07 u08 u00)) (cond (AE (x31>=u05)) (cond (u03 !=0) (k .ret (LU AD u01 u02 u03 x31 u04 u05 u06 u07 u08 u00)) (again (LU b2 u01 u02 u03 (AI AJ (x31+1)) u04 u05 u06 u07 u08 u00))) (again (LU b2 u01 u02 u03 (AI AJ (x31+1)) u04 u05 u06 u07 u08 u00)))) AB))) (k (.exit 0) (LU b2 u01 u02 u03 x31 u04 u05 u06 u07 u08 u00))):=AF
theorem jj(N:Nat)(b2:Bool)(u01 u02 u03 x31 u04 u05 u06 u07 u08:Int)(u00:LI):(DZ 0 (D1 (OG N) (DU RL [1,1,1]) (D4 (OG N) AB [.tmp 2] [[.bool]]))) (.exit 0) (LU b2 u01 u02 u03 x31 u04 u05 u06 u07 u08 u00)=(AA (.bool (!!List.all u00 (HN u04 u05)),[])):=AF
theorem jk(N:Nat)(b2:Bool)(u01 u02 u03 x31 u04 u05 u06 u07 u08:Int)(u00:LI):(DZ 0 (D1 (OG N) (DU RL [1,1,1]) (D4 (OG N) AB [.tmp 2] [[.bool]]))) .ret (LU b2 u01 u02 u03 x31 u04 u05 u06 u07 u08 u00)=(AA (.bool b2,[])):=AF
open Go Go.Proofs
theorem mX{l:LI}{i:Nat}{w:IV}(h:l[i]?=AA w)(j:Nat):G5 (l.take (i+1)) j=G5 (l.take i) j+KQ (DV w.toInt) j:=by
 unfold G5;rw[List.take_add_one,h];simp
theorem vy(x:Nd)(j:Nat):KQ x j<=2:=by
 unfold KQ;cases x.lf
 .simp only[BC];split<;>split<;>omega
 .simp only[BN];omega
theorem tI:∀(l:LI) (j:Nat),G5 l j<=2*l.length
 |[],_=>A5 _
 |w::l,j=>by
  have:=tI l j
  have:=vy (DV w.toInt) j
  unfold G5 at*;simp only[A8,vbc,AV];omega
def NM(l:LI)(i:Nat):LI:=(vaA l.length).map λj=>IV.int (G5 (l.take i) j:Nat)
theorem cJ(l:LI)(i:Nat):(NM l i).length=l.length:=by simp[NM]
theorem ZF(l:LI)(i:Nat){j:Nat}(h:j<l.length):(NM l i)[j]?=AA (IV.int (G5 (l.take i) j:Nat)):=by
 unfold NM;rw[CK,List.getElem?_range h];rfl
theorem Zf(l:LI):NM l 0=BU l.length (IV.int 0):=by
 apply List.ext_getElem?;intro j;by_cases h:j<l.length
 .rw[ZF l 0 h,List.getElem?_replicate,B3 h];simp[G5]
 .rw[B4 (by rw[cJ];omega),B4 (by simp;omega)]
theorem Ze{l:LI}{i:Nat}{w:IV}(h:l[i]?=AA w)(hl:(DV w.toInt).lf=AC):NM l (i+1)=NM l i:=by
 unfold NM;congr 1
 funext j
 rw[mX h];unfold KQ;rw[hl];rfl
theorem Zd{l:LI}{i:Nat}{w:IV}(h:l[i]?=AA w)(hl:(DV w.toInt).lf=AD)(hn:l.length<=31){a b:Nat}(ha:(DV w.toInt).l=(a:Int))(hb:(DV w.toInt).r=(b:Int))(hab:a≠b)(al:a<l.length)(bl:b<l.length):
  ((NM l i).set a (IV.int (AI AJ (((NM l i).getD a default).toInt+1)))).set b (IV.int (AI AJ ((((NM l i).set a (IV.int (AI AJ (((NM l i).getD a default).toInt+1)))).getD b default).toInt+1)))=NM l (i+1):=by
 have hil:i<l.length:=(B2.1 h).1;have hsm:∀j,G5 (l.take i) j<=62:=λj=>by
  have:=tI (l.take i) j
  rw[BJ]at this;omega
 have ga:((NM l i).getD a default).toInt=(G5 (l.take i) a:Nat):=by
  rw[BK,ZF l i al];rfl
 have gb:(((NM l i).set a (IV.int (AI AJ (((NM l i).getD a default).toInt+1)))).getD b default).toInt=(G5 (l.take i) b:Nat):=by
  rw[BK,vaG hab,ZF l i bl];rfl
 rw[gb,ga,ER AG (by have:=hsm a;omega),ER AG (by have:=hsm b;omega)];apply List.ext_getElem?;intro j;by_cases hj:j<l.length
 .rw[ZF l (i+1) hj,mX h];have e:KQ (DV w.toInt) j=(if a=j then 1 else 0)+(if b=j then 1 else 0):=by
   unfold KQ;rw[hl,ha,hb,BC];have e1:((a:Int)=(j:Int))↔a=j:=by omega
   have e2:((b:Int)=(j:Int))↔b=j:=by omega
   simp only[e1,e2]
  rw[e];by_cases h1:b=j
  .subst h1;rw[vbh (by rw[DP,cJ];exact bl),BO hab,B3 rfl];congr 2
  .rw[vaG h1];by_cases h2:a=j
   .subst h2;rw[vbh (by rw[cJ];exact al),B3 rfl,BO h1];congr 2
   .rw[vaG h2,ZF l i hj,BO h1,BO h2];congr 2
 .rw[B4 (by rw[DP,DP,cJ];omega),B4 (by rw[cJ];omega)]
abbrev oS(l:LI)(dim:Int)(b:Bool)(i:Int)(nm:LI):St:=
 ⟨[(0,(.list AD [(.int .u64)] l)),(1,(.i dim)),(4,(.bool b)),(5,(.row 22 0 l.length)),(23,(.list AD [(.int .u64)] l)),(24,(.i (ic l.length))),(25,(.i i))],[(22,(AA (.row AC 3 AD [.z] nm)))]⟩
theorem xJ(N:Nat)(l:LI)(dim:Int)(hl:l.length<=31)(K:Out->St->DW)(hK:∀i nm,K .ret (oS l dim AD i nm)=AA (.bool AD,[])):∀(d i n:Nat),i+d=l.length->d<n->
  D7 (IU N) (DU MK [1,1,1,0,1,0,0]) ⟨[0,1,4,5,23,24,25],[22],[]⟩ n (oS l dim AD (i:Int) (NM l i)) K=
   cond (IY dim (ic l.length) i (l.drop i)) (K (.exit 0) (oS l dim AD (ic l.length) (NM l l.length))) (AA (.bool AD,[]))
 |d,i,0,_,h=>absurd h AG
 |0,i,n+1,hd,_=>by
  have hi:i=l.length:=by omega
  subst hi;rw[ED,Tn];rw[AS (show¬((l.length:Nat):Int)<ic l.length by simp only[ic];omega),DT,C4];rfl
 |d+1,i,n+1,hd,hn=>by
  have hil:i<l.length:=by omega
  have hw:l[i]?=AA l[i]:=BF hil;rw[ED,Tn,BD hil];have hg:l.getD (AM (i:Int)) default=l[i]:=by
   rw[BH,BK,hw];rfl
  rw[hg];generalize l[i]=w at hw ⊢;have ei:AI AJ ((i:Int)+1)=((i+1:Nat):Int):=by
   rw[ER AG AG];omega
  rw[ei,AL (show(i:Int)<ic l.length by simp only[ic];omega),DS,AL (show(0:Int)<=(i:Int) by omega),BX,DS];unfold IY;cases hb:FJ w.toInt with
  |false=>
   simp only[BG,DS,BP,DT];exact hK (i:Int) (NM l i)
  |true=>
   simp only[A9,DT,BE];unfold N2;cases hlf:(DV w.toInt).lf with
   |true=>
    simp only[DS,BE];rw[<-Ze hw hlf];exact xJ N l dim hl K hK d (i+1) n AG AG
   |false=>
    simp only[DT];cases h1:AE ((DV w.toInt).f>=dim)with
    |true=>
     simp only[DS,A9,BP,DT];exact hK (i:Int) (NM l i)
    |false=>
    cases h2:((DV w.toInt).l==(DV w.toInt).r)with
    |true=>
     simp only[DS,DT,A9,BG,BP,DB];exact hK (i:Int) (NM l i)
    |false=>
    cases h3:AE (min (DV w.toInt).l (DV w.toInt).r<=(i:Int))with
    |true=>
     simp only[DS,DT,A9,BG,BP,DB];exact hK (i:Int) (NM l i)
    |false=>
    cases h4:AE (max (DV w.toInt).l (DV w.toInt).r>=ic l.length)with
    |true=>
     simp only[DS,DT,A9,BG,BP,DB];exact hK (i:Int) (NM l i)
    |false=>
     have g2:(DV w.toInt).l≠(DV w.toInt).r:=BI.1 h2;have g3:=BM h3;have g4:=BM h4;simp only[ic]at g4;obtain⟨a,ha⟩:∃a:Nat,(DV w.toInt).l=(a:Int):=⟨(DV w.toInt).l.toNat,by omega⟩;obtain⟨b,hb'⟩:∃b:Nat,(DV w.toInt).r=(b:Int):=⟨(DV w.toInt).r.toNat,by omega⟩;have hab:a≠b:=λe=>g2 (by rw[ha,hb',e])
     have al:a<l.length:=by omega
     have bl:b<l.length:=by omega
     have hN:=Zd hw hlf hl ha hb' hab al bl;rw[ha,hb'];rw[AL (show(0:Int)<=(a:Int) by omega),AL (show(0:Int)<=(b:Int) by omega),AL (show(a:Int)<ic (l.length-0) by simp only[ic];omega),AL (show(b:Int)<ic (l.length-0) by simp only[ic];omega)];simp only[DS,DT,BG,BX,BE,BH,BS];refine Eq.trans ?_ (xJ N l dim hl K hK d (i+1) n AG AG);rw[<-hN];rfl
abbrev zgf(l:LI)(b:Bool)(j:Int):St:=
 ⟨[(4,(.bool b)),(85,(.row 22 1 (0+(l.length-0)))),(86,(.i (ic (0+(l.length-0)-1)))),(87,(.i j))],[(22,(AA (.row AC 3 AD [.z] (NM l l.length))))]⟩
theorem Kn(N:Nat)(l:LI)(hl:l.length<=31):∀(d j n:Nat),j+d=l.length-1->d<n->
  D7 (IU N) (DU MK [1,1,1,1,0,1,0,0]) ⟨[4,85,86,87],[22],[]⟩ n (zgf l AD (j:Int)) (DZ 2 (D1 (IU N) (DU MK [1,1,1,1,1]) (D4 (IU N) AB [(B9 4)] [[.bool]])))=
   AA (.bool ((va8 j d).all λj=>G5 l (j+1)==1),[])
 |d,j,0,_,h=>absurd h AG
 |0,j,n+1,hd,_=>by
  rw[ED,To,AS (show¬(j:Int)<ic (0+(l.length-0)-1) by simp only[ic];omega),DT];exact lh N AD _ _ _ _
 |d+1,j,n+1,hd,hn=>by
  have ej:AI AJ ((j:Int)+1)=((j+1:Nat):Int):=by
   rw[ER AG AG];omega
  rw[ED,To,ej,AL (show(j:Int)<ic (0+(l.length-0)-1) by simp only[ic];omega),DS,AL (show(0:Int)<=(j:Int) by omega),BX,DS];have hg:((NM l l.length).getD (1+AM (j:Int)) default).toInt=(G5 l (j+1):Nat):=by
   rw[BH,Nat.add_comm 1 j,BK,ZF l l.length AG,BW];rfl
  rw[hg,List.range'_succ,van];have e:(((G5 l (j+1):Nat):Int)!=1)=!(G5 l (j+1)==1):=by
   show(!(((G5 l (j+1):Nat):Int)==1))=_;congr 1;rw[vac,CE,CE];omega
  rw[e];cases(G5 l (j+1)==1)with
  |false=>
   rw[BG,DS];exact lj N AD _ _ _ _
  |true=>
   rw[A9,DT,BE];exact Kn N l hl d (j+1) n AG AG
theorem zfA(N:Nat)(l:LI)(dim:Int)(hl:l.length<=31)(h1:1<=l.length)(hN:40<=N)(i:Int):
  (DZ 0 (D1 (IU N) (DU MK [1,1,1,1]) (D4 (IU N) AB [(B9 4)] [[.bool]]))) (.exit 0) (oS l dim AD i (NM l l.length))=AA (.bool (VH l),[]):=by
 refine(ld N l dim AD l.length l (ic l.length) i (NM l l.length)).trans ?_;rw[AL (show(0:Nat)<=1 by omega),AL (show(1:Int)<=ic (l.length-0) by simp only[ic];omega),BX,DS]
 have:=Kn N l hl (l.length-1) 0 N AG AG
 refine this.trans ?_;unfold VH;rw[List.range_eq_range']
theorem Qq:D9 PR B0 109 XB:=by
 refine EJ [(51,M8)] [(5,⟨[0,1,4,5,23,24,25],[22],[]⟩),(17,⟨[4,85,86,87],[22],[]⟩)] XB [[.bool]] Tryz.func109 tb ⟨bK,trivial⟩ ?_;intro vs r hwf h;unfold XB at h;split at h
 .rename_i l dim;refine⟨40,?_⟩;rw[R.get_ok]at h;rw[<-h];refine(zaT 40 l dim).trans ?_;unfold F5;by_cases h1:1<=l.length
  .by_cases h2:l.length<=31
   .have eb:ic (TI.bytes (Env.tyd (IU 40) 3))=8:=rfl;rw[AS (show¬ic l.length<1 by simp only[ic];omega),AS (show¬ic l.length>31 by simp only[ic];omega),DT,DT,eb,
     AL (show(0:Int)<=ic l.length by simp only[ic];omega),AL (show ic l.length=ic l.length from rfl),AL (show ic l.length*8<=ic EM by unfold EM;simp only[ic];omega)]
    have e0:(BV 0 (TI.size (Env.tyd (IU 40) 3))&&(BV 3 1000000&&AC)&&(AC&&AC))=AC:=rfl;have e1:AM (ic l.length)=l.length:=by simp only[ic];omega
    rw[e0,DS,e1,<-Zf,CU h1,CU h2];refine(xJ 40 l dim h2 _ (λi nm=>?_) l.length 0 40 AG AG).trans ?_
    .exact lg 40 l dim AD l.length l (ic l.length) i nm
    .rw[CA,zfA 40 l dim h2 h1 AG];cases IY dim (ic l.length) 0 l<;>rfl
   .have e:CF l.length 31=AD:=by
     cases hb:CF l.length 31 with
     |false=>rfl
     |true=>exact absurd (AX hb) h2
    rw[AS (show¬ic l.length<1 by simp only[ic];omega),AL (show ic l.length>31 by simp only[ic];omega),DT,DS,e,DB,BP]
  .have e:CF 1 l.length=AD:=by
    cases hb:CF 1 l.length with
    |false=>rfl
    |true=>exact absurd (AX hb) h1
   rw[AL (show ic l.length<1 by simp only[ic];omega),DS,e,BP,BP]
 .simp[R.get]at h
theorem Py:D9 PR B0 108 WY:=by
 refine EJ [(109,XB)] [] WY [[.bool]] Tryz.func108 qz ⟨Qq,trivial⟩ ?_;intro vs r hwf h;unfold WY at h;split at h
 .rename_i k l d c b0 b1 b2 ts;refine⟨0,?_⟩;rw[R.get_ok]at h;rw[<-h];refine(zac 0 k l d c b0 b1 b2 ts).trans ?_;have e:HN d c (.agg [.int k,.list l])=(!(AE (k<0))&&(!(AE (k>=c))&&F5 l d)):=rfl;rw[e];cases AE (k<0)with
  |true=>rfl
  |false=>
   cases AE (k>=c)with
   |true=>rfl
   |false=>rfl
 .simp[R.get]at h
abbrev zf6(l:LI)(d c b0 b1 b2:Int)(ts:LI)(r i:Int):St:=
 ⟨[(0,(.list AC [.z,(.list AD [(.int .u64)])] l)),(1,(.clo 108 [(.ptr 900000 0 0)])),(4,(.i r)),(7,(.i (ic l.length))),(8,(.i i))],[(900000,(AA (.box [(.i d),(.i c),(.i b0),(.i b1),(.i b2),(.list AC [.z,(.list AD [(.int .u64)])] ts)])))]⟩
theorem zfx(d c:Int)(t:IV):HN d c (.agg [.int (IV.toInt (IV.cell t 0)),.list (IV.toList (IV.cell t 1))])=HN d c t:=rfl
theorem Gq(N:Nat)(l:LI)(hl:l.length<=strMax)(d c b0 b1 b2:Int)(ts:LI):∀(m i n:Nat),i+m=l.length->m<n->
  D7 (PL N) (DU S7 [1,0,1,0,0]) ⟨[0,1,4,7,8],[900000],[]⟩ n (zf6 l d c b0 b1 b2 ts 0 (i:Int)) (DZ 0 (D1 (PL N) (DU S7 [1,1]) (D4 (PL N) (AA [(.i d),(.i c),(.i b0),(.i b1),(.i b2),(.list AC [.z,(.list AD [(.int .u64)])] ts)]) [(B9 4)] [[.z]])))=
   AA (.i (XW d c (l.drop i) (i:Int)),[[(.i d),(.i c),(.i b0),(.i b1),(.i b2),(.list AC G3 ts)]])
 |m,i,0,_,h=>absurd h AG
 |0,i,n+1,hd,_=>by
  have hi:i=l.length:=by omega
  subst hi;rw[ED,Ti,AS (show¬((l.length:Nat):Int)<ic l.length by simp only[ic];omega),DT,C4];exact ko N d c b0 b1 b2 ts l 0 (ic l.length) (l.length:Int) d c b0 b1 b2 ts
 |m+1,i,n+1,hd,hn=>by
  have hil:i<l.length:=by omega
  have m':strMax=140737488355327:=rfl;have ei:AI AJ ((i:Int)+1)=((i+1:Nat):Int):=by
   rw[ER AG AG];omega
  have hg:l.getD (AM (i:Int)) default=l[i]:=by
   rw[BH,BK,BF hil];rfl
  rw[ED,Ti,ei,hg,zfx,AL (show(i:Int)<ic l.length by simp only[ic];omega),DS,AL (show(0:Int)<=(i:Int) by omega),BX,DS,BD hil,XW];cases HN d c l[i]with
  |true=>
   rw[A9,DT,DS];exact Gq N l hl d c b0 b1 b2 ts m (i+1) n AG AG
  |false=>
   rw[BG,DS,DT];exact kr N d c b0 b1 b2 ts l (i:Int) (ic l.length) (i:Int) d c b0 b1 b2 ts
theorem zeG:D9 PR B0 163 fF:=by
 refine EJ [(108,WY)] [(2,⟨[0,1,4,7,8],[900000],[]⟩)] fF [[.z]] Tryz.func163 sd ⟨Py,trivial⟩ ?_;intro vs r hwf h;unfold fF at h;split at h
 .rename_i l d c b0 b1 b2 ts;refine⟨l.length+1,?_⟩;rw[R.get_ok]at h;rw[<-h];refine(zaD (l.length+1) l d c b0 b1 b2 ts).trans ?_;have hl:l.length<=strMax:=by
   have hb:=hwf (by simp[K4])
   have:=hb.1
   simp only[QC,wfL]at this;exact this.1
  exact Gq (l.length+1) l hl d c b0 b1 b2 ts l.length 0 (l.length+1) AG AG
 .simp[R.get]at h
theorem Gl(d c:Int):∀(l:LI) (i:Nat),AE (XW d c l (i:Int)>=0)=!(l.all (HN d c))
 |[],i=>rfl
 |t::l,i=>by
  unfold XW;rw[van];cases HN d c t with
  |true=>
   rw[DS,BE];exact Gl d c l (i+1)
  |false=>
   rw[DT,BP,AL (show(i:Int)>=0 by omega)];rfl
theorem zeF:D9 PR B0 107 fE:=by
 refine EJ [(163,fF)] [] fE [[.bool]] Tryz.func107 sc ⟨zeG,trivial⟩ ?_;intro vs r hwf h;unfold fE at h;split at h
 .rename_i l d c b0 b1 b2 ts;refine⟨0,?_⟩;rw[R.get_ok]at h;rw[<-h];refine(zaC 0 l d c b0 b1 b2 ts).trans ?_
  have:=Gl d c l 0
  rw[show((0:Nat):Int)=0 from rfl]at this;rw[this]
 .simp[R.get]at h
abbrev bX(d c b0 b1 b2:Int)(ts:LI)(b:Bool)(i:Int):St:=
 ⟨[(1,(.ptr 1 0 0)),(2,(.bool b)),(30,(.agg [(.i b0),(.i b1),(.i b2)])),(31,(.i i))],[(1,(AA (.box [(.i d),(.i c),(.i b0),(.i b1),(.i b2),(.list AC [.z,(.list AD [(.int .u64)])] ts)]))),(53005,AB)]⟩
theorem ak(c j b:Int){α:Type _}(x y:α):cond (!EV b) y (cond (AE (j>=c)) (cond (b !=0) y x) x)=cond (GU c j b) x y:=by
 unfold GU;have e:(b !=0)=!(b==0):=rfl;rw[e];cases EV b<;>cases AE (j>=c)<;>cases(b==0)<;>rfl
theorem pG(N:Nat)(d c b0 b1 b2:Int)(ts:LI)(j:Nat)(b:Int)(h:(j=0/\b=b0)\/(j=1/\b=b1)\/(j=2/\b=b2))(again:St->DW)(k:Out->St->DW):
  E3 (OG N) (DU RL [1,1,0,1,0,0]) (bX d c b0 b1 b2 ts AD (j:Int)) (ES again ⟨[1,2,30,31],[1,53005],[]⟩ k)=
   cond (GU c (j:Int) b) (again (bX d c b0 b1 b2 ts AD ((j+1:Nat):Int))) (k .ret (bX d c b0 b1 b2 ts AD (j:Int))):=by
 rw[So];have ej:AI AJ ((j:Int)+1)=((j+1:Nat):Int):=by
  rw[ER AG AG];omega
 rw[ej,<-ak,AL (show(j:Int)<3 by omega),DS];rcases h with⟨rfl,rfl⟩|⟨rfl,rfl⟩|⟨rfl,rfl⟩<;>rfl
theorem bJ:D9 PR B0 49 M7:=by
 refine EJ [(106,SQ),(108,WY),(107,fE)] [(4,⟨[1,2,30,31],[1,53005],[]⟩)] M7 [[.bool]] Tryz.func49 qy ⟨wA,Py,zeF,trivial⟩ ?_;intro vs r hwf h;unfold M7 at h;split at h
 .rename_i d c b0 b1 b2 ts;refine⟨6,?_⟩;rw[R.get_ok]at h;rw[<-h];refine(zab 6 d c b0 b1 b2 ts).trans ?_;have run:D7 (OG 6) (DU RL [1,1,0,1,0,0]) ⟨[1,2,30,31],[1,53005],[]⟩ 6 (bX d c b0 b1 b2 ts AD 0) (DZ 0 (D1 (OG 6) (DU RL [1,1,1]) (D4 (OG 6) AB [(B9 2)] [[.bool]])))=
    AA (.bool ((GU c 0 b0&&(GU c 1 b1&&GU c 2 b2))&&ts.all (HN d c)),[]):=by
   have e0:bX d c b0 b1 b2 ts AD 0=bX d c b0 b1 b2 ts AD ((0:Nat):Int):=rfl;have R2:=λj=>jk 6 AD b0 b1 b2 j d c b0 b1 b2 ts
   have R1:=λj=>jj 6 AD b0 b1 b2 j d c b0 b1 b2 ts
   rw[e0,ED,pG 6 d c b0 b1 b2 ts 0 b0 (by simp),R2];cases h0:GU c ((0:Nat):Int) b0 with
   |false=>rfl
   |true=>
    rw[DS,ED,pG 6 d c b0 b1 b2 ts 1 b1 (by simp),R2];cases h1:GU c ((1:Nat):Int) b1 with
    |false=>rfl
    |true=>
     rw[DS,ED,pG 6 d c b0 b1 b2 ts 2 b2 (by simp),R2];cases h2:GU c ((2:Nat):Int) b2 with
     |false=>rfl
     |true=>
      rw[DS,ED,So,AS (show¬((2+1:Nat):Int)<3 by omega),DT,R1,Bool.not_not];rfl
  unfold ET;cases AE (d<1)with
  |true=>rfl
  |false=>
  cases AE (d>4)with
  |true=>rfl
  |false=>
  cases AE (c<1)with
  |true=>rfl
  |false=>
  cases AE (c>3)with
  |true=>rfl
  |false=>
   simp only[DT,BG,BE];by_cases h8:ts.length<=8
   .rw[AS (show¬ic ts.length>8 by simp only[ic];omega),DT,CU h8,BE];exact run
   .have e:CF ts.length 8=AD:=by
     cases hb:CF ts.length 8 with
     |false=>rfl
     |true=>exact absurd (AX hb) h8
    rw[AL (show ic ts.length>8 by simp only[ic];omega),DS,e,BP]
 .simp[R.get]at h
open Go Go.Proofs
def Xn(N:Nat):Env:=EI [(43,SZ),(187,dX),(100,WV),(82,ZI),(55,kF),(102,ZK)] [] 76 N
theorem zh(N:Nat)(s:BA):EB (Xn N) Bd [.tmp 2,.tmp 3] [[.z],[.bool]] [.str s]=
 (cond (AE (AR (HO s {data:=#[45]})<4294967281))
 (cond (AE (ic (AR (HP (HO s {data:=#[45]}) {data:=#[46]}))>8))
 (AA (.tup [.i 0,.bool AD],[]))
 (cond (AE (0<=AI AJ (8-ic (AR (HP (HO s {data:=#[45]}) {data:=#[46]}))))&&AE (AR {data:=#[48]}*AM (AI AJ (8-ic (AR (HP (HO s {data:=#[45]}) {data:=#[46]}))))<=strMax))
 (cond (AE (AR (HP (HO s {data:=#[45]}) {data:=#[46]})+AR (IP {data:=#[48]} (AM (AI AJ (8-ic (AR (HP (HO s {data:=#[45]}) {data:=#[46]}))))))<=strMax))
 (cond (!JY (cutL (HO s {data:=#[45]}) {data:=#[46]}))
 (AA (.tup [.i 0,.bool AD],[]))
 (cond (!JY (HP (HO s {data:=#[45]}) {data:=#[46]}++IP {data:=#[48]} (AM (AI AJ (8-ic (AR (HP (HO s {data:=#[45]}) {data:=#[46]})))))))
 (AA (.tup [.i 0,.bool AD],[]))
 (cond (AE (G6 (cutL (HO s {data:=#[45]}) {data:=#[46]})>36028797018963968))
 (AA (.tup [.i 0,.bool AD],[]))
 (cond (Int.tmod (G6 (HP (HO s {data:=#[45]}) {data:=#[46]}++IP {data:=#[48]} (AM (AI AJ (8-ic (AR (HP (HO s {data:=#[45]}) {data:=#[46]}))))))) 390625!=0)
 (AA (.tup [.i 0,.bool AD],[]))
 (cond (U8 s {data:=#[45]})
 (cond (BY (D8 (AI AJ (AI AO (0-AI AO (AI AO (G6 (cutL (HO s {data:=#[45]}) {data:=#[46]})*2^min (AM 8) (AT AO))+AI AO (Int.tdiv (G6 (HP (HO s {data:=#[45]}) {data:=#[46]}++IP {data:=#[48]} (AM (AI AJ (8-ic (AR (HP (HO s {data:=#[45]}) {data:=#[46]}))))))) 390625))))))==BY s)
 (AA ((.tup [(.i (AI AJ (AI AO (0-AI AO (AI AO (G6 (cutL (HO s {data:=#[45]}) {data:=#[46]})*2^min (AM 8) (AT AO))+AI AO (Int.tdiv (G6 (HP (HO s {data:=#[45]}) {data:=#[46]}++IP {data:=#[48]} (AM (AI AJ (8-ic (AR (HP (HO s {data:=#[45]}) {data:=#[46]}))))))) 390625)))))),.bool AC]),[]))
 (AA (.tup [.i 0,.bool AD],[])))
 (cond (BY (D8 (AI AJ (AI AO (AI AO (G6 (cutL (HO s {data:=#[45]}) {data:=#[46]})*2^min (AM 8) (AT AO))+AI AO (Int.tdiv (G6 (HP (HO s {data:=#[45]}) {data:=#[46]}++IP {data:=#[48]} (AM (AI AJ (8-ic (AR (HP (HO s {data:=#[45]}) {data:=#[46]}))))))) 390625)))))==BY s)
 (AA ((.tup [(.i (AI AJ (AI AO (AI AO (G6 (cutL (HO s {data:=#[45]}) {data:=#[46]})*2^min (AM 8) (AT AO))+AI AO (Int.tdiv (G6 (HP (HO s {data:=#[45]}) {data:=#[46]}++IP {data:=#[48]} (AM (AI AJ (8-ic (AR (HP (HO s {data:=#[45]}) {data:=#[46]}))))))) 390625))))),.bool AC]),[]))
 (AA (.tup [.i 0,.bool AD],[]))))))))
 AB)
 AB))
 AB):=AF
open Go Go.Proofs
theorem Pr:D9 PR B0 100 WV:=by
 refine EJ [] [(3,⟨[0,1,2],[],[]⟩)] WV [[.int .u64]] Tryz.func100 qk trivial ?_;intro vs r hwf h;unfold WV at h;split at h
 .refine⟨9,?_⟩;rw[<-h];show EB (Xp 9) Bf [.tmp 0] [[.int .u64]] []=_
  kernel_rfl
 .simp[R.get]at h
theorem zcg{s:BA}(h:JY s=AC):0<s.size:=by
 unfold JY at h;split at h
 .rename_i v hv
  have:s.data.toList≠[]:=λe=>by rw[e]at hv;cases hv
  rw[TX];exact List.length_pos_iff.2 this
 .cases h
theorem zcf{s:BA}(h:JY s=AC):(AQ s.data.toList 0 0).toNat≠43:=by
 unfold JY at h;split at h
 .rename_i v hv;revert hv;cases s.data.toList with
  |nil=>intro _;decide
  |cons c r=>
   intro hv he;have he:c.toNat=43:=he;unfold Lib.parseMag at hv;rw[BO (by simp),vbA,BO AG]at hv;cases hv
 .cases h
theorem zea:D9 PR B0 187 dX:=by
 refine EJ [(225,kE)] [] dX [[.int .u64],[.bool]] Tryz.func187 qj ⟨zeL,trivial⟩ ?_;intro vs r hwf h;unfold dX at h;split at h
 .rename_i s;refine⟨0,?_⟩;rw[<-h];refine(zj 0 s).trans ?_;simp only[R.get_ok];cases hp:JY s with
  |false=>simp only[DT]
  |true=>
   have h1:(AE (0<=0)&&AE (0<ic (AR s)))=AC:=by
    have:=zcg hp
    simp[ic];omega
   have h2:(ic (UInt8.toNat (AQ (Array.toList (ByteArray.data s)) (AM 0) 0))!=43)=AC:=by
    have:=zcf hp
    rw[zK];simp only[ic,Int.toNat_zero];simp only[CC,B6];omega
   rw[h1,h2];simp only[DS]
 .simp[R.get]at h
theorem yA{n:Int}(h0:0<=n)(h1:n<18446744073709551616):AI .u64 n=n:=by rw[vbg];omega
theorem zf3{n:Int}(h0:n<0)(h1: -9223372036854775808<=n):AI .u64 (0-AI .u64 n)=(n.natAbs:Int):=by rw[vbg,vbg];omega
theorem zf4{n:Int}(h0:¬n<0)(h1:n<=9223372036854775807):AI .u64 n=(n.natAbs:Int):=by rw[vbg];omega
theorem yT(u:Nat)(h:u<18446744073709551616):AI .u64 (ic (B1 (A0 (AT AO) (u:Int)&&&A0 (AT AO) 255)))=((u%256:Nat):Int):=by
 have e:B1 (A0 (AT AO) (u:Int)&&&A0 (AT AO) 255)=u%256:=by
  have h1:(A0 (AT AO) (u:Int)).toNat=u:=by
   show(A0 64 (u:Int)).toNat=u;rw[BitVec.toNat_ofInt];omega
  have h2:(A0 (AT AO) 255).toNat=2^8-1:=by rfl
  rw[BitVec.toNat_and,h1,h2,Nat.and_two_pow_sub_one_eq_mod]
 rw[e];exact yA (by simp[ic];omega) (by simp[ic];omega)
theorem Pd(u:Nat):C3 (u:Int) (2^min (AM 8) (AT AO))=((u/256:Nat):Int):=by
 have e:(2:Int)^min (AM 8) (AT AO)=((256:Nat):Int):=rfl;rw[e,vaD _ AG];rfl
theorem Ji{r:Nat}(h:r<256):AI .u64 ((r:Int)*390625)=((r*390625:Nat):Int):=by
 rw[yA AG AG];omega
theorem tO(u:Nat):FK (u:Int)=⟨(CS u).toArray⟩:=rfl
theorem dz:(vaA 256).all (λr=>CF (CS (r*390625)).length 8)=AC:=AF
theorem dy{r:Nat}(h:r<256):(CS (r*390625)).length<=8:=by
 have:=CZ.1 dz r (vaF.2 h)
 exact AX this
theorem Ea(l:List UInt8):(⟨l.toArray⟩:BA).data.toList=l:=rfl
theorem gI(s t:BA):(s++t).data.toList=s.data.toList++t.data.toList:=by simp
theorem zdm(l:List UInt8):(⟨l.toArray⟩:BA).size=l.length:=by rw[TX]
theorem Lw{u:Nat}(hu:u<18446744073709551616)(sg:BA)(hsg:sg.size<=1)(K:BA)(hK:K=sg++⟨(JF u).toArray⟩):
  (cond (AE (AR sg+AR (FK ((u/256:Nat):Int))<=strMax))
   (cond (((u%256:Nat):Int)==0)
    (AA (.str (sg++FK ((u/256:Nat):Int)),[]))
    (cond (AE (AR (sg++FK ((u/256:Nat):Int))+AR {data:=#[46]}<=strMax))
     (cond (AE (0<=AI AJ (8-ic (AR (FK ((u%256*390625:Nat):Int)))))&&AE (AR {data:=#[48]}*AM (AI AJ (8-ic (AR (FK ((u%256*390625:Nat):Int)))))<=strMax))
      (cond (AE (AR (IP {data:=#[48]} (AM (AI AJ (8-ic (AR (FK ((u%256*390625:Nat):Int)))))))+AR (FK ((u%256*390625:Nat):Int))<=strMax))
       (cond (AE (AR (sg++FK ((u/256:Nat):Int)++{data:=#[46]})+AR (P8 (IP {data:=#[48]} (AM (AI AJ (8-ic (AR (FK ((u%256*390625:Nat):Int))))))++FK ((u%256*390625:Nat):Int)) {data:=#[48]})<=strMax))
        (AA ((.str (sg++FK ((u/256:Nat):Int)++{data:=#[46]}++P8 (IP {data:=#[48]} (AM (AI AJ (8-ic (AR (FK ((u%256*390625:Nat):Int))))))++FK ((u%256*390625:Nat):Int)) {data:=#[48]})),[]))
        AB)
       AB)
      AB)
     AB))
   AB)=(AA (V.str K,[]):DW):=by
 have hr:u%256<256:=by omega
 have l1:(FK ((u/256:Nat):Int)).size<=20:=tP AG AG;have l2:(FK ((u%256*390625:Nat):Int)).size=(CS (u%256*390625)).length:=by rw[tO,zdm]
 have l3:=dy hr;generalize hD:CS (u%256*390625)=D at l2 l3;have e8:AI AJ (8-ic (AR (FK ((u%256*390625:Nat):Int))))=((8-D.length:Nat):Int):=by
  rw[l2,ER (by simp[ic];omega) (by simp[ic];omega)];simp only[ic];omega
 rw[e8];simp only[BH];have s46:AR {data:=#[46]}=1:=rfl;have s48:AR {data:=#[48]}=1:=rfl;have l4:(IP {data:=#[48]} (8-D.length)).size=8-D.length:=by rw[vE,s48];omega
 have l5:=Uv (IP {data:=#[48]} (8-D.length)++FK ((u%256*390625:Nat):Int)) {data:=#[48]};rw[A7,l4,l2]at l5;rw[AL (show AR sg+AR (FK ((u/256:Nat):Int))<=strMax by unfold strMax;omega),
  AL (show AR (sg++FK ((u/256:Nat):Int))+AR {data:=#[46]}<=strMax by rw[A7,s46];unfold strMax;omega),
  AL (show(0:Int)<=((8-D.length:Nat):Int) by omega),
  AL (show AR {data:=#[48]}*(8-D.length)<=strMax by rw[s48];unfold strMax;omega),
  AL (show AR (IP {data:=#[48]} (8-D.length))+AR (FK ((u%256*390625:Nat):Int))<=strMax by rw[l4,l2];unfold strMax;omega),
  AL (show AR (sg++FK ((u/256:Nat):Int)++{data:=#[46]})+AR (P8 (IP {data:=#[48]} (8-D.length)++FK ((u%256*390625:Nat):Int)) {data:=#[48]})<=strMax by rw[A7,A7,s46];unfold strMax;omega)]
 simp only[DS,CJ];subst hK;by_cases h0:u%256=0
 .have e0:(((u%256:Nat):Int)==0)=AC:=by rw[UQ];exact AL AG
  rw[e0,DS]
  have:sg++FK ((u/256:Nat):Int)=sg++⟨(JF u).toArray⟩:=by
   apply US;rw[gI,gI,tO,Ea,Ea,JF,B3 h0,vad]
  rw[this]
 .have e0:(((u%256:Nat):Int)==0)=AD:=by rw[UQ];exact AS AG
  rw[e0,DT]
  have:sg++FK ((u/256:Nat):Int)++{data:=#[46]}++P8 (IP {data:=#[48]} (8-D.length)++FK ((u%256*390625:Nat):Int)) {data:=#[48]}=sg++⟨(JF u).toArray⟩:=by
   apply US;simp only[gI,tO,JF,BO h0,P8,IP,KX,hD,vax];rfl
  rw[this]
theorem wK:D9 PR B0 43 SZ:=by
 refine EJ [(100,WV),(99,kD),(102,ZK),(101,kG)] [] SZ [[.str]] Tryz.func43 qh ⟨Pr,zeK,Qk,zeN,trivial⟩ ?_;intro vs r hwf h;unfold SZ at h;split at h
 .rename_i n;refine⟨0,?_⟩;rw[<-h];refine(zg 0 n).trans ?_;simp only[R.get_ok];have hb:=(hwf (by simp[K4])).1;simp only[QC,wfL]at hb;obtain⟨h0,h1⟩:=hb;have e0:AJ.min= -9223372036854775808:=rfl;have e1:AJ.max=9223372036854775807:=rfl;rw[e0]at h0;rw[e1]at h1;have hu:n.natAbs<18446744073709551616:=by omega
  by_cases hn:n<0
  .rw[AL hn,DS,zf3 hn h0,Pd,yT _ hu,Ji AG];exact Lw hu ⟨#[45]⟩ (by decide) _ (by apply US;rw[gI];unfold D8 LM;rw[B3 hn];rfl)
  .rw[AS hn,DT,zf4 hn h1,Pd,yT _ hu,Ji AG];exact Lw hu ⟨#[]⟩ (by decide) _ (by apply US;rw[gI];unfold D8 LM;rw[BO hn];rfl)
 .simp[R.get]at h
open Go Go.Proofs
theorem Pq:D9 PR B0 131 WU:=by
 refine EJ [(43,SZ),(187,dX),(100,WV),(82,ZI),(55,kF),(102,ZK)] [] WU [[.z],[.bool]] Tryz.func131 qi
  ⟨wK,zea,Pr,Qi,zeM,Qk,trivial⟩ ?_
 intro vs r hwf h;unfold WU at h;split at h
 .rename_i s;refine⟨0,?_⟩;cases hs:AE (s.size<4294967281)with
  |false=>rw[hs]at h;simp[R.get]at h
  |true=>
   rw[hs,R.get_br,DS,R.get_ok]at h;have hs:=BB hs;rw[<-h];refine(zh 0 s).trans ?_;have hz:=Uu s {data:=#[45]};rw[AL (show AR (HO s {data:=#[45]})<4294967281 by omega),DS];have eW:cutL (HO s {data:=#[45]}) {data:=#[46]}=QM s:=rfl;have eP:HP (HO s {data:=#[45]}) {data:=#[46]}=J9 s:=rfl;have eM:U8 s {data:=#[45]}=U8 s YY:=rfl;rw[eW,eP,eM];unfold GP;by_cases h8:(J9 s).size<=8
   .have c1:AE (ic (AR (J9 s))>8)=AD:=AS (by simp only[ic];omega);have e8:AI AJ (8-ic (AR (J9 s)))=((8-(J9 s).size:Nat):Int):=by
     rw[ER (by simp only[ic];omega) (by simp only[ic];omega)];simp only[ic];omega
    rw[c1,DT,e8];simp only[BH];have s48:AR {data:=#[48]}=1:=rfl;have eF:J9 s++IP {data:=#[48]} (8-(J9 s).size)=N1 s:=rfl;have l4:(IP {data:=#[48]} (8-(J9 s).size)).size=8-(J9 s).size:=by rw[vE,s48];omega
    rw[AL (show(0:Int)<=((8-(J9 s).size:Nat):Int) by omega),AL (show AR {data:=#[48]}*(8-(J9 s).size)<=strMax by rw[s48];unfold strMax;omega),CJ,DS,
     AL (show AR (J9 s)+AR (IP {data:=#[48]} (8-(J9 s).size))<=strMax by rw[l4];unfold strMax;omega),DS,eF]
    have hw:=uV (QM s);have hf:=uV (N1 s);have b0:AO.min=0:=rfl;have b1:AO.max=18446744073709551615:=rfl;rw[b0,b1]at hw hf;have em:Int.tmod (G6 (N1 s)) 390625=G6 (N1 s)%390625:=Int.tmod_eq_emod_of_nonneg hf.1;have ed:AI AO (Int.tdiv (G6 (N1 s)) 390625)=G6 (N1 s)/390625:=by
     rw[Int.tdiv_eq_ediv_of_nonneg hf.1,yA AG AG]
    have e2:(2:Int)^min (AM 8) (AT AO)=256:=rfl;rw[em,ed,e2];have eS:AI AO (AI AO (G6 (QM s)*256)+G6 (N1 s)/390625)=QL s:=rfl;rw[eS];unfold XQ;rw[AL h8,qE,qF,zK];cases hp1:JY (QM s)with
    |false=>simp only[BG,DS,DT,BP,DB]
    |true=>
     cases hp2:JY (N1 s)with
     |false=>simp only[BG,A9,DS,DT,BP,DB]
     |true=>
      simp only[A9,DT,BE];cases hc:AE (36028797018963968<G6 (QM s))with
      |true=>simp only[A9,DS,DT,BP]
      |false=>
       cases hd:AE (G6 (N1 s)%390625=0)with
       |false=>simp only[BG,DS,DT,BP,BE]
       |true=>
        simp only[BG,A9,DT,BE];unfold gJ;cases hm:U8 s YY with
        |false=>
         simp only[DT];rw[show AI AJ (QL s)=D6 (QL s)from rfl,kS];cases AE (D8 (D6 (QL s))=s)<;>simp only[DS,DT]
        |true=>
         simp only[DS];rw[show AI AJ (AI AO (0-QL s))=D6 (GT (0-QL s))from rfl,kS];cases AE (D8 (D6 (GT (0-QL s)))=s)<;>simp only[DS,DT]
   .have c1:AE (ic (AR (J9 s))>8)=AC:=AL (by simp only[ic];omega);rw[c1,DS];unfold XQ;rw[AS h8,BP,DT]
 .simp[R.get]at h
open Go Go.Proofs
def JB(N:Nat):Env:=EI [(43,SZ),(49,M7),(51,M8),(42,RI),(47,UM),(50,fJ)] [(7,⟨[1,2,3,4,28,29,30],[1,3,500],[⟨.tmp 4,500,9,AD,[.str]⟩]⟩),(13,⟨[2,3,43,44,45],[3],[]⟩),(17,⟨[2,3,43,44,45,59,60,61],[3],[]⟩)] 94 N
abbrev WE(s2:BA)(n4 n28:Nat)(x29 x30 u02 u03 u04 u05 u06:Int)(u00:LI)(so3:BA)(u01:LI):St:=⟨[(1,(.ptr 1 0 0)),(2,(.str s2)),(3,(.ptr 3 0 0)),(4,(.row 500 0 n4)),(28,(.bview 1 2 3 1 n28)),(29,(.i x29)),(30,(.i x30))],[(1,(AA (.box [.i u02,.i u03,.i u04,.i u05,.i u06,.list AC [.z,.list AD [.int .u64]] u00]))),(3,(AA (.bld so3))),(500,(AA (.row AC 9 AD [.str] u01)))]⟩
abbrev cG(s2:BA)(l43:LI)(x44 x45:Int)(so3:BA):St:=⟨[(2,(.str s2)),(3,(.ptr 3 0 0)),(43,(.list AC [.z,.list AD [.int .u64]] l43)),(44,(.i x44)),(45,(.i x45))],[(3,(AA (.bld so3)))]⟩
abbrev Y7(s2:BA)(l43:LI)(x44 x45:Int)(l59:LI)(x60 x61:Int)(so3:BA):St:=⟨[(2,(.str s2)),(3,(.ptr 3 0 0)),(43,(.list AC [.z,.list AD [.int .u64]] l43)),(44,(.i x44)),(45,(.i x45)),(59,(.list AD [.int .u64] l59)),(60,(.i x60)),(61,(.i x61))],[(3,(AA (.bld so3)))]⟩
theorem zaM(N:Nat)(u04 u03 u00 u01 u02:Int)(u05:LI):EB (JB N) LE [.tmp 2] [[.str]] [.agg [.i u04,.i u03,.i u00,.i u01,.i u02,.list AC [.z,.list AD [.int .u64]] u05]]=(cond (!ET {d:=u04,c:=u03,b0:=u00,b1:=u01,b2:=u02,ts:=u05}) (AA ((.str ({data:=#[]})),[])) (cond (CF (AN (A3 0 (AU 3 [IV.str {data:=#[102,111,114,101,115,116]},IV.str (D0 u04),IV.str (D0 u03)]))) 1000&&AE (AR CQ+AR (FV (BQ IV.toStr (A3 0 (AU 3 [IV.str {data:=#[102,111,114,101,115,116]},IV.str (D0 u04),IV.str (D0 u03)]))))<=1000000000)) (cond (AE (0<=u03)&&AE (u03<=ic 3)) (D7 (JB N) (DU LE [1,1,1,1,1,0,1,0,0]) ⟨[1,2,3,4,28,29,30],[1,3,500],[⟨(.tmp 4),500,9,AD,[.str]⟩]⟩ N (WE ({data:=#[]}) 1 (AM u03) (ic (AM u03)) 0 u04 u03 u00 u01 u02 u05 (CQ++FV (BQ IV.toStr (A3 0 (AU 3 [IV.str {data:=#[102,111,114,101,115,116]},IV.str (D0 u04),IV.str (D0 u03)])))) [(IV.str {data:=#[98,105,97,115]})]) (DZ 0 (D1 (JB N) (DU LE [1,1,1,1,1,1]) (D4 (JB N) AB [.tmp 2] [[.str]])))) AB) AB)):=AF
theorem oC(N:Nat)(s2:BA)(n4 n28:Nat)(x29 x30 u02 u03 u04 u05 u06:Int)(u00:LI)(so3:BA)(u01:LI)(again:St->DW)(k:Out->St->DW):E3 (JB N) (DU LE [1,1,1,1,1,0,1,0,0]) (WE s2 n4 n28 x29 x30 u02 u03 u04 u05 u06 u00 so3 u01) (ES again ⟨[1,2,3,4,28,29,30],[1,3,500],[⟨(.tmp 4),500,9,AD,[.str]⟩]⟩ k)=(cond (AE (x30<x29)) (cond (AE (x30<ic n28)) (cond (AE (x30=ic 0)) (cond (AE ((n4+AN (A3 0 (AU 1 [IV.str (D8 u04)])))*TI.bytes (Env.tyd (JB N) 9)<=EM)) (again (WE s2 (n4+AN (A3 0 (AU 1 [IV.str (D8 u04)]))) n28 x29 (AI AJ (x30+1)) u02 u03 u04 u05 u06 u00 so3 (AU n4 u01++A3 0 (AU 1 [IV.str (D8 u04)])))) AB) (cond (AE (x30=ic 1)) (cond (AE ((n4+AN (A3 0 (AU 1 [IV.str (D8 u05)])))*TI.bytes (Env.tyd (JB N) 9)<=EM)) (again (WE s2 (n4+AN (A3 0 (AU 1 [IV.str (D8 u05)]))) n28 x29 (AI AJ (x30+1)) u02 u03 u04 u05 u06 u00 so3 (AU n4 u01++A3 0 (AU 1 [IV.str (D8 u05)])))) AB) (cond (AE (x30=ic 2)) (cond (AE ((n4+AN (A3 0 (AU 1 [IV.str (D8 u06)])))*TI.bytes (Env.tyd (JB N) 9)<=EM)) (again (WE s2 (n4+AN (A3 0 (AU 1 [IV.str (D8 u06)]))) n28 x29 (AI AJ (x30+1)) u02 u03 u04 u05 u06 u00 so3 (AU n4 u01++A3 0 (AU 1 [IV.str (D8 u06)])))) AB) AB))) AB) (k (.exit 0) (WE s2 n4 n28 x29 x30 u02 u03 u04 u05 u06 u00 so3 u01))):=AF
theorem kz(N:Nat)(s2:BA)(n4 n28:Nat)(x29 x30 u02 u03 u04 u05 u06:Int)(u00:LI)(so3:BA)(u01:LI):(DZ 0 (D1 (JB N) (DU LE [1,1,1,1,1,1]) (D4 (JB N) AB [.tmp 2] [[.str]]))) (.exit 0) (WE s2 n4 n28 x29 x30 u02 u03 u04 u05 u06 u00 so3 u01)=(cond (CF (AN (A3 0 (AU n4 u01))) 1000&&AE (AR so3+AR (FV (BQ IV.toStr (A3 0 (AU n4 u01))))<=1000000000)) (D7 (JB N) (DU LE [1,1,1,1,1,1,1,0,1,0,0]) ⟨[2,3,43,44,45],[3],[]⟩ N (cG s2 u00 (ic (AN u00)) 0 (so3++FV (BQ IV.toStr (A3 0 (AU n4 u01))))) (DZ 2 (D1 (JB N) (DU LE [1,1,1,1,1,1,1,1]) (D4 (JB N) AB [.tmp 2] [[.str]])))) AB):=AF
theorem Tl(N:Nat)(s2:BA)(l43:LI)(x44 x45:Int)(so3:BA)(again:St->DW)(k:Out->St->DW):E3 (JB N) (DU LE [1,1,1,1,1,1,1,0,1,0,0]) (cG s2 l43 x44 x45 so3) (ES again ⟨[2,3,43,44,45],[3],[]⟩ k)=(cond (AE (x45<x44)) (cond (AE (0<=x45)&&AE (x45<ic (AN l43))) (cond (CF (AN (A3 0 (AU 3 [IV.str {data:=#[116,114,101,101]},IV.str (D0 (IV.toInt (IV.cell (AQ l43 (AM x45) default) 0))),IV.str (D0 (ic (AN (IV.toList (IV.cell (AQ l43 (AM x45) default) 1)))))]))) 1000&&AE (AR so3+AR (FV (BQ IV.toStr (A3 0 (AU 3 [IV.str {data:=#[116,114,101,101]},IV.str (D0 (IV.toInt (IV.cell (AQ l43 (AM x45) default) 0))),IV.str (D0 (ic (AN (IV.toList (IV.cell (AQ l43 (AM x45) default) 1)))))]))))<=1000000000)) (D7 (JB N) (DU LE [1,1,1,1,1,1,1,0,1,0,0,1,1,0,0,1,1,1,0,0]) ⟨[2,3,43,44,45,59,60,61],[3],[]⟩ N (Y7 s2 l43 x44 x45 (IV.toList (IV.cell (AQ l43 (AM x45) default) 1)) (ic (AN (IV.toList (IV.cell (AQ l43 (AM x45) default) 1)))) 0 (so3++FV (BQ IV.toStr (A3 0 (AU 3 [IV.str {data:=#[116,114,101,101]},IV.str (D0 (IV.toInt (IV.cell (AQ l43 (AM x45) default) 0))),IV.str (D0 (ic (AN (IV.toList (IV.cell (AQ l43 (AM x45) default) 1)))))]))))) (DZ 4 (DZ 3 (D1 (JB N) (DU LE [1,1,1,1,1,1,1,0,1,0,0,1,1,1]) (ES again ⟨[2,3,43,44,45],[3],[]⟩ k))))) AB) AB) (k (.exit 2) (cG s2 l43 x44 x45 so3))):=AF
theorem Tm(N:Nat)(s2:BA)(l43:LI)(x44 x45:Int)(l59:LI)(x60 x61:Int)(so3:BA)(again:St->DW)(k:Out->St->DW):E3 (JB N) (DU LE [1,1,1,1,1,1,1,0,1,0,0,1,1,0,0,1,1,1,0,0]) (Y7 s2 l43 x44 x45 l59 x60 x61 so3) (ES again ⟨[2,3,43,44,45,59,60,61],[3],[]⟩ k)=(cond (AE (x61<x60)) (cond (AE (0<=x61)&&AE (x61<ic (AN l59))) (cond (Nd.lf (DV (IV.toInt (AQ l59 (AM x61) default)))) (cond (CF (AN (A3 0 (AU 2 [IV.str {data:=#[108,101,97,102]},IV.str (D8 (Nd.v (DV (IV.toInt (AQ l59 (AM x61) default)))))]))) 1000&&AE (AR so3+AR (FV (BQ IV.toStr (A3 0 (AU 2 [IV.str {data:=#[108,101,97,102]},IV.str (D8 (Nd.v (DV (IV.toInt (AQ l59 (AM x61) default)))))]))))<=1000000000)) (again (Y7 s2 l43 x44 x45 l59 x60 (AI AJ (x61+1)) (so3++FV (BQ IV.toStr (A3 0 (AU 2 [IV.str {data:=#[108,101,97,102]},IV.str (D8 (Nd.v (DV (IV.toInt (AQ l59 (AM x61) default)))))])))))) AB) (cond (CF (AN (A3 0 (AU 8 [IV.str {data:=#[105,102]},IV.str (D0 (Nd.f (DV (IV.toInt (AQ l59 (AM x61) default))))),IV.str {data:=#[60,61]},IV.str (D8 (Nd.a (DV (IV.toInt (AQ l59 (AM x61) default))))),IV.str {data:=#[116,104,101,110]},IV.str (D0 (Nd.l (DV (IV.toInt (AQ l59 (AM x61) default))))),IV.str {data:=#[101,108,115,101]},IV.str (D0 (Nd.r (DV (IV.toInt (AQ l59 (AM x61) default)))))]))) 1000&&AE (AR so3+AR (FV (BQ IV.toStr (A3 0 (AU 8 [IV.str {data:=#[105,102]},IV.str (D0 (Nd.f (DV (IV.toInt (AQ l59 (AM x61) default))))),IV.str {data:=#[60,61]},IV.str (D8 (Nd.a (DV (IV.toInt (AQ l59 (AM x61) default))))),IV.str {data:=#[116,104,101,110]},IV.str (D0 (Nd.l (DV (IV.toInt (AQ l59 (AM x61) default))))),IV.str {data:=#[101,108,115,101]},IV.str (D0 (Nd.r (DV (IV.toInt (AQ l59 (AM x61) default)))))]))))<=1000000000)) (again (Y7 s2 l43 x44 x45 l59 x60 (AI AJ (x61+1)) (so3++FV (BQ IV.toStr (A3 0 (AU 8 [IV.str {data:=#[105,102]},IV.str (D0 (Nd.f (DV (IV.toInt (AQ l59 (AM x61) default))))),IV.str {data:=#[60,61]},IV.str (D8 (Nd.a (DV (IV.toInt (AQ l59 (AM x61) default))))),IV.str {data:=#[116,104,101,110]},IV.str (D0 (Nd.l (DV (IV.toInt (AQ l59 (AM x61) default))))),IV.str {data:=#[101,108,115,101]},IV.str (D0 (Nd.r (DV (IV.toInt (AQ l59 (AM x61) default)))))])))))) AB)) AB) (k (.exit 4) (Y7 s2 l43 x44 x45 l59 x60 x61 so3))):=AF
theorem la(N:Nat)(s2:BA)(l43:LI)(x44 x45:Int)(so3:BA):(DZ 2 (D1 (JB N) (DU LE [1,1,1,1,1,1,1,1]) (D4 (JB N) AB [.tmp 2] [[.str]]))) (.exit 2) (cG s2 l43 x44 x45 so3)=(AA (.str so3,[])):=AF
theorem lc(N:Nat)(again:St->DW)(k:Out->St->DW)(s2:BA)(l43:LI)(x44 x45:Int)(l59:LI)(x60 x61:Int)(so3:BA):(DZ 4 (DZ 3 (D1 (JB N) (DU LE [1,1,1,1,1,1,1,0,1,0,0,1,1,1]) (ES again ⟨[2,3,43,44,45],[3],[]⟩ k)))) (.exit 4) (Y7 s2 l43 x44 x45 l59 x60 x61 so3)=(again (cG s2 l43 x44 (AI AJ (x45+1)) so3)):=AF
def Yv(N:Nat):Env:=EI [(105,ZH),(94,UN),(44,ZJ)] [] 10 N
theorem zaO(N:Nat)(b:BA)(u00:LI):EB (Yv N) Cn [] [] [.bor [.bld b],.list AD [.str] u00]=(cond (AE (AN u00<=strMax)&&AE (AR (GV (BQ IV.toStr u00) {data:=#[32]})<=strMax)) (cond (AE (AR b+AR (GV (BQ IV.toStr u00) {data:=#[32]})<=strMax)) (cond (AE (AR (b++GV (BQ IV.toStr u00) {data:=#[32]})+1<=strMax)) (AA (.tup [],[[(.bld (ByteArray.push (b++GV (BQ IV.toStr u00) {data:=#[32]}) (NW 10)))]])) AB) AB) AB):=AF
def Yw(N:Nat):Env:=EI [(64,RJ)] [] 26 N
theorem zaP(N:Nat)(u00:LI):EB (Yw N) Co [.tmp 2] [[.list AD [.str]]] [.bor [.list AD [.str] u00]]=(cond (ic (AN u00)==0) (AA (.list AD [.str] [],[[.list AD [.str] u00]])) (cond (AE (0<=0)&&AE (0<ic (AN u00))) (cond (AE (0<=1)&&AE (1<=ic (AN u00))) (cond (AE (AR (IV.toStr (AQ u00 (AM 0) default))<4294967281)&&AE (1<=AR {data:=#[32]})) (AA ((.list AD [.str] (BQ IV.str (EP (IV.toStr (AQ u00 (AM 0) default)) {data:=#[32]}))),[[.list AD [.str] (A3 (AM 1) (AU (AN u00) u00))]])) AB) AB) AB)):=AF
def Yz(N:Nat):Env:=EI [] [] 13 N
theorem zaS(N:Nat)(l:LI)(i:Int):EB (Yz N) Cr [.tmp 4] [[.str]] [.list AD [.str] l,.i i]=(cond (AE (i>=ic (AN l))) (AA ((.str ({data:=#[]})),[])) (cond (AE (0<=i)&&AE (i<ic (AN l))) (AA (.str (IV.toStr (AQ l (AM i) default)),[])) AB)):=AF
def Yu(N:Nat):Env:=EI [(122,ZG)] [] 24 N
theorem zaN(N:Nat)(s:BA)(most:Int):EB (Yu N) Cm [.tmp 4] [[.z]] [.str s,.i most]=(cond (!OM s) (AA (.i 0,[])) (cond (AE (GK s<0)) (AA (.i 0,[])) (cond (AE (GK s>most)) (AA (.i 0,[])) (AA (.i (GK s),[]))))):=AF
def Yy(N:Nat):Env:=EI [(131,WU)] [] 11 N
theorem zaR(N:Nat)(s:BA):EB (Yy N) Cq [.tmp 2] [[.z]] [.str s]=(cond (AE (AR s<4294967281)) (AA (.i (GP s),[])) AB):=AF
def Yx(N:Nat):Env:=EI [(113,WZ),(67,W7),(66,W8),(69,W9),(68,XA)] [] 28 N
theorem zaQ(N:Nat)(u00:LI):EB (Yx N) Cp [.tmp 2] [[.int .u64]] [.bor [.list AD [.str] u00]]=(cond (K3 u00) (cond (BY (EF (FG u00) (AM 0))==BY {data:=#[108,101,97,102]}) (cond (AE (AR (EF (FG u00) (AM 1))<4294967281)) (AA ((.int .u64 (HG {lf:=AC,v:=GP (EF (FG u00) (AM 1)),f:=0,a:=0,l:=0,r:=0})),[[.list AD [.str] (A3 1 u00)]])) AB) (cond (AE (AR (EF (FG u00) (AM 3))<4294967281)) (AA ((.int .u64 (HG {lf:=AD,v:=0,f:=FS (EF (FG u00) (AM 1)) 4,a:=GP (EF (FG u00) (AM 3)),l:=FS (EF (FG u00) (AM 5)) 31,r:=FS (EF (FG u00) (AM 7)) 31})),[[.list AD [.str] (A3 1 u00)]])) AB)) AB):=AF
def Xv(N:Nat):Env:=EI [] [] 21 N
theorem zx(N:Nat)(s u00:BA):EB (Xv N) Bl [.tmp 4] [[.bool]] [.str s,.str u00]=(cond (AE (ic (AR s)>=ic (AR u00))) (cond (AE (0<=AI AJ (ic (AR s)-ic (AR u00)))&&AE (AI AJ (ic (AR s)-ic (AR u00))<=ic (AR s))) (AA (.bool (BY (ByteArray.extract s (AM (AI AJ (ic (AR s)-ic (AR u00)))) (AR s))==BY u00),[])) AB) (AA (.bool AD,[]))):=AF
def Xw(N:Nat):Env:=EI [(186,d9)] [] 16 N
theorem zy(N:Nat)(s u00:BA):EB (Xw N) Bm [.tmp 4] [[.str]] [.str s,.str u00]=(cond (QS s u00) (cond (AE (0<=AI AJ (ic (AR s)-ic (AR u00)))&&AE (AI AJ (ic (AR s)-ic (AR u00))<=ic (AR s))) (AA (.str (ByteArray.extract s 0 (AM (AI AJ (ic (AR s)-ic (AR u00))))),[])) AB) (AA (.str s,[]))):=AF
def Yt(N:Nat):Env:=EI [(130,eB)] [] 8 N
theorem zaK(N:Nat)(s u00:BA):EB (Yt N) Cl [.tmp 4] [[.str]] [.str s,.str u00]=(AA (.str (JA s u00),[])):=AF
open Go Go.Proofs
theorem ud(l:List BA)(h:∀w∈l,w.size<=100):(GV l HH).size<=101*l.length:=by
 have hs:(GV l HH).size=(vaJ (l.map (·.data.toList)) [32]).length:=by
  show(Array.size (List.toArray _))=_;rw[vaf]
 rw[hs];cases l with
 |nil=>simp[Lib.join_nil]
 |cons x r=>
  rw[A8,Lib.join_length]
  have:∀(r:List BA),(∀w∈r,w.size<=100)->Lib.lens (r.map (·.data.toList))<=100*r.length:=λr=>by
   induction r with
   |nil=>intro _;simp[Lib.lens]
   |cons y r ih=>
    intro h;have h1:=h y (AZ ..);rw[TX]at h1;have h2:=ih (λw hw=>h w (A6 _ hw));rw[A8,AV];simp only[Lib.lens,A8,vbc]at h2 ⊢;omega
  have:=this (x::r) h
  rw[A8]at this;simp only[AV,B8,BL]at this ⊢;omega
theorem iA(ws:List BA)(hl:ws.length<=8)(h:∀w∈ws,w.size<=100):(FV ws).size<=809:=by
 unfold FV
 have:=ud ws h
 rw[A7];have e:AR QB=1:=rfl;rw[e];omega
theorem xC:∀(a b:List (List BA)),GL (a++b)=GL a++GL b
 |[],b=>by
  show GL b=CQ++GL b;rw[ByteArray.empty_append]
 |l::a,b=>by
  rw[C0,GL,GL,xC a b,DM]
theorem xE:∀(L:List (List BA)),(∀l∈L,l.length<=8/\∀w∈l,w.size<=100)->(GL L).size<=809*L.length
 |[],_=>by
  have:AR (GL [])=0:=rfl
  omega
 |l::L,h=>by
  have h1:=iA l (h l (AZ ..)).1 (h l (AZ ..)).2;have h2:=xE L λx hx=>h x (A6 _ hx)
  rw[GL,A7,AV];omega
theorem X1{n:Int}(h:EN n):(D0 n).size<=100:=by
 have:=gV h.1 h.2
 omega
theorem iW{n:Int}(h:EN n):(D8 n).size<=100:=by
 have:=(YJ n h).2
 omega
theorem rD{n:Int}(h:EV n=AC): -2147483648<=n/\n<=2147483647:=by
 unfold EV at h
 rwa [AP,AW,AW]at h
structure Nd.In (x:Nd):Prop where
 v: -2147483648<=x.v/\x.v<=2147483647
 f:0<=x.f/\x.f<4
 a: -2147483648<=x.a/\x.a<=2147483647
 l:0<=x.l/\x.l<31
 r:0<=x.r/\x.r<31
 lf:x.lf=AC->x.f=0/\x.a=0/\x.l=0/\x.r=0
 fk:x.lf=AD->x.v=0
theorem zcG{x:Nd}(h:IQ x=AC):x.In:=by
 obtain⟨lf,v,f,a,l,r⟩:=x;unfold IQ at h;cases lf with
 |true=>
  simp only[BN,AP,Nd.eq,CE]at h;obtain⟨⟨_,_,h1,h2,h3,h4,_⟩,hv⟩:=h;subst h1 h2 h3 h4;have z4:(0:Int)<=0/\(0:Int)<4:=by decide
  have z31:(0:Int)<=0/\(0:Int)<31:=by decide
  have zf:(-2147483648:Int)<=0/\(0:Int)<=2147483647:=by decide
  exact⟨rD hv,z4,zf,z31,z31,λ_=>⟨rfl,rfl,rfl,rfl⟩,λh=>Bool.noConfusion h⟩
 |false=>
  simp only[BC,AP,CE,AW,NY]at h;obtain⟨hv,hf0,hf1,ha,⟨hl0,hl1⟩,hr0,hr1⟩:=h;subst hv;have zf:(-2147483648:Int)<=0/\(0:Int)<=2147483647:=by decide
  have l0:(0:Int)<=l:=by omega
  have r0:(0:Int)<=r:=by omega
  exact⟨zf,⟨hf0,hf1⟩,rD ha,⟨l0,hl1⟩,⟨r0,hr1⟩,λh=>Bool.noConfusion h,λ_=>rfl⟩
theorem Jr{x:Nd}(h:x.In):(MY x).length<=8/\∀w∈MY x,w.size<=100:=by
 have hv:EN x.v:=by have:=h.v;unfold EN;omega
 have hf:EN x.f:=by have:=h.f;unfold EN;omega
 have ha:EN x.a:=by have:=h.a;unfold EN;omega
 have hl:EN x.l:=by have:=h.l;unfold EN;omega
 have hr:EN x.r:=by have:=h.r;unfold EN;omega
 unfold MY;cases x.lf with
 |true=>
  refine⟨by simp,λw hw=>?_⟩;simp only[BN,AY,CD,C7]at hw;rcases hw with rfl|rfl
  .decide
  .exact iW hv
 |false=>
  refine⟨by simp,λw hw=>?_⟩;simp only[BC,AY,CD,C7]at hw;rcases hw with rfl|rfl|rfl|rfl|rfl|rfl|rfl|rfl
  .decide
  .exact X1 hf
  .decide
  .exact iW ha
  .decide
  .exact X1 hl
  .decide
  .exact X1 hr
theorem Jw{dim n:Int}:∀{l:LI} {i:Nat},IY dim n i l=AC->∀w∈l,FJ w.toInt=AC
 |[],_,_,w,hw=>by cases hw
 |x::l,i,h,w,hw=>by
  unfold IY at h;rw[AP,AP]at h;rcases AY.1 hw with rfl|hw
  .exact h.1.1
  .exact Jw h.2 w hw
theorem Jq{w:Int}(h:FJ w=AC):(DV w).In:=by
 have hn:DV w=L7 w:=by unfold DV;rw[h];rfl
 unfold FJ at h;simp only[AP,CC,CE,BI]at h;rw[hn];apply zcG;cases hr:IQ (L7 w)with
 |true=>rfl
 |false=>
  have:=h.2
  unfold HG at this;rw[hr]at this;exact absurd this.symm h.1
theorem zeP:D9 PR B0 50 fJ:=by
 refine EJ [(105,ZH),(94,UN),(44,ZJ)] [] fJ [] Tryz.func50 su ⟨Qh,wN,Qj,trivial⟩ ?_;intro vs r hwf h;unfold fJ at h;split at h
 .rename_i s ws;cases hc:(CF ws.length 1000&&AE (s.size+(FV (ws.map IV.toStr)).size<=1000000000))with
  |false=>rw[hc]at h;simp[R.get]at h
  |true=>
   rw[hc,R.get_br,DS,R.get_ok]at h;rw[AP,AW]at hc;have h1:=AX hc.1;have h2:=hc.2;have m:strMax=140737488355327:=rfl;refine⟨0,?_⟩;rw[<-h];refine(zaO 0 s ws).trans ?_;have e:ByteArray.push (s++GV (ws.map IV.toStr) HH) (NW 10)=s++FV (ws.map IV.toStr):=by
    apply US;unfold FV;simp;rfl
   have e2:(FV (ws.map IV.toStr)).size=(GV (ws.map IV.toStr) HH).size+1:=by
    unfold FV;rw[A7];rfl
   rw[e2]at h2;rw[AL (show ws.length<=strMax by omega),AL (show(GV (ws.map IV.toStr) HH).size<=strMax by omega),AL (show s.size+(GV (ws.map IV.toStr) HH).size<=strMax by omega),
    AL (show AR (s++GV (ws.map IV.toStr) HH)+1<=strMax by rw[A7];omega),BX,DS,DS,DS,e]
 .simp[R.get]at h
theorem uz(s:BA)(hs:s.size<4294967281):∀i,(EF (H1 s) i).size<4294967281:=by
 intro i;unfold EF;rw[BK];cases h:(H1 s)[i]? with
 |none=>decide
 |some x=>
  have hx:x∈H1 s:=vab h;unfold H1 at hx;obtain⟨w,hw,rfl⟩:=CV.1 hx
  have:=(bL HH _ s).2 w hw
  exact Nat.lt_of_le_of_lt this hs
theorem tJ{ls:LI}(h:K3 ls=AC)(i:Nat):(EF (FG ls) i).size<4294967281:=by
 unfold K3 at h;cases ls with
 |nil=>
  show AR (IV.toStr (AQ [] i default))<_;rw[List.getD_nil];decide
 |cons l r=>
  rw[van,AP,AW]at h;exact uz _ h.1 i
theorem YD{ls:LI}(h:K3 ls=AC)(k:Nat):K3 (ls.drop k)=AC:=by
 unfold K3 at h ⊢;rw[CZ]at h ⊢;exact λx hx=>h x (vaL hx)
theorem Qn:D9 PR B0 66 W8:=by
 refine EJ [(64,RJ)] [] W8 [[.list AD [.str]]] Tryz.func66 sw ⟨nW,trivial⟩ ?_;intro vs r hwf h;unfold W8 at h;split at h
 .rename_i ls;cases hc:K3 ls with
  |false=>rw[hc]at h;simp[R.get]at h
  |true=>
   rw[hc,R.get_br,DS,R.get_ok]at h;refine⟨0,?_⟩;rw[<-h];refine(zaP 0 ls).trans ?_;cases ls with
   |nil=>rfl
   |cons l r=>
    unfold K3 at hc;rw[van,AP]at hc;have e0:(ic (AN (l::r))==0)=AD:=by
     rw[UQ];exact AS (by simp only[ic,AV];omega)
    have e1:IV.toStr (AQ (l::r) (AM 0) default)=l.toStr:=rfl;have e2:A3 (AM 1) (AU (AN (l::r)) (l::r))=A3 1 (l::r):=by rw[BW];rfl
    have e3:AE (1<=AR HH)=AC:=rfl;rw[e0,e1,e2,e3,hc.1,DT];simp only[AL (show(0:Int)<ic (AN (l::r)) by simp only[ic,AV];omega),AL (show(1:Int)<=ic (AN (l::r)) by simp only[ic,AV];omega)];rfl
 .simp[R.get]at h
theorem Qp:D9 PR B0 68 XA:=by
 refine EJ [] [] XA [[.str]] Tryz.func68 ta trivial ?_;intro vs r hwf h;unfold XA at h;split at h
 .rename_i l i;cases hc:AE (0<=i)with
  |false=>rw[hc]at h;simp[R.get]at h
  |true=>
   rw[hc,R.get_br,DS,R.get_ok]at h;have h0:=BB hc;refine⟨0,?_⟩;rw[<-h];refine(zaS 0 l i).trans ?_;cases hi:AE (i>=ic l.length)with
   |true=>
    have hi:=BB hi;simp only[ic]at hi;have e:EF l i.toNat=CQ:=by
     unfold EF;rw[BK,B4 AG];rfl
    rw[e,DS];rfl
   |false=>
    have hi:=BM hi;rw[DT,AL h0,AL (show i<ic l.length by omega),BX,DS];rfl
 .simp[R.get]at h
theorem Qm:D9 PR B0 67 W7:=by
 refine EJ [(122,ZG)] [] W7 [[.z]] Tryz.func67 ss ⟨Qg,trivial⟩ ?_;intro vs r hwf h;unfold W7 at h;split at h
 .rename_i s most;refine⟨0,?_⟩;rw[R.get_ok]at h;rw[<-h];refine(zaN 0 s most).trans ?_;unfold FS;cases OM s<;>cases AE (GK s<0)<;>cases AE (GK s>most)<;>rfl
 .simp[R.get]at h
theorem Qo:D9 PR B0 69 W9:=by
 refine EJ [(131,WU)] [] W9 [[.z]] Tryz.func69 sy ⟨Pq,trivial⟩ ?_;intro vs r hwf h;unfold W9 at h;split at h
 .rename_i s;cases hc:AE (s.size<4294967281)with
  |false=>rw[hc]at h;simp[R.get]at h
  |true=>
   rw[hc,R.get_br,DS,R.get_ok]at h;refine⟨0,?_⟩;rw[<-h];refine(zaR 0 s).trans ?_;rw[hc,DS]
 .simp[R.get]at h
theorem zeQ:D9 PR B0 70 fK:=by
 refine EJ [(113,WZ),(67,W7),(66,W8),(69,W9),(68,XA)] [] fK [[.int .u64]] Tryz.func70 sx ⟨Pz,Qm,Qn,Qo,Qp,trivial⟩ ?_;intro vs r hwf h;unfold fK at h;split at h
 .rename_i ls;cases hc:K3 ls with
  |false=>rw[hc]at h;simp[R.get]at h
  |true=>
   rw[hc,R.get_br,DS,R.get_ok]at h;refine⟨0,?_⟩;rw[<-h];refine(zaQ 0 ls).trans ?_;rw[hc,DS,AL (tJ hc (AM 1)),AL (tJ hc (AM 3)),DS,DS];unfold N9;have e:(BY (EF (FG ls) (AM 0))==BY {data:=#[108,101,97,102]})=((EF (FG ls) 0).toList==T4.toList):=rfl;rw[e];cases((EF (FG ls) 0).toList==T4.toList)<;>rfl
 .simp[R.get]at h
theorem zeg:D9 PR B0 186 d9:=by
 refine EJ [] [] d9 [[.bool]] Tryz.func186 qu trivial ?_;intro vs r hwf h;unfold d9 at h;split at h
 .rename_i s t;refine⟨0,?_⟩;rw[R.get_ok]at h;rw[<-h];refine(zx 0 s t).trans ?_;have hb:=hwf (by simp[K4]);have hs:s.size<=strMax:=hb.1;have m:strMax=140737488355327:=rfl;unfold QS;by_cases hl:t.size<=s.size
  .have e:AI AJ (ic s.size-ic t.size)=((s.size-t.size:Nat):Int):=by
    rw[ER (by simp only[ic];omega) (by simp only[ic];omega)];simp only[ic];omega
   rw[e,AL (show ic s.size>=ic t.size by simp only[ic];omega),DS,AL (show(0:Int)<=((s.size-t.size:Nat):Int) by omega),AL (show((s.size-t.size:Nat):Int)<=ic s.size by simp only[ic];omega),BX,DS,AL hl,BE,BH]
  .rw[AS (show¬ic s.size>=ic t.size by simp only[ic];omega),DT,AS hl,BP]
 .simp[R.get]at h
theorem zeh:D9 PR B0 130 eB:=by
 refine EJ [(186,d9)] [] eB [[.str]] Tryz.func130 qv ⟨zeg,trivial⟩ ?_;intro vs r hwf h;unfold eB at h;split at h
 .rename_i s t;refine⟨0,?_⟩;rw[R.get_ok]at h;rw[<-h];refine(zy 0 s t).trans ?_;have hb:=hwf (by simp[K4]);have hs:s.size<=strMax:=hb.1;have m:strMax=140737488355327:=rfl;unfold JA;cases hh:QS s t with
  |false=>rfl
  |true=>
   have hl:t.size<=s.size:=by
    unfold QS at hh;rw[AP,AW]at hh;exact hh.1
   have e:AI AJ (ic s.size-ic t.size)=((s.size-t.size:Nat):Int):=by
    rw[ER (by simp only[ic];omega) (by simp only[ic];omega)];simp only[ic];omega
   rw[e,DS,DS,AL (show(0:Int)<=((s.size-t.size:Nat):Int) by omega),AL (show((s.size-t.size:Nat):Int)<=ic s.size by simp only[ic];omega),BX,DS,BH]
 .simp[R.get]at h
theorem Ql:D9 PR B0 65 W6:=by
 refine EJ [(130,eB)] [] W6 [[.str]] Tryz.func65 sn ⟨zeh,trivial⟩ ?_;intro vs r hwf h;unfold W6 at h;split at h
 .rename_i s t;refine⟨0,?_⟩;rw[R.get_ok]at h;rw[<-h];exact zaK 0 s t
 .simp[R.get]at h
abbrev Vw(ts:LI)(i:Int)(l:LI)(j:Int)(so:BA):St:=
 ⟨[(2,(.str {data:=#[]})),(3,(.ptr 3 0 0)),(43,(.list AC [.z,(.list AD [(.int .u64)])] ts)),(44,(.i (ic ts.length))),(45,(.i i)),(59,(.list AD [(.int .u64)] l)),(60,(.i (ic l.length))),(61,(.i j))],[(3,(AA (.bld so)))]⟩
theorem Kb(N:Nat)(ts:LI)(i:Int)(l:LI)(hl:l.length<=31)(hn:∀w∈l,FJ w.toInt=AC)(K:Out->St->DW):∀(d j n:Nat) (so:BA),j+d=l.length->d<n->so.size+809*d<=1000000000->
  D7 (JB N) (DU LE [1,1,1,1,1,1,1,0,1,0,0,1,1,0,0,1,1,1,0,0]) ⟨[2,3,43,44,45,59,60,61],[3],[]⟩ n (Vw ts i l (j:Int) so) K=
   K (.exit 4) (Vw ts i l (ic l.length) (so++GL (IM (l.drop j))))
 |d,j,0,_,_,h,_=>absurd h AG
 |0,j,n+1,so,hd,_,_=>by
  have hj:j=l.length:=by omega
  subst hj;rw[ED,Tm,AS (show¬((l.length:Nat):Int)<ic l.length by simp only[ic];omega),DT,C4];have e:so++GL (IM [])=so:=by
   show so++CQ=so;rw[ByteArray.append_empty]
  rw[e]
 |d+1,j,n+1,so,hd,hn',hz=>by
  have hjl:j<l.length:=by omega
  have ej:AI AJ ((j:Int)+1)=((j+1:Nat):Int):=by
   rw[ER AG AG];omega
  have hg:l.getD (AM (j:Int)) default=l[j]:=by
   rw[BH,BK,BF hjl];rfl
  have hin:=Jq (hn l[j] (DC hjl));have hw:=Jr hin;have hls:=iA _ hw.1 hw.2;rw[ED,Tm,ej,hg,AL (show(j:Int)<ic l.length by simp only[ic];omega),DS,AL (show(0:Int)<=(j:Int) by omega),BX,DS,BD hjl];have hr:GL (IM (l[j]::l.drop (j+1)))=FV (MY (DV l[j].toInt))++GL (IM (l.drop (j+1))):=rfl;rw[hr,<-DM];have ih:=Kb N ts i l hl hn K d (j+1) n (so++FV (MY (DV l[j].toInt))) AG AG (by rw[A7];omega);rw[<-ih];have hsz:AE (so.size+(FV (MY (DV l[j].toInt))).size<=1000000000)=AC:=AL AG;revert hsz;unfold MY;cases(DV l[j].toInt).lf with
  |true=>
   intro hsz;have hsz:AE (AR so+AR (FV [T4,D8 (DV l[j].toInt).v])<=1000000000)=AC:=hsz;have e:BQ IV.toStr (A3 0 (AU 2 [IV.str {data:=#[108,101,97,102]},IV.str (D8 (Nd.v (DV (IV.toInt l[j]))))]))=[T4,D8 (DV l[j].toInt).v]:=rfl;rw[DS,e,hsz];rfl
  |false=>
   intro hsz;have hsz:AE (AR so+AR (FV [oO,D0 (DV l[j].toInt).f,xU,D8 (DV l[j].toInt).a,xV,D0 (DV l[j].toInt).l,xS,D0 (DV l[j].toInt).r])<=1000000000)=AC:=hsz;have e:BQ IV.toStr (A3 0 (AU 8 [IV.str {data:=#[105,102]},IV.str (D0 (Nd.f (DV (IV.toInt l[j])))),IV.str {data:=#[60,61]},IV.str (D8 (Nd.a (DV (IV.toInt l[j])))),IV.str {data:=#[116,104,101,110]},IV.str (D0 (Nd.l (DV (IV.toInt l[j])))),IV.str {data:=#[101,108,115,101]},IV.str (D0 (Nd.r (DV (IV.toInt l[j]))))]))=[oO,D0 (DV l[j].toInt).f,xU,D8 (DV l[j].toInt).a,xV,D0 (DV l[j].toInt).l,xS,D0 (DV l[j].toInt).r]:=rfl;rw[DT,e,hsz];rfl
theorem Uk{d c:Int}{t:IV}(h:HN d c t=AC):0<=(t.cell 0).toInt/\(t.cell 0).toInt<c/\1<=(t.cell 1).toList.length/\(t.cell 1).toList.length<=31/\∀w∈(t.cell 1).toList,FJ w.toInt=AC:=by
 unfold HN F5 at h;simp only[AP,CC,B6]at h;obtain⟨h1,h2,⟨h3,h4⟩,h5,_⟩:=h;exact⟨by omega,by omega,AX h3,AX h4,Jw h5⟩
theorem Um{d c:Int}{t:IV}(hc:c<=3)(h:HN d c t=AC):(∀l∈T2 t,l.length<=8/\∀w∈l,w.size<=100)/\(T2 t).length<=32:=by
 obtain⟨h1,h2,h3,h4,h5⟩:=Uk h;constructor
 .intro l hl;unfold T2 at hl;rcases AY.1 hl with rfl|hl
  .refine⟨by simp,λw hw=>?_⟩;simp only[AY,CD,C7]at hw;rcases hw with rfl|rfl|rfl
   .decide
   .exact X1 (by unfold EN;omega)
   .exact X1 (by unfold EN;simp only[ic];omega)
  .unfold IM at hl;obtain⟨w,hw,rfl⟩:=CV.1 hl;exact Jr (Jq (h5 w hw))
 .unfold T2 IM;rw[AV,B8];omega
abbrev Vx(ts:LI)(i:Int)(so:BA):St:=
 ⟨[(2,(.str {data:=#[]})),(3,(.ptr 3 0 0)),(43,(.list AC [.z,(.list AD [(.int .u64)])] ts)),(44,(.i (ic ts.length))),(45,(.i i))],[(3,(AA (.bld so)))]⟩
theorem Uq(N:Nat)(hN:40<=N)(d c:Int)(hc:c<=3)(ts:LI)(hl:ts.length<=8)(ht:ts.all (HN d c)=AC)(K:Out->St->DW):∀(m i n:Nat) (so:BA),i+m=ts.length->m<n->so.size+30000*m<=1000000000->
  D7 (JB N) (DU LE [1,1,1,1,1,1,1,0,1,0,0]) ⟨[2,3,43,44,45],[3],[]⟩ n (Vx ts (i:Int) so) K=
   K (.exit 2) (Vx ts (ic ts.length) (so++GL (G9 (ts.drop i))))
 |m,i,0,_,_,h,_=>absurd h AG
 |0,i,n+1,so,hd,_,_=>by
  have hi:i=ts.length:=by omega
  subst hi;rw[ED,Tl,AS (show¬((ts.length:Nat):Int)<ic ts.length by simp only[ic];omega),DT,C4];have e:so++GL (G9 [])=so:=by
   show so++CQ=so;rw[ByteArray.append_empty]
  rw[e]
 |m+1,i,n+1,so,hd,hn,hz=>by
  have hil:i<ts.length:=by omega
  have ei:AI AJ ((i:Int)+1)=((i+1:Nat):Int):=by
   rw[ER AG AG];omega
  have hg:ts.getD (AM (i:Int)) default=ts[i]:=by
   rw[BH,BK,BF hil];rfl
  have hok:=CZ.1 ht ts[i] (DC hil);have hw:=Um hc hok;have hts:=xE _ hw.1;obtain⟨h1,h2,h3,h4,h5⟩:=Uk hok;have hh:∀w∈[PD,D0 (ts[i].cell 0).toInt,D0 (ic (ts[i].cell 1).toList.length)],w.size<=100:=(hw.1 _ (by unfold T2;exact AZ ..)).2;have hls:=iA _ (by simp) hh;have e:BQ IV.toStr (A3 0 (AU 3 [IV.str {data:=#[116,114,101,101]},IV.str (D0 (IV.toInt (IV.cell ts[i] 0))),IV.str (D0 (ic (AN (IV.toList (IV.cell ts[i] 1)))))]))=[PD,D0 (ts[i].cell 0).toInt,D0 (ic (ts[i].cell 1).toList.length)]:=rfl;have el:CF (AN (A3 0 (AU 3 [IV.str {data:=#[116,114,101,101]},IV.str (D0 (IV.toInt (IV.cell ts[i] 0))),IV.str (D0 (ic (AN (IV.toList (IV.cell ts[i] 1)))))]))) 1000=AC:=rfl;rw[ED,Tl,hg,e,el,AL (show(i:Int)<ic ts.length by simp only[ic];omega),DS,AL (show(0:Int)<=(i:Int) by omega),BX,DS,
   AL (show so.size+(FV [PD,D0 (ts[i].cell 0).toInt,D0 (ic (ts[i].cell 1).toList.length)]).size<=1000000000 by omega),BX,DS]
  refine(Kb N ts (i:Int) (ts[i].cell 1).toList h4 h5 _ (ts[i].cell 1).toList.length 0 N (so++FV [PD,D0 (ts[i].cell 0).toInt,D0 (ic (ts[i].cell 1).toList.length)]) AG AG (by rw[A7];omega)).trans ?_;rw[lc,ei,CA,BD hil];have hr:GL (G9 (ts[i]::ts.drop (i+1)))=(FV [PD,D0 (ts[i].cell 0).toInt,D0 (ic (ts[i].cell 1).toList.length)]++GL (IM (ts[i].cell 1).toList))++GL (G9 (ts.drop (i+1))):=by
   rw[G9,xC];rfl
  rw[hr,<-DM (a:=so),<-DM (a:=so)];have hsz:(FV [PD,D0 (ts[i].cell 0).toInt,D0 (ic (ts[i].cell 1).toList.length)]++GL (IM (ts[i].cell 1).toList)).size<=26000:=by
   have:GL (T2 ts[i])=FV [PD,D0 (ts[i].cell 0).toInt,D0 (ic (ts[i].cell 1).toList.length)]++GL (IM (ts[i].cell 1).toList):=rfl
   rw[<-this]
   have:=hw.2
   omega
  exact Uq N hN d c hc ts hl ht K m (i+1) n _ AG AG (by rw[DM,A7];omega)
abbrev bY(d c b0 b1 b2:Int)(ts:LI)(C:Nat)(so:BA)(ws:LI)(n:Nat)(i:Int):St:=
 ⟨[(1,(.ptr 1 0 0)),(2,(.str {data:=#[]})),(3,(.ptr 3 0 0)),(4,(.row 500 0 n)),(28,(.bview 1 2 3 1 C)),(29,(.i (ic C))),(30,(.i i))],[(1,(AA (.box [(.i d),(.i c),(.i b0),(.i b1),(.i b2),(.list AC [.z,(.list AD [(.int .u64)])] ts)]))),(3,(AA (.bld so))),(500,(AA (.row AC 9 AD [.str] ws)))]⟩
theorem oQ(N:Nat)(d c b0 b1 b2:Int)(ts:LI)(C:Nat)(so:BA)(ws:LI)(n i:Nat)(b:Int)(hi:i<C)(hn:n<=10)(h:(i=0/\b=b0)\/(i=1/\b=b1)\/(i=2/\b=b2))(again:St->DW)(k:Out->St->DW):
  E3 (JB N) (DU LE [1,1,1,1,1,0,1,0,0]) (bY d c b0 b1 b2 ts C so ws n (i:Int)) (ES again ⟨[1,2,3,4,28,29,30],[1,3,500],[⟨.tmp 4,500,9,AD,[.str]⟩]⟩ k)=
   again (bY d c b0 b1 b2 ts C so (ws.take n++[.str (D8 b)]) (n+1) ((i+1:Nat):Int)):=by
 rw[oC];have ei:AI AJ ((i:Int)+1)=((i+1:Nat):Int):=by
  rw[ER AG AG];omega
 have eb:TI.bytes (Env.tyd (JB N) 9)=16:=rfl;have e1:∀x:IV,AN (A3 0 (AU 1 [x]))=1:=λx=>rfl
 rw[ei,eb,e1,e1,e1,AL (show(i:Int)<ic C by simp only[ic];omega),DS,DS,AL (show(n+1)*16<=EM by unfold EM;omega)];rcases h with⟨rfl,rfl⟩|⟨rfl,rfl⟩|⟨rfl,rfl⟩<;>rfl
theorem zfY(N:Nat)(hN:10<=N)(d b0 b1 b2:Int)(ts:LI)(C:Nat)(h1:1<=C)(h3:C<=3)(so:BA)(K:Out->St->DW):
  D7 (JB N) (DU LE [1,1,1,1,1,0,1,0,0]) ⟨[1,2,3,4,28,29,30],[1,3,500],[⟨.tmp 4,500,9,AD,[.str]⟩]⟩ N (bY d (C:Int) b0 b1 b2 ts C so [.str JS] 1 0) K=
   K (.exit 0) (bY d (C:Int) b0 b1 b2 ts C so ((JS::(([b0,b1,b2].take C).map D8)).map IV.str) (1+C) (C:Int)):=by
 obtain⟨M,rfl⟩:∃M,N=M+4:=⟨N-4,by omega⟩;have e0:bY d (C:Int) b0 b1 b2 ts C so [.str JS] 1 0=bY d (C:Int) b0 b1 b2 ts C so [.str JS] 1 ((0:Nat):Int):=rfl;rw[e0,ED,oQ (M+4) d (C:Int) b0 b1 b2 ts C so _ 1 0 b0 AG AG (by simp)]
 match C,h1,h3 with
 |1,_,_=>
  rw[ED,oC,AS (show¬((0+1:Nat):Int)<ic 1 by decide),DT];rfl
 |2,_,_=>
  rw[ED,oQ (M+4) d _ b0 b1 b2 ts 2 so _ _ 1 b1 AG AG (by simp),ED,oC,AS (show¬((1+1:Nat):Int)<ic 2 by decide),DT];rfl
 |3,_,_=>
  rw[ED,oQ (M+4) d _ b0 b1 b2 ts 3 so _ _ 1 b1 AG AG (by simp),ED,oQ (M+4) d _ b0 b1 b2 ts 3 so _ _ 2 b2 AG AG (by simp),ED,oC,AS (show¬((2+1:Nat):Int)<ic 3 by decide),DT];rfl
theorem tG{m:Md}(h:ET m=AC):(1<=m.d/\m.d<=4)/\(1<=m.c/\m.c<=3)/\m.ts.length<=8/\(GU m.c 0 m.b0=AC/\GU m.c 1 m.b1=AC/\GU m.c 2 m.b2=AC)/\m.ts.all (HN m.d m.c)=AC:=by
 unfold ET at h;simp only[AP,CC,B6]at h;obtain⟨⟨h1,h2,h3,h4,h5⟩,⟨h6,h7,h8⟩,h9⟩:=h;exact⟨⟨by omega,by omega⟩,⟨by omega,by omega⟩,AX h5,⟨h6,h7,h8⟩,h9⟩
theorem pD{c j b:Int}(h:GU c j b=AC):(-2147483648<=b/\b<=2147483647)/\(c<=j->b=0):=by
 unfold GU at h;rw[AP]at h;refine⟨rD h.1,λhj=>?_⟩
 have:=h.2
 rw[AL (show j>=c from hj)]at this;simpa using this
theorem Gg{m:Md}(h:ET m=AC):∀l∈TG m,l.length<=8/\∀w∈l,w.size<=100:=by
 obtain⟨hd,hc,_,⟨g0,g1,g2⟩,_⟩:=tG h;have i0:=(pD g0).1;have i1:=(pD g1).1;have i2:=(pD g2).1;intro l hl;unfold TG at hl;simp only[AY,CD,C7]at hl;rcases hl with rfl|rfl
 .refine⟨by simp,λw hw=>?_⟩;simp only[AY,CD,C7]at hw;rcases hw with rfl|rfl|rfl
  .decide
  .exact X1 (by unfold EN;omega)
  .exact X1 (by unfold EN;omega)
 .refine⟨by simp only[AV,B8,BJ,BL];omega,λw hw=>?_⟩;rcases AY.1 hw with rfl|hw
  .decide
  .obtain⟨b,hb,rfl⟩:=CV.1 hw;have hb:=vav hb;simp only[AY,CD,C7]at hb;rcases hb with rfl|rfl|rfl
   .exact iW (by unfold EN;omega)
   .exact iW (by unfold EN;omega)
   .exact iW (by unfold EN;omega)
set_option maxHeartbeats 1000000 in
theorem wO:D9 PR B0 13 S1:=by
 refine EJ [(43,SZ),(49,M7),(51,M8),(42,RI),(47,UM),(50,fJ)] [(7,⟨[1,2,3,4,28,29,30],[1,3,500],[⟨.tmp 4,500,9,false,[.str]⟩]⟩),(13,⟨[2,3,43,44,45],[3],[]⟩),(17,⟨[2,3,43,44,45,59,60,61],[3],[]⟩)] S1 [[.str]] Tryz.func13 sr ⟨wK,bJ,bK,nV,wM,zeP,trivial⟩ ?_;intro vs r hwf h;unfold S1 at h;split at h
 ·rename_i d c b0 b1 b2 ts;refine ⟨40,?_⟩;rw [R.get_ok] at h;rw [← h];refine (zaM 40 d c b0 b1 b2 ts).trans ?_;unfold H2;cases hm:ET ⟨d,c,b0,b1,b2,ts⟩ with
  | false=>rfl
  | true=>
   obtain ⟨hd,hc,hl,_,ht⟩:=tG hm;simp only at hd hc hl ht;have hh:=Gg hm;have hh1:=hh _ (List.mem_cons_self ..);have hh2:=hh _ (List.mem_cons_of_mem _ (List.mem_cons_self ..));have z1:=iA _ hh1.1 hh1.2;have z2:=iA _ hh2.1 hh2.2;obtain ⟨C,rfl⟩:∃ C:Nat,c=(C:Int):=⟨c.toNat,by omega⟩;have e1:List.map IV.toStr (List.drop 0 (List.take 3 [IV.str { data:=#[102,111,114,101,115,116] },IV.str (D0 d),IV.str (D0 (C:Int))]))=[OD,D0 d,D0 (C:Int)]:=rfl;have e2:Nat.ble (List.length (List.drop 0 (List.take 3 [IV.str { data:=#[102,111,114,101,115,116] },IV.str (D0 d),IV.str (D0 (C:Int))]))) 1000=true:=rfl;have e3:ByteArray.size ByteArray.empty=0:=rfl;have z1:(FV [OD,D0 d,D0 (C:Int)]).size≤809:=z1;rw [Bool.not_true,DT,DS,e1,e2,e3,decide_eq_true (show 0+(FV [OD,D0 d,D0 (C:Int)]).size≤1000000000 by omega),Bool.and_self,DS,decide_eq_true (show (0:Int)≤(C:Int) by omega),decide_eq_true (show (C:Int)≤ic 3 by simp only [ic]; omega),Bool.and_self,DS,Int.toNat_natCast,ByteArray.empty_append];refine (zfY 40 (by omega) d b0 b1 b2 ts C (by omega) (by omega) (FV [OD,D0 d,D0 (C:Int)]) _).trans ?_;rw [kz];have e4:List.map IV.toStr (List.drop 0 (List.take (1+C) ((JS :: (([b0,b1,b2].take C).map D8)).map IV.str)))=JS :: (([b0,b1,b2].take C).map D8):=by
    match C,hc with
    | 0,hc=>exact absurd hc.1 (by decide)
    | 1,_=>rfl
    | 2,_=>rfl
    | 3,_=>rfl
    | C+4,hc=>exact absurd hc.2 (by omega)
   have e5:Nat.ble (List.length (List.drop 0 (List.take (1+C) ((JS :: (([b0,b1,b2].take C).map D8)).map IV.str)))) 1000=true:=by
    apply Nat.ble_eq_true_of_le;rw [List.length_drop,List.length_take];omega
   have z2:(FV (JS :: (([b0,b1,b2].take C).map D8))).size≤809:=by
    have:(([b0,b1,b2].take (C:Int).toNat).map D8)=(([b0,b1,b2].take C).map D8):=by rw [Int.toNat_natCast]
    rw [← this];exact z2
   rw [e4,e5,decide_eq_true (show (FV [OD,D0 d,D0 (C:Int)]).size+(FV (JS :: (([b0,b1,b2].take C).map D8))).size≤1000000000 by omega),Bool.and_self,DS];refine (Uq 40 (by omega) d (C:Int) (by omega) ts hl ht _ ts.length 0 40 _ (by omega) (by omega) (by rw [ByteArray.size_append]; omega)).trans ?_;rw [la,List.drop_zero];have e6:GL (MT ⟨d,(C:Int),b0,b1,b2,ts⟩)=FV [OD,D0 d,D0 (C:Int)]++FV (JS :: (([b0,b1,b2].take C).map D8))++GL (G9 ts):=by
    show GL (TG ⟨d,(C:Int),b0,b1,b2,ts⟩++G9 ts)=_;rw [xC];show FV [OD,D0 d,D0 (C:Int)]++(FV (JS :: (([b0,b1,b2].take (C:Int).toNat).map D8))++ByteArray.empty)++GL (G9 ts)=_;rw [ByteArray.append_empty,Int.toNat_natCast]
   rw [e6]
 ·simp [R.get] at h
open Go Go.Proofs
def IE(N:Nat):Env:=EI [(64,RJ),(65,W6),(13,S1),(67,W7),(66,W8),(70,fK),(69,W9),(68,XA)] [(6,⟨[0,2,3,4,6,7,28,29],[2,6,15],[]⟩),(10,⟨[0,2,3,4,6],[2,6,15,500],[⟨.cell 6 5,500,85,AC,[.z,.list AD [.int .u64]]⟩]⟩),(14,⟨[0,2,3,4,6,10,61,62],[2,6,10,15,500,501],[⟨.cell 6 5,500,85,AC,[.z,.list AD [.int .u64]]⟩,⟨.cell 10 1,501,106,AD,[.int .u64]⟩]⟩)] 88 N
abbrev WD(s0:BA)(b3:Bool)(l7:LI)(x28 x29 u01 u02 u03 u04 u05 u06 u07 u08 u09 u0a:Int)(u00:LI):St:=⟨[(0,(.str s0)),(2,(.ptr 2 0 0)),(3,(.bool b3)),(4,(.ptr 15 0 0)),(6,(.ptr 6 0 0)),(7,(.list AD [.str] l7)),(28,(.i x28)),(29,(.i x29))],[(2,(AA (.box [.i u01,.i u02,.i u03,.i u04,.i u05,.zs]))),(6,(AA (.box [.i u06,.i u07,.i u08,.i u09,.i u0a,.zs]))),(15,(AA (.box [.list AD [.str] u00])))]⟩
abbrev Y6(s0:BA)(b3:Bool)(u03 u04 u05 u06 u07 u08 u09 u0a u0b u0c:Int)(u02:Nat)(u00 u01:LI):St:=⟨[(0,(.str s0)),(2,(.ptr 2 0 0)),(3,(.bool b3)),(4,(.ptr 15 0 0)),(6,(.ptr 6 0 0))],[(2,(AA (.box [.i u03,.i u04,.i u05,.i u06,.i u07,.zs]))),(6,(AA (.box [.i u08,.i u09,.i u0a,.i u0b,.i u0c,.row 500 0 u02]))),(15,(AA (.box [.list AD [.str] u00]))),(500,(AA (.row AC 85 AC [.z,.list AD [.int .u64]] u01)))]⟩
abbrev cF(s0:BA)(b3:Bool)(x61 x62 u06 u07 u08 u09 u0a u0b u0c u0d u0e u0f:Int)(u04:Nat)(u05:Int)(u03:Nat)(u00 u01 u02:LI):St:=⟨[(0,(.str s0)),(2,(.ptr 2 0 0)),(3,(.bool b3)),(4,(.ptr 15 0 0)),(6,(.ptr 6 0 0)),(10,(.ptr 10 0 0)),(61,(.i x61)),(62,(.i x62))],[(2,(AA (.box [.i u06,.i u07,.i u08,.i u09,.i u0a,.zs]))),(6,(AA (.box [.i u0b,.i u0c,.i u0d,.i u0e,.i u0f,.row 500 0 u04]))),(10,(AA (.box [.i u05,.row 501 0 u03]))),(15,(AA (.box [.list AD [.str] u00]))),(500,(AA (.row AC 85 AC [.z,.list AD [.int .u64]] u01))),(501,(AA (.row AC 106 AD [.int .u64] u02)))]⟩
theorem zaL(N:Nat)(s:BA):EB (IE N) J8 [.cell 2 31,.tmp 3] [[.z,.z,.z,.z,.z,.list AC [.z,.list AD [.int .u64]]],[.bool]] [.str s]=(cond (AE (AR (JA s {data:=#[10]})<4294967281)&&AE (1<=AR {data:=#[10]})) (cond (K3 (BQ IV.str (EP (JA s {data:=#[10]}) {data:=#[10]}))) (cond (K3 (A3 1 (BQ IV.str (EP (JA s {data:=#[10]}) {data:=#[10]})))) (D7 (IE N) (DU J8 [1,1,1,1,1,0,1,0,0]) ⟨[0,2,3,4,6,7,28,29],[2,6,15],[]⟩ N (WD s AD (FG (A3 1 (BQ IV.str (EP (JA s {data:=#[10]}) {data:=#[10]})))) (FS (EF (FG (BQ IV.str (EP (JA s {data:=#[10]}) {data:=#[10]}))) (AM 2)) 3) 0 0 0 0 0 0 (FS (EF (FG (BQ IV.str (EP (JA s {data:=#[10]}) {data:=#[10]}))) (AM 1)) 4) (FS (EF (FG (BQ IV.str (EP (JA s {data:=#[10]}) {data:=#[10]}))) (AM 2)) 3) 0 0 0 (A3 1 (A3 1 (BQ IV.str (EP (JA s {data:=#[10]}) {data:=#[10]}))))) (DZ 0 (D1 (IE N) (DU J8 [1,1,1,1,1,1]) (D4 (IE N) AB [.cell 2 31,.tmp 3] [[.z,.z,.z,.z,.z,.list AC [.z,.list AD [.int .u64]]],[.bool]])))) AB) AB) AB):=AF
theorem jL(N:Nat)(s0:BA)(b3:Bool)(l7:LI)(x28 x29 u01 u02 u03 u04 u05 u06 u07 u08 u09 u0a:Int)(u00:LI)(again:St->DW)(k:Out->St->DW):E3 (IE N) (DU J8 [1,1,1,1,1,0,1,0,0]) (WD s0 b3 l7 x28 x29 u01 u02 u03 u04 u05 u06 u07 u08 u09 u0a u00) (ES again ⟨[0,2,3,4,6,7,28,29],[2,6,15],[]⟩ k)=(cond (AE (x29<x28)) (cond (AE (0<=AI AJ (1+x29))) (cond (AE (AR (EF l7 (AM (AI AJ (1+x29))))<4294967281)) (cond (AE (x29=ic 0)) (again (WD s0 b3 l7 x28 (AI AJ (x29+1)) u01 u02 u03 u04 u05 u06 u07 (GP (EF l7 (AM (AI AJ (1+x29))))) u09 u0a u00)) (cond (AE (x29=ic 1)) (again (WD s0 b3 l7 x28 (AI AJ (x29+1)) u01 u02 u03 u04 u05 u06 u07 u08 (GP (EF l7 (AM (AI AJ (1+x29))))) u0a u00)) (cond (AE (x29=ic 2)) (again (WD s0 b3 l7 x28 (AI AJ (x29+1)) u01 u02 u03 u04 u05 u06 u07 u08 u09 (GP (EF l7 (AM (AI AJ (1+x29))))) u00)) AB))) AB) AB) (k (.exit 0) (WD s0 b3 l7 x28 x29 u01 u02 u03 u04 u05 u06 u07 u08 u09 u0a u00))):=AF
theorem kw(N:Nat)(s0:BA)(b3:Bool)(l7:LI)(x28 x29 u01 u02 u03 u04 u05 u06 u07 u08 u09 u0a:Int)(u00:LI):(DZ 0 (D1 (IE N) (DU J8 [1,1,1,1,1,1]) (D4 (IE N) AB [.cell 2 31,.tmp 3] [[.z,.z,.z,.z,.z,.list AC [.z,.list AD [.int .u64]]],[.bool]]))) (.exit 0) (WD s0 b3 l7 x28 x29 u01 u02 u03 u04 u05 u06 u07 u08 u09 u0a u00)=(D7 (IE N) (DU J8 [1,1,1,1,1,1,0,0,0]) ⟨[0,2,3,4,6],[2,6,15,500],[⟨(.cell 6 5),500,85,AC,[.z,.list AD [.int .u64]]⟩]⟩ N (Y6 s0 b3 u01 u02 u03 u04 u05 u06 u07 u08 u09 u0a 0 u00 []) (DZ 2 (D1 (IE N) (DU J8 [1,1,1,1,1,1,1]) (D4 (IE N) AB [.cell 2 31,.tmp 3] [[.z,.z,.z,.z,.z,.list AC [.z,.list AD [.int .u64]]],[.bool]])))):=AF
theorem wV(N:Nat)(s0:BA)(b3:Bool)(u03 u04 u05 u06 u07 u08 u09 u0a u0b u0c:Int)(u02:Nat)(u00 u01:LI)(again:St->DW)(k:Out->St->DW):E3 (IE N) (DU J8 [1,1,1,1,1,1,0,0,0]) (Y6 s0 b3 u03 u04 u05 u06 u07 u08 u09 u0a u0b u0c u02 u00 u01) (ES again ⟨[0,2,3,4,6],[2,6,15,500],[⟨(.cell 6 5),500,85,AC,[.z,.list AD [.int .u64]]⟩]⟩ k)=(cond (AE (ic (AN u00)>0)) (cond (AE (ic (u02-0)<=8)) (cond (K3 u00) (D7 (IE N) (DU J8 [1,1,1,1,1,1,0,0,0,1,0,1,1,0,1,0,0]) ⟨[0,2,3,4,6,10,61,62],[2,6,10,15,500,501],[⟨(.cell 6 5),500,85,AC,[.z,.list AD [.int .u64]]⟩,⟨(.cell 10 1),501,106,AD,[.int .u64]⟩]⟩ N (cF s0 b3 (FS (EF (FG u00) (AM 2)) 31) 0 u03 u04 u05 u06 u07 u08 u09 u0a u0b u0c u02 (FS (EF (FG u00) (AM 1)) 3) 0 (A3 1 u00) u01 []) (DZ 4 (D1 (IE N) (DU J8 [1,1,1,1,1,1,0,0,0,1,0,1,1,1]) (DZ 3 (ES again ⟨[0,2,3,4,6],[2,6,15,500],[⟨(.cell 6 5),500,85,AC,[.z,.list AD [.int .u64]]⟩]⟩ k))))) AB) (k (.exit 2) (Y6 s0 b3 u03 u04 u05 u06 u07 u08 u09 u0a u0b u0c u02 u00 u01))) (k (.exit 2) (Y6 s0 b3 u03 u04 u05 u06 u07 u08 u09 u0a u0b u0c u02 u00 u01))):=AF
theorem Tk(N:Nat)(s0:BA)(b3:Bool)(x61 x62 u06 u07 u08 u09 u0a u0b u0c u0d u0e u0f:Int)(u04:Nat)(u05:Int)(u03:Nat)(u00 u01 u02:LI)(again:St->DW)(k:Out->St->DW):E3 (IE N) (DU J8 [1,1,1,1,1,1,0,0,0,1,0,1,1,0,1,0,0]) (cF s0 b3 x61 x62 u06 u07 u08 u09 u0a u0b u0c u0d u0e u0f u04 u05 u03 u00 u01 u02) (ES again ⟨[0,2,3,4,6,10,61,62],[2,6,10,15,500,501],[⟨(.cell 6 5),500,85,AC,[.z,.list AD [.int .u64]]⟩,⟨(.cell 10 1),501,106,AD,[.int .u64]⟩]⟩ k)=(cond (AE (x62<x61)) (cond (K3 u00) (cond (AE ((u03+AN (A3 0 (AU 1 [IV.int (HG (N9 (FG u00)))])))*TI.bytes (Env.tyd (IE N) 106)<=EM)) (again (cF s0 b3 x61 (AI AJ (x62+1)) u06 u07 u08 u09 u0a u0b u0c u0d u0e u0f u04 u05 (u03+AN (A3 0 (AU 1 [IV.int (HG (N9 (FG u00)))]))) (A3 1 u00) u01 (AU u03 u02++A3 0 (AU 1 [IV.int (HG (N9 (FG u00)))])))) AB) AB) (k (.exit 4) (cF s0 b3 x61 x62 u06 u07 u08 u09 u0a u0b u0c u0d u0e u0f u04 u05 u03 u00 u01 u02))):=AF
theorem kx(N:Nat)(s0:BA)(b3:Bool)(u03 u04 u05 u06 u07 u08 u09 u0a u0b u0c:Int)(u02:Nat)(u00 u01:LI):(DZ 2 (D1 (IE N) (DU J8 [1,1,1,1,1,1,1]) (D4 (IE N) AB [.cell 2 31,.tmp 3] [[.z,.z,.z,.z,.z,.list AC [.z,.list AD [.int .u64]]],[.bool]]))) (.exit 2) (Y6 s0 b3 u03 u04 u05 u06 u07 u08 u09 u0a u0b u0c u02 u00 u01)=(cond (BY s0==BY {data:=#[]}) (AA (.tup [.agg [.i 0,.i 0,.i 0,.i 0,.i 0,.list AC [.z,.list AD [.int .u64]] []],.bool AD],[])) (cond (!BY (H2 {d:=u08,c:=u09,b0:=u0a,b1:=u0b,b2:=u0c,ts:=A3 0 (AU u02 u01)})==BY s0) (AA (.tup [.agg [.i 0,.i 0,.i 0,.i 0,.i 0,.list AC [.z,.list AD [.int .u64]] []],.bool AD],[])) (AA (.tup [.agg [.i u08,.i u09,.i u0a,.i u0b,.i u0c,.list AC [.z,.list AD [.int .u64]] (A3 0 (AU u02 u01))],.bool AC],[])))):=AF
theorem ky(N:Nat)(again:St->DW)(k:Out->St->DW)(s0:BA)(b3:Bool)(x61 x62 u06 u07 u08 u09 u0a u0b u0c u0d u0e u0f:Int)(u04:Nat)(u05:Int)(u03:Nat)(u00 u01 u02:LI):(DZ 4 (D1 (IE N) (DU J8 [1,1,1,1,1,1,0,0,0,1,0,1,1,1]) (DZ 3 (ES again ⟨[0,2,3,4,6],[2,6,15,500],[⟨(.cell 6 5),500,85,AC,[.z,.list AD [.int .u64]]⟩]⟩ k)))) (.exit 4) (cF s0 b3 x61 x62 u06 u07 u08 u09 u0a u0b u0c u0d u0e u0f u04 u05 u03 u00 u01 u02)=(cond (AE ((u04+AN (A3 0 (AU 1 [IV.agg [IV.int u05,IV.list (A3 0 (AU u03 u02))]])))*TI.bytes (Env.tyd (IE N) 85)<=EM)) (again (Y6 s0 b3 u06 u07 u08 u09 u0a u0b u0c u0d u0e u0f (u04+AN (A3 0 (AU 1 [IV.agg [IV.int u05,IV.list (A3 0 (AU u03 u02))]]))) u00 (AU u04 u01++A3 0 (AU 1 [IV.agg [IV.int u05,IV.list (A3 0 (AU u03 u02))]])))) AB):=AF
open Go Go.Proofs
theorem Di(s:BA){most:Int}(h:0<=most):0<=FS s most/\FS s most<=most:=by
 unfold FS;cases ha:OM s<;>cases h1:AE (GK s<0)<;>cases h2:AE (GK s>most)
 all_goals simp only[A9,BG,BX,CJ,DB,BN,BC]
 all_goals first
  |exact⟨by omega,by omega⟩
  |(have h1:=BM h1;have h2:=BM h2;omega)
theorem oJ(s t:BA):(JA s t).size<=s.size:=by
 unfold JA;cases QS s t with
 |true=>
  rw[DS,vaQ];omega
 |false=>exact A5 _
theorem vg{s:BA}(h:s.size<4294967281):K3 (VB s)=AC:=by
 unfold K3 VB;rw[CZ];intro x hx;obtain⟨w,hw,rfl⟩:=CV.1 hx
 have:=(bL QB _ (bR s)).2 w hw
 have h2:(bR s).size<=s.size:=oJ s QB;refine AL ?_;show w.size<4294967281;omega
abbrev sE:KP:=⟨[0,2,3,4,6,7,28,29],[2,6,15],[]⟩
abbrev mC:KP:=⟨[0,2,3,4,6],[2,6,15,500],[⟨.cell 6 5,500,85,AC,[.z,.list AD [.int .u64]]⟩]⟩
abbrev Hk:KP:=⟨[0,2,3,4,6,10,61,62],[2,6,10,15,500,501],[⟨.cell 6 5,500,85,AC,[.z,.list AD [.int .u64]]⟩,⟨.cell 10 1,501,106,AD,[.int .u64]⟩]⟩
abbrev bW(s:BA)(W:LI)(C i d c b0 b1 b2:Int)(L:LI):St:=
 ⟨[(0,(.str s)),(2,(.ptr 2 0 0)),(3,(.bool AD)),(4,(.ptr 15 0 0)),(6,(.ptr 6 0 0)),(7,(.list AD [.str] W)),(28,(.i C)),(29,(.i i))],[(2,(AA (.box [(.i 0),(.i 0),(.i 0),(.i 0),(.i 0),.zs]))),(6,(AA (.box [(.i d),(.i c),(.i b0),(.i b1),(.i b2),.zs]))),(15,(AA (.box [(.list AD [.str] L)])))]⟩
theorem ZT(N:Nat)(s:BA)(W:LI)(hW:∀i,(EF W i).size<4294967281)(C:Int)(i:Nat)(hi:(i:Int)<C)(h3:i<3)(d c b0 b1 b2:Int)(L:LI)(again:St->DW)(k:Out->St->DW):
  E3 (IE N) (DU J8 [1,1,1,1,1,0,1,0,0]) (bW s W C (i:Int) d c b0 b1 b2 L) (ES again sE k)=
   again (bW s W C ((i+1:Nat):Int) d c (cond (BZ i 0) (GP (EF W (1+i))) b0) (cond (BZ i 1) (GP (EF W (1+i))) b1) (cond (BZ i 2) (GP (EF W (1+i))) b2) L):=by
 rw[jL];have ei:AI AJ ((i:Int)+1)=((i+1:Nat):Int):=by
  rw[ER AG AG];omega
 have ei':AI AJ (1+(i:Int))=((1+i:Nat):Int):=by
  rw[ER AG AG];omega
 rw[ei,ei',BH,AL hi,DS,AL (show(0:Int)<=((1+i:Nat):Int) by omega),DS,AL (hW (1+i)),DS]
 match i,h3 with
 |0,_=>rfl
 |1,_=>rfl
 |2,_=>rfl
theorem am(N:Nat)(s:BA)(LS W:LI)(hWe:W=FG (LS.drop 1))(hW:∀i,(EF W i).size<4294967281)(C:Int)(h0:0<=C)(h3:C<=3)(hN:10<=N)(d c:Int)(L:LI)(K:Out->St->DW):
  D7 (IE N) (DU J8 [1,1,1,1,1,0,1,0,0]) sE N (bW s W C 0 d c 0 0 0 L) K=K (.exit 0) (bW s W C C d c (L5 LS C 0) (L5 LS C 1) (L5 LS C 2) L):=by
 obtain⟨M,rfl⟩:∃M,N=M+4:=⟨N-4,by omega⟩;obtain⟨n,rfl⟩:∃n:Nat,C=(n:Int):=⟨C.toNat,by omega⟩;subst hWe;have e0:bW s (FG (LS.drop 1)) (n:Int) 0 d c 0 0 0 L=bW s (FG (LS.drop 1)) (n:Int) ((0:Nat):Int) d c 0 0 0 L:=rfl;rw[e0]
 match n,h3 with
 |0,_=>
  rw[ED,jL,AS (show¬((0:Nat):Int)<((0:Nat):Int) by omega),DT];rfl
 |1,_=>
  rw[ED,ZT (M+4) s _ hW _ 0 AG AG,ED,jL,AS (show¬((0+1:Nat):Int)<((1:Nat):Int) by omega),DT];rfl
 |2,_=>
  rw[ED,ZT (M+4) s _ hW _ 0 AG AG,ED,ZT (M+4) s _ hW _ 1 AG AG,ED,jL,AS (show¬((1+1:Nat):Int)<((2:Nat):Int) by omega),DT];rfl
 |3,_=>
  rw[ED,ZT (M+4) s _ hW _ 0 AG AG,ED,ZT (M+4) s _ hW _ 1 AG AG,ED,ZT (M+4) s _ hW _ 2 AG AG,ED,jL,AS (show¬((2+1:Nat):Int)<((3:Nat):Int) by omega),DT];rfl
 |n+4,h3=>exact absurd h3 AG
abbrev yB(s:BA)(d c b0 b1 b2:Int)(L T:LI)(cl k j:Int)(NL:LI):St:=
 ⟨[(0,(.str s)),(2,(.ptr 2 0 0)),(3,(.bool AD)),(4,(.ptr 15 0 0)),(6,(.ptr 6 0 0)),(10,(.ptr 10 0 0)),(61,(.i k)),(62,(.i j))],[(2,(AA (.box [(.i 0),(.i 0),(.i 0),(.i 0),(.i 0),.zs]))),(6,(AA (.box [(.i d),(.i c),(.i b0),(.i b1),(.i b2),(.row 500 0 T.length)]))),(10,(AA (.box [(.i cl),(.row 501 0 NL.length)]))),(15,(AA (.box [(.list AD [.str] L)]))),(500,(AA (.row AC 85 AC [.z,(.list AD [(.int .u64)])] T))),(501,(AA (.row AC 106 AD [(.int .u64)] NL)))]⟩
theorem zcu(L:LI)(j:Nat):NN L (j+1)=NN L j++[.int (HG (N9 (FG (L.drop j))))]:=by
 unfold NN;rw[List.range_succ,va5];rfl
theorem i4(L:LI)(j:Nat):(NN L j).length=j:=by
 unfold NN;rw[B8,List.length_range]
theorem Kc(N:Nat)(s:BA)(d c b0 b1 b2:Int)(T L:LI)(hL:K3 L=AC)(cl:Int)(k:Nat)(hk:k<=31)(K:Out->St->DW):∀(m j n:Nat),j+m=k->m<n->
  D7 (IE N) (DU J8 [1,1,1,1,1,1,0,0,0,1,0,1,1,0,1,0,0]) Hk n (yB s d c b0 b1 b2 (L.drop j) T cl (k:Int) (j:Int) (NN L j)) K=
   K (.exit 4) (yB s d c b0 b1 b2 (L.drop k) T cl (k:Int) (k:Int) (NN L k))
 |m,j,0,_,h=>absurd h AG
 |0,j,n+1,hd,_=>by
  have hj:j=k:=by omega
  subst hj;rw[ED,Tk,AS (show¬(j:Int)<(j:Int) by omega),DT]
 |m+1,j,n+1,hd,hn=>by
  have ej:AI AJ ((j:Int)+1)=((j+1:Nat):Int):=by
   rw[ER AG AG];omega
  have eb:TI.bytes (Env.tyd (IE N) 106)=8:=rfl;have e1:∀x:IV,AN (A3 0 (AU 1 [x]))=1:=λx=>rfl
  have e2:∀x:IV,A3 0 (AU 1 [x])=[x]:=λx=>rfl
  rw[ED,Tk,ej,eb,e1,e2,AL (show(j:Int)<(k:Int) by omega),DS,YD hL j,DS,i4,AL (show(j+1)*8<=EM by unfold EM;omega),DS];have e3:AU j (NN L j)=NN L j:=C9 (by rw[i4];omega);rw[e3,<-zcu,List.drop_drop];have ih:=Kc N s d c b0 b1 b2 T L hL cl k hk K m (j+1) n AG AG;unfold yB at ih ⊢;rw[i4]at ih;exact ih
abbrev oR(s:BA)(d c b0 b1 b2:Int)(L T:LI):St:=
 ⟨[(0,(.str s)),(2,(.ptr 2 0 0)),(3,(.bool AD)),(4,(.ptr 15 0 0)),(6,(.ptr 6 0 0))],[(2,(AA (.box [(.i 0),(.i 0),(.i 0),(.i 0),(.i 0),.zs]))),(6,(AA (.box [(.i d),(.i c),(.i b0),(.i b1),(.i b2),(.row 500 0 T.length)]))),(15,(AA (.box [(.list AD [.str] L)]))),(500,(AA (.row AC 85 AC [.z,(.list AD [(.int .u64)])] T)))]⟩
theorem Ur(N:Nat)(hN:40<=N)(s:BA)(d c b0 b1 b2:Int)(K:Out->St->DW):∀(m n:Nat) (L T:LI),K3 L=AC->T.length+m=9->m<n->
  ∃L',D7 (IE N) (DU J8 [1,1,1,1,1,1,0,0,0]) mC n (oR s d c b0 b1 b2 L T) K=K (.exit 2) (oR s d c b0 b1 b2 L' (T++L6 m L))
 |m,0,L,T,_,_,h=>absurd h AG
 |m,n+1,[],T,hL,hT,hn=>by
  refine⟨[],?_⟩;have e:L6 m []=[]:=by cases m<;>rfl
  rw[ED,wV,AS (show¬ic (AN ([]:LI))>0 by decide),DT,e,vad]
 |0,n+1,l::L,T,hL,hT,hn=>by
  refine⟨l::L,?_⟩;rw[ED,wV,AL (show ic (AN (l::L))>0 by simp only[ic,AV];omega),DS,AS (show¬ic (T.length-0)<=8 by simp only[ic];omega),DT];show K (.exit 2) _=K (.exit 2) (oR s d c b0 b1 b2 (l::L) (T++[]));rw[vad]
 |m+1,n+1,l::L,T,hL,hT,hn=>by
  obtain⟨k0,k1⟩:=Di (EF (FG (l::L)) 2) (most:=31) AG;have hk:FS (EF (FG (l::L)) 2) 31=((NK (l::L):Nat):Int):=by unfold NK;omega
  have hLd:=YD hL 1;have hk31:NK (l::L)<=31:=by unfold NK;omega
  have e2:AM 2=2:=rfl;have e1:AM 1=1:=rfl;rw[ED,wV,AL (show ic (AN (l::L))>0 by simp only[ic,AV];omega),DS,AL (show ic (T.length-0)<=8 by simp only[ic];omega),DS,hL,DS,e2,e1,hk];have run:=Kc N s d c b0 b1 b2 T (A3 1 (l::L)) hLd (FS (EF (FG (l::L)) 1) 3) (NK (l::L)) hk31
   (DZ 4 (D1 (IE N) (DU J8 [1,1,1,1,1,1,0,0,0,1,0,1,1,1]) (DZ 3 (ES (λs'=>D7 (IE N) (DU J8 [1,1,1,1,1,1,0,0,0]) mC n s' K) mC K)))) (NK (l::L)) 0 N AG AG
  have eb:TI.bytes (Env.tyd (IE N) 85)=32:=rfl;have e3:∀x:IV,AN (A3 0 (AU 1 [x]))=1:=λx=>rfl
  have e4:∀x:IV,A3 0 (AU 1 [x])=[x]:=λx=>rfl
  rw[ky,eb,e3,e4,AL (show(T.length+1)*32<=EM by unfold EM;omega),DS,i4]at run;have e5:AU T.length T=T:=C9 (A5 _);have e6:A3 0 (AU (NK (l::L)) (NN (A3 1 (l::L)) (NK (l::L))))=NN (A3 1 (l::L)) (NK (l::L)):=by
   rw[CA,C9 (by rw[i4];omega)]
  rw[e5,e6]at run;obtain⟨L',hL'⟩:=Ur N hN s d c b0 b1 b2 K m n (A3 (NK (l::L)) (A3 1 (l::L))) (T++[bA (l::L)]) (YD hLd _) (by rw[A2,AV,BL];omega) AG;refine⟨L',?_⟩;have e7:T++L6 (m+1) (l::L)=T++[bA (l::L)]++L6 m (A3 (NK (l::L)) (A3 1 (l::L))):=by
   rw[vax];rfl
  rw[e7,<-hL'];refine Eq.trans ?_ (run.trans ?_)
  .rfl
  .have e8:(T++[bA (l::L)]).length=T.length+1:=by rw[A2];rfl
   unfold oR;rw[e8];rfl
set_option maxHeartbeats 1000000 in
theorem zeO:D9 PR B0 17 fI:=by
 refine EJ [(64,RJ),(65,W6),(13,S1),(67,W7),(66,W8),(70,fK),(69,W9),(68,XA)] [(6,sE),(10,mC),(14,Hk)] fI [[.z,.z,.z,.z,.z,.list true [.z,.list false [.int .u64]]],[.bool]] Tryz.func17 sq ⟨nW,Ql,wO,Qm,Qn,zeQ,Qo,Qp,trivial⟩ ?_;intro vs r hwf h;unfold fI at h;split at h
 ·rename_i s;cases hc:decide (s.size < 4294967281) with
  | false=>rw [hc] at h; simp [R.get] at h
  | true=>
   rw [hc,R.get_br,DS,R.get_ok] at h;have hs:=of_decide_eq_true hc;refine ⟨40,?_⟩;rw [← h];refine (zaL 40 s).trans ?_;have hok:=vg hs;have e0:List.map IV.str (EP (JA s { data:=#[10] }) { data:=#[10] })=VB s:=rfl;have e1:decide (1≤ByteArray.size { data:=#[10] })=true:=rfl;have ts:=oJ s QB;have e2:Int.toNat 2=2:=rfl;have e3:Int.toNat 1=1:=rfl;rw [e0,e1,e2,e3,decide_eq_true (show ByteArray.size (JA s { data:=#[10] }) < 4294967281 from Nat.lt_of_le_of_lt ts hs),Bool.and_self,DS,hok,DS,YD hok 1,DS];generalize hLS:VB s=LS at hok ⊢;obtain ⟨c0,c3⟩:=Di (EF (FG LS) 2) (most:=3) (by omega);refine (am 40 s LS (FG (LS.drop 1)) rfl (tJ (YD hok 1)) (FS (EF (FG LS) 2) 3) c0 c3 (by omega) (FS (EF (FG LS) 1) 4) (FS (EF (FG LS) 2) 3) (List.drop 1 (List.drop 1 LS)) _).trans ?_;rw [kw];obtain ⟨L',hL'⟩:=Ur 40 (by omega) s (FS (EF (FG LS) 1) 4) (FS (EF (FG LS) 2) 3) (L5 LS (FS (EF (FG LS) 2) 3) 0) (L5 LS (FS (EF (FG LS) 2) 3) 1) (L5 LS (FS (EF (FG LS) 2) 3) 2)
    (DZ 2 (D1 (IE 40) (DU J8 [1,1,1,1,1,1,1]) (D4 (IE 40) none [(ResultVar.cell 2 31),(ResultVar.tmp 3)] [[.z,.z,.z,.z,.z,(.list true [.z,(.list false [(.int .u64)])])],[.bool]])))
    9 40 (List.drop 1 (List.drop 1 LS)) [] (YD (YD hok 1) 1) rfl (by omega)
   refine hL'.trans ?_;rw [kx];have e4:([]:LI)++L6 9 (List.drop 1 (List.drop 1 LS))=L6 9 (LS.drop 2):=by
    rw [List.nil_append,List.drop_drop]
   have e5:List.drop 0 (List.take (([]:LI)++L6 9 (List.drop 1 (List.drop 1 LS))).length (([]:LI)++L6 9 (List.drop 1 (List.drop 1 LS))))=L6 9 (LS.drop 2):=by
    rw [List.drop_zero,List.take_of_length_le (Nat.le_refl _),e4]
   rw [e5];have e6:(⟨FS (EF (FG LS) 1) 4,FS (EF (FG LS) 2) 3,L5 LS (FS (EF (FG LS) 2) 3) 0,L5 LS (FS (EF (FG LS) 2) 3) 1,L5 LS (FS (EF (FG LS) 2) 3) 2,L6 9 (LS.drop 2)⟩:Md)=Z3 s:=by
    unfold Z3;rw [hLS];rfl
   unfold JG Q3;rw [← e6];cases (ByteArray.toList s==ByteArray.toList YZ) with
   | true=>rfl
   | false=>
    rw [DT,Bool.not_false,Bool.true_and];cases (ByteArray.toList (H2 ⟨FS (EF (FG LS) 1) 4,FS (EF (FG LS) 2) 3,L5 LS (FS (EF (FG LS) 2) 3) 0,L5 LS (FS (EF (FG LS) 2) 3) 1,L5 LS (FS (EF (FG LS) 2) 3) 2,L6 9 (LS.drop 2)⟩)==ByteArray.toList s) <;> rfl
 ·simp [R.get] at h
open Go Go.Proofs
def Wd(N:Nat):Env:=EI [] [] 39 N
theorem wm(N:Nat)(u04 u01 u06 u05 u08 u07 u0a u09 u0c u0b u0e u0d q_Lo q_Hi u03:Int)(u02:Bool)(u00 dim:Int):EB (Wd N) zV [.cell 4 39] [[.z,.z,.z,.z,.z,.z,.z,.z,.z,.z,.z,.z,.z,.z,.z,.bool,.z]] [.agg [.i u04,.i u01,.i u06,.i u05,.i u08,.i u07,.i u0a,.i u09,.i u0c,.i u0b,.i u0e,.i u0d,.i q_Lo,.i q_Hi,.i u03,.bool u02,.i u00],.i dim]=(cond (AE (0<=dim)&&AE (dim<=ic 5)) (cond (AE (0<=dim)&&AE (dim<=ic 5)) (cond (AE (ic (min (AM dim) (AM dim))=ic 0)) (cond (u04==1) (AA (.agg [.i u04,.i u01,.i 0,.i 0,.i 0,.i 0,.i 0,.i 0,.i 0,.i 0,.i 0,.i 0,.i q_Lo,.i q_Hi,.i 0,.bool AD,.i u00],[])) (cond (u04==3) (AA (.agg [.i u04,.i u01,.i 0,.i 0,.i 0,.i 0,.i 0,.i 0,.i 0,.i 0,.i 0,.i 0,.i 0,.i 0,.i u03,.bool u02,.i u00],[])) (AA (.agg [.i u04,.i u01,.i 0,.i 0,.i 0,.i 0,.i 0,.i 0,.i 0,.i 0,.i 0,.i 0,.i 0,.i 0,.i 0,.bool AD,.i u00],[])))) (cond (AE (ic (min (AM dim) (AM dim))=ic 1)) (cond (u04==1) (AA (.agg [.i u04,.i u01,.i u06,.i u05,.i 0,.i 0,.i 0,.i 0,.i 0,.i 0,.i 0,.i 0,.i q_Lo,.i q_Hi,.i 0,.bool AD,.i u00],[])) (cond (u04==3) (AA (.agg [.i u04,.i u01,.i u06,.i u05,.i 0,.i 0,.i 0,.i 0,.i 0,.i 0,.i 0,.i 0,.i 0,.i 0,.i u03,.bool u02,.i u00],[])) (AA (.agg [.i u04,.i u01,.i u06,.i u05,.i 0,.i 0,.i 0,.i 0,.i 0,.i 0,.i 0,.i 0,.i 0,.i 0,.i 0,.bool AD,.i u00],[])))) (cond (AE (ic (min (AM dim) (AM dim))=ic 2)) (cond (u04==1) (AA (.agg [.i u04,.i u01,.i u06,.i u05,.i u08,.i u07,.i 0,.i 0,.i 0,.i 0,.i 0,.i 0,.i q_Lo,.i q_Hi,.i 0,.bool AD,.i u00],[])) (cond (u04==3) (AA (.agg [.i u04,.i u01,.i u06,.i u05,.i u08,.i u07,.i 0,.i 0,.i 0,.i 0,.i 0,.i 0,.i 0,.i 0,.i u03,.bool u02,.i u00],[])) (AA (.agg [.i u04,.i u01,.i u06,.i u05,.i u08,.i u07,.i 0,.i 0,.i 0,.i 0,.i 0,.i 0,.i 0,.i 0,.i 0,.bool AD,.i u00],[])))) (cond (AE (ic (min (AM dim) (AM dim))=ic 3)) (cond (u04==1) (AA (.agg [.i u04,.i u01,.i u06,.i u05,.i u08,.i u07,.i u0a,.i u09,.i 0,.i 0,.i 0,.i 0,.i q_Lo,.i q_Hi,.i 0,.bool AD,.i u00],[])) (cond (u04==3) (AA (.agg [.i u04,.i u01,.i u06,.i u05,.i u08,.i u07,.i u0a,.i u09,.i 0,.i 0,.i 0,.i 0,.i 0,.i 0,.i u03,.bool u02,.i u00],[])) (AA (.agg [.i u04,.i u01,.i u06,.i u05,.i u08,.i u07,.i u0a,.i u09,.i 0,.i 0,.i 0,.i 0,.i 0,.i 0,.i 0,.bool AD,.i u00],[])))) (cond (AE (ic (min (AM dim) (AM dim))=ic 4)) (cond (u04==1) (AA (.agg [.i u04,.i u01,.i u06,.i u05,.i u08,.i u07,.i u0a,.i u09,.i u0c,.i u0b,.i 0,.i 0,.i q_Lo,.i q_Hi,.i 0,.bool AD,.i u00],[])) (cond (u04==3) (AA (.agg [.i u04,.i u01,.i u06,.i u05,.i u08,.i u07,.i u0a,.i u09,.i u0c,.i u0b,.i 0,.i 0,.i 0,.i 0,.i u03,.bool u02,.i u00],[])) (AA (.agg [.i u04,.i u01,.i u06,.i u05,.i u08,.i u07,.i u0a,.i u09,.i u0c,.i u0b,.i 0,.i 0,.i 0,.i 0,.i 0,.bool AD,.i u00],[])))) (cond (AE (ic (min (AM dim) (AM dim))=ic 5)) (cond (u04==1) (AA (.agg [.i u04,.i u01,.i u06,.i u05,.i u08,.i u07,.i u0a,.i u09,.i u0c,.i u0b,.i u0e,.i u0d,.i q_Lo,.i q_Hi,.i 0,.bool AD,.i u00],[])) (cond (u04==3) (AA (.agg [.i u04,.i u01,.i u06,.i u05,.i u08,.i u07,.i u0a,.i u09,.i u0c,.i u0b,.i u0e,.i u0d,.i 0,.i 0,.i u03,.bool u02,.i u00],[])) (AA (.agg [.i u04,.i u01,.i u06,.i u05,.i u08,.i u07,.i u0a,.i u09,.i u0c,.i u0b,.i u0e,.i u0d,.i 0,.i 0,.i 0,.bool AD,.i u00],[])))) AB)))))) AB) AB):=AF
def Wc(N:Nat):Env:=EI [] [] 9 N
theorem wl(N:Nat)(n:Int):EB (Wc N) zU [.tmp 2] [[.bool]] [.i n]=(cond (AE (n>=0)) (AA (.bool (AE (n<=1073741824)),[])) (AA (.bool AD,[]))):=AF
def Wa(N:Nat):Env:=EI [(122,ZG)] [] 11 N
theorem wh(N:Nat)(s:BA):EB (Wa N) zR [.tmp 2] [[.z]] [.str s]=(AA (.i (GK s),[])):=AF
def Wb(N:Nat):Env:=EI [(131,WU)] [] 11 N
theorem wk(N:Nat)(s:BA):EB (Wb N) zT [.tmp 2] [[.z]] [.str s]=(cond (AE (AR s<4294967281)) (AA (.i (GP s),[])) AB):=AF
def RH(N:Nat):Env:=EI [] [(2,⟨[0,1,4,7,8],[],[]⟩)] 19 N
abbrev WC(l0:LI)(s1:BA)(x4 x7 x8:Int):St:=⟨[(0,(.list AD [.str] l0)),(1,(.str s1)),(4,(.i x4)),(7,(.i x7)),(8,(.i x8))],[]⟩
theorem zaE(N:Nat)(s:LI)(v:BA):EB (RH N) U3 [.tmp 4] [[.z]] [.list AD [.str] s,.str v]=(D7 (RH N) (DU U3 [1,0,1,0,0]) ⟨[0,1,4,7,8],[],[]⟩ N (WC s v 0 (ic (AN s)) 0) (DZ 0 (D1 (RH N) (DU U3 [1,1]) (D4 (RH N) AB [.tmp 4] [[.z]])))):=AF
theorem Tj(N:Nat)(l0:LI)(s1:BA)(x4 x7 x8:Int)(again:St->DW)(k:Out->St->DW):E3 (RH N) (DU U3 [1,0,1,0,0]) (WC l0 s1 x4 x7 x8) (ES again ⟨[0,1,4,7,8],[],[]⟩ k)=(cond (AE (x8<x7)) (cond (AE (0<=x8)&&AE (x8<ic (AN l0))) (cond (BY s1==BY (IV.toStr (AQ l0 (AM x8) default))) (k .ret (WC l0 s1 x8 x7 x8)) (again (WC l0 s1 x4 x7 (AI AJ (x8+1))))) AB) (k (.exit 0) (WC l0 s1 x4 x7 x8))):=AF
theorem ku(N:Nat)(l0:LI)(s1:BA)(x4 x7 x8:Int):(DZ 0 (D1 (RH N) (DU U3 [1,1]) (D4 (RH N) AB [.tmp 4] [[.z]]))) (.exit 0) (WC l0 s1 x4 x7 x8)=(AA (.i (-1),[])):=AF
theorem kv(N:Nat)(l0:LI)(s1:BA)(x4 x7 x8:Int):(DZ 0 (D1 (RH N) (DU U3 [1,1]) (D4 (RH N) AB [.tmp 4] [[.z]]))) .ret (WC l0 s1 x4 x7 x8)=(AA (.i x4,[])):=AF
def oV(N:Nat):Env:=EI [(84,WL),(83,WM),(138,kB)] [] 46 N
theorem wj(N:Nat)(l:LI):EB (oV N) zS [.cell 2 39] [[.z,.z,.z,.z,.z,.z,.z,.z,.z,.z,.z,.z,.z,.z,.z,.bool,.z]] [.list AD [.str] l]=(cond (AE (AN l<=4294967296)) (cond (AE ((AN l+AN (BU (AM 6) (IV.str {data:=#[]})))*TI.bytes (Env.tyd (oV N) 9)<=EM)) (cond (AE (0<=1)&&AE (1<ic (AN l+AN (BU (AM 6) (IV.str {data:=#[]}))-0))) (cond (AE (0<=0)&&AE (0<ic (AN l+AN (BU (AM 6) (IV.str {data:=#[]}))-0))) (cond (BY (IV.toStr (AQ (AU (AN l) l++BU (AM 6) (IV.str {data:=#[]})) 0 default))==BY {data:=#[114,97,110,103,101]}) (cond (AE (0<=3)&&AE (3<ic (AN l+AN (BU (AM 6) (IV.str {data:=#[]}))-0))) (cond (AE (AR (IV.toStr (AQ (AU (AN l) l++BU (AM 6) (IV.str {data:=#[]})) 3 default))<4294967281)) (cond (AE (0<=5)&&AE (5<ic (AN l+AN (BU (AM 6) (IV.str {data:=#[]}))-0))) (cond (AE (AR (IV.toStr (AQ (AU (AN l) l++BU (AM 6) (IV.str {data:=#[]})) 5 default))<4294967281)) (AA ((.agg [.i 1,(.i (GK (IV.toStr (AQ (AU (AN l) l++BU (AM 6) (IV.str {data:=#[]})) 1 default)))),.i 0,.i 0,.i 0,.i 0,.i 0,.i 0,.i 0,.i 0,.i 0,.i 0,(.i (GP (IV.toStr (AQ (AU (AN l) l++BU (AM 6) (IV.str {data:=#[]})) 3 default)))),(.i (GP (IV.toStr (AQ (AU (AN l) l++BU (AM 6) (IV.str {data:=#[]})) 5 default)))),.i 0,.bool AD,.i 0]),[])) AB) AB) AB) AB) (cond (BY (IV.toStr (AQ (AU (AN l) l++BU (AM 6) (IV.str {data:=#[]})) 0 default))==BY {data:=#[98,101,115,116]}) (AA ((.agg [.i 2,(.i (GK (IV.toStr (AQ (AU (AN l) l++BU (AM 6) (IV.str {data:=#[]})) 1 default)))),.i 0,.i 0,.i 0,.i 0,.i 0,.i 0,.i 0,.i 0,.i 0,.i 0,.i 0,.i 0,.i 0,.bool AD,.i 0]),[])) (cond (BY (IV.toStr (AQ (AU (AN l) l++BU (AM 6) (IV.str {data:=#[]})) 0 default))==BY {data:=#[114,105,115,101,115]}) (cond (AE (0<=3)&&AE (3<ic (AN l+AN (BU (AM 6) (IV.str {data:=#[]}))-0))) (cond (AE (0<=0)&&AE (0<ic (AN l+AN (BU (AM 6) (IV.str {data:=#[]}))-0))) (AA ((.agg [.i 3,(.i (GK (IV.toStr (AQ (AU (AN l) l++BU (AM 6) (IV.str {data:=#[]})) 1 default)))),.i 0,.i 0,.i 0,.i 0,.i 0,.i 0,.i 0,.i 0,.i 0,.i 0,.i 0,.i 0,(.i (GK (IV.toStr (AQ (AU (AN l) l++BU (AM 6) (IV.str {data:=#[]})) 3 default)))),(.bool (BY (IV.toStr (AQ (AU (AN l) l++BU (AM 6) (IV.str {data:=#[]})) 0 default))==BY {data:=#[102,97,108,108,115]})),.i 0]),[])) AB) AB) (cond (BY (IV.toStr (AQ (AU (AN l) l++BU (AM 6) (IV.str {data:=#[]})) 0 default))==BY {data:=#[102,97,108,108,115]}) (cond (AE (0<=3)&&AE (3<ic (AN l+AN (BU (AM 6) (IV.str {data:=#[]}))-0))) (cond (AE (0<=0)&&AE (0<ic (AN l+AN (BU (AM 6) (IV.str {data:=#[]}))-0))) (AA ((.agg [.i 3,(.i (GK (IV.toStr (AQ (AU (AN l) l++BU (AM 6) (IV.str {data:=#[]})) 1 default)))),.i 0,.i 0,.i 0,.i 0,.i 0,.i 0,.i 0,.i 0,.i 0,.i 0,.i 0,.i 0,(.i (GK (IV.toStr (AQ (AU (AN l) l++BU (AM 6) (IV.str {data:=#[]})) 3 default)))),(.bool (BY (IV.toStr (AQ (AU (AN l) l++BU (AM 6) (IV.str {data:=#[]})) 0 default))==BY {data:=#[102,97,108,108,115]})),.i 0]),[])) AB) AB) (AA ((.agg [.i 0,(.i (GK (IV.toStr (AQ (AU (AN l) l++BU (AM 6) (IV.str {data:=#[]})) 1 default)))),.i 0,.i 0,.i 0,.i 0,.i 0,.i 0,.i 0,.i 0,.i 0,.i 0,.i 0,.i 0,.i 0,.bool AD,.i 0]),[])))))) AB) AB) AB) AB):=AF
open Go Go.Proofs
theorem zdr:D9 PR B0 41 cL:=by
 refine EJ [] [] cL [[.bool]] Tryz.func41 mp trivial ?_;intro vs r hwf h;unfold cL at h;split at h
 .rename_i n;refine⟨0,?_⟩;rw[<-h];refine(wl 0 n).trans ?_;simp only[R.get_ok];unfold KR
  have:AE (n>=0)=AE (0<=n):=rfl
  rw[this];cases AE (0<=n)<;>rfl
 .simp[R.get]at h
theorem Ph:D9 PR B0 84 WL:=by
 refine EJ [(122,ZG)] [] WL [[.z]] Tryz.func84 mm ⟨Qg,trivial⟩ ?_;intro vs r hwf h;unfold WL at h;split at h
 .rename_i s;refine⟨0,?_⟩;rw[<-h];exact wh 0 s
 .simp[R.get]at h
theorem Pi:D9 PR B0 83 WM:=by
 refine EJ [(131,WU)] [] WM [[.z]] Tryz.func83 mo ⟨Pq,trivial⟩ ?_;intro vs r hwf h;unfold WM at h;split at h
 .rename_i s;refine⟨0,?_⟩;rw[<-h];refine(wk 0 s).trans ?_;simp only[R.get_br,R.get_ok,R.get_no]
 .simp[R.get]at h
theorem zds:D9 PR B0 40 cM:=by
 refine EJ [] [] cM [[.z,.z,.z,.z,.z,.z,.z,.z,.z,.z,.z,.z,.z,.z,.z,.bool,.z]] Tryz.func40 mq trivial ?_;intro vs r hwf h;unfold cM at h;split at h
 .rename_i k c a0 b0 a1 b1 a2 b2 a3 b3 a4 b4 lo hi ft fl bu d;refine⟨0,?_⟩;cases hc:(AE (0<=d)&&AE (d<=5))with
  |false=>rw[hc]at h;simp[R.get]at h
  |true=>
   rw[hc,R.get_br,DS,R.get_ok]at h;rw[<-h];refine(wm 0 k c a0 b0 a1 b1 a2 b2 a3 b3 a4 b4 lo hi ft fl bu d).trans ?_;have e5:(AE (0<=d)&&AE (d<=ic 5))=AC:=hc;rw[e5,DS,DS];simp only[AP,AW]at hc;obtain⟨n,rfl⟩:∃n:Nat,d=n:=⟨d.toNat,by omega⟩;simp only[BH,Nat.min_self];unfold F3;have hn:n=0\/n=1\/n=2\/n=3\/n=4\/n=5:=by omega
   have h13:(k==1)=AC->(k==3)=AD:=λh1=>by
    rw[UQ]at h1 ⊢
    have:=BB h1
    exact AS AG
   generalize(k==1)=e1 at h13 ⊢;generalize(k==3)=e3 at h13 ⊢;rcases hn with rfl|rfl|rfl|rfl|rfl|rfl<;>cases e1<;>cases e3<;>first|rfl|exact absurd (h13 rfl) (by decide)
 .simp[R.get]at h
theorem Gr(N:Nat)(l:LI)(s:BA)(hl:l.length<=strMax)(K:Out->St->DW)
  (hx:∀l0 s1 x4 x7 x8,K (.exit 0) ⟨[(0,(.list AD [.str] l0)),(1,(.str s1)),(4,(.i x4)),(7,(.i x7)),(8,(.i x8))],[]⟩=AA (.i (-1),[]))
  (hr:∀l0 s1 x4 x7 x8,K .ret ⟨[(0,(.list AD [.str] l0)),(1,(.str s1)),(4,(.i x4)),(7,(.i x7)),(8,(.i x8))],[]⟩=AA (.i x4,[])):
  ∀(d i n:Nat) (x4:Int),i+d=l.length->d<n->
   D7 (RH N) (DU U3 [1,0,1,0,0]) ⟨[0,1,4,7,8],[],[]⟩ n ⟨[(0,(.list AD [.str] l)),(1,(.str s)),(4,(.i x4)),(7,(.i (ic l.length))),(8,(.i (i:Int)))],[]⟩ K=AA (.i (GC (l.drop i) s (i:Int)),[])
 |0,i,n+1,x4,hd,hn=>by
  rw[ED,Tj,I6 AG,DT,hx,C1 AG];rfl
 |d+1,i,n+1,x4,hd,hn=>by
  have hi:i<l.length:=by omega
  unfold strMax at hl;have ih:=Gr N l s (by unfold strMax;omega) K hx hr d (i+1) n x4 AG AG;rw[ED,Tj,H0 hi,IG,CJ,DS,DS,IK hi,GQ AG,BD hi];unfold GC;cases(BY s==BY (IV.toStr l[i]))with
  |true=>rw[DS,DS,hr]
  |false=>
   rw[DT,DT,ih];rfl
 |_,_,0,_,_,h=>by omega
theorem zeH:D9 PR B0 80 fG:=by
 refine EJ [] [(2,⟨[0,1,4,7,8],[],[]⟩)] fG [[.z]] Tryz.func80 se trivial ?_;intro vs r hwf h;unfold fG at h;split at h
 .rename_i l s;refine⟨l.length+1,?_⟩;rw[<-h];refine(zaE (l.length+1) l s).trans ?_;simp only[R.get_ok];have hl:=(hwf (by simp[K4])).1;simp only[QC,wfL]at hl
  have:=Gr (l.length+1) l s hl.1 _ (λl0 s1 x4 x7 x8=>ku (l.length+1) l0 s1 x4 x7 x8) (λl0 s1 x4 x7 x8=>kv (l.length+1) l0 s1 x4 x7 x8) l.length 0 (l.length+1) 0 AG AG
  rw[CA]at this;exact this
 .simp[R.get]at h
theorem zbQ(l:LI)(i m:Nat)(x:IV)(hx:x.toStr=CQ):IV.toStr (AQ (l++BU m x) i default)=EF l i:=by
 unfold EF;by_cases h:i<l.length
 .simp[AQ,vai,h]
 .have e0:(AQ l i default).toStr=CQ:=by simp[AQ,h];rfl
  rw[e0];by_cases h6:i-l.length<m
  .have e:AQ (l++BU m x) i default=x:=by simp[AQ,vai,h,h6]
   rw[e,hx]
  .have e:AQ (l++BU m x) i default=default:=by simp[AQ,vai,h,h6]
   rw[e];rfl
theorem zbR(l:LI)(i:Nat):IV.toStr (AQ (AU (AN l) l++BU (AM 6) (IV.str {data:=#[]})) i default)=EF l i:=by
 rw[BW];exact zbQ l i _ _ rfl
theorem zdq:D9 PR B0 81 cK:=by
 refine EJ [(84,WL),(83,WM),(138,kB)] [] cK [[.z,.z,.z,.z,.z,.z,.z,.z,.z,.z,.z,.z,.z,.z,.z,.bool,.z]] Tryz.func81 mn
  ⟨Ph,Pi,zeE,trivial⟩ ?_
 intro vs r hwf h;unfold cK at h;split at h
 .rename_i l;refine⟨0,?_⟩;cases hc:(AE (l.length<=4294967290)&&l.all (λx=>AE (x.toStr.size<4294967281)))with
  |false=>rw[hc]at h;simp[R.get]at h
  |true=>
   rw[hc,R.get_br,DS,R.get_ok]at h;rw[<-h];refine(wj 0 l).trans ?_;simp only[AP,AW,CZ]at hc;obtain⟨hl,hz⟩:=hc;have hw:∀i,(EF l i).size<4294967281:=λi=>by
    unfold EF;by_cases hi:i<l.length
    .have:AQ l i default=l[i]:=by simp[hi]
     rw[this];exact hz _ (DC hi)
    .have:AQ l i default=default:=by simp[AQ,hi]
     rw[this];decide
   have hb:TI.bytes (Env.tyd (oV 0) 9)=16:=by rfl
   have hr6:(BU (AM 6) (IV.str {data:=#[]})).length=6:=rfl;simp only[zbR];rw[hb,hr6];have ge:∀k:Nat,k<6->AE ((k:Int)<ic (AN l+6-0))=AC:=λk hk=>AL (by simp only[ic];omega)
   have g0:=ge 0 AG;have g1:=ge 1 AG;have g3:=ge 3 AG;have g5:=ge 5 AG;rw[AL (show AN l<=4294967296 by omega),DS,AL (show(AN l+6)*16<=EM by unfold EM;omega),DS];have n0:AE ((0:Nat)<=0)=AC:=rfl;have d1:(AE (0<=1)&&AE (1<ic (AN l+6-0)))=AC:=by simpa using g1
   have d0:(AE (0<=0)&&AE (0<ic (AN l+6-0)))=AC:=by simpa using g0
   have d3:(AE (0<=3)&&AE (3<ic (AN l+6-0)))=AC:=by simpa using g3
   have d5:(AE (0<=5)&&AE (5<ic (AN l+6-0)))=AC:=by simpa using g5
   rw[d1,d0,d3,d5,AL (hw 3),AL (hw 5)];simp only[DS];unfold E4;cases((EF l 0).toList==NR.toList)with
   |true=>rfl
   |false=>
    cases((EF l 0).toList==PB.toList)with
    |true=>rfl
    |false=>
     cases((EF l 0).toList==NS.toList)<;>cases((EF l 0).toList==M4.toList)<;>rfl
 .simp[R.get]at h
open Go Go.Proofs
def H5(N:Nat):Env:=EI [(41,cL),(40,cM),(43,SZ),(42,RI),(44,ZJ)] [(18,⟨[2,4,6,75,76,77],[2,500],[⟨.tmp 6,500,9,AD,[.str]⟩]⟩)] 100 N
abbrev PE(s4:BA)(n6 n75:Nat)(x76 x77 u02 u03 u0a u0b u0c u0d u0e u0f u0g u0h u04 u05 u06 u07 u08:Int)(u00:Bool)(u09:Int)(u01:LI):St:=⟨[(2,(.ptr 2 0 0)),(4,(.str s4)),(6,(.row 500 0 n6)),(75,(.bview 2 2 5 2 n75)),(76,(.i x76)),(77,(.i x77))],[(2,(AA (.box [.i u02,.i u03,.i u0a,.i u0b,.i u0c,.i u0d,.i u0e,.i u0f,.i u0g,.i u0h,.i u04,.i u05,.i u06,.i u07,.i u08,.bool u00,.i u09]))),(500,(AA (.row AC 9 AD [.str] u01)))]⟩
theorem wg(N:Nat)(u04 u01 u06 u05 u08 u07 u0a u09 u0c u0b u0e u0d q_Lo q_Hi u03:Int)(u02:Bool)(u00 a1:Int):EB (H5 N) MI [.tmp 4] [[.str]] [.agg [.i u04,.i u01,.i u06,.i u05,.i u08,.i u07,.i u0a,.i u09,.i u0c,.i u0b,.i u0e,.i u0d,.i q_Lo,.i q_Hi,.i u03,.bool u02,.i u00],.i a1]=(cond (AE (a1<1)) (AA ((.str ({data:=#[]})),[])) (cond (AE (a1>4)) (AA ((.str ({data:=#[]})),[])) (cond (AE (0<=a1)&&AE (a1<=5)) (cond (! (u04==Qy.k (F3 {k:=u04,c:=u01,a0:=u06,b0:=u05,a1:=u08,b1:=u07,a2:=u0a,b2:=u09,a3:=u0c,b3:=u0b,a4:=u0e,b4:=u0d,lo:=q_Lo,hi:=q_Hi,ft:=u03,fl:=u02,bu:=u00} a1)&&(u01==Qy.c (F3 {k:=u04,c:=u01,a0:=u06,b0:=u05,a1:=u08,b1:=u07,a2:=u0a,b2:=u09,a3:=u0c,b3:=u0b,a4:=u0e,b4:=u0d,lo:=q_Lo,hi:=q_Hi,ft:=u03,fl:=u02,bu:=u00} a1)&&(u06==Qy.a0 (F3 {k:=u04,c:=u01,a0:=u06,b0:=u05,a1:=u08,b1:=u07,a2:=u0a,b2:=u09,a3:=u0c,b3:=u0b,a4:=u0e,b4:=u0d,lo:=q_Lo,hi:=q_Hi,ft:=u03,fl:=u02,bu:=u00} a1)&&(u05==Qy.b0 (F3 {k:=u04,c:=u01,a0:=u06,b0:=u05,a1:=u08,b1:=u07,a2:=u0a,b2:=u09,a3:=u0c,b3:=u0b,a4:=u0e,b4:=u0d,lo:=q_Lo,hi:=q_Hi,ft:=u03,fl:=u02,bu:=u00} a1)&&(u08==Qy.a1 (F3 {k:=u04,c:=u01,a0:=u06,b0:=u05,a1:=u08,b1:=u07,a2:=u0a,b2:=u09,a3:=u0c,b3:=u0b,a4:=u0e,b4:=u0d,lo:=q_Lo,hi:=q_Hi,ft:=u03,fl:=u02,bu:=u00} a1)&&(u07==Qy.b1 (F3 {k:=u04,c:=u01,a0:=u06,b0:=u05,a1:=u08,b1:=u07,a2:=u0a,b2:=u09,a3:=u0c,b3:=u0b,a4:=u0e,b4:=u0d,lo:=q_Lo,hi:=q_Hi,ft:=u03,fl:=u02,bu:=u00} a1)&&(u0a==Qy.a2 (F3 {k:=u04,c:=u01,a0:=u06,b0:=u05,a1:=u08,b1:=u07,a2:=u0a,b2:=u09,a3:=u0c,b3:=u0b,a4:=u0e,b4:=u0d,lo:=q_Lo,hi:=q_Hi,ft:=u03,fl:=u02,bu:=u00} a1)&&(u09==Qy.b2 (F3 {k:=u04,c:=u01,a0:=u06,b0:=u05,a1:=u08,b1:=u07,a2:=u0a,b2:=u09,a3:=u0c,b3:=u0b,a4:=u0e,b4:=u0d,lo:=q_Lo,hi:=q_Hi,ft:=u03,fl:=u02,bu:=u00} a1)&&(u0c==Qy.a3 (F3 {k:=u04,c:=u01,a0:=u06,b0:=u05,a1:=u08,b1:=u07,a2:=u0a,b2:=u09,a3:=u0c,b3:=u0b,a4:=u0e,b4:=u0d,lo:=q_Lo,hi:=q_Hi,ft:=u03,fl:=u02,bu:=u00} a1)&&(u0b==Qy.b3 (F3 {k:=u04,c:=u01,a0:=u06,b0:=u05,a1:=u08,b1:=u07,a2:=u0a,b2:=u09,a3:=u0c,b3:=u0b,a4:=u0e,b4:=u0d,lo:=q_Lo,hi:=q_Hi,ft:=u03,fl:=u02,bu:=u00} a1)&&(u0e==Qy.a4 (F3 {k:=u04,c:=u01,a0:=u06,b0:=u05,a1:=u08,b1:=u07,a2:=u0a,b2:=u09,a3:=u0c,b3:=u0b,a4:=u0e,b4:=u0d,lo:=q_Lo,hi:=q_Hi,ft:=u03,fl:=u02,bu:=u00} a1)&&(u0d==Qy.b4 (F3 {k:=u04,c:=u01,a0:=u06,b0:=u05,a1:=u08,b1:=u07,a2:=u0a,b2:=u09,a3:=u0c,b3:=u0b,a4:=u0e,b4:=u0d,lo:=q_Lo,hi:=q_Hi,ft:=u03,fl:=u02,bu:=u00} a1)&&(q_Lo==Qy.lo (F3 {k:=u04,c:=u01,a0:=u06,b0:=u05,a1:=u08,b1:=u07,a2:=u0a,b2:=u09,a3:=u0c,b3:=u0b,a4:=u0e,b4:=u0d,lo:=q_Lo,hi:=q_Hi,ft:=u03,fl:=u02,bu:=u00} a1)&&(q_Hi==Qy.hi (F3 {k:=u04,c:=u01,a0:=u06,b0:=u05,a1:=u08,b1:=u07,a2:=u0a,b2:=u09,a3:=u0c,b3:=u0b,a4:=u0e,b4:=u0d,lo:=q_Lo,hi:=q_Hi,ft:=u03,fl:=u02,bu:=u00} a1)&&(u03==Qy.ft (F3 {k:=u04,c:=u01,a0:=u06,b0:=u05,a1:=u08,b1:=u07,a2:=u0a,b2:=u09,a3:=u0c,b3:=u0b,a4:=u0e,b4:=u0d,lo:=q_Lo,hi:=q_Hi,ft:=u03,fl:=u02,bu:=u00} a1)&&(u02==Qy.fl (F3 {k:=u04,c:=u01,a0:=u06,b0:=u05,a1:=u08,b1:=u07,a2:=u0a,b2:=u09,a3:=u0c,b3:=u0b,a4:=u0e,b4:=u0d,lo:=q_Lo,hi:=q_Hi,ft:=u03,fl:=u02,bu:=u00} a1)&&(u00==Qy.bu (F3 {k:=u04,c:=u01,a0:=u06,b0:=u05,a1:=u08,b1:=u07,a2:=u0a,b2:=u09,a3:=u0c,b3:=u0b,a4:=u0e,b4:=u0d,lo:=q_Lo,hi:=q_Hi,ft:=u03,fl:=u02,bu:=u00} a1)&&AC)))))))))))))))))) (AA ((.str ({data:=#[]})),[])) (cond (!KR u01) (AA ((.str ({data:=#[]})),[])) (cond (!KR u03) (AA ((.str ({data:=#[]})),[])) (cond (!KR u00) (AA ((.str ({data:=#[]})),[])) (cond (u04==1) (cond (AE (0<=a1)&&AE (a1<=ic 5)) (D7 (H5 N) (DU MI [1,1,1,1,1,1,0,1,0,0]) ⟨[2,4,6,75,76,77],[2,500],[⟨(.tmp 6),500,9,AD,[.str]⟩]⟩ N (PE ({data:=#[]}) 7 (AM a1) (ic (AM a1)) 0 u04 u01 u06 u05 u08 u07 u0a u09 u0c u0b u0e u0d q_Lo q_Hi u03 u02 u00 [(IV.str {data:=#[114,97,110,103,101]}),(IV.str (D0 u01)),(IV.str {data:=#[102,114,111,109]}),(IV.str (D8 q_Lo)),(IV.str {data:=#[116,111]}),(IV.str (D8 q_Hi)),(IV.str {data:=#[105,110]})]) (DZ 1 (D1 (H5 N) (DU MI [1,1,1,1,1,1,1]) (D4 (H5 N) AB [.tmp 4] [[.str]])))) AB) (cond (u04==2) (cond (AE (0<=a1)&&AE (a1<=ic 5)) (D7 (H5 N) (DU MI [1,1,1,1,1,1,0,1,0,0]) ⟨[2,4,6,75,76,77],[2,500],[⟨(.tmp 6),500,9,AD,[.str]⟩]⟩ N (PE ({data:=#[]}) 3 (AM a1) (ic (AM a1)) 0 u04 u01 u06 u05 u08 u07 u0a u09 u0c u0b u0e u0d q_Lo q_Hi u03 u02 u00 [(IV.str {data:=#[98,101,115,116]}),(IV.str (D0 u01)),(IV.str {data:=#[105,110]})]) (DZ 1 (D1 (H5 N) (DU MI [1,1,1,1,1,1,1]) (D4 (H5 N) AB [.tmp 4] [[.str]])))) AB) (cond (u04==3) (cond u02 (cond (AE (0<=a1)&&AE (a1<=ic 5)) (D7 (H5 N) (DU MI [1,1,1,1,1,1,0,1,0,0]) ⟨[2,4,6,75,76,77],[2,500],[⟨(.tmp 6),500,9,AD,[.str]⟩]⟩ N (PE ({data:=#[]}) 5 (AM a1) (ic (AM a1)) 0 u04 u01 u06 u05 u08 u07 u0a u09 u0c u0b u0e u0d q_Lo q_Hi u03 u02 u00 [(IV.str {data:=#[102,97,108,108,115]}),(IV.str (D0 u01)),(IV.str {data:=#[98,121]}),(IV.str (D0 u03)),(IV.str {data:=#[105,110]})]) (DZ 1 (D1 (H5 N) (DU MI [1,1,1,1,1,1,1]) (D4 (H5 N) AB [.tmp 4] [[.str]])))) AB) (cond (AE (0<=a1)&&AE (a1<=ic 5)) (D7 (H5 N) (DU MI [1,1,1,1,1,1,0,1,0,0]) ⟨[2,4,6,75,76,77],[2,500],[⟨(.tmp 6),500,9,AD,[.str]⟩]⟩ N (PE ({data:=#[]}) 5 (AM a1) (ic (AM a1)) 0 u04 u01 u06 u05 u08 u07 u0a u09 u0c u0b u0e u0d q_Lo q_Hi u03 u02 u00 [(IV.str {data:=#[114,105,115,101,115]}),(IV.str (D0 u01)),(IV.str {data:=#[98,121]}),(IV.str (D0 u03)),(IV.str {data:=#[105,110]})]) (DZ 1 (D1 (H5 N) (DU MI [1,1,1,1,1,1,1]) (D4 (H5 N) AB [.tmp 4] [[.str]])))) AB)) (AA ((.str ({data:=#[]})),[]))))))))) AB))):=AF
theorem Rm(N:Nat)(s4:BA)(n6 n75:Nat)(x76 x77 u02 u03 u0a u0b u0c u0d u0e u0f u0g u0h u04 u05 u06 u07 u08:Int)(u00:Bool)(u09:Int)(u01:LI)(again:St->DW)(k:Out->St->DW):E3 (H5 N) (DU MI [1,1,1,1,1,1,0,1,0,0]) (PE s4 n6 n75 x76 x77 u02 u03 u0a u0b u0c u0d u0e u0f u0g u0h u04 u05 u06 u07 u08 u00 u09 u01) (ES again ⟨[2,4,6,75,76,77],[2,500],[⟨(.tmp 6),500,9,AD,[.str]⟩]⟩ k)=(cond (AE (x77<x76)) (cond (AE (x77<ic n75)) (cond (AE (x77=ic 0)) (cond (AE (AR (D8 u0a)+AR {data:=#[46,46]}<=strMax)) (cond (AE (AR (D8 u0a++{data:=#[46,46]})+AR (D8 u0b)<=strMax)) (cond (AE ((n6+AN (A3 0 (AU 1 [IV.str (D8 u0a++{data:=#[46,46]}++D8 u0b)])))*TI.bytes (Env.tyd (H5 N) 9)<=EM)) (again (PE s4 (n6+AN (A3 0 (AU 1 [IV.str (D8 u0a++{data:=#[46,46]}++D8 u0b)]))) n75 x76 (AI AJ (x77+1)) u02 u03 u0a u0b u0c u0d u0e u0f u0g u0h u04 u05 u06 u07 u08 u00 u09 (AU n6 u01++A3 0 (AU 1 [IV.str (D8 u0a++{data:=#[46,46]}++D8 u0b)])))) AB) AB) AB) (cond (AE (x77=ic 1)) (cond (AE (AR (D8 u0c)+AR {data:=#[46,46]}<=strMax)) (cond (AE (AR (D8 u0c++{data:=#[46,46]})+AR (D8 u0d)<=strMax)) (cond (AE ((n6+AN (A3 0 (AU 1 [IV.str (D8 u0c++{data:=#[46,46]}++D8 u0d)])))*TI.bytes (Env.tyd (H5 N) 9)<=EM)) (again (PE s4 (n6+AN (A3 0 (AU 1 [IV.str (D8 u0c++{data:=#[46,46]}++D8 u0d)]))) n75 x76 (AI AJ (x77+1)) u02 u03 u0a u0b u0c u0d u0e u0f u0g u0h u04 u05 u06 u07 u08 u00 u09 (AU n6 u01++A3 0 (AU 1 [IV.str (D8 u0c++{data:=#[46,46]}++D8 u0d)])))) AB) AB) AB) (cond (AE (x77=ic 2)) (cond (AE (AR (D8 u0e)+AR {data:=#[46,46]}<=strMax)) (cond (AE (AR (D8 u0e++{data:=#[46,46]})+AR (D8 u0f)<=strMax)) (cond (AE ((n6+AN (A3 0 (AU 1 [IV.str (D8 u0e++{data:=#[46,46]}++D8 u0f)])))*TI.bytes (Env.tyd (H5 N) 9)<=EM)) (again (PE s4 (n6+AN (A3 0 (AU 1 [IV.str (D8 u0e++{data:=#[46,46]}++D8 u0f)]))) n75 x76 (AI AJ (x77+1)) u02 u03 u0a u0b u0c u0d u0e u0f u0g u0h u04 u05 u06 u07 u08 u00 u09 (AU n6 u01++A3 0 (AU 1 [IV.str (D8 u0e++{data:=#[46,46]}++D8 u0f)])))) AB) AB) AB) (cond (AE (x77=ic 3)) (cond (AE (AR (D8 u0g)+AR {data:=#[46,46]}<=strMax)) (cond (AE (AR (D8 u0g++{data:=#[46,46]})+AR (D8 u0h)<=strMax)) (cond (AE ((n6+AN (A3 0 (AU 1 [IV.str (D8 u0g++{data:=#[46,46]}++D8 u0h)])))*TI.bytes (Env.tyd (H5 N) 9)<=EM)) (again (PE s4 (n6+AN (A3 0 (AU 1 [IV.str (D8 u0g++{data:=#[46,46]}++D8 u0h)]))) n75 x76 (AI AJ (x77+1)) u02 u03 u0a u0b u0c u0d u0e u0f u0g u0h u04 u05 u06 u07 u08 u00 u09 (AU n6 u01++A3 0 (AU 1 [IV.str (D8 u0g++{data:=#[46,46]}++D8 u0h)])))) AB) AB) AB) (cond (AE (x77=ic 4)) (cond (AE (AR (D8 u04)+AR {data:=#[46,46]}<=strMax)) (cond (AE (AR (D8 u04++{data:=#[46,46]})+AR (D8 u05)<=strMax)) (cond (AE ((n6+AN (A3 0 (AU 1 [IV.str (D8 u04++{data:=#[46,46]}++D8 u05)])))*TI.bytes (Env.tyd (H5 N) 9)<=EM)) (again (PE s4 (n6+AN (A3 0 (AU 1 [IV.str (D8 u04++{data:=#[46,46]}++D8 u05)]))) n75 x76 (AI AJ (x77+1)) u02 u03 u0a u0b u0c u0d u0e u0f u0g u0h u04 u05 u06 u07 u08 u00 u09 (AU n6 u01++A3 0 (AU 1 [IV.str (D8 u04++{data:=#[46,46]}++D8 u05)])))) AB) AB) AB) AB))))) AB) (k (.exit 1) (PE s4 n6 n75 x76 x77 u02 u03 u0a u0b u0c u0d u0e u0f u0g u0h u04 u05 u06 u07 u08 u00 u09 u01))):=AF
theorem gh(N:Nat)(s4:BA)(n6 n75:Nat)(x76 x77 u02 u03 u0a u0b u0c u0d u0e u0f u0g u0h u04 u05 u06 u07 u08:Int)(u00:Bool)(u09:Int)(u01:LI):(DZ 1 (D1 (H5 N) (DU MI [1,1,1,1,1,1,1]) (D4 (H5 N) AB [.tmp 4] [[.str]]))) (.exit 1) (PE s4 n6 n75 x76 x77 u02 u03 u0a u0b u0c u0d u0e u0f u0g u0h u04 u05 u06 u07 u08 u00 u09 u01)=(cond (AE ((n6+AN (A3 0 (AU 2 [IV.str {data:=#[98,117,100,103,101,116]},IV.str (D0 u09)])))*TI.bytes (Env.tyd (H5 N) 9)<=EM)) (cond (AE (AN (A3 0 (AU (n6+AN (A3 0 (AU 2 [IV.str {data:=#[98,117,100,103,101,116]},IV.str (D0 u09)]))) (AU n6 u01++A3 0 (AU 2 [IV.str {data:=#[98,117,100,103,101,116]},IV.str (D0 u09)]))))<=strMax)&&AE (AR (GV (BQ IV.toStr (A3 0 (AU (n6+AN (A3 0 (AU 2 [IV.str {data:=#[98,117,100,103,101,116]},IV.str (D0 u09)]))) (AU n6 u01++A3 0 (AU 2 [IV.str {data:=#[98,117,100,103,101,116]},IV.str (D0 u09)]))))) {data:=#[32]})<=strMax)) (AA ((.str (GV (BQ IV.toStr (A3 0 (AU (n6+AN (A3 0 (AU 2 [IV.str {data:=#[98,117,100,103,101,116]},IV.str (D0 u09)]))) (AU n6 u01++A3 0 (AU 2 [IV.str {data:=#[98,117,100,103,101,116]},IV.str (D0 u09)]))))) {data:=#[32]})),[])) AB) AB):=AF
open Go
theorem Hc(l:List BA)(h:∀w∈l,w.size<=100):(GV l HH).size<=101*l.length:=by
 have hs:(GV l HH).size=(vaJ (l.map (·.data.toList)) [32]).length:=by
  show(Array.size (List.toArray _))=_;rw[vaf]
 rw[hs];cases l with
 |nil=>simp[Lib.join_nil]
 |cons x r=>
  rw[A8,Lib.join_length]
  have:∀(r:List BA),(∀w∈r,w.size<=100)->Lib.lens (r.map (·.data.toList))<=100*r.length:=λr=>by
   induction r with
   |nil=>intro _;simp[Lib.lens]
   |cons y r ih=>
    intro h;have h1:=h y (AZ ..);rw[TX]at h1;have h2:=ih (λw hw=>h w (A6 _ hw));rw[A8,AV];simp only[Lib.lens,A8,vbc]at h2 ⊢;omega
  have:=this (x::r) h
  rw[A8]at this;simp only[AV,B8,BL]at this ⊢;omega
theorem Ra{a b:Int}(ha:EN a)(hb:EN b):(NQ a b).size<=82:=by
 unfold NQ;have h1:=(YJ a ha).2;have h2:=(YJ b hb).2;have h3:AR bT=2:=rfl;rw[A7,A7,h3];omega
theorem rW{n:Int}(h:EN n):(D0 n).size<=21:=gV h.1 h.2
structure Qy.In (q:Qy):Prop where
 k:EN q.k
 c:EN q.c
 a0:EN q.a0
 b0:EN q.b0
 a1:EN q.a1
 b1:EN q.b1
 a2:EN q.a2
 b2:EN q.b2
 a3:EN q.a3
 b3:EN q.b3
 a4:EN q.a4
 b4:EN q.b4
 lo:EN q.lo
 hi:EN q.hi
 ft:EN q.ft
 bu:EN q.bu
open Go Go.Proofs
abbrev pK(q:Qy):Ob:=.box [.i q.k,.i q.c,.i q.a0,.i q.b0,.i q.a1,.i q.b1,.i q.a2,.i q.b2,.i q.a3,.i q.b3,.i q.a4,.i q.b4,.i q.lo,.i q.hi,.i q.ft,.bool q.fl,.i q.bu]
abbrev n9(q:Qy)(s4:BA)(W:LI)(D:Nat)(i:Int):St:=⟨[(2,(.ptr 2 0 0)),(4,(.str s4)),(6,(.row 500 0 W.length)),(75,(.bview 2 2 5 2 D)),(76,(.i (ic D))),(77,(.i i))],[(2,(AA (pK q))),(500,(AA (.row AC 9 AD [.str] W)))]⟩
theorem Tw(N:Nat):TI.bytes (Env.tyd (H5 N) 9)=16:=by rfl
theorem zb5(N:Nat)(q:Qy)(hq:q.In)(s4:BA)(W:LI)(hW:W.length<=20)(hs:∀w∈W,w.toStr.size<=100)(D:Nat)(i:Int):
  (DZ 1 (D1 (H5 N) (DU MI [1,1,1,1,1,1,1]) (D4 (H5 N) AB [(B9 4)] [[.str]]))) (.exit 1) (n9 q s4 W D i)=AA (.str (GV (W.map IV.toStr++[VW,D0 q.bu]) HH),[]):=by
 refine(gh N s4 W.length D (ic D) i q.k q.c q.a0 q.b0 q.a1 q.b1 q.a2 q.b2 q.a3 q.b3 q.a4 q.b4 q.lo q.hi q.ft q.fl q.bu W).trans ?_;have e2:(A3 0 (AU 2 [IV.str {data:=#[98,117,100,103,101,116]},IV.str (D0 q.bu)]))=[IV.str {data:=#[98,117,100,103,101,116]},IV.str (D0 q.bu)]:=rfl;rw[Tw,e2,BW];have e3:A3 0 (AU (W.length+AN [IV.str {data:=#[98,117,100,103,101,116]},IV.str (D0 q.bu)]) (W++[IV.str {data:=#[98,117,100,103,101,116]},IV.str (D0 q.bu)]))=W++[IV.str {data:=#[98,117,100,103,101,116]},IV.str (D0 q.bu)]:=by
  rw[CA,C9 (by simp)]
 rw[e3];have e4:BQ IV.toStr (W++[IV.str {data:=#[98,117,100,103,101,116]},IV.str (D0 q.bu)])=W.map IV.toStr++[VW,D0 q.bu]:=by simp[IV.toStr]
 rw[e4];have hz:=Hc (W.map IV.toStr++[VW,D0 q.bu]) (λw hw=>by
  rcases A4.1 hw with h|h
  .obtain⟨x,hx,rfl⟩:=CV.1 h;exact hs x hx
  .simp only[AY,CD,C7]at h;rcases h with rfl|rfl
   .decide
   .have:=rW hq.bu
    omega)
 simp only[A2,B8,AV,BL]at hz ⊢;rw[AL (show(W.length+(0+1+1))*16<=EM by unfold EM;omega),DS,AL (show W.length+(0+1+1)<=strMax by unfold strMax;omega),
  AL (show AR (GV (W.map IV.toStr++[VW,D0 q.bu]) {data:=#[32]})<=strMax from DF hz (by unfold strMax;omega)),CJ,DS]
def nX(a b:Int):IV:=.str (NQ a b)
theorem zb7(N:Nat)(q:Qy)(s4:BA)(W:LI)(hW:W.length<=20)(D i:Nat)(hiD:i<D)(a b:Int)(again:St->DW)(k:Out->St->DW)(ha:EN a)(hb:EN b)
  (hab:(i=0/\a=q.a0/\b=q.b0)\/(i=1/\a=q.a1/\b=q.b1)\/(i=2/\a=q.a2/\b=q.b2)\/(i=3/\a=q.a3/\b=q.b3)):
  E3 (H5 N) (DU MI [1,1,1,1,1,1,0,1,0,0]) (n9 q s4 W D (i:Int)) (ES again ⟨[2,4,6,75,76,77],[2,500],[⟨.tmp 6,500,9,AD,[.str]⟩]⟩ k)=again (n9 q s4 (W++[nX a b]) D ((i+1:Nat):Int)):=by
 refine(Rm N s4 W.length D (ic D) i q.k q.c q.a0 q.b0 q.a1 q.b1 q.a2 q.b2 q.a3 q.b3 q.a4 q.b4 q.lo q.hi q.ft q.fl q.bu W again k).trans ?_;have d1:AE ((i:Int)<ic D)=AC:=AL (by simp only[ic];omega);rw[d1,DS,DS];have h3:AR {data:=#[46,46]}=2:=rfl;have sz:∀x y:Int,EN x->EN y->AE (AR (D8 x)+AR {data:=#[46,46]}<=strMax)=AC/\AE (AR (D8 x++{data:=#[46,46]})+AR (D8 y)<=strMax)=AC:=λx y hx hy=>by
  have h1:=(YJ x hx).2;have h2:=(YJ y hy).2;refine⟨AL (by rw[h3];unfold strMax;omega),AL (by rw[A7,h3];unfold strMax;omega)⟩
 have e1:∀x:IV,(A3 0 (AU 1 [x]))=[x]:=λ_=>rfl
 have g16:∀x:IV,AE ((W.length+AN [x])*TI.bytes (Env.tyd (H5 N) 9)<=EM)=AC:=λx=>AL (by rw[Tw];simp only[AV,BL];unfold EM;omega)
 have hl:∀x:IV,W.length+AN [x]=(W++[x]).length:=λx=>by simp
 obtain⟨s1,s2⟩:=sz a b ha hb;simp only[e1,g16,DS,BW];rcases hab with⟨rfl,rfl,rfl⟩|⟨rfl,rfl,rfl⟩|⟨rfl,rfl,rfl⟩|⟨rfl,rfl,rfl⟩
 .rw[s1,s2,show AE (((0:Nat):Int)=ic 0)=AC from rfl,DS,DS,DS,hl];rfl
 .rw[s1,s2,show AE (((1:Nat):Int)=ic 0)=AD from rfl,show AE (((1:Nat):Int)=ic 1)=AC from rfl,DT,DS,DS,DS,hl];rfl
 .rw[s1,s2,show AE (((2:Nat):Int)=ic 0)=AD from rfl,show AE (((2:Nat):Int)=ic 1)=AD from rfl,show AE (((2:Nat):Int)=ic 2)=AC from rfl,DT,DT,DS,DS,DS,hl];rfl
 .rw[s1,s2,show AE (((3:Nat):Int)=ic 0)=AD from rfl,show AE (((3:Nat):Int)=ic 1)=AD from rfl,show AE (((3:Nat):Int)=ic 2)=AD from rfl,show AE (((3:Nat):Int)=ic 3)=AC from rfl,DT,DT,DT,DS,DS,DS,hl];rfl
theorem Lt(N:Nat)(q:Qy)(hq:q.In)(s4:BA)(D:Nat)(hD:D<=4):
  ∀(d i n:Nat) (W:LI),i+d=D->d<n->W.length+d<=20->(∀w∈W,w.toStr.size<=100)->
   D7 (H5 N) (DU MI [1,1,1,1,1,1,0,1,0,0]) ⟨[2,4,6,75,76,77],[2,500],[⟨.tmp 6,500,9,AD,[.str]⟩]⟩ n (n9 q s4 W D (i:Int)) (DZ 1 (D1 (H5 N) (DU MI [1,1,1,1,1,1,1]) (D4 (H5 N) AB [(B9 4)] [[.str]])))=
    AA (.str (GV (W.map IV.toStr++(((q.spans.take D).drop i).map λs=>NQ s.1 s.2)++[VW,D0 q.bu]) HH),[])
 |0,i,n+1,W,hd,hn,hW,hs=>by
  have hi:i=D:=by omega
  rw[ED];refine(Rm N s4 W.length D (ic D) i q.k q.c q.a0 q.b0 q.a1 q.b1 q.a2 q.b2 q.a3 q.b3 q.a4 q.b4 q.lo q.hi q.ft q.fl q.bu W _ _).trans ?_;rw[AS (show¬(i:Int)<ic D by simp only[ic];omega),DT];refine(zb5 N q hq s4 W AG hs D i).trans ?_;rw[C1 (by rw[BJ];omega)];simp
 |d+1,i,n+1,W,hd,hn,hW,hs=>by
  obtain⟨a,b,ha,hb,hab,hsp⟩:∃a b,EN a/\EN b/\((i=0/\a=q.a0/\b=q.b0)\/(i=1/\a=q.a1/\b=q.b1)\/(i=2/\a=q.a2/\b=q.b2)\/(i=3/\a=q.a3/\b=q.b3))/\(q.spans.take D).drop i=(a,b)::(q.spans.take D).drop (i+1):=by
   have hi:i=0\/i=1\/i=2\/i=3:=by omega
   have hDD:D=0\/D=1\/D=2\/D=3\/D=4:=by omega
   rcases hi with rfl|rfl|rfl|rfl
   .exact⟨q.a0,q.b0,hq.a0,hq.b0,.inl ⟨rfl,rfl,rfl⟩,by rcases hDD with rfl|rfl|rfl|rfl|rfl<;>first|rfl|omega⟩
   .exact⟨q.a1,q.b1,hq.a1,hq.b1,.inr (.inl ⟨rfl,rfl,rfl⟩),by rcases hDD with rfl|rfl|rfl|rfl|rfl<;>first|rfl|omega⟩
   .exact⟨q.a2,q.b2,hq.a2,hq.b2,.inr (.inr (.inl ⟨rfl,rfl,rfl⟩)),by rcases hDD with rfl|rfl|rfl|rfl|rfl<;>first|rfl|omega⟩
   .exact⟨q.a3,q.b3,hq.a3,hq.b3,.inr (.inr (.inr ⟨rfl,rfl,rfl⟩)),by rcases hDD with rfl|rfl|rfl|rfl|rfl<;>first|rfl|omega⟩
  rw[ED,zb7 N q s4 W AG D i AG a b _ _ ha hb hab,hsp];have ih:=Lt N q hq s4 D hD d (i+1) n (W++[nX a b]) AG AG (by simp only[A2,AV,BL];omega) (λw hw=>by
   rcases A4.1 hw with h|h
   .exact hs w h
   .rw[B7]at h;subst h
    have:=Ra ha hb
    simp only[nX,IV.toStr];omega)
  refine ih.trans ?_;simp[nX,IV.toStr]
 |_,_,0,_,_,h,_,_=>by omega
theorem Pg:D9 PR B0 10 WK:=by
 refine EJ [(41,cL),(40,cM),(43,SZ),(42,RI),(44,ZJ)] [(18,⟨[2,4,6,75,76,77],[2,500],[⟨.tmp 6,500,9,AD,[.str]⟩]⟩)] WK [[.str]] Tryz.func10 ml
  ⟨zdr,zds,wK,nV,Qj,trivial⟩ ?_
 intro vs r hwf h;unfold WK at h;split at h
 .rename_i k c a0 b0 a1 b1 a2 b2 a3 b3 a4 b4 lo hi ft fl bu d;refine⟨20,?_⟩;rw[R.get_ok]at h;rw[<-h];refine(wg 20 k c a0 b0 a1 b1 a2 b2 a3 b3 a4 b4 lo hi ft fl bu d).trans ?_;have hb:=hwf (by simp[K4]);have hq:Qy.In ⟨k,c,a0,b0,a1,b1,a2,b2,a3,b3,a4,b4,lo,hi,ft,fl,bu⟩:=by
   have:=hb.1
   simp only[QC,wfLs,wfL,CH,vaP]at this;obtain⟨h1,h2,h3,h4,h5,h6,h7,h8,h9,h10,h11,h12,h13,h14,h15,h16⟩:=this;exact⟨h1,h2,h3,h4,h5,h6,h7,h8,h9,h10,h11,h12,h13,h14,h15,h16⟩
  show cond (AE (d<1)) _ (cond (AE (d>4)) _ (cond _ (cond (!(Qy.eq ⟨k,c,a0,b0,a1,b1,a2,b2,a3,b3,a4,b4,lo,hi,ft,fl,bu⟩ (F3 ⟨k,c,a0,b0,a1,b1,a2,b2,a3,b3,a4,b4,lo,hi,ft,fl,bu⟩ d))) _ _) _))=_;generalize hQ:(⟨k,c,a0,b0,a1,b1,a2,b2,a3,b3,a4,b4,lo,hi,ft,fl,bu⟩:Qy)=q at hq ⊢;unfold G0 N8;cases h1:AE (d<1)with
  |true=>simp only[DS,DT,A9,BP]
  |false=>
   cases h4:AE (d>4)with
   |true=>simp only[DS,DT,A9,BG,BP,DB]
   |false=>
    have h1:=BM h1;have h4:=BM h4;rw[AL (show 0<=d by omega),AL (show d<=5 by omega),AL (show d<=ic 5 by simp only[ic];omega)];simp only[CJ,DS,DT,BG,BE];cases he:q.eq (F3 q d)with
    |false=>simp only[BG,DS,DT,BP]
    |true=>
     have ec:q.c=c:=by rw[<-hQ]
     have ef:q.ft=ft:=by rw[<-hQ]
     have eb:q.bu=bu:=by rw[<-hQ]
     have ek:q.k=k:=by rw[<-hQ]
     rw[ec,ef,eb,ek];cases hc:KR c with
     |false=>simp only[A9,BG,DS,DT,BP,BE]
     |true=>
      cases hf:KR ft with
      |false=>simp only[A9,BG,DS,DT,BP,BE]
      |true=>
       cases hbu:KR bu with
       |false=>simp only[A9,BG,DS,DT,BP,BE]
       |true=>
        simp only[A9,DT,BE];have hDn:d.toNat<=4:=by omega
        have run:=λ(W:LI) (hW:W.length<=16) (hs:∀w∈W,w.toStr.size<=100)=>Lt 20 q hq ⟨#[]⟩ d.toNat hDn d.toNat 0 20 W AG AG AG hs
        have zi:∀{n:Int},EN n->(D0 n).size<=100:=λh=>by have:=rW h;omega
        have zp:∀{n:Int},EN n->(D8 n).size<=100:=λh=>by have:=(YJ _ h).2;omega
        have fin:∀(W:LI) (l:List BA),W.map IV.toStr=l++[OE]->IL q=l->GV (W.map IV.toStr++(((q.spans.take d.toNat).drop 0).map λs=>NQ s.1 s.2)++[VW,D0 q.bu]) HH=GV (I3 q d.toNat) HH:=λW l hWl hl=>by
         unfold I3;rw[hWl,hl,CA];simp
        subst hQ;cases k1:(k==1)with
        |true=>
         simp only[DS,Bool.true_or];refine(run [IV.str NR,IV.str (D0 c),IV.str VX,IV.str (D8 lo),IV.str VY,IV.str (D8 hi),IV.str OE] (by simp) (λw hw=>?_)).trans ?_
         .simp only[AY,CD,C7]at hw;rcases hw with rfl|rfl|rfl|rfl|rfl|rfl|rfl
          .decide
          .exact zi hq.c
          .decide
          .exact zp hq.lo
          .decide
          .exact zp hq.hi
          .decide
         .rw[fin _ [NR,D0 c,VX,D8 lo,VY,D8 hi] rfl (by unfold IL;simp only[k1,DS])]
        |false=>
         simp only[DT,vam];cases k2:(k==2)with
         |true=>
          simp only[DS,Bool.true_or];refine(run [IV.str PB,IV.str (D0 c),IV.str OE] (by simp) (λw hw=>?_)).trans ?_
          .simp only[AY,CD,C7]at hw;rcases hw with rfl|rfl|rfl
           .decide
           .exact zi hq.c
           .decide
          .rw[fin _ [PB,D0 c] rfl (by unfold IL;simp only[k1,k2,DS,DT])]
         |false=>
          simp only[DT,vam];cases k3:(k==3)with
          |false=>simp only[DT]
          |true=>
           simp only[DS];cases fl with
           |true=>
            simp only[DS];refine(run [IV.str M4,IV.str (D0 c),IV.str PC,IV.str (D0 ft),IV.str OE] (by simp) (λw hw=>?_)).trans ?_
            .simp only[AY,CD,C7]at hw;rcases hw with rfl|rfl|rfl|rfl|rfl
             .decide
             .exact zi hq.c
             .decide
             .exact zi hq.ft
             .decide
            .rw[fin _ [M4,D0 c,PC,D0 ft] rfl (by unfold IL;simp only[k1,k2,DS,DT])]
           |false=>
            simp only[DT];refine(run [IV.str NS,IV.str (D0 c),IV.str PC,IV.str (D0 ft),IV.str OE] (by simp) (λw hw=>?_)).trans ?_
            .simp only[AY,CD,C7]at hw;rcases hw with rfl|rfl|rfl|rfl|rfl
             .decide
             .exact zi hq.c
             .decide
             .exact zi hq.ft
             .decide
            .rw[fin _ [NS,D0 c,PC,D0 ft] rfl (by unfold IL;simp only[k1,k2,DT])]
 .simp[R.get]at h
open Go Go.Proofs
def QF(N:Nat):Env:=EI [(10,WK),(84,WL),(81,cK),(83,WM),(80,fG),(82,ZI),(64,RJ)] [(9,⟨[0,2,3,4,5,7,8,9,45,46,47],[2,9],[]⟩)] 82 N
abbrev SI(s0:BA)(x3:Int)(b4:Bool)(l5:LI)(x7 x8:Int)(l45:LI)(x46 x47 u02 u03 u0a u0b u0c u0d u0e u0f u0g u0h u04 u05 u06 u07 u08:Int)(u00:Bool)(u09 u0i u0j u0q u0r u0s u0t u0u u0v u0w u0x u0k u0l u0m u0n u0o:Int)(u01:Bool)(u0p:Int):St:=⟨[(0,(.str s0)),(2,(.ptr 2 0 0)),(3,(.i x3)),(4,(.bool b4)),(5,(.list AD [.str] l5)),(7,(.i x7)),(8,(.i x8)),(9,(.ptr 9 0 0)),(45,(.list AD [.str] l45)),(46,(.i x46)),(47,(.i x47))],[(2,(AA (.box [.i u02,.i u03,.i u0a,.i u0b,.i u0c,.i u0d,.i u0e,.i u0f,.i u0g,.i u0h,.i u04,.i u05,.i u06,.i u07,.i u08,.bool u00,.i u09]))),(9,(AA (.box [.i u0i,.i u0j,.i u0q,.i u0r,.i u0s,.i u0t,.i u0u,.i u0v,.i u0w,.i u0x,.i u0k,.i u0l,.i u0m,.i u0n,.i u0o,.bool u01,.i u0p])))]⟩
theorem we(N:Nat)(s:BA):EB (QF N) S5 [.cell 2 39,.tmp 3,.tmp 4] [[.z,.z,.z,.z,.z,.z,.z,.z,.z,.z,.z,.z,.z,.z,.z,.bool,.z],[.z],[.bool]] [.str s]=(cond (AE (AR s<4294967281)&&AE (1<=AR {data:=#[32]})) (cond (AE (GC (BQ IV.str (EP s {data:=#[32]})) {data:=#[105,110]} 0<0)) (AA (.tup [.agg [.i 0,.i 0,.i 0,.i 0,.i 0,.i 0,.i 0,.i 0,.i 0,.i 0,.i 0,.i 0,.i 0,.i 0,.i 0,.bool AD,.i 0],.i 0,.bool AD],[])) (cond (AE (AI AJ (AI AJ (AI AJ (ic (AN (BQ IV.str (EP s {data:=#[32]})))-2)-GC (BQ IV.str (EP s {data:=#[32]})) {data:=#[105,110]} 0)-1)<1)) (AA (.tup [.agg [.i 0,.i 0,.i 0,.i 0,.i 0,.i 0,.i 0,.i 0,.i 0,.i 0,.i 0,.i 0,.i 0,.i 0,.i 0,.bool AD,.i 0],.i 0,.bool AD],[])) (cond (AE (AI AJ (AI AJ (AI AJ (ic (AN (BQ IV.str (EP s {data:=#[32]})))-2)-GC (BQ IV.str (EP s {data:=#[32]})) {data:=#[105,110]} 0)-1)>4)) (AA (.tup [.agg [.i 0,.i 0,.i 0,.i 0,.i 0,.i 0,.i 0,.i 0,.i 0,.i 0,.i 0,.i 0,.i 0,.i 0,.i 0,.bool AD,.i 0],.i 0,.bool AD],[])) (cond (AE (0<=GC (BQ IV.str (EP s {data:=#[32]})) {data:=#[105,110]} 0)&&AE (GC (BQ IV.str (EP s {data:=#[32]})) {data:=#[105,110]} 0<=ic (AN (BQ IV.str (EP s {data:=#[32]}))))) (cond (AE (AN (A3 0 (AU (AM (GC (BQ IV.str (EP s {data:=#[32]})) {data:=#[105,110]} 0)) (BQ IV.str (EP s {data:=#[32]}))))<=4294967290)&&List.all (A3 0 (AU (AM (GC (BQ IV.str (EP s {data:=#[32]})) {data:=#[105,110]} 0)) (BQ IV.str (EP s {data:=#[32]})))) λx=>AE (AR (IV.toStr x)<4294967281)) (cond (AE (0<=AI AJ (GC (BQ IV.str (EP s {data:=#[32]})) {data:=#[105,110]} 0+1))&&(AE (AI AJ (GC (BQ IV.str (EP s {data:=#[32]})) {data:=#[105,110]} 0+1)<=AI AJ (ic (AN (BQ IV.str (EP s {data:=#[32]})))-2))&&AE (AI AJ (ic (AN (BQ IV.str (EP s {data:=#[32]})))-2)<=ic (AN (BQ IV.str (EP s {data:=#[32]})))))) (D7 (QF N) (DU S5 [1,1,1,1,1,1,1,0,1,0,0]) ⟨[0,2,3,4,5,7,8,9,45,46,47],[2,9],[]⟩ N (SI s 0 AD (BQ IV.str (EP s {data:=#[32]})) (AI AJ (ic (AN (BQ IV.str (EP s {data:=#[32]})))-2)) (AI AJ (AI AJ (AI AJ (ic (AN (BQ IV.str (EP s {data:=#[32]})))-2)-GC (BQ IV.str (EP s {data:=#[32]})) {data:=#[105,110]} 0)-1)) (A3 (AM (AI AJ (GC (BQ IV.str (EP s {data:=#[32]})) {data:=#[105,110]} 0+1))) (AU (AM (AI AJ (ic (AN (BQ IV.str (EP s {data:=#[32]})))-2))) (BQ IV.str (EP s {data:=#[32]})))) (ic (AN (A3 (AM (AI AJ (GC (BQ IV.str (EP s {data:=#[32]})) {data:=#[105,110]} 0+1))) (AU (AM (AI AJ (ic (AN (BQ IV.str (EP s {data:=#[32]})))-2))) (BQ IV.str (EP s {data:=#[32]})))))) 0 0 0 0 0 0 0 0 0 0 0 0 0 0 0 0 AD 0 (Qy.k (E4 (A3 0 (AU (AM (GC (BQ IV.str (EP s {data:=#[32]})) {data:=#[105,110]} 0)) (BQ IV.str (EP s {data:=#[32]})))))) (Qy.c (E4 (A3 0 (AU (AM (GC (BQ IV.str (EP s {data:=#[32]})) {data:=#[105,110]} 0)) (BQ IV.str (EP s {data:=#[32]})))))) (Qy.a0 (E4 (A3 0 (AU (AM (GC (BQ IV.str (EP s {data:=#[32]})) {data:=#[105,110]} 0)) (BQ IV.str (EP s {data:=#[32]})))))) (Qy.b0 (E4 (A3 0 (AU (AM (GC (BQ IV.str (EP s {data:=#[32]})) {data:=#[105,110]} 0)) (BQ IV.str (EP s {data:=#[32]})))))) (Qy.a1 (E4 (A3 0 (AU (AM (GC (BQ IV.str (EP s {data:=#[32]})) {data:=#[105,110]} 0)) (BQ IV.str (EP s {data:=#[32]})))))) (Qy.b1 (E4 (A3 0 (AU (AM (GC (BQ IV.str (EP s {data:=#[32]})) {data:=#[105,110]} 0)) (BQ IV.str (EP s {data:=#[32]})))))) (Qy.a2 (E4 (A3 0 (AU (AM (GC (BQ IV.str (EP s {data:=#[32]})) {data:=#[105,110]} 0)) (BQ IV.str (EP s {data:=#[32]})))))) (Qy.b2 (E4 (A3 0 (AU (AM (GC (BQ IV.str (EP s {data:=#[32]})) {data:=#[105,110]} 0)) (BQ IV.str (EP s {data:=#[32]})))))) (Qy.a3 (E4 (A3 0 (AU (AM (GC (BQ IV.str (EP s {data:=#[32]})) {data:=#[105,110]} 0)) (BQ IV.str (EP s {data:=#[32]})))))) (Qy.b3 (E4 (A3 0 (AU (AM (GC (BQ IV.str (EP s {data:=#[32]})) {data:=#[105,110]} 0)) (BQ IV.str (EP s {data:=#[32]})))))) (Qy.a4 (E4 (A3 0 (AU (AM (GC (BQ IV.str (EP s {data:=#[32]})) {data:=#[105,110]} 0)) (BQ IV.str (EP s {data:=#[32]})))))) (Qy.b4 (E4 (A3 0 (AU (AM (GC (BQ IV.str (EP s {data:=#[32]})) {data:=#[105,110]} 0)) (BQ IV.str (EP s {data:=#[32]})))))) (Qy.lo (E4 (A3 0 (AU (AM (GC (BQ IV.str (EP s {data:=#[32]})) {data:=#[105,110]} 0)) (BQ IV.str (EP s {data:=#[32]})))))) (Qy.hi (E4 (A3 0 (AU (AM (GC (BQ IV.str (EP s {data:=#[32]})) {data:=#[105,110]} 0)) (BQ IV.str (EP s {data:=#[32]})))))) (Qy.ft (E4 (A3 0 (AU (AM (GC (BQ IV.str (EP s {data:=#[32]})) {data:=#[105,110]} 0)) (BQ IV.str (EP s {data:=#[32]})))))) (Qy.fl (E4 (A3 0 (AU (AM (GC (BQ IV.str (EP s {data:=#[32]})) {data:=#[105,110]} 0)) (BQ IV.str (EP s {data:=#[32]})))))) (Qy.bu (E4 (A3 0 (AU (AM (GC (BQ IV.str (EP s {data:=#[32]})) {data:=#[105,110]} 0)) (BQ IV.str (EP s {data:=#[32]}))))))) (DZ 0 (D1 (QF N) (DU S5 [1,1,1,1,1,1,1,1]) (D4 (QF N) AB [.cell 2 39,.tmp 3,.tmp 4] [[.z,.z,.z,.z,.z,.z,.z,.z,.z,.z,.z,.z,.z,.z,.z,.bool,.z],[.z],[.bool]])))) AB) AB) AB)))) AB):=AF
theorem Rl(N:Nat)(s0:BA)(x3:Int)(b4:Bool)(l5:LI)(x7 x8:Int)(l45:LI)(x46 x47 u02 u03 u0a u0b u0c u0d u0e u0f u0g u0h u04 u05 u06 u07 u08:Int)(u00:Bool)(u09 u0i u0j u0q u0r u0s u0t u0u u0v u0w u0x u0k u0l u0m u0n u0o:Int)(u01:Bool)(u0p:Int)(again:St->DW)(k:Out->St->DW):E3 (QF N) (DU S5 [1,1,1,1,1,1,1,0,1,0,0]) (SI s0 x3 b4 l5 x7 x8 l45 x46 x47 u02 u03 u0a u0b u0c u0d u0e u0f u0g u0h u04 u05 u06 u07 u08 u00 u09 u0i u0j u0q u0r u0s u0t u0u u0v u0w u0x u0k u0l u0m u0n u0o u01 u0p) (ES again ⟨[0,2,3,4,5,7,8,9,45,46,47],[2,9],[]⟩ k)=(cond (AE (x47<x46)) (cond (AE (0<=x47)&&AE (x47<ic (AN l45))) (cond (AE (AR (IV.toStr (AQ l45 (AM x47) default))<4294967281)) (cond (AE (AR (cutL (IV.toStr (AQ l45 (AM x47) default)) {data:=#[46,46]})<4294967281)) (cond (AE (AR (HP (IV.toStr (AQ l45 (AM x47) default)) {data:=#[46,46]})<4294967281)) (cond (AE (x47=ic 0)) (again (SI s0 x3 b4 l5 x7 x8 l45 x46 (AI AJ (x47+1)) u02 u03 u0a u0b u0c u0d u0e u0f u0g u0h u04 u05 u06 u07 u08 u00 u09 u0i u0j (GP (cutL (IV.toStr (AQ l45 (AM x47) default)) {data:=#[46,46]})) (GP (HP (IV.toStr (AQ l45 (AM x47) default)) {data:=#[46,46]})) u0s u0t u0u u0v u0w u0x u0k u0l u0m u0n u0o u01 u0p)) (cond (AE (x47=ic 1)) (again (SI s0 x3 b4 l5 x7 x8 l45 x46 (AI AJ (x47+1)) u02 u03 u0a u0b u0c u0d u0e u0f u0g u0h u04 u05 u06 u07 u08 u00 u09 u0i u0j u0q u0r (GP (cutL (IV.toStr (AQ l45 (AM x47) default)) {data:=#[46,46]})) (GP (HP (IV.toStr (AQ l45 (AM x47) default)) {data:=#[46,46]})) u0u u0v u0w u0x u0k u0l u0m u0n u0o u01 u0p)) (cond (AE (x47=ic 2)) (again (SI s0 x3 b4 l5 x7 x8 l45 x46 (AI AJ (x47+1)) u02 u03 u0a u0b u0c u0d u0e u0f u0g u0h u04 u05 u06 u07 u08 u00 u09 u0i u0j u0q u0r u0s u0t (GP (cutL (IV.toStr (AQ l45 (AM x47) default)) {data:=#[46,46]})) (GP (HP (IV.toStr (AQ l45 (AM x47) default)) {data:=#[46,46]})) u0w u0x u0k u0l u0m u0n u0o u01 u0p)) (cond (AE (x47=ic 3)) (again (SI s0 x3 b4 l5 x7 x8 l45 x46 (AI AJ (x47+1)) u02 u03 u0a u0b u0c u0d u0e u0f u0g u0h u04 u05 u06 u07 u08 u00 u09 u0i u0j u0q u0r u0s u0t u0u u0v (GP (cutL (IV.toStr (AQ l45 (AM x47) default)) {data:=#[46,46]})) (GP (HP (IV.toStr (AQ l45 (AM x47) default)) {data:=#[46,46]})) u0k u0l u0m u0n u0o u01 u0p)) (cond (AE (x47=ic 4)) (again (SI s0 x3 b4 l5 x7 x8 l45 x46 (AI AJ (x47+1)) u02 u03 u0a u0b u0c u0d u0e u0f u0g u0h u04 u05 u06 u07 u08 u00 u09 u0i u0j u0q u0r u0s u0t u0u u0v u0w u0x (GP (cutL (IV.toStr (AQ l45 (AM x47) default)) {data:=#[46,46]})) (GP (HP (IV.toStr (AQ l45 (AM x47) default)) {data:=#[46,46]})) u0m u0n u0o u01 u0p)) AB))))) AB) AB) AB) AB) (k (.exit 0) (SI s0 x3 b4 l5 x7 x8 l45 x46 x47 u02 u03 u0a u0b u0c u0d u0e u0f u0g u0h u04 u05 u06 u07 u08 u00 u09 u0i u0j u0q u0r u0s u0t u0u u0v u0w u0x u0k u0l u0m u0n u0o u01 u0p))):=AF
theorem gg(N:Nat)(s0:BA)(x3:Int)(b4:Bool)(l5:LI)(x7 x8:Int)(l45:LI)(x46 x47 u02 u03 u0a u0b u0c u0d u0e u0f u0g u0h u04 u05 u06 u07 u08:Int)(u00:Bool)(u09 u0i u0j u0q u0r u0s u0t u0u u0v u0w u0x u0k u0l u0m u0n u0o:Int)(u01:Bool)(u0p:Int):(DZ 0 (D1 (QF N) (DU S5 [1,1,1,1,1,1,1,1]) (D4 (QF N) AB [.cell 2 39,.tmp 3,.tmp 4] [[.z,.z,.z,.z,.z,.z,.z,.z,.z,.z,.z,.z,.z,.z,.z,.bool,.z],[.z],[.bool]]))) (.exit 0) (SI s0 x3 b4 l5 x7 x8 l45 x46 x47 u02 u03 u0a u0b u0c u0d u0e u0f u0g u0h u04 u05 u06 u07 u08 u00 u09 u0i u0j u0q u0r u0s u0t u0u u0v u0w u0x u0k u0l u0m u0n u0o u01 u0p)=(cond (AE (0<=AI AJ (x7+1))&&AE (AI AJ (x7+1)<ic (AN l5))) (cond (!BY (G0 {k:=u0i,c:=u0j,a0:=u0q,b0:=u0r,a1:=u0s,b1:=u0t,a2:=u0u,b2:=u0v,a3:=u0w,b3:=u0x,a4:=u0k,b4:=u0l,lo:=u0m,hi:=u0n,ft:=u0o,fl:=u01,bu:=GK (IV.toStr (AQ l5 (AM (AI AJ (x7+1))) default))} x8)==BY s0) (AA (.tup [.agg [.i 0,.i 0,.i 0,.i 0,.i 0,.i 0,.i 0,.i 0,.i 0,.i 0,.i 0,.i 0,.i 0,.i 0,.i 0,.bool AD,.i 0],.i 0,.bool AD],[])) (AA (.tup [.agg [.i u0i,.i u0j,.i u0q,.i u0r,.i u0s,.i u0t,.i u0u,.i u0v,.i u0w,.i u0x,.i u0k,.i u0l,.i u0m,.i u0n,.i u0o,.bool u01,.i (GK (IV.toStr (AQ l5 (AM (AI AJ (x7+1))) default)))],.i x8,.bool AC],[]))) AB):=AF
open Go Go.Proofs
theorem tg(l:LI):(E4 l).a0=0/\(E4 l).b0=0/\(E4 l).a1=0/\(E4 l).b1=0/\(E4 l).a2=0/\(E4 l).b2=0/\(E4 l).a3=0/\(E4 l).b3=0/\(E4 l).a4=0/\(E4 l).b4=0/\(E4 l).bu=0:=by
 unfold E4;cases((EF l 0).toList==NR.toList)<;>cases((EF l 0).toList==PB.toList)<;>cases((EF l 0).toList==NS.toList||(EF l 0).toList==M4.toList)<;>exact⟨rfl,rfl,rfl,rfl,rfl,rfl,rfl,rfl,rfl,rfl,rfl⟩
def rq(l:LI)(i d:Nat):Qy:=
 ⟨(
  E4 (l.take i)).k,(E4 (l.take i)).c,
  cond (BV 0 d) (SC l (i+1)) 0,cond (BV 0 d) (SD l (i+1)) 0,cond (BV 1 d) (SC l (i+2)) 0,cond (BV 1 d) (SD l (i+2)) 0,cond (BV 2 d) (SC l (i+3)) 0,cond (BV 2 d) (SD l (i+3)) 0,cond (BV 3 d) (SC l (i+4)) 0,cond (BV 3 d) (SD l (i+4)) 0,0,0,
  (E4 (l.take i)).lo,(E4 (l.take i)).hi,(E4 (l.take i)).ft,(E4 (l.take i)).fl,0⟩
theorem zcU(l:LI)(i:Nat):E4 (l.take i)=rq l i 0:=by
 obtain⟨h1,h2,h3,h4,h5,h6,h7,h8,h9,h10,h11⟩:=tg (l.take i);unfold rq;generalize E4 (l.take i)=q at*;cases q;simp only at*;subst h1 h2 h3 h4 h5 h6 h7 h8 h9 h10 h11;rfl
abbrev oA(s:BA)(W:LI)(x7 x8:Int)(L:LI)(q:Qy)(i:Int):St:=
 ⟨[(0,(.str s)),(2,(.ptr 2 0 0)),(3,(.i 0)),(4,(.bool AD)),(5,(.list AD [.str] W)),(7,(.i x7)),(8,(.i x8)),(9,(.ptr 9 0 0)),(45,(.list AD [.str] L)),(46,(.i (ic L.length))),(47,(.i i))],[(2,(AA (pK Qy.none))),(9,(AA (pK q)))]⟩
theorem di(w sep:BA)(h:w.size<4294967281):AE (AR w<4294967281)=AC/\AE (AR (cutL w sep)<4294967281)=AC/\AE (AR (HP w sep)<4294967281)=AC:=by
 obtain⟨h1,h2⟩:=Dt w sep;exact⟨AL h,AL AG,AL AG⟩
theorem zbU(N:Nat)(s:BA)(W:LI)(x7 x8:Int)(L:LI)(I i:Nat)(hi:i<L.length)(h4:i<4)(hL:IV.toStr (L.getD i default)=EF W (I+1+i))(hw:(EF W (I+1+i)).size<4294967281)(again:St->DW)(k:Out->St->DW):
  E3 (QF N) (DU S5 [1,1,1,1,1,1,1,0,1,0,0]) (oA s W x7 x8 L (rq W I i) (i:Int)) (ES again ⟨[0,2,3,4,5,7,8,9,45,46,47],[2,9],[]⟩ k)=again (oA s W x7 x8 L (rq W I (i+1)) ((i+1:Nat):Int)):=by
 refine(Rl N s 0 AD W x7 x8 L (ic L.length) i 0 0 0 0 0 0 0 0 0 0 0 0 0 0 0 AD 0 (rq W I i).k (rq W I i).c (rq W I i).a0 (rq W I i).b0 (rq W I i).a1 (rq W I i).b1 (rq W I i).a2 (rq W I i).b2 (rq W I i).a3 (rq W I i).b3 (rq W I i).a4 (rq W I i).b4 (rq W I i).lo (rq W I i).hi (rq W I i).ft (rq W I i).fl (rq W I i).bu again k).trans ?_;rw[H0 hi,IG,CJ,DS,DS,BH,hL];obtain⟨c1,c2,c3⟩:=di (EF W (I+1+i)) {data:=#[46,46]} hw;rw[c1,c2,c3,DS,DS,DS];have hi4:i=0\/i=1\/i=2\/i=3:=by omega
 rcases hi4 with rfl|rfl|rfl|rfl
 .rw[show AE (((0:Nat):Int)=ic 0)=AC from rfl,DS];rfl
 .rw[show AE (((1:Nat):Int)=ic 0)=AD from rfl,show AE (((1:Nat):Int)=ic 1)=AC from rfl,DT,DS];rfl
 .rw[show AE (((2:Nat):Int)=ic 0)=AD from rfl,show AE (((2:Nat):Int)=ic 1)=AD from rfl,show AE (((2:Nat):Int)=ic 2)=AC from rfl,DT,DT,DS];rfl
 .rw[show AE (((3:Nat):Int)=ic 0)=AD from rfl,show AE (((3:Nat):Int)=ic 1)=AD from rfl,show AE (((3:Nat):Int)=ic 2)=AD from rfl,show AE (((3:Nat):Int)=ic 3)=AC from rfl,DT,DT,DT,DS];rfl
theorem Le(N:Nat)(s:BA)(W:LI)(x7 x8:Int)(L:LI)(I:Nat)(h4:L.length<=4)(hL:∀i,i<L.length->IV.toStr (L.getD i default)=EF W (I+1+i))(hw:∀i,(EF W i).size<4294967281)(K:Out->St->DW):
  ∀(d i n:Nat),i+d=L.length->d<n->
   D7 (QF N) (DU S5 [1,1,1,1,1,1,1,0,1,0,0]) ⟨[0,2,3,4,5,7,8,9,45,46,47],[2,9],[]⟩ n (oA s W x7 x8 L (rq W I i) (i:Int)) K=K (.exit 0) (oA s W x7 x8 L (rq W I L.length) (ic L.length))
 |0,i,n+1,hd,hn=>by
  have hi:i=L.length:=by omega
  subst hi;rw[ED];refine(Rl N s 0 AD W x7 x8 L (ic L.length) _ 0 0 0 0 0 0 0 0 0 0 0 0 0 0 0 AD 0 (rq W I L.length).k (rq W I L.length).c (rq W I L.length).a0 (rq W I L.length).b0 (rq W I L.length).a1 (rq W I L.length).b1 (rq W I L.length).a2 (rq W I L.length).b2 (rq W I L.length).a3 (rq W I L.length).b3 (rq W I L.length).a4 (rq W I L.length).b4 (rq W I L.length).lo (rq W I L.length).hi (rq W I L.length).ft (rq W I L.length).fl (rq W I L.length).bu _ _).trans ?_;rw[I6 (A5 _),DT];rfl
 |d+1,i,n+1,hd,hn=>by
  rw[ED,zbU N s W x7 x8 L I i AG AG (hL i AG) (hw _)];exact Le N s W x7 x8 L I h4 hL hw K d (i+1) n AG AG
 |_,_,0,_,h=>by omega
theorem Gk(w:BA):∀(l:LI) (k:Int),0<=k->GC l w k= -1\/(k<=GC l w k/\GC l w k<k+(l.length:Int))
 |[],_,_=>.inl rfl
 |x::l,k,hk=>by
  unfold GC;cases(w.toList==x.toStr.toList)with
  |true=>rw[DS];exact .inr ⟨DO _,by simp only[AV];omega⟩
  |false=>
   rw[DT];rcases Gk w l (k+1) AG with h|⟨h1,h2⟩
   .exact .inl h
   .exact .inr ⟨by omega,by simp only[AV];omega⟩
theorem uy(s:BA)(hs:s.size<4294967281):(H1 s).length<=4294967282/\∀i,(EF (H1 s) i).size<4294967281:=by
 have h1:=Lib.splitB_all HH (by decide) 0 _ s rfl;have h2:=Lib.countB_le HH (by decide) s.size s (A5 _);refine⟨?_,λi=>?_⟩
 .have e:(H1 s).length=Lib.countB s HH+1:=by
   unfold H1 EP;rw[B8];exact h1
  omega
 .unfold EF;by_cases hi:i<(H1 s).length
  .have:AQ (H1 s) i default=(H1 s)[i]:=by simp[hi]
   rw[this];have hm:=DC hi;unfold H1 at hm;obtain⟨p,hp,hpe⟩:=CV.1 hm;have hz:=(bL HH _ s).2 p hp
   have:((H1 s)[i]).toStr=p:=by
    show(BQ IV.str (EP s HH))[i].toStr=p;rw[<-hpe];rfl
   rw[this];omega
  .have:AQ (H1 s) i default=default:=by simp[AQ,hi]
   rw[this];decide
theorem Pf:D9 PR B0 23 WJ:=by
 refine EJ [(10,WK),(84,WL),(81,cK),(83,WM),(80,fG),(82,ZI),(64,RJ)] [(9,⟨[0,2,3,4,5,7,8,9,45,46,47],[2,9],[]⟩)] WJ
  [[.z,.z,.z,.z,.z,.z,.z,.z,.z,.z,.z,.z,.z,.z,.z,.bool,.z],[.z],[.bool]] Tryz.func23 mj
  ⟨Pg,Ph,zdq,Pi,zeH,Qi,nW,trivial⟩ ?_
 intro vs r hwf h;unfold WJ at h;split at h
 .rename_i s;refine⟨20,?_⟩;cases hs:AE (s.size<4294967281)with
  |false=>rw[hs]at h;simp[R.get]at h
  |true=>
   rw[hs,R.get_br,DS,R.get_ok]at h;rw[<-h];refine(we 20 s).trans ?_;have hs':=BB hs;rw[hs];obtain⟨hl,hw⟩:=uy s hs';have eW:BQ IV.str (EP s {data:=#[32]})=H1 s:=rfl;have eI:GC (H1 s) {data:=#[105,110]} 0=N4 s:=rfl;rw[eW,eI,show AE (1<=AR {data:=#[32]})=AC from rfl,CJ,DS];have hr:=Gk OE (H1 s) 0 (DO _)
   change N4 s= -1\/(0<=N4 s/\N4 s<0+((H1 s).length:Int))at hr
   have w2:AI AJ (ic (AN (H1 s))-2)=ic (AN (H1 s))-2:=ER (by simp only[ic];omega) (by simp only[ic];omega);rw[w2];have wd:AI AJ (AI AJ (ic (AN (H1 s))-2-N4 s)-1)=OW s:=by
    unfold OW;rw[ER (n:=ic (AN (H1 s))-2-N4 s) (by simp only[ic];omega) (by simp only[ic];omega),ER (by simp only[ic];omega) (by simp only[ic];omega)]
   rw[wd];unfold GJ NA MH;cases h1:AE (N4 s<0)with
   |true=>simp only[DS,DT,A9,BP];rfl
   |false=>
    cases h2:AE (OW s<1)with
    |true=>simp only[DS,DT,A9,BG,BP,DB];rfl
    |false=>
     cases h3:AE (OW s>4)with
     |true=>simp only[DS,DT,A9,BG,BP,DB];rfl
     |false=>
      simp only[DT,BG,BE];have h1:=BM h1;have h2:=BM h2;have h3:=BM h3;obtain⟨I,hI⟩:∃I:Nat,N4 s=I:=⟨(N4 s).toNat,by omega⟩;obtain⟨D,hD⟩:∃D:Nat,OW s=D:=⟨(OW s).toNat,by omega⟩;have hD1:1<=D:=by omega
      have hD4:D<=4:=by omega
      unfold hZ;have hDd:(D:Int)=((H1 s).length:Int)-2-I-1:=by
       rw[<-hD,<-hI];rfl
      rw[hI,hD]at*;generalize H1 s=W at*;have wi:AI AJ ((I:Int)+1)=((I+1:Nat):Int):=by rw[ER AG AG];rfl
      have eb:ic (AN W)-2=((W.length-2:Nat):Int):=by simp only[ic];omega
      rw[wi,eb];simp only[BH,CA];have hall:List.all (AU I W) (λx=>AE (AR (IV.toStr x)<4294967281))=AC:=by
       rw[CZ];intro x hx;obtain⟨j,hj,rfl⟩:=List.mem_iff_getElem.1 (vav hx)
       have:=hw j
       unfold EF at this;have e:AQ W j default=W[j]:=by simp[hj]
       rw[e]at this;exact AL this
      rw[hall,AL (show(0:Int)<=(I:Int) by omega),AL (show(I:Int)<=ic (AN W) by simp only[ic];omega),AL (show AN (AU I W)<=4294967290 by rw[BJ];omega),
       AL (show(0:Int)<=((I+1:Nat):Int) by omega),AL (show((I+1:Nat):Int)<=((W.length-2:Nat):Int) by omega),AL (show((W.length-2:Nat):Int)<=ic (AN W) by simp only[ic];omega)]
      simp only[CJ,DS];have hLl:(A3 (I+1) (AU (W.length-2) W)).length=D:=by rw[DL,BJ];omega
      have hLg:∀i,i<(A3 (I+1) (AU (W.length-2) W)).length->IV.toStr ((A3 (I+1) (AU (W.length-2) W)).getD i default)=EF W (I+1+i):=λi hi=>by
       rw[hLl]at hi;unfold EF;congr 1;simp only[AQ,vat,C2];rw[B3 AG]
      rw[zcU W I];have run:=Le 20 s W ((W.length-2:Nat):Int) (D:Int) (A3 (I+1) (AU (W.length-2) W)) I (by rw[hLl];exact hD4) hLg hw (DZ 0 (D1 (QF 20) (DU S5 [1,1,1,1,1,1,1,1]) (D4 (QF 20) AB [(vbm 2 39),(B9 3),(B9 4)] [[.z,.z,.z,.z,.z,.z,.z,.z,.z,.z,.z,.z,.z,.z,.z,.bool,.z],[.z],[.bool]]))) D 0 20 (by rw[hLl];omega) AG;refine run.trans ?_;rw[hLl];refine(gg 20 s 0 AD W ((W.length-2:Nat):Int) (D:Int) (A3 (I+1) (AU (W.length-2) W)) (ic (A3 (I+1) (AU (W.length-2) W)).length) _ 0 0 0 0 0 0 0 0 0 0 0 0 0 0 0 AD 0 (rq W I D).k (rq W I D).c (rq W I D).a0 (rq W I D).b0 (rq W I D).a1 (rq W I D).b1 (rq W I D).a2 (rq W I D).b2 (rq W I D).a3 (rq W I D).b3 (rq W I D).a4 (rq W I D).b4 (rq W I D).lo (rq W I D).hi (rq W I D).ft (rq W I D).fl (rq W I D).bu).trans ?_;have e7:AI AJ (((W.length-2:Nat):Int)+1)=((W.length-1:Nat):Int):=by rw[ER AG AG];omega
      rw[e7,BH,AL (show(0:Int)<=((W.length-1:Nat):Int) by omega),AL (show((W.length-1:Nat):Int)<ic (AN W) by simp only[ic];omega),CJ,DS];have eq:(⟨(rq W I D).k,(rq W I D).c,(rq W I D).a0,(rq W I D).b0,(rq W I D).a1,(rq W I D).b1,(rq W I D).a2,(rq W I D).b2,(rq W I D).a3,(rq W I D).b3,(rq W I D).a4,(rq W I D).b4,(rq W I D).lo,(rq W I D).hi,(rq W I D).ft,(rq W I D).fl,GK (IV.toStr (AQ W (W.length-1) default))⟩:Qy)=iY W I D:=rfl;rw[eq];cases((G0 (iY W I D) (D:Int)).toList==s.toList)with
      |false=>rfl
      |true=>rfl
 .simp[R.get]at h
open Go
def RS(x:IV):Prop:=∃v,-3000<=v/\v<=3000/\x=MS v
def U9(dim n:Int)(i:Nat)(x:IV):Prop:=∃f a l,0<=f/\f<dim/\0<=a/\a<=9/\(i:Int)<l/\l+1<n/\x=TM AD 0 f a l (l+1)
def nm(x:IV)(j:Nat):Nat:=cond (x.cell 0).toBool 0 ((if(x.cell 4).toInt=(j:Int)then 1 else 0)+(if(x.cell 5).toInt=(j:Int)then 1 else 0))
def N6(l:LI)(j:Nat):Nat:=(l.map (nm · j)).sum
theorem m3{x:IV}(h:RS x)(j:Nat):nm x j=0:=by
 obtain⟨v,_,_,rfl⟩:=h;rfl
theorem zaX(f a:Int)(n j:Nat):nm (TM AD 0 f a (n:Int) ((n:Int)+1)) j=(if j=n then 1 else 0)+(if j=n+1 then 1 else 0):=by
 show(if(n:Int)=(j:Int)then 1 else 0)+(if(n:Int)+1=(j:Int)then 1 else 0)=_;have e1:((n:Int)=(j:Int))↔(j=n):=by omega
 have e2:((n:Int)+1=(j:Int))↔(j=n+1):=by omega
 simp only[e1,e2]
theorem zaW(l m:LI)(j:Nat):N6 (l++m) j=N6 l j+N6 m j:=by simp[N6]
theorem Jo:∀{l:LI} {p:Nat} {x:IV} (y:IV) (j:Nat),l[p]?=AA x->N6 (l.set p y) j+nm x j=N6 l j+nm y j
 |[],p,x,y,j,h=>by simp at h
 |z::l,0,x,y,j,h=>by
  simp only[CB,AK]at h;subst h;simp only[List.set_cons_zero,N6,A8,vbc];omega
 |z::l,p+1,x,y,j,h=>by
  have:=Jo (l:=l) y j (by simpa using h)
  simp only[List.set_cons_succ,N6,A8,vbc]at this ⊢;omega
structure NsOK (dim:Int) (i:Nat) (s:Ns):Prop where
 len:s.nodes.length=2*i+1
 ll:s.leaves.length=i+1
 node:∀(k:Nat) x,s.nodes[k]?=AA x->RS x\/U9 dim (2*(i:Int)+1) k x
 leaf:∀y∈s.leaves,∃p:Nat,y=.int (p:Int)/\∃x,s.nodes[p]?=AA x/\RS x
 dist:s.leaves.Nodup
 cnt:∀j,N6 s.nodes j=if 1<=j/\j<2*i+1 then 1 else 0
theorem nH(l:LI)(i lo hi:Int)(h:lo<=hi)(h0: -2000000000000000000<=lo)(h1:hi<=2000000000000000000):lo<=D2 (E0 l i) lo hi/\D2 (E0 l i) lo hi<=hi:=
 (HZ h h0 h1).2
theorem g8(l:LI)(i:Int):RS (MS (D2 (E0 l i) (-3000) 3000)):=
 ⟨_,(nH l i (-3000) 3000 AG AG AG).1,(nH l i (-3000) 3000 AG AG AG).2,rfl⟩
theorem za9(val:LI)(dim:Int):NsOK dim 0 ⟨[MS (D2 (E0 val 0) (-3000) 3000)],[.int 0]⟩ where
 len:=rfl
 ll:=rfl
 node k x h:=by
  cases k with
  |zero=>
   simp only[CB,AK]at h;subst h;exact .inl (g8 val 0)
  |succ k=>simp at h
 leaf y hy:=by
  simp only[AY,CD,C7]at hy;exact⟨0,hy,_,rfl,g8 val 0⟩
 dist:=by simp
 cnt j:=by
  have:¬(1<=j/\j<2*0+1):=by omega
  rw[BO this];show nm _ j+0=0;rw[m3 (g8 val 0)]
theorem za3{l:LI}(h:l.Nodup){k:Nat}{y:IV}(hk:l[k]?=AA y):y∉l.take k++l.drop (k+1):=by
 intro hy;rw[<-vbM,List.mem_eraseIdx_iff_getElem?]at hy;obtain⟨i,hne,hi⟩:=hy;have h1:i<l.length:=(B2.1 hi).1;have h2:k<l.length:=(B2.1 hk).1
 have:l[i]=l[k]:=by
  rw[(B2.1 hi).2,(B2.1 hk).2]
 have hp:=List.pairwise_iff_getElem.1 h;rcases Nat.lt_trichotomy i k with hlt|heq|hlt
 .exact hp i k h1 h2 hlt this
 .exact hne heq
 .exact hp k i h2 h1 hlt this.symm
theorem za8{part byl atl val:LI}{dim:Int}(hd:1<=dim/\dim<=4){i:Nat}(hi:i<7){s:Ns}(h:NsOK dim i s):NsOK dim (i+1) (K2 part byl atl val dim i s):=by
 obtain⟨k0,k1⟩:=(HZ (n:=(part.getD i default).toInt) (lo:=0) (hi:=ic s.leaves.length-1) (by simp only[ic];have:=h.ll;omega) AG (by simp only[ic];have:=h.ll;omega)).2;have hk0:0<=IZ part i s:=k0;have hk1:IZ part i s<=ic s.leaves.length-1:=k1;obtain⟨k,hk⟩:∃k:Nat,IZ part i s=k:=⟨(IZ part i s).toNat,by omega⟩;have hkl:k<s.leaves.length:=by simp only[ic]at hk1;omega
 have hky:s.leaves[k]?=AA s.leaves[k]:=BF hkl;obtain⟨p,hp,x,hx,hlf⟩:=h.leaf _ (DC hkl);have hat:(RY part i s).toNat=p:=by
  unfold RY;rw[hk,BH,BK,hky,hp];show((p:Int)).toNat=p;omega
 have hpl:p<2*i+1:=by rw[<-h.len];exact(B2.1 hx).1
 have f1:=nH byl (i:Int) 0 (dim-1) AG AG AG;have a1:=nH atl (i:Int) 0 9 AG AG AG;generalize hf:D2 (E0 byl (i:Int)) 0 (dim-1)=f at f1;generalize ha:D2 (E0 atl (i:Int)) 0 9=a at a1;have el:ic s.nodes.length=2*(i:Int)+1:=by simp only[ic];have:=h.len;omega
 have hs:K2 part byl atl val dim i s=⟨s.nodes.set p (TM AD 0 f a (2*(i:Int)+1) (2*(i:Int)+1+1))++[MS (D2 (E0 val (2*(i:Int)+1)) (-3000) 3000),MS (D2 (E0 val (2*(i:Int)+2)) (-3000) 3000)],
   s.leaves.take k++s.leaves.drop (k+1)++[.int (2*(i:Int)+1),.int (2*(i:Int)+1+1)]⟩:=by
  unfold K2;rw[hat,hk,BH,hf,ha,el]
 rw[hs];have L1:=g8 val (2*(i:Int)+1);have L2:=g8 val (2*(i:Int)+2);have hgrow:∀(q:Nat) z,U9 dim (2*(i:Int)+1) q z->U9 dim (2*((i+1:Nat):Int)+1) q z:=λq z hz=>by
  obtain⟨f,a,l,h1,h2,h3,h4,h5,h6,h7⟩:=hz;exact⟨f,a,l,h1,h2,h3,h4,h5,by omega,h7⟩
 have hlen:(s.nodes.set p (TM AD 0 f a (2*(i:Int)+1) (2*(i:Int)+1+1))).length=2*i+1:=by rw[DP,h.len]
 have hnew:∀(q:Nat) z,(s.nodes.set p (TM AD 0 f a (2*(i:Int)+1) (2*(i:Int)+1+1))++[MS (D2 (E0 val (2*(i:Int)+1)) (-3000) 3000),MS (D2 (E0 val (2*(i:Int)+2)) (-3000) 3000)])[q]?=AA z->
   (q≠p/\s.nodes[q]?=AA z)\/(q=p/\z=TM AD 0 f a (2*(i:Int)+1) (2*(i:Int)+1+1))\/RS z:=λq z hz=>by
  by_cases hq:q<2*i+1
  .rw[List.getElem?_append_left (by rw[hlen];exact hq)]at hz;by_cases e:p=q
   .subst e;rw[vbh (by rw[h.len];exact hpl)]at hz;exact .inr (.inl ⟨rfl,(CI hz).symm⟩)
   .rw[vaG e]at hz;exact .inl ⟨λe'=>e e'.symm,hz⟩
  .rw[List.getElem?_append_right (by rw[hlen];omega),hlen]at hz;obtain⟨r,hr⟩:∃r,q-(2*i+1)=r:=⟨_,rfl⟩;rw[hr]at hz
   match r,hz with
   |0,hz=>exact .inr (.inr (by simp at hz;subst hz;exact L1))
   |1,hz=>exact .inr (.inr (by simp at hz;subst hz;exact L2))
   |r+2,hz=>simp at hz
 refine⟨?_,?_,?_,?_,?_,?_⟩
 .show(s.nodes.set p _++[_,_]).length=_;rw[A2,hlen];simp only[AV,BL];omega
 .show(s.leaves.take k++s.leaves.drop (k+1)++[_,_]).length=_;simp only[A2,BJ,DL,AV,BL]
  have:=h.ll
  omega
 .intro q z hz;rcases hnew q z hz with⟨_,hz⟩|⟨rfl,rfl⟩|hz
  .rcases h.node q z hz with h1|h1
   .exact .inl h1
   .exact .inr (hgrow q z h1)
  .exact .inr ⟨f,a,2*(i:Int)+1,f1.1,by omega,a1.1,a1.2,by omega,by omega,rfl⟩
  .exact .inl hz
 .intro y hy;rcases A4.1 hy with hy|hy
  .have hne:y≠.int (p:Int):=λe=>by
    have:=za3 h.dist hky
    rw[hp]at this;exact this (e▸hy)
   have hyl:y∈s.leaves:=by
    rcases A4.1 hy with hy|hy
    .exact vav hy
    .exact vaL hy
   obtain⟨q,hq,x',hx',hl'⟩:=h.leaf y hyl;have hqp:p≠q:=λe=>by subst e;exact hne hq
   refine⟨q,hq,x',?_,hl'⟩;have hql:q<2*i+1:=by rw[<-h.len];exact(B2.1 hx').1
   show(s.nodes.set p _++[_,_])[q]?=_;rw[List.getElem?_append_left (by rw[hlen];exact hql),vaG hqp,hx']
  .simp only[AY,CD,C7]at hy;rcases hy with rfl|rfl
   .refine⟨2*i+1,by simp,MS (D2 (E0 val (2*(i:Int)+1)) (-3000) 3000),?_,L1⟩;show(s.nodes.set p _++[_,_])[2*i+1]?=_;rw[List.getElem?_append_right (by rw[hlen];omega),hlen]
    have:2*i+1-(2*i+1)=0:=by omega
    rw[this];rfl
   .refine⟨2*i+1+1,by simp,MS (D2 (E0 val (2*(i:Int)+2)) (-3000) 3000),?_,L2⟩;show(s.nodes.set p _++[_,_])[2*i+1+1]?=_;rw[List.getElem?_append_right (by rw[hlen];omega),hlen]
    have:2*i+1+1-(2*i+1)=1:=by omega
    rw[this];rfl
 .show(s.leaves.take k++s.leaves.drop (k+1)++[_,_]).Nodup;have big:∀y∈s.leaves,∀n:Int,2*(i:Int)+1<=n->y≠.int n:=λy hy n hn e=>by
   obtain⟨q,hq,x',hx',_⟩:=h.leaf y hy;have hql:q<2*i+1:=by rw[<-h.len];exact(B2.1 hx').1
   rw[hq]at e;injection e with e
   omega
  have hsub:∀y∈s.leaves.take k++s.leaves.drop (k+1),y∈s.leaves:=λy hy=>by
   rcases A4.1 hy with hy|hy
   .exact vav hy
   .exact vaL hy
  rw[List.nodup_append];refine⟨?_,?_,?_⟩
  .rw[<-vbM];exact List.Nodup.sublist (List.eraseIdx_sublist ..) h.dist
  .rw[List.nodup_cons];refine⟨λhm=>?_,by simp⟩;simp only[AY,CD,C7]at hm;injection hm with hm
   omega
  .intro y hy z hz e;subst e;simp only[AY,CD,C7]at hz;rcases hz with hz|hz
   .exact big y (hsub y hy) _ AG hz
   .exact big y (hsub y hy) _ AG hz
 .intro j;show N6 (s.nodes.set p _++[_,_]) j=_;rw[zaW];have h1:=Jo (TM AD 0 f a (2*(i:Int)+1) (2*(i:Int)+1+1)) j hx;rw[m3 hlf,h.cnt j]at h1;have h2:N6 [MS (D2 (E0 val (2*(i:Int)+1)) (-3000) 3000),MS (D2 (E0 val (2*(i:Int)+2)) (-3000) 3000)] j=0:=by
   show nm _ j+(nm _ j+0)=0;rw[m3 L1,m3 L2]
  have h3:=zaX f a (2*i+1) j;have e:((2*i+1:Nat):Int)=2*(i:Int)+1:=by omega
  rw[e]at h3;rw[h3]at h1;rw[h2];by_cases c1:1<=j/\j<2*i+1
  .rw[B3 c1,BO AG,BO AG]at h1;rw[B3 AG];omega
  .rw[BO c1]at h1;by_cases c2:j=2*i+1
   .rw[B3 c2,BO AG]at h1;rw[B3 AG];omega
   .by_cases c3:j=2*i+1+1
    .rw[BO c2,B3 c3]at h1;rw[B3 AG];omega
    .rw[BO c2,BO c3]at h1;rw[BO AG];omega
theorem Kf{part byl atl val:LI}{dim:Int}(hd:1<=dim/\dim<=4):∀(d i:Nat) (s:Ns),i+d<=7->NsOK dim i s->NsOK dim (i+d) (aS part byl atl val dim d i s)
 |0,i,s,_,h=>h
 |d+1,i,s,hi,h=>by
  have:=Kf (part:=part) (byl:=byl) (atl:=atl) (val:=val) hd d (i+1) _ AG (za8 (part:=part) (byl:=byl) (atl:=atl) (val:=val) hd AG h)
  rw[vaW,Nat.add_comm 1 d]at this;exact this
theorem Kg(part byl atl val:LI){dim:Int}(hd:1<=dim/\dim<=4):∃i,i<=7/\NsOK dim i (PY part byl atl val dim):=by
 refine⟨min part.length 7,by omega,?_⟩
 have:=Kf (part:=part) (byl:=byl) (atl:=atl) (val:=val) hd (min part.length 7) 0 _ AG (za9 val dim)
 rw[BS]at this;exact this
open Go
theorem Nd.eq_of{x y:Nd}(h:x.eq y=AC):x=y:=by
 obtain⟨a1,a2,a3,a4,a5,a6⟩:=x;obtain⟨b1,b2,b3,b4,b5,b6⟩:=y;simp only[Nd.eq,AP,CE,CH]at h;obtain⟨rfl,rfl,rfl,rfl,rfl,rfl⟩:=h;rfl
theorem iM{w:Int}(h:FJ w=AC):HG (DV w)=w/\IQ (DV w)=AC:=by
 have hn:DV w=L7 w:=by unfold DV;rw[h];rfl
 unfold FJ at h;simp only[AP,CC,CE,BI]at h;rw[hn];refine⟨h.2,?_⟩;cases hr:IQ (L7 w)with
 |true=>rfl
 |false=>
  have:=h.2
  unfold HG at this;rw[hr]at this;exact absurd this.symm h.1
def sU(i:Nat):Bool:=FJ (HT AC ((i:Int)-3000) 0 0 0 0)&&(DV (HT AC ((i:Int)-3000) 0 0 0 0)).eq ⟨AC,(i:Int)-3000,0,0,0,0⟩
def mM:Nat->Bool
 |0=>AC
 |n+1=>sU n&&mM n
theorem Hy:∀{n i:Nat},mM n=AC->i<n->sU i=AC
 |n+1,i,h,hi=>by
  rw[mM,AP]at h;by_cases e:i=n
  .subst e;exact h.1
  .exact Hy h.2 AG
def rF(i:Nat):Bool:=FJ (HT AD 0 ((i%4:Nat):Int) ((i/4%10:Nat):Int) ((i/40:Nat):Int) (((i/40:Nat):Int)+1))&&
 (DV (HT AD 0 ((i%4:Nat):Int) ((i/4%10:Nat):Int) ((i/40:Nat):Int) (((i/40:Nat):Int)+1))).eq ⟨AD,0,((i%4:Nat):Int),((i/4%10:Nat):Int),((i/40:Nat):Int),((i/40:Nat):Int)+1⟩
def lL:Nat->Bool
 |0=>AC
 |n+1=>(BV n 40||rF n)&&lL n
theorem Fp:∀{n i:Nat},lL n=AC->i<n->40<=i->rF i=AC
 |n+1,i,h,hi,h40=>by
  rw[lL,AP]at h;by_cases e:i=n
  .subst e
   have:=h.1
   rw[vap]at this;rcases this with h1|h1
   .have:i<40:=AX h1
    omega
   .exact h1
  .exact Fp h.2 AG h40
theorem uw:mM 6001=AC:=AF
theorem ma:lL 1200=AC:=AF
theorem sQ{v:Int}(h0: -3000<=v)(h1:v<=3000):FJ (HT AC v 0 0 0 0)=AC/\DV (HT AC v 0 0 0 0)=⟨AC,v,0,0,0,0⟩:=by
 have h:=Hy uw (show(v+3000).toNat<6001 by omega);have e:(((v+3000).toNat:Nat):Int)-3000=v:=by omega
 unfold sU at h;rw[e,AP]at h;exact⟨h.1,Nd.eq_of h.2⟩
theorem Fw{f a l:Int}(hf:0<=f/\f<4)(ha:0<=a/\a<=9)(hl:1<=l/\l<=28):FJ (HT AD 0 f a l (l+1))=AC/\DV (HT AD 0 f a l (l+1))=⟨AD,0,f,a,l,l+1⟩:=by
 have h:=Fp ma (show l.toNat*40+a.toNat*4+f.toNat<1200 by omega) AG;have e1:(((l.toNat*40+a.toNat*4+f.toNat)%4:Nat):Int)=f:=by omega
 have e2:(((l.toNat*40+a.toNat*4+f.toNat)/4%10:Nat):Int)=a:=by omega
 have e3:(((l.toNat*40+a.toNat*4+f.toNat)/40:Nat):Int)=l:=by omega
 unfold rF at h;rw[e1,e2,e3,AP]at h;exact⟨h.1,Nd.eq_of h.2⟩
theorem zfT{dim n:Int}(hd:dim<=4)(hn:n<=29){i:Nat}{x:IV}(h:RS x\/U9 dim n i x)(j:Nat):KQ (DV (TR x).toInt) j=nm x j:=by
 rcases h with⟨v,h0,h1,rfl⟩|⟨f,a,l,h0,h1,h2,h3,h4,h5,rfl⟩
 .show KQ (DV (HT AC v 0 0 0 0)) j=_;rw[(sQ h0 h1).2];rfl
 .show KQ (DV (HT AD 0 f a l (l+1))) j=_;rw[(Fw ⟨h0,by omega⟩ ⟨h2,h3⟩ ⟨by omega,by omega⟩).2];rfl
theorem zfU{dim n:Int}(hd:dim<=4)(hn:n<=29){i:Nat}{x:IV}(h:RS x\/U9 dim n i x):(FJ (TR x).toInt&&N2 dim n i (DV (TR x).toInt))=AC:=by
 rcases h with⟨v,h0,h1,rfl⟩|⟨f,a,l,h0,h1,h2,h3,h4,h5,rfl⟩
 .show(FJ (HT AC v 0 0 0 0)&&N2 dim n i (DV (HT AC v 0 0 0 0)))=AC;rw[(sQ h0 h1).1,(sQ h0 h1).2];rfl
 .show(FJ (HT AD 0 f a l (l+1))&&N2 dim n i (DV (HT AD 0 f a l (l+1))))=AC;have hw:=Fw ⟨h0,by omega⟩ ⟨h2,h3⟩ (show 1<=l/\l<=28 by omega);rw[hw.1,hw.2];unfold N2;simp only[BC,AS (show¬f>=dim by omega),BI.2 (show l≠l+1 by omega),AS (show¬min l (l+1)<=(i:Int) by omega),AS (show¬max l (l+1)>=n by omega)];rfl
theorem Jz{dim n:Int}(hd:dim<=4)(hn:n<=29):∀{l:LI} {i:Nat},(∀(k:Nat) x,l[k]?=AA x->RS x\/U9 dim n (i+k) x)->IY dim n i (l.map TR)=AC
 |[],_,_=>rfl
 |x::l,i,h=>by
  rw[A8,IY,AP];refine⟨zfU hd hn (h 0 x rfl),Jz hd hn (i:=i+1) λk y hk=>?_⟩
  have:=h (k+1) y (by simpa using hk)
  rwa [show i+(k+1)=i+1+k by omega]at this
theorem Jj{dim n:Int}(hd:dim<=4)(hn:n<=29)(j:Nat):∀{l:LI} {i:Nat},(∀(k:Nat) x,l[k]?=AA x->RS x\/U9 dim n (i+k) x)->G5 (l.map TR) j=N6 l j
 |[],_,_=>rfl
 |x::l,i,h=>by
  have ih:=Jj hd hn j (l:=l) (i:=i+1) λk y hk=>by
   have:=h (k+1) y (by simpa using hk)
   rwa [show i+(k+1)=i+1+k by omega]at this
  have h0:=zfT hd hn (h 0 x rfl) j;unfold G5 N6 at ih ⊢;simp only[A8,vbc];rw[h0,ih]
theorem za2(part byl atl val:LI){dim:Int}(hd:1<=dim/\dim<=4):F5 (NI part byl atl val dim) dim=AC:=by
 obtain⟨i,hi,h⟩:=Kg part byl atl val hd;have hlen:(NI part byl atl val dim).length=2*i+1:=by
  unfold NI;rw[B8,h.len]
 have hn:∀(k:Nat) x,(PY part byl atl val dim).nodes[k]?=AA x->RS x\/U9 dim (ic (NI part byl atl val dim).length) (0+k) x:=λk x hk=>by
  have e:ic (NI part byl atl val dim).length=2*(i:Int)+1:=by simp only[ic];omega
  rw[e,BS];exact h.node k x hk
 have hb:ic (NI part byl atl val dim).length<=29:=by simp only[ic];omega
 unfold F5;rw[AP,AP,AP];refine⟨⟨CU AG,CU AG⟩,Jz hd.2 hb hn,?_⟩;unfold VH;rw[CZ];intro j hj;have hj:=vaF.1 hj;rw[CE]
 have:=Jj hd.2 hb (j+1) hn
 have e:G5 (NI part byl atl val dim) (j+1)=N6 (PY part byl atl val dim).nodes (j+1):=this;rw[e,h.cnt,B3 AG]
theorem Z8(d:Int):1<=OS d/\OS d<=3:=(HZ (n:=d) (lo:=1) (hi:=3) AG AG AG).2
theorem gF(d:Int):1<=LF d/\LF d<=3:=(HZ (n:=d) (lo:=1) (hi:=3) AG AG AG).2
def mW(d c:Int)(bias ts:LI):Md:=⟨OS d,LF c,S4 c bias 0,S4 c bias 1,S4 c bias 2,SF d c ts⟩
theorem pF(c:Int)(bias:LI)(j:Int):GU (LF c) j (S4 c bias j)=AC:=by
 unfold GU S4
 have:=(HZ (n:=E0 bias j) (lo:= -500) (hi:=500) AG AG AG).2
 rcases Int.lt_or_le j (LF c)with h|h
 .rw[AL h,AS (show¬j>=LF c by omega)];simp only[BN,BP,BG,CJ];unfold EV;rw[AL AG,AL AG];rfl
 .rw[AS (show¬j<LF c by omega),AL (show j>=LF c from h)];rfl
theorem zfB(d c:Int)(t:IV):HN (OS d) (LF c) (bP d c t)=AC:=by
 have hd:=Z8 d;have hc:=gF c;have hk:=(HZ (n:=(t.cell 0).toInt) (lo:=0) (hi:=LF c-1) AG AG AG).2;show(!(AE (D2 (t.cell 0).toInt 0 (LF c-1)<0))&&(!(AE (D2 (t.cell 0).toInt 0 (LF c-1)>=LF c))&&F5 (NI (t.cell 1).toList (t.cell 2).toList (t.cell 3).toList (t.cell 4).toList (OS d)) (OS d)))=AC;rw[AS AG,AS AG,za2 _ _ _ _ ⟨hd.1,by omega⟩];rfl
theorem zfD(d c:Int)(ts:LI):(SF d c ts).all (HN (OS d) (LF c))=AC:=by
 rw[CZ];intro t ht;unfold SF at ht;obtain⟨u,_,rfl⟩:=CV.1 ht;exact zfB d c u
theorem zfC(d c:Int)(ts:LI):(SF d c ts).length<=4:=by
 unfold SF;rw[B8,BJ];omega
theorem vw{m:Md}(hd:1<=m.d/\m.d<=4)(hc:1<=m.c/\m.c<=3)(hl:m.ts.length<=8)(h0:GU m.c 0 m.b0=AC)(h1:GU m.c 1 m.b1=AC)(h2:GU m.c 2 m.b2=AC)(ht:m.ts.all (HN m.d m.c)=AC):ET m=AC:=by
 unfold ET;rw[AS (show¬m.d<1 by omega),AS (show¬m.d>4 by omega),AS (show¬m.c<1 by omega),AS (show¬m.c>3 by omega),CU hl,h0,h1,h2,ht];rfl
theorem vx(d c:Int)(bias ts:LI):ET (mW d c bias ts)=AC:=by
 have hd:=Z8 d;have hc:=gF c;exact vw (m:=mW d c bias ts) ⟨hd.1,by show OS d<=4;omega⟩ hc (by have:=zfC d c ts;show(SF d c ts).length<=8;omega) (pF c bias 0) (pF c bias 1) (pF c bias 2) (zfD d c ts)
open Go
abbrev EX:List Kd:=[.bool,.z,.z]
def I0(x:IV):Bool:=(x.cell 0).toBool
def FW(x:IV):Int:=(x.cell 1).toInt
def GY(x:IV):Int:=(x.cell 2).toInt
def bM(x y:IV):Bool:=I0 x==I0 y&&(FW x==FW y&&GY x==GY y)
def bN(x:IV):Bool:=!(I0 x&&!(FW x==0&&GY x==0))&&(AE (0<=FW x)&&AE (FW x<=4))
def TZ(l:LI):Bool:=AE (1<=l.length)&&(AE (l.length<=65536)&&l.all bN)
def cW:D5
 |[.list AC [.bool,.z,.z] l]=>.ok (.bool (TZ l)) []
 |_=>.no
def H3:LI->LI->Bool
 |[],[]=>AC
 |x::l,y::m=>bM x y&&H3 l m
 |_,_=>AD
def c6:D5
 |[.list AC [.bool,.z,.z] l,.list AC [.bool,.z,.z] m]=>.ok (.bool (H3 l m)) []
 |_=>.no
structure Vd where
 kind:Int
 proof:LI
 w0:Int
 w1:Int
 w2:Int
 w3:Int
 twin:Int
 spent:Int
def Vd.none:Vd:=⟨0,[],0,0,0,0,0,0⟩
def Vd.V(v:Vd):V:=.agg [.i v.kind,.list AC EX v.proof,.i v.w0,.i v.w1,.i v.w2,.i v.w3,.i v.twin,.i v.spent]
def Vd.bare(v:Vd):Bool:=v.w0==0&&(v.w1==0&&(v.w2==0&&(v.w3==0&&v.twin==0)))
def Vd.right(v:Vd):Bool:=
 AE (0<=v.spent)&&(AE (v.spent<=65536)&&
  (v.kind==1&&(v.bare&&TZ v.proof)||(v.kind==2&&v.proof.isEmpty||(v.kind==3||v.kind==4)&&(v.bare&&v.proof.isEmpty))))
def cU:D5
 |[.agg [.i k,.list AC [.bool,.z,.z] p,.i a,.i b,.i c,.i d,.i t,.i s]]=>.ok (.bool (Vd.right ⟨k,p,a,b,c,d,t,s⟩)) []
 |_=>.no
def PZ:BA->LI->BA
 |s,[]=>s
 |s,x::l=>PZ (s.push 32++D0 x.toInt) l
def HL(s w:BA)(l:LI):BA:=(PZ (s++w) l).push 10
def cV:D5
 |[.bor [.bld s],.str w,.list AD [.z] l]=>.br (AE ((HL s w l).size<=strMax)) (.ok (.tup []) [[.bld (HL s w l)]]) .no
 |_=>.no
abbrev YX:BA:=⟨#[104,111,108,100,115]⟩
abbrev xT:BA:=⟨#[102,97,105,108,115]⟩
abbrev xW:BA:=⟨#[117,110,107,110,111,119,110]⟩
abbrev xX:BA:=⟨#[119,114,111,110,103]⟩
abbrev jX:BA:=⟨#[115,117,109]⟩
abbrev jW:BA:=⟨#[99,117,116]⟩
abbrev IC:BA:=⟨#[10]⟩
abbrev GM:BA:=⟨#[]⟩
def R6:BA->LI->BA
 |s,[]=>s
 |s,x::l=>R6 (cond (I0 x) (HL s jX []) (HL s jW [.int (FW x),.int (GY x)])) l
def HU(v:Vd):BA:=
 cond v.right
  (cond (v.kind==1) (R6 (HL GM YX [.int v.spent,.int (ic v.proof.length)]) v.proof)
  (cond (v.kind==2) (HL GM xT [.int v.spent,.int v.w0,.int v.w1,.int v.w2,.int v.w3,.int v.twin])
  (cond (v.kind==3) (HL GM xW [.int v.spent])
  (HL GM xX [.int v.spent]))))
  GM
def WP:D5
 |[.agg [.i k,.list AC [.bool,.z,.z] p,.i a,.i b,.i c,.i d,.i t,.i s]]=>
  .br (AE ((HU ⟨k,p,a,b,c,d,t,s⟩).size<=strMax)) (.ok (.str (HU ⟨k,p,a,b,c,d,t,s⟩)) []) .no
 |_=>.no
def jT(a b:Vd):Bool:=a.kind==b.kind&&(H3 a.proof b.proof&&(a.w0==b.w0&&(a.w1==b.w1&&(a.w2==b.w2&&(a.w3==b.w3&&(a.twin==b.twin&&a.spent==b.spent))))))
def dA:D5
 |[.agg [.i k,.list AC [.bool,.z,.z] p,.i a,.i b,.i c,.i d,.i t,.i s],
  .agg [.i k',.list AC [.bool,.z,.z] p',.i a',.i b',.i c',.i d',.i t',.i s']]=>.ok (.bool (jT ⟨k,p,a,b,c,d,t,s⟩ ⟨k',p',a',b',c',d',t',s'⟩)) []
 |_=>.no
end Go.FM
