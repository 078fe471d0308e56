/-
  A small machine that reckons what a call comes to; the functions of the program, one by one. (DERIVED: THE SHELF's CONTRACTS AT THIS DUMP, IN PLAIN WORDS , THE LIBRARY's strconv.FormatUint AT BASE 10: the number's de, WHAT THE LIBRARY's FUNCTIONS OVER SLICES OF STRINGS COME TO,, and so on.)
-/
import Derived.Shelf.Strings.OnBuilder
import Derived.Shelf.Strings.Trim
import Derived.Shelf.Small.Wraps
import Derived.Shelf.Utf8.RuneCount
import Derived.Shelf.Strconv.Itoa3
import Derived.Shelf.Strconv.ErrVarAll
import Derived.Shelf.Strconv.ParseUint10b64
import Derived.Shelf.Pu.ErrVarParseUint
import Derived.Shelf.Strings.Shaped
import Derived.Shelf.Sort.Plain
import Derived.Shelf.Strings.SplitShaped
import Derived.Shelf.Strings.Runes
import Derived.Shelf.Strings.AsciiSet
import Derived.Shelf.Strings.Explode
import Derived.Shelf.Strings.Repeat
import Derived.Shelf.Unicode.DecodeLast
import Derived.Shelf.Slices.Turned
import Derived.Shelf.Slices.Clone
import Derived.Shelf.Slices.SearchI
import Derived.Shelf.Slices.Cells
import Derived.Shelf.Slices.In.SortNone
import Derived.Shelf.SlicesE.Clone
import Derived.Shelf.SlicesE.DeleteFunc
import Derived.Test.YtlolknmmmnbbgaaGreatDoorPb
import Derived.Lib.AppendIntMem
set_option linter.all false
set_option maxRecDepth 100000
open Array renaming length_toList→CP
open BitVec renaming ofInt→A0,toNat→CC
open Bool renaming and_eq_true→AG,not_true→A1,not_false→A9,true_and→BG,and_self→BH,not_eq_true'→BW,false_and→BX,and_true→CR,false_or→vav,and_false→vax,eq_iff_iff→vaC,or_eq_true→vaT
open ByteArray renaming size→AH,size_append→BI,toList→BR,empty→CH,append_assoc→vai,size_push→vbj
open Go.Addr.mk renaming injEq→C5
open Go.IntKind renaming wrap→AA,i64→AB,u64→AJ,bits→AO,signed→vaj,wrap_u64→va6
open Go.Lib renaming decDigits→C3,strCells→C6,strCells_length→var,bytesWorld→vaJ,parseUintB_64→vbE
open Go.ResultVar renaming tmp→BV,cell→vbf
open Go.World renaming cell?→vay
open Int renaming toNat→AD,toNat_natCast→BC,le_refl→CF,fdiv→vaR
open List renaming length→AE,getD→AI,take→AK,length_cons→AM,drop→AQ,length_append→AR,mem_cons_self→AU,mem_append→AV,mem_cons_of_mem→AW,mem_cons→AX,map_cons→AZ,map→A3,mem_singleton→A4,getElem?_eq_getElem→A5,length_nil→A6,drop_eq_getElem_cons→A7,length_take→A8,replicate→BB,take_length→BD,getD_eq_getElem?_getD→BO,getElem?_eq_some_iff→BQ,getElem?_eq_none→BU,drop_zero→B1,map_nil→B6,getElem?_map→B8,length_map→B9,getElem?_take→CJ,all_eq_true→CN,take_of_length_le→CW,drop_length→CX,not_mem_nil→CY,drop_of_length_le→C4,length_drop→C7,getElem_mem→vaa,size_toArray→vac,append_nil→vad,cons_append→vaf,getElem?_append→vag,mem_of_getElem?→vah,getElem?_drop→van,mem_map→vao,length_set→vas,append_assoc→vaG,range→vaQ,mem_of_mem_drop→vaX,mem_of_mem_take→vaY,getElem?_set_ne→va1,sum_cons→va2,mem_range→vbg
open Nat renaming le_of_ble_eq_true→AN,le_refl→AT,zero_add→BK,beq→BM,blt→BN,ble→BS,le_trans→CE,ble_eq_true_of_le→CQ,add_zero→CZ,eq_of_beq_eq_true→vat
open Option renaming map_eq_some_iff→C8
open Option.some renaming injEq→AC
open Prod.mk renaming injEq→AS
namespace Go.Proofs
open Go.Shelf
def Tryz.lays156_ren:Go.Shelf.Ren:=⟨fun | 156=>86 | 165=>122 | 166=>48 | 169=>52 | 240=>81 | 241=>162 | 276=>113 | 277=>188 | n=>n,fun | 31=>108 | 9=>9 | 3=>3 | 4=>4 | 0=>0 | 20=>20 | 72=>107 | 76=>112 | 70=>104 | 37=>105 | 75=>111 | 127=>160 | 164=>182 | 5=>5 | 80=>117 | n=>n,fun | n=>n⟩
theorem Tryz.lays156:Go.Proofs.Lays.n156 Tryz.prog Tryz.lays156_ren:= by constructor <;> first | kernel_rfl | (intro _; kernel_rfl)
theorem Tryz.Builder_Extra_156:Builder.Extra Tryz.prog Tryz.lays156_ren:={
 sizeBuilder:=by kernel_rfl
 liesBuilder:=by kernel_rfl
 t5:=Tryz.underlying5
 a5:=Tryz.isAgg5
 z5:=Tryz.sizeOf5
 v5:=Tryz.zeroValue5
 infoByte:=by kernel_rfl
 cellsByte:=by kernel_rfl
 sizeByte:=by kernel_rfl
 neB5:=by decide }
open Go.RowKit in
theorem Tryz.strings_Join_none (a:Option Addr) (c:Nat) (sep:BA) (w:World) :
 Calls Tryz.prog 86 #[.slice a 0 c,.string sep] w fun e w'=>e = .returned (.string ⟨#[]⟩)∧w'=w:=Any.strings_Join_none Tryz.lays156 Tryz.Builder_Extra_156 a c sep w
open Go.RowKit in
theorem Tryz.strings_Join (bk o c:Nat) (xs:List BA) (sep:BA) (w:World) (hcells:∀ (j:Nat) x,xs[j]?=some x→w.cell? ⟨bk,o+j,none⟩=some (.string x)) (hbk:bk < w.heap.size) (hN:xs.length≤140737488355328) (hcap:xs.length≤c) (hlen:(Lib.join (xs.map (·.data.toList)) sep.data.toList).length≤140737488355328) :
 Calls Tryz.prog 86 #[.slice (some ⟨bk,o,none⟩) xs.length c,.string sep] w fun e w'=>e = .returned (.string ⟨(Lib.join (xs.map (·.data.toList)) sep.data.toList).toArray⟩)∧Below w.heap.size w w':=Any.strings_Join Tryz.lays156 Tryz.Builder_Extra_156 bk o c xs sep w hcells hbk hN hcap hlen
def Tryz.lays162_ren:Go.Shelf.Ren:=⟨fun | 162=>90 | 232=>124 | 227=>125 | 234=>126 | 236=>127 | 228=>163 | 271=>164 | 151=>165 | 120=>189 | 197=>173 | 152=>190 | 260=>201 | 137=>211 | 119=>212 | 224=>204 | 225=>203 | 217=>202 | 266=>219 | n=>n,fun | 9=>9 | 4=>4 | 3=>3 | 5=>5 | 117=>194 | 116=>193 | 0=>0 | 124=>197 | 21=>21 | 105=>231 | 46=>135 | 119=>274 | 139=>277 | 138=>276 | n=>n,fun | 3=>4 | 4=>5 | n=>n⟩
theorem Tryz.lays162:Go.Proofs.Lays.n162 Tryz.prog Tryz.lays162_ren:={
 mixed:=by kernel_rfl
 f119:=Tryz.func212.trans (congrArg some (by kernel_rfl))
 f120:=Tryz.func189.trans (congrArg some (by kernel_rfl))
 f137:=Tryz.func211.trans (congrArg some (by kernel_rfl))
 f151:=Tryz.func165.trans (congrArg some (by kernel_rfl))
 f152:=Tryz.func190.trans (congrArg some (by kernel_rfl))
 f162:=Tryz.func90.trans (congrArg some (by kernel_rfl))
 f197:=Tryz.func173.trans (congrArg some (by kernel_rfl))
 f217:=Tryz.func202.trans (congrArg some (by kernel_rfl))
 f224:=Tryz.func204.trans (congrArg some (by kernel_rfl))
 f225:=Tryz.func203.trans (congrArg some (by kernel_rfl))
 f227:=Tryz.func125.trans (congrArg some (by kernel_rfl))
 f228:=Tryz.func163.trans (congrArg some (by kernel_rfl))
 f232:=Tryz.func124.trans (congrArg some (by kernel_rfl))
 f234:=Tryz.func126.trans (congrArg some (by kernel_rfl))
 f236:=Tryz.func127.trans (congrArg some (by kernel_rfl))
 f260:=Tryz.func201.trans (congrArg some (by kernel_rfl))
 f266:=Tryz.func219.trans (congrArg some (by kernel_rfl))
 f271:=Tryz.func164.trans (congrArg some (by kernel_rfl))
 t0:=Tryz.underlying0
 a0:=Tryz.isAgg0
 z0:=Tryz.sizeOf0
 v0:=Tryz.zeroValue0
 t3:=Tryz.underlying3
 a3:=Tryz.isAgg3
 z3:=Tryz.sizeOf3
 v3:=Tryz.zeroValue3
 t4:=Tryz.underlying4
 a4:=Tryz.isAgg4
 z4:=Tryz.sizeOf4
 v4:=Tryz.zeroValue4
 t5:=Tryz.underlying5
 a5:=Tryz.isAgg5
 z5:=Tryz.sizeOf5
 v5:=Tryz.zeroValue5
 t9:=Tryz.underlying9
 a9:=Tryz.isAgg9
 z9:=Tryz.sizeOf9
 v9:=Tryz.zeroValue9
 t21:=Tryz.underlying21
 a21:=Tryz.isAgg21
 z21:=Tryz.sizeOf21
 v21:=Tryz.zeroValue21
 t46:=Tryz.underlying135
 a46:=Tryz.isAgg135
 z46:=Tryz.sizeOf135
 v46:=Tryz.zeroValue135
 t105:=Tryz.underlying231
 a105:=Tryz.isAgg231
 z105:=Tryz.sizeOf231
 v105:=Tryz.zeroValue231
 t116:=Tryz.underlying193
 a116:=Tryz.isAgg193
 z116:=Tryz.sizeOf193
 t117:=Tryz.underlying194
 a117:=Tryz.isAgg194
 z117:=Tryz.sizeOf194
 v117:=Tryz.zeroValue194
 t119:=Tryz.underlying274
 a119:=Tryz.isAgg274
 z119:=Tryz.sizeOf274
 t124:=Tryz.underlying197
 a124:=Tryz.isAgg197
 z124:=Tryz.sizeOf197
 v124:=Tryz.zeroValue197
 t138:=Tryz.underlying276
 a138:=Tryz.isAgg276
 z138:=Tryz.sizeOf276
 v138:=Tryz.zeroValue276
 t139:=Tryz.underlying277
 a139:=Tryz.isAgg277
 z139:=Tryz.sizeOf277
 v139:=Tryz.zeroValue277
 g3:=by kernel_rfl
 g4:=by kernel_rfl }
open Go.RowKit in
theorem Tryz.strings_TrimRight_one (s:BA) (c:UInt8) (hc:c.toNat < 128) (w:World) (hs:s.size≤9223372036854775807) :
 Calls Tryz.prog 90 #[.string s,.string ⟨#[c]⟩] w fun e w'=>e = .returned (.string ⟨(Lib.trimRightB s.data.toList c).toArray⟩)∧w'=w:=Any.strings_TrimRight_one Tryz.lays162 s c hc w hs
def Tryz.lays103_ren:Go.Shelf.Ren:=⟨fun | 103=>152 | 210=>181 | 206=>168 | n=>n,fun | 9=>9 | 4=>4 | 24=>218 | 3=>3 | n=>n,fun | n=>n⟩
theorem Tryz.lays103:Go.Proofs.Lays.n103 Tryz.prog Tryz.lays103_ren:= by constructor <;> first | kernel_rfl | (intro _; kernel_rfl)
open Go.RowKit in
theorem Tryz.strings_CutPrefix (s p:BA) (w:World) :
 Calls Tryz.prog 152 #[.string s,.string p] w fun e w'=>e = .returned (.tuple #[.string ⟨(Lib.trimPrefix s.data.toList p.data.toList).toArray⟩,.bool (Lib.hasPrefix s.data.toList p.data.toList)])∧w'=w:=Any.strings_CutPrefix Tryz.lays103 s p w
def Tryz.lays283_ren:Go.Shelf.Ren:=⟨fun | 283=>154 | n=>n,fun | 3=>3 | 9=>9 | 4=>4 | n=>n,fun | n=>n⟩
theorem Tryz.lays283:Go.Proofs.Lays.n283 Tryz.prog Tryz.lays283_ren:= by constructor <;> first | kernel_rfl | (intro _; kernel_rfl)
open Go.Lib in
theorem Tryz.internal_strconv_small (i:Nat) (h:i < 100) (w:World) :
 Calls Tryz.prog 154 #[.int .i64 i] w fun e w'=>e = .returned (.string ⟨(Lib.decDigits i).toArray⟩)∧w'=w:=Any.internal_strconv_small Tryz.lays283 i h w
def Tryz.laysM284_ren:Go.Shelf.Ren:=⟨fun | 284=>155 | 129=>184 | 317=>183 | 318=>185 | n=>n,fun | 53=>84 | 3=>3 | 212=>252 | 0=>0 | 4=>4 | 46=>135 | 5=>5 | 9=>9 | n=>n,fun | 17=>0 | n=>n⟩
theorem Tryz.laysM284:Go.Proofs.LaysM.n284 Tryz.prog Tryz.laysM284_ren:={
 mixed:=by kernel_rfl
 f129:=Tryz.func184.trans (congrArg some (by kernel_rfl))
 f284:=Tryz.func155.trans (congrArg some (by kernel_rfl))
 f317:=Tryz.func183.trans (congrArg some (by kernel_rfl))
 f318:=Tryz.func185.trans (congrArg some (by kernel_rfl))
 t0:=Tryz.underlying0
 a0:=Tryz.isAgg0
 z0:=Tryz.sizeOf0
 v0:=Tryz.zeroValue0
 t3:=Tryz.underlying3
 a3:=Tryz.isAgg3
 z3:=Tryz.sizeOf3
 v3:=Tryz.zeroValue3
 t4:=Tryz.underlying4
 a4:=Tryz.isAgg4
 z4:=Tryz.sizeOf4
 v4:=Tryz.zeroValue4
 t5:=Tryz.underlying5
 a5:=Tryz.isAgg5
 z5:=Tryz.sizeOf5
 v5:=Tryz.zeroValue5
 t9:=Tryz.underlying9
 a9:=Tryz.isAgg9
 z9:=Tryz.sizeOf9
 v9:=Tryz.zeroValue9
 t46:=Tryz.underlying135
 a46:=Tryz.isAgg135
 z46:=Tryz.sizeOf135
 v46:=Tryz.zeroValue135
 t53:=Tryz.underlying84
 a53:=Tryz.isAgg84
 z53:=Tryz.sizeOf84
 v53:=Tryz.zeroValue84
 t212:=Tryz.underlying252
 a212:=Tryz.isAgg252
 z212:=Tryz.sizeOf252
 v212:=Tryz.zeroValue252
 g17:=by kernel_rfl
 i0:=by kernel_rfl
 i3:=by kernel_rfl
 i4:=by kernel_rfl
 i5:=by kernel_rfl
 i9:=by kernel_rfl
 i46:=by kernel_rfl
 i53:=by kernel_rfl
 i212:=by kernel_rfl
 m17:=by kernel_rfl }
open Go.Lib in
theorem Tryz.internal_strconv_numDigits (u:Nat) (h1:1≤u) (h2:u < 18446744073709551616) (w:World) (htab:Lib.TabIs Tryz.prog w "internal/strconv.uint64pow10" .u64 Lib.pow10Tab) :
 Calls Tryz.prog 155 #[.int .u64 u] w fun e w'=>e = .returned (.int .i64 (Lib.nDigits u))∧w'=w:=Any.internal_strconv_numDigits Tryz.laysM284 u h1 h2 w htab
def Tryz.lays285_ren:Go.Shelf.Ren:=⟨fun | 285=>156 | n=>n,fun | 37=>105 | 53=>84 | 3=>3 | 4=>4 | 51=>234 | 9=>9 | 5=>5 | 0=>0 | n=>n,fun | n=>n⟩
theorem Tryz.lays285:Go.Proofs.Lays.n285 Tryz.prog Tryz.lays285_ren:= by constructor <;> first | kernel_rfl | (intro _; kernel_rfl)
open Go.RowKit Go.Sort Go.Lib in
theorem Tryz.internal_strconv_formatBase10 (blk off cap:Nat) (u:Nat) (d:Array UInt8) (w:World) (hH:Holds (fun (b:UInt8)=>Value.int .u8 (b.toNat:Int)) w blk off d) (hu:u < 10 ^ d.size) (hu64:u < 18446744073709551616) (hsz:d.size < 4611686018427387904) :
 Calls Tryz.prog 156 #[.slice (some ⟨blk,off,none⟩) d.size cap,.int .u64 u] w fun e w'=>
  e = .returned (.tuple #[])∧∃ (n v':Nat) (dk:Array UInt8),w'=(putRow (fun (b:UInt8)=>Value.int .u8 (b.toNat:Int)) w blk off dk).drewN n∧FmtInv d.size u 0 v' dk:=Any.internal_strconv_formatBase10 Tryz.lays285 blk off cap u d w hH hu hu64 hsz
def Tryz.laysM171_ren:Go.Shelf.Ren:=⟨fun | 171=>49 | 243=>82 | 246=>114 | 283=>154 | 284=>155 | 285=>156 | 286=>157 | 129=>184 | 317=>183 | 318=>185 | 319=>186 | 320=>187 | 337=>209 | 338=>210 | n=>n,fun | 3=>3 | 9=>9 | 2=>2 | 4=>4 | 171=>222 | 0=>0 | 53=>84 | 37=>105 | 5=>5 | 173=>225 | 212=>252 | 51=>234 | 20=>20 | 213=>253 | 46=>135 | 232=>284 | 233=>285 | n=>n,fun | 17=>0 | 18=>6 | 19=>7 | n=>n⟩
theorem Tryz.laysM171:Go.Proofs.LaysM.n171 Tryz.prog Tryz.laysM171_ren:={
 mixed:=by kernel_rfl
 f129:=Tryz.func184.trans (congrArg some (by kernel_rfl))
 f171:=Tryz.func49.trans (congrArg some (by kernel_rfl))
 f243:=Tryz.func82.trans (congrArg some (by kernel_rfl))
 f246:=Tryz.func114.trans (congrArg some (by kernel_rfl))
 f283:=Tryz.func154.trans (congrArg some (by kernel_rfl))
 f284:=Tryz.func155.trans (congrArg some (by kernel_rfl))
 f285:=Tryz.func156.trans (congrArg some (by kernel_rfl))
 f286:=Tryz.func157.trans (congrArg some (by kernel_rfl))
 f317:=Tryz.func183.trans (congrArg some (by kernel_rfl))
 f318:=Tryz.func185.trans (congrArg some (by kernel_rfl))
 f319:=Tryz.func186.trans (congrArg some (by kernel_rfl))
 f320:=Tryz.func187.trans (congrArg some (by kernel_rfl))
 f337:=Tryz.func209.trans (congrArg some (by kernel_rfl))
 f338:=Tryz.func210.trans (congrArg some (by kernel_rfl))
 t0:=Tryz.underlying0
 a0:=Tryz.isAgg0
 z0:=Tryz.sizeOf0
 v0:=Tryz.zeroValue0
 t2:=Tryz.underlying2
 a2:=Tryz.isAgg2
 z2:=Tryz.sizeOf2
 v2:=Tryz.zeroValue2
 t3:=Tryz.underlying3
 a3:=Tryz.isAgg3
 z3:=Tryz.sizeOf3
 v3:=Tryz.zeroValue3
 t4:=Tryz.underlying4
 a4:=Tryz.isAgg4
 z4:=Tryz.sizeOf4
 v4:=Tryz.zeroValue4
 t5:=Tryz.underlying5
 a5:=Tryz.isAgg5
 z5:=Tryz.sizeOf5
 v5:=Tryz.zeroValue5
 t9:=Tryz.underlying9
 a9:=Tryz.isAgg9
 z9:=Tryz.sizeOf9
 v9:=Tryz.zeroValue9
 t20:=Tryz.underlying20
 a20:=Tryz.isAgg20
 z20:=Tryz.sizeOf20
 v20:=Tryz.zeroValue20
 t37:=Tryz.underlying105
 a37:=Tryz.isAgg105
 z37:=Tryz.sizeOf105
 v37:=Tryz.zeroValue105
 t46:=Tryz.underlying135
 a46:=Tryz.isAgg135
 z46:=Tryz.sizeOf135
 v46:=Tryz.zeroValue135
 t51:=Tryz.underlying234
 a51:=Tryz.isAgg234
 z51:=Tryz.sizeOf234
 v51:=Tryz.zeroValue234
 t53:=Tryz.underlying84
 a53:=Tryz.isAgg84
 z53:=Tryz.sizeOf84
 v53:=Tryz.zeroValue84
 t171:=Tryz.underlying222
 a171:=Tryz.isAgg222
 z171:=Tryz.sizeOf222
 v171:=Tryz.zeroValue222
 t173:=Tryz.underlying225
 a173:=Tryz.isAgg225
 z173:=Tryz.sizeOf225
 v173:=Tryz.zeroValue225
 t212:=Tryz.underlying252
 a212:=Tryz.isAgg252
 z212:=Tryz.sizeOf252
 v212:=Tryz.zeroValue252
 t213:=Tryz.underlying253
 a213:=Tryz.isAgg253
 z213:=Tryz.sizeOf253
 t232:=Tryz.underlying284
 a232:=Tryz.isAgg284
 z232:=Tryz.sizeOf284
 v232:=Tryz.zeroValue284
 t233:=Tryz.underlying285
 a233:=Tryz.isAgg285
 z233:=Tryz.sizeOf285
 v233:=Tryz.zeroValue285
 g17:=by kernel_rfl
 g18:=by kernel_rfl
 g19:=by kernel_rfl
 i0:=by kernel_rfl
 i2:=by kernel_rfl
 i3:=by kernel_rfl
 i4:=by kernel_rfl
 i5:=by kernel_rfl
 i9:=by kernel_rfl
 i20:=by kernel_rfl
 i37:=by kernel_rfl
 i46:=by kernel_rfl
 i51:=by kernel_rfl
 i53:=by kernel_rfl
 i171:=by kernel_rfl
 i173:=by kernel_rfl
 i212:=by kernel_rfl
 i232:=by kernel_rfl
 i233:=by kernel_rfl
 m17:=by kernel_rfl
 m18:=by kernel_rfl
 m19:=by kernel_rfl }
open Go.RowKit Go.Sort Go.Lib in
theorem Tryz.strconv_Itoa (n:Int) (h0 : -9223372036854775808≤n) (h1:n≤9223372036854775807) (w:World) (htab:Lib.TabIs Tryz.prog w "internal/strconv.uint64pow10" .u64 Lib.pow10Tab) :
 Calls Tryz.prog 49 #[.int .i64 n] w fun e w'=>e = .returned (.string ⟨(Lib.itoa n).toArray⟩)∧∃ k os,w'=grow (w.drewN k) os:=Any.strconv_Itoa Tryz.laysM171 n h0 h1 w htab
def Tryz.laysC172_ren:Go.Shelf.Ren:=⟨fun | 172=>111 | 244=>150 | 245=>151 | 247=>176 | 279=>177 | 280=>178 | 281=>179 | 282=>180 | 287=>206 | 316=>207 | 171=>49 | 205=>208 | 321=>221 | 322=>222 | 243=>82 | 246=>114 | 283=>154 | 284=>155 | 285=>156 | 286=>157 | 129=>184 | 317=>183 | 318=>185 | 319=>186 | 320=>187 | 337=>209 | 338=>210 | n=>n,fun | 9=>9 | 3=>3 | 75=>111 | 76=>112 | 4=>4 | 5=>5 | 167=>242 | 37=>105 | 0=>0 | 85=>243 | 2=>2 | 168=>245 | 53=>84 | 175=>248 | 46=>135 | 210=>266 | 127=>160 | 145=>283 | 143=>281 | 21=>21 | 171=>222 | 173=>225 | 212=>252 | 51=>234 | 20=>20 | 213=>253 | 232=>284 | 233=>285 | 80=>117 | n=>n,fun | 15=>2 | 16=>3 | 17=>0 | 18=>6 | 19=>7 | n=>n⟩
theorem Tryz.laysC172:Go.Proofs.LaysC.n172 Tryz.prog Tryz.laysC172_ren:={
 mixed:=by kernel_rfl
 f129:=Tryz.func184.trans (congrArg some (by kernel_rfl))
 f171:=Tryz.func49.trans (congrArg some (by kernel_rfl))
 f172:=Tryz.func111.trans (congrArg some (by kernel_rfl))
 f205:=Tryz.func208.trans (congrArg some (by kernel_rfl))
 f243:=Tryz.func82.trans (congrArg some (by kernel_rfl))
 f244:=Tryz.func150.trans (congrArg some (by kernel_rfl))
 f245:=Tryz.func151.trans (congrArg some (by kernel_rfl))
 f246:=Tryz.func114.trans (congrArg some (by kernel_rfl))
 f247:=Tryz.func176.trans (congrArg some (by kernel_rfl))
 f279:=Tryz.func177.trans (congrArg some (by kernel_rfl))
 f280:=Tryz.func178.trans (congrArg some (by kernel_rfl))
 f281:=Tryz.func179.trans (congrArg some (by kernel_rfl))
 f282:=Tryz.func180.trans (congrArg some (by kernel_rfl))
 f283:=Tryz.func154.trans (congrArg some (by kernel_rfl))
 f284:=Tryz.func155.trans (congrArg some (by kernel_rfl))
 f285:=Tryz.func156.trans (congrArg some (by kernel_rfl))
 f286:=Tryz.func157.trans (congrArg some (by kernel_rfl))
 f287:=Tryz.func206.trans (congrArg some (by kernel_rfl))
 f316:=Tryz.func207.trans (congrArg some (by kernel_rfl))
 f317:=Tryz.func183.trans (congrArg some (by kernel_rfl))
 f318:=Tryz.func185.trans (congrArg some (by kernel_rfl))
 f319:=Tryz.func186.trans (congrArg some (by kernel_rfl))
 f320:=Tryz.func187.trans (congrArg some (by kernel_rfl))
 f321:=Tryz.func221.trans (congrArg some (by kernel_rfl))
 f322:=Tryz.func222.trans (congrArg some (by kernel_rfl))
 f337:=Tryz.func209.trans (congrArg some (by kernel_rfl))
 f338:=Tryz.func210.trans (congrArg some (by kernel_rfl))
 t0:=Tryz.underlying0
 a0:=Tryz.isAgg0
 z0:=Tryz.sizeOf0
 v0:=Tryz.zeroValue0
 t2:=Tryz.underlying2
 a2:=Tryz.isAgg2
 z2:=Tryz.sizeOf2
 v2:=Tryz.zeroValue2
 t3:=Tryz.underlying3
 a3:=Tryz.isAgg3
 z3:=Tryz.sizeOf3
 v3:=Tryz.zeroValue3
 t4:=Tryz.underlying4
 a4:=Tryz.isAgg4
 z4:=Tryz.sizeOf4
 v4:=Tryz.zeroValue4
 t5:=Tryz.underlying5
 a5:=Tryz.isAgg5
 z5:=Tryz.sizeOf5
 v5:=Tryz.zeroValue5
 t9:=Tryz.underlying9
 a9:=Tryz.isAgg9
 z9:=Tryz.sizeOf9
 v9:=Tryz.zeroValue9
 t20:=Tryz.underlying20
 a20:=Tryz.isAgg20
 z20:=Tryz.sizeOf20
 v20:=Tryz.zeroValue20
 t21:=Tryz.underlying21
 a21:=Tryz.isAgg21
 z21:=Tryz.sizeOf21
 v21:=Tryz.zeroValue21
 t37:=Tryz.underlying105
 a37:=Tryz.isAgg105
 z37:=Tryz.sizeOf105
 v37:=Tryz.zeroValue105
 t46:=Tryz.underlying135
 a46:=Tryz.isAgg135
 z46:=Tryz.sizeOf135
 v46:=Tryz.zeroValue135
 t51:=Tryz.underlying234
 a51:=Tryz.isAgg234
 z51:=Tryz.sizeOf234
 v51:=Tryz.zeroValue234
 t53:=Tryz.underlying84
 a53:=Tryz.isAgg84
 z53:=Tryz.sizeOf84
 v53:=Tryz.zeroValue84
 t75:=Tryz.underlying111
 a75:=Tryz.isAgg111
 z75:=Tryz.sizeOf111
 v75:=Tryz.zeroValue111
 t76:=Tryz.underlying112
 a76:=Tryz.isAgg112
 z76:=Tryz.sizeOf112
 v76:=Tryz.zeroValue112
 t85:=Tryz.underlying243
 a85:=Tryz.isAgg243
 z85:=Tryz.sizeOf243
 v85:=Tryz.zeroValue243
 t127:=Tryz.underlying160
 a127:=Tryz.isAgg160
 z127:=Tryz.sizeOf160
 v127:=Tryz.zeroValue160
 t143:=Tryz.underlying281
 a143:=Tryz.isAgg281
 z143:=Tryz.sizeOf281
 v143:=Tryz.zeroValue281
 t145:=Tryz.underlying283
 a145:=Tryz.isAgg283
 z145:=Tryz.sizeOf283
 v145:=Tryz.zeroValue283
 t167:=Tryz.underlying242
 a167:=Tryz.isAgg242
 z167:=Tryz.sizeOf242
 v167:=Tryz.zeroValue242
 t168:=Tryz.underlying245
 a168:=Tryz.isAgg245
 z168:=Tryz.sizeOf245
 v168:=Tryz.zeroValue245
 t171:=Tryz.underlying222
 a171:=Tryz.isAgg222
 z171:=Tryz.sizeOf222
 v171:=Tryz.zeroValue222
 t173:=Tryz.underlying225
 a173:=Tryz.isAgg225
 z173:=Tryz.sizeOf225
 v173:=Tryz.zeroValue225
 t175:=Tryz.underlying248
 a175:=Tryz.isAgg248
 z175:=Tryz.sizeOf248
 v175:=Tryz.zeroValue248
 t210:=Tryz.underlying266
 a210:=Tryz.isAgg266
 z210:=Tryz.sizeOf266
 v210:=Tryz.zeroValue266
 t212:=Tryz.underlying252
 a212:=Tryz.isAgg252
 z212:=Tryz.sizeOf252
 v212:=Tryz.zeroValue252
 t213:=Tryz.underlying253
 a213:=Tryz.isAgg253
 z213:=Tryz.sizeOf253
 t232:=Tryz.underlying284
 a232:=Tryz.isAgg284
 z232:=Tryz.sizeOf284
 v232:=Tryz.zeroValue284
 t233:=Tryz.underlying285
 a233:=Tryz.isAgg285
 z233:=Tryz.sizeOf285
 v233:=Tryz.zeroValue285
 g15:=by kernel_rfl
 g16:=by kernel_rfl
 g17:=by kernel_rfl
 g18:=by kernel_rfl
 g19:=by kernel_rfl
 t80:=Tryz.underlying117
 a80:=Tryz.isAgg117
 z80:=Tryz.sizeOf117
 v80:=Tryz.zeroValue117
 i0:=by kernel_rfl
 i2:=by kernel_rfl
 i3:=by kernel_rfl
 i4:=by kernel_rfl
 i5:=by kernel_rfl
 i9:=by kernel_rfl
 i20:=by kernel_rfl
 i21:=by kernel_rfl
 i37:=by kernel_rfl
 i46:=by kernel_rfl
 i51:=by kernel_rfl
 i53:=by kernel_rfl
 i75:=by kernel_rfl
 i76:=by kernel_rfl
 i80:=by kernel_rfl
 i85:=by kernel_rfl
 i127:=by kernel_rfl
 i143:=by kernel_rfl
 i145:=by kernel_rfl
 i167:=by kernel_rfl
 i168:=by kernel_rfl
 i171:=by kernel_rfl
 i173:=by kernel_rfl
 i175:=by kernel_rfl
 i210:=by kernel_rfl
 i212:=by kernel_rfl
 i232:=by kernel_rfl
 i233:=by kernel_rfl
 m15:=by kernel_rfl
 m16:=by kernel_rfl
 m17:=by kernel_rfl
 m18:=by kernel_rfl
 m19:=by kernel_rfl
 c0:=by kernel_rfl
 c2:=by kernel_rfl
 c3:=by kernel_rfl
 c4:=by kernel_rfl
 c5:=by kernel_rfl
 c9:=by kernel_rfl
 c20:=by kernel_rfl
 c21:=by kernel_rfl
 c37:=by kernel_rfl
 c46:=by kernel_rfl
 c51:=by kernel_rfl
 c53:=by kernel_rfl
 c75:=by kernel_rfl
 c76:=by kernel_rfl
 c80:=by kernel_rfl
 c85:=by kernel_rfl
 c127:=by kernel_rfl
 c143:=by kernel_rfl
 c145:=by kernel_rfl
 c167:=by kernel_rfl
 c168:=by kernel_rfl
 c171:=by kernel_rfl
 c173:=by kernel_rfl
 c175:=by kernel_rfl
 c210:=by kernel_rfl
 c212:=by kernel_rfl
 c213:=by kernel_rfl
 c232:=by kernel_rfl
 c233:=by kernel_rfl }
open Go.RowKit in
theorem Tryz.strconv_Atoi_ok (s:BA) (hmax:s.size≤9223372036854775806) (v:Int) (h:Lib.atoiAll s.data.toList = .ok v) (w:World) :
 Calls Tryz.prog 111 #[.string s] w fun e w'=>e = .returned (.tuple #[.int .i64 v,.nilIface])∧(w'=w∨∃ t,w'=Lib.bytesWorld w 5 t):=Any.strconv_Atoi_ok Tryz.laysC172 s hmax v h w
open Go.RowKit in
theorem Tryz.strconv_Atoi_syntax (s:BA) (hlim:s.size≤281474976710656) (h:Lib.atoiAll s.data.toList=Lib.NumEnd.syntax) (ev:Value) (w:World) (hv:w.cell? ⟨2,0,none⟩=some ev) (hev:ev = .nilIface∨∃ te pe,ev = .iface te pe) :
 Calls Tryz.prog 111 #[.string s] w fun e w'=>∃ N,e = .returned (.tuple #[.int .i64 (0),.iface 245 (.pointer (some ⟨N,0,none⟩))])∧w.heap.size≤N∧w'.heap[N]?=some (.cells #[.string ⟨#[65,116,111,105]⟩,.string s,ev] 266 (0,0))∧Below w.heap.size w w':=Any.strconv_Atoi_syntax Tryz.laysC172 s hlim h ev w hv hev
open Go.RowKit in
theorem Tryz.strconv_Atoi_range (s:BA) (hlim:s.size≤281474976710656) (h:Lib.atoiAll s.data.toList = .range) (ev:Value) (w:World) (hv:w.cell? ⟨3,0,none⟩=some ev) (hev:ev = .nilIface∨∃ te pe,ev = .iface te pe) :
 Calls Tryz.prog 111 #[.string s] w fun e w'=>∃ N,e = .returned (.tuple #[.int .i64 (Lib.atoiSat s.data.toList),.iface 245 (.pointer (some ⟨N,0,none⟩))])∧w.heap.size≤N∧w'.heap[N]?=some (.cells #[.string ⟨#[65,116,111,105]⟩,.string s,ev] 266 (0,0))∧Below w.heap.size w w':=Any.strconv_Atoi_range Tryz.laysC172 s hlim h ev w hv hev
def Tryz.laysPu14_ren:Go.Shelf.Ren:=⟨fun | 14=>182 | 16=>206 | 17=>151 | 19=>221 | 20=>222 | 21=>177 | 22=>178 | 23=>179 | 24=>180 | 25=>207 | 27=>49 | 26=>208 | 28=>82 | 29=>114 | 30=>154 | 31=>155 | 32=>156 | 33=>157 | 35=>184 | 34=>183 | 36=>185 | 37=>186 | 38=>187 | 39=>209 | 40=>210 | n=>n,fun | 9=>9 | 3=>3 | 22=>84 | 24=>111 | 25=>248 | 4=>4 | 34=>242 | 5=>5 | 36=>135 | 37=>105 | 0=>0 | 39=>245 | 21=>21 | 44=>266 | 47=>160 | 50=>283 | 48=>281 | 2=>2 | 52=>222 | 55=>225 | 59=>252 | 60=>234 | 20=>20 | 61=>253 | 65=>284 | 66=>285 | 67=>117 | n=>n,fun | 0=>2 | 1=>3 | 2=>0 | 3=>6 | 4=>7 | n=>n⟩
theorem Tryz.laysPu14:Go.Proofs.LaysPu.n14 Tryz.prog Tryz.laysPu14_ren:={
 mixed:=by kernel_rfl
 f14:=Tryz.func182.trans (congrArg some (by kernel_rfl))
 f16:=Tryz.func206.trans (congrArg some (by kernel_rfl))
 f17:=Tryz.func151.trans (congrArg some (by kernel_rfl))
 f19:=Tryz.func221.trans (congrArg some (by kernel_rfl))
 f20:=Tryz.func222.trans (congrArg some (by kernel_rfl))
 f21:=Tryz.func177.trans (congrArg some (by kernel_rfl))
 f22:=Tryz.func178.trans (congrArg some (by kernel_rfl))
 f23:=Tryz.func179.trans (congrArg some (by kernel_rfl))
 f24:=Tryz.func180.trans (congrArg some (by kernel_rfl))
 f25:=Tryz.func207.trans (congrArg some (by kernel_rfl))
 f26:=Tryz.func208.trans (congrArg some (by kernel_rfl))
 f27:=Tryz.func49.trans (congrArg some (by kernel_rfl))
 f28:=Tryz.func82.trans (congrArg some (by kernel_rfl))
 f29:=Tryz.func114.trans (congrArg some (by kernel_rfl))
 f30:=Tryz.func154.trans (congrArg some (by kernel_rfl))
 f31:=Tryz.func155.trans (congrArg some (by kernel_rfl))
 f32:=Tryz.func156.trans (congrArg some (by kernel_rfl))
 f33:=Tryz.func157.trans (congrArg some (by kernel_rfl))
 f34:=Tryz.func183.trans (congrArg some (by kernel_rfl))
 f35:=Tryz.func184.trans (congrArg some (by kernel_rfl))
 f36:=Tryz.func185.trans (congrArg some (by kernel_rfl))
 f37:=Tryz.func186.trans (congrArg some (by kernel_rfl))
 f38:=Tryz.func187.trans (congrArg some (by kernel_rfl))
 f39:=Tryz.func209.trans (congrArg some (by kernel_rfl))
 f40:=Tryz.func210.trans (congrArg some (by kernel_rfl))
 t0:=Tryz.underlying0
 a0:=Tryz.isAgg0
 z0:=Tryz.sizeOf0
 v0:=Tryz.zeroValue0
 i0:=by kernel_rfl
 t2:=Tryz.underlying2
 a2:=Tryz.isAgg2
 z2:=Tryz.sizeOf2
 v2:=Tryz.zeroValue2
 i2:=by kernel_rfl
 t3:=Tryz.underlying3
 a3:=Tryz.isAgg3
 z3:=Tryz.sizeOf3
 v3:=Tryz.zeroValue3
 i3:=by kernel_rfl
 t4:=Tryz.underlying4
 a4:=Tryz.isAgg4
 z4:=Tryz.sizeOf4
 v4:=Tryz.zeroValue4
 i4:=by kernel_rfl
 t5:=Tryz.underlying5
 a5:=Tryz.isAgg5
 z5:=Tryz.sizeOf5
 v5:=Tryz.zeroValue5
 i5:=by kernel_rfl
 t9:=Tryz.underlying9
 a9:=Tryz.isAgg9
 z9:=Tryz.sizeOf9
 v9:=Tryz.zeroValue9
 i9:=by kernel_rfl
 t20:=Tryz.underlying20
 a20:=Tryz.isAgg20
 z20:=Tryz.sizeOf20
 v20:=Tryz.zeroValue20
 i20:=by kernel_rfl
 t21:=Tryz.underlying21
 a21:=Tryz.isAgg21
 z21:=Tryz.sizeOf21
 v21:=Tryz.zeroValue21
 i21:=by kernel_rfl
 t22:=Tryz.underlying84
 a22:=Tryz.isAgg84
 z22:=Tryz.sizeOf84
 v22:=Tryz.zeroValue84
 i22:=by kernel_rfl
 t24:=Tryz.underlying111
 a24:=Tryz.isAgg111
 z24:=Tryz.sizeOf111
 v24:=Tryz.zeroValue111
 i24:=by kernel_rfl
 t25:=Tryz.underlying248
 a25:=Tryz.isAgg248
 z25:=Tryz.sizeOf248
 v25:=Tryz.zeroValue248
 i25:=by kernel_rfl
 t34:=Tryz.underlying242
 a34:=Tryz.isAgg242
 z34:=Tryz.sizeOf242
 v34:=Tryz.zeroValue242
 i34:=by kernel_rfl
 c34:=by kernel_rfl
 t36:=Tryz.underlying135
 a36:=Tryz.isAgg135
 z36:=Tryz.sizeOf135
 v36:=Tryz.zeroValue135
 i36:=by kernel_rfl
 t37:=Tryz.underlying105
 a37:=Tryz.isAgg105
 z37:=Tryz.sizeOf105
 v37:=Tryz.zeroValue105
 i37:=by kernel_rfl
 t39:=Tryz.underlying245
 a39:=Tryz.isAgg245
 z39:=Tryz.sizeOf245
 v39:=Tryz.zeroValue245
 i39:=by kernel_rfl
 t44:=Tryz.underlying266
 a44:=Tryz.isAgg266
 z44:=Tryz.sizeOf266
 v44:=Tryz.zeroValue266
 i44:=by kernel_rfl
 t47:=Tryz.underlying160
 a47:=Tryz.isAgg160
 z47:=Tryz.sizeOf160
 v47:=Tryz.zeroValue160
 i47:=by kernel_rfl
 t48:=Tryz.underlying281
 a48:=Tryz.isAgg281
 z48:=Tryz.sizeOf281
 v48:=Tryz.zeroValue281
 i48:=by kernel_rfl
 t50:=Tryz.underlying283
 a50:=Tryz.isAgg283
 z50:=Tryz.sizeOf283
 v50:=Tryz.zeroValue283
 i50:=by kernel_rfl
 t52:=Tryz.underlying222
 a52:=Tryz.isAgg222
 z52:=Tryz.sizeOf222
 v52:=Tryz.zeroValue222
 i52:=by kernel_rfl
 t55:=Tryz.underlying225
 a55:=Tryz.isAgg225
 z55:=Tryz.sizeOf225
 v55:=Tryz.zeroValue225
 i55:=by kernel_rfl
 t59:=Tryz.underlying252
 a59:=Tryz.isAgg252
 z59:=Tryz.sizeOf252
 v59:=Tryz.zeroValue252
 i59:=by kernel_rfl
 t60:=Tryz.underlying234
 a60:=Tryz.isAgg234
 z60:=Tryz.sizeOf234
 v60:=Tryz.zeroValue234
 i60:=by kernel_rfl
 t61:=Tryz.underlying253
 a61:=Tryz.isAgg253
 z61:=Tryz.sizeOf253
 t65:=Tryz.underlying284
 a65:=Tryz.isAgg284
 z65:=Tryz.sizeOf284
 v65:=Tryz.zeroValue284
 i65:=by kernel_rfl
 t66:=Tryz.underlying285
 a66:=Tryz.isAgg285
 z66:=Tryz.sizeOf285
 v66:=Tryz.zeroValue285
 i66:=by kernel_rfl
 t67:=Tryz.underlying117
 a67:=Tryz.isAgg117
 z67:=Tryz.sizeOf117
 v67:=Tryz.zeroValue117
 i67:=by kernel_rfl
 g0:=by kernel_rfl
 m0:=by kernel_rfl
 g1:=by kernel_rfl
 m1:=by kernel_rfl
 g2:=by kernel_rfl
 m2:=by kernel_rfl
 g3:=by kernel_rfl
 m3:=by kernel_rfl
 g4:=by kernel_rfl
 m4:=by kernel_rfl }
open Go.RowKit in
theorem Tryz.strconv_ParseUint_10_at64_ok (s:BA) (hmax:s.size≤9223372036854775806) (u:Nat) (h:Lib.parseUintB 64 s.data.toList = .ok u) (w:World) :
 Calls Tryz.prog 182 #[.string s,.int .i64 10,.int .i64 64] w fun e w'=>e = .returned (.tuple #[.int .u64 u,.nilIface])∧(w'=w∨w'=Lib.bytesWorld w 5 s):=Any.strconv_ParseUint_10_at64_ok Tryz.laysPu14 s hmax u h w
open Go.RowKit in
theorem Tryz.strconv_ParseUint_10_at64_syntax (s:BA) (hlim:s.size≤281474976710656) (h:Lib.parseUintB 64 s.data.toList=Lib.NumEnd.syntax) (ev:Value) (w:World) (hv:w.cell? ⟨2,0,none⟩=some ev) (hev:ev = .nilIface∨∃ te pe,ev = .iface te pe) :
 Calls Tryz.prog 182 #[.string s,.int .i64 10,.int .i64 64] w fun e w'=>∃ N,e = .returned (.tuple #[.int .u64 0,.iface 245 (.pointer (some ⟨N,0,none⟩))])∧w.heap.size≤N∧w'.heap[N]?=some (.cells #[.string ⟨#[80,97,114,115,101,85,105,110,116]⟩,.string s,ev] 266 (0,0))∧Below w.heap.size w w':=Any.strconv_ParseUint_10_at64_syntax Tryz.laysPu14 s hlim h ev w hv hev
open Go.RowKit in
theorem Tryz.strconv_ParseUint_10_at64_range (s:BA) (hlim:s.size≤281474976710656) (h:Lib.parseUintB 64 s.data.toList = .range) (ev:Value) (w:World) (hv:w.cell? ⟨3,0,none⟩=some ev) (hev:ev = .nilIface∨∃ te pe,ev = .iface te pe) :
 Calls Tryz.prog 182 #[.string s,.int .i64 10,.int .i64 64] w fun e w'=>∃ N,e = .returned (.tuple #[.int .u64 18446744073709551615,.iface 245 (.pointer (some ⟨N,0,none⟩))])∧w.heap.size≤N∧w'.heap[N]?=some (.cells #[.string ⟨#[80,97,114,115,101,85,105,110,116]⟩,.string s,ev] 266 (0,0))∧Below w.heap.size w w':=Any.strconv_ParseUint_10_at64_range Tryz.laysPu14 s hlim h ev w hv hev
def Tryz.lays145_ren:Go.Shelf.Ren:=⟨fun | 145=>118 | 220=>159 | 219=>175 | 217=>202 | 225=>203 | 224=>204 | 267=>205 | 266=>219 | 314=>220 | n=>n,fun | 9=>9 | 4=>4 | 59=>187 | 3=>3 | 5=>5 | 46=>135 | 146=>235 | 51=>234 | n=>n,fun | 1=>1 | n=>n⟩
theorem Tryz.lays145:Go.Proofs.Lays.n145 Tryz.prog Tryz.lays145_ren:={
 mixed:=by kernel_rfl
 f145:=Tryz.func118.trans (congrArg some (by kernel_rfl))
 f217:=Tryz.func202.trans (congrArg some (by kernel_rfl))
 f219:=Tryz.func175.trans (congrArg some (by kernel_rfl))
 f220:=Tryz.func159.trans (congrArg some (by kernel_rfl))
 f224:=Tryz.func204.trans (congrArg some (by kernel_rfl))
 f225:=Tryz.func203.trans (congrArg some (by kernel_rfl))
 f266:=Tryz.func219.trans (congrArg some (by kernel_rfl))
 f267:=Tryz.func205.trans (congrArg some (by kernel_rfl))
 f314:=Tryz.func220.trans (congrArg some (by kernel_rfl))
 t3:=Tryz.underlying3
 a3:=Tryz.isAgg3
 z3:=Tryz.sizeOf3
 v3:=Tryz.zeroValue3
 t4:=Tryz.underlying4
 a4:=Tryz.isAgg4
 z4:=Tryz.sizeOf4
 v4:=Tryz.zeroValue4
 t5:=Tryz.underlying5
 a5:=Tryz.isAgg5
 z5:=Tryz.sizeOf5
 v5:=Tryz.zeroValue5
 t9:=Tryz.underlying9
 a9:=Tryz.isAgg9
 z9:=Tryz.sizeOf9
 v9:=Tryz.zeroValue9
 t46:=Tryz.underlying135
 a46:=Tryz.isAgg135
 z46:=Tryz.sizeOf135
 v46:=Tryz.zeroValue135
 t51:=Tryz.underlying234
 a51:=Tryz.isAgg234
 z51:=Tryz.sizeOf234
 v51:=Tryz.zeroValue234
 t59:=Tryz.underlying187
 a59:=Tryz.isAgg187
 z59:=Tryz.sizeOf187
 v59:=Tryz.zeroValue187
 t146:=Tryz.underlying235
 a146:=Tryz.isAgg235
 z146:=Tryz.sizeOf235
 v146:=Tryz.zeroValue235
 g1:=by kernel_rfl }
open Go.RowKit Go.Lib in
theorem Tryz.strings_Cut (s sep:BA) (m:Int) (w:World) (hs:s.size < 4294967281) (hm:w.cell? ⟨1,0,none⟩=some (.int .i64 m)) :
 Calls Tryz.prog 118 #[.string s,.string sep] w fun e w'=>e = .returned (.tuple #[.string ⟨(Lib.cut s.data.toList sep.data.toList).1.toArray⟩,.string ⟨(Lib.cut s.data.toList sep.data.toList).2.1.toArray⟩,.bool (Lib.cut s.data.toList sep.data.toList).2.2])∧∃ n,w'=w.drewN n:=Any.strings_Cut Tryz.lays145 s sep m w hs hm
def Tryz.lays189_ren:Go.Shelf.Ren:=⟨fun | 189=>137 | 125=>171 | 257=>170 | 128=>200 | 129=>184 | 294=>191 | 295=>192 | 296=>193 | 297=>194 | 298=>195 | 299=>196 | 216=>197 | 300=>198 | 301=>199 | 328=>213 | 329=>214 | 330=>215 | 331=>216 | 332=>217 | 215=>218 | 343=>223 | n=>n,fun | 28=>22 | 3=>3 | 46=>135 | 0=>0 | 51=>234 | 53=>84 | 4=>4 | 183=>258 | 182=>257 | 131=>73 | 5=>5 | 9=>9 | 218=>269 | 222=>272 | 228=>286 | 229=>143 | n=>n,fun | n=>n⟩
theorem Tryz.lays189:Go.Proofs.Lays.n189 Tryz.prog Tryz.lays189_ren:= by constructor <;> first | kernel_rfl | (intro _; kernel_rfl)
open Go.Sort Go.RowKit in
theorem Tryz.slices_Sort_int (blk off cap:Nat) (zs:List Int) (w:World) (hH:Holds (Value.int .i64) w blk off zs.toArray) (hblk:blk < w.heap.size) (hsz:zs.length < 4611686018427387904) :
 Calls Tryz.prog 137 #[.slice (some ⟨blk,off,none⟩) zs.length cap] w fun e w'=>
  e = .returned (.tuple #[])∧∃ n os,w'=grow (putRow (Value.int .i64) (Sort.ahead w n) blk off (zs.mergeSort fun x y=>decide (x≤y)).toArray) os:=Any.slices_Sort_int Tryz.lays189 blk off cap zs w hH hblk hsz
def Tryz.lays146_ren:Go.Shelf.Ren:=⟨fun | 146=>74 | 221=>109 | 268=>146 | 138=>147 | 143=>148 | 195=>172 | 197=>173 | 218=>174 | 219=>175 | 260=>201 | 217=>202 | 225=>203 | 224=>204 | 267=>205 | 266=>219 | 314=>220 | n=>n,fun | 9=>9 | 31=>108 | 3=>3 | 4=>4 | 0=>0 | 105=>231 | 21=>21 | 5=>5 | 46=>135 | 119=>274 | 139=>277 | 138=>276 | 146=>235 | 51=>234 | n=>n,fun | 1=>1 | 3=>4 | 4=>5 | n=>n⟩
theorem Tryz.lays146:Go.Proofs.Lays.n146 Tryz.prog Tryz.lays146_ren:={
 mixed:=by kernel_rfl
 f138:=Tryz.func147.trans (congrArg some (by kernel_rfl))
 f143:=Tryz.func148.trans (congrArg some (by kernel_rfl))
 f146:=Tryz.func74.trans (congrArg some (by kernel_rfl))
 f195:=Tryz.func172.trans (congrArg some (by kernel_rfl))
 f197:=Tryz.func173.trans (congrArg some (by kernel_rfl))
 f217:=Tryz.func202.trans (congrArg some (by kernel_rfl))
 f218:=Tryz.func174.trans (congrArg some (by kernel_rfl))
 f219:=Tryz.func175.trans (congrArg some (by kernel_rfl))
 f221:=Tryz.func109.trans (congrArg some (by kernel_rfl))
 f224:=Tryz.func204.trans (congrArg some (by kernel_rfl))
 f225:=Tryz.func203.trans (congrArg some (by kernel_rfl))
 f260:=Tryz.func201.trans (congrArg some (by kernel_rfl))
 f266:=Tryz.func219.trans (congrArg some (by kernel_rfl))
 f267:=Tryz.func205.trans (congrArg some (by kernel_rfl))
 f268:=Tryz.func146.trans (congrArg some (by kernel_rfl))
 f314:=Tryz.func220.trans (congrArg some (by kernel_rfl))
 t0:=Tryz.underlying0
 a0:=Tryz.isAgg0
 z0:=Tryz.sizeOf0
 v0:=Tryz.zeroValue0
 t3:=Tryz.underlying3
 a3:=Tryz.isAgg3
 z3:=Tryz.sizeOf3
 v3:=Tryz.zeroValue3
 t4:=Tryz.underlying4
 a4:=Tryz.isAgg4
 z4:=Tryz.sizeOf4
 v4:=Tryz.zeroValue4
 t5:=Tryz.underlying5
 a5:=Tryz.isAgg5
 z5:=Tryz.sizeOf5
 v5:=Tryz.zeroValue5
 t9:=Tryz.underlying9
 a9:=Tryz.isAgg9
 z9:=Tryz.sizeOf9
 v9:=Tryz.zeroValue9
 t21:=Tryz.underlying21
 a21:=Tryz.isAgg21
 z21:=Tryz.sizeOf21
 v21:=Tryz.zeroValue21
 t31:=Tryz.underlying108
 a31:=Tryz.isAgg108
 z31:=Tryz.sizeOf108
 v31:=Tryz.zeroValue108
 t46:=Tryz.underlying135
 a46:=Tryz.isAgg135
 z46:=Tryz.sizeOf135
 v46:=Tryz.zeroValue135
 t51:=Tryz.underlying234
 a51:=Tryz.isAgg234
 z51:=Tryz.sizeOf234
 v51:=Tryz.zeroValue234
 t105:=Tryz.underlying231
 a105:=Tryz.isAgg231
 z105:=Tryz.sizeOf231
 v105:=Tryz.zeroValue231
 t119:=Tryz.underlying274
 a119:=Tryz.isAgg274
 z119:=Tryz.sizeOf274
 t138:=Tryz.underlying276
 a138:=Tryz.isAgg276
 z138:=Tryz.sizeOf276
 v138:=Tryz.zeroValue276
 t139:=Tryz.underlying277
 a139:=Tryz.isAgg277
 z139:=Tryz.sizeOf277
 v139:=Tryz.zeroValue277
 t146:=Tryz.underlying235
 a146:=Tryz.isAgg235
 z146:=Tryz.sizeOf235
 v146:=Tryz.zeroValue235
 g1:=by kernel_rfl
 g3:=by kernel_rfl
 g4:=by kernel_rfl }
open Go.RowKit Go.Lib in
theorem Tryz.strings_Split (s sep:BA) (m:Int) (w:World) (hs:s.size < 4294967281) (hm:w.cell? ⟨1,0,none⟩=some (.int .i64 m)) (h1:1≤sep.size) :
 Calls Tryz.prog 74 #[.string s,.string sep] w fun e w'=>
  e = .returned (.slice (some ⟨w.heap.size,0,none⟩) (Lib.countB s sep+1) (Lib.countB s sep+1))∧w'=w.alloc (.cells ((Lib.splitB sep 0 (Lib.countB s sep) s).map Value.string).toArray 9):=Any.strings_Split Tryz.lays146 (by kernel_rfl) s sep m w hs hm h1
def Tryz.lays105_ren:Go.Shelf.Ren:=⟨fun | 105=>91 | 212=>128 | 99=>129 | 165=>122 | 166=>48 | 170=>130 | 169=>52 | 263=>166 | 264=>167 | 206=>168 | 240=>81 | 241=>162 | 276=>113 | 277=>188 | n=>n,fun | 9=>9 | 3=>3 | 4=>4 | 20=>20 | 0=>0 | 46=>135 | 109=>198 | 5=>5 | 72=>107 | 76=>112 | 51=>234 | 146=>235 | 53=>84 | 148=>237 | 70=>104 | 37=>105 | 75=>111 | 127=>160 | 164=>182 | 80=>117 | n=>n,fun | n=>n⟩
theorem Tryz.lays105:Go.Proofs.Lays.n105 Tryz.prog Tryz.lays105_ren:= by constructor <;> first | kernel_rfl | (intro _; kernel_rfl)
theorem Tryz.Builder_Extra_105:Builder.Extra Tryz.prog Tryz.lays105_ren:={
 sizeBuilder:=by kernel_rfl
 liesBuilder:=by kernel_rfl
 t5:=Tryz.underlying5
 a5:=Tryz.isAgg5
 z5:=Tryz.sizeOf5
 v5:=Tryz.zeroValue5
 infoByte:=by kernel_rfl
 cellsByte:=by kernel_rfl
 sizeByte:=by kernel_rfl
 neB5:=by decide }
open Go.RowKit Go.Lib in
theorem Tryz.strings_Repeat (s:BA) (c:Nat) (w:World) (hc:c≤9223372036854775807) (hlen:s.size*c≤140737488355328) :
 Calls Tryz.prog 91 #[.string s,.int .i64 c] w fun e w'=>e = .returned (.string ⟨(Lib.repeatL s.data.toList c).toArray⟩)∧Below w.heap.size w w':=Any.strings_Repeat Tryz.lays105 Tryz.Builder_Extra_105 s c w hc hlen
def Tryz.laysNm220_ren:Go.Shelf.Ren:=⟨fun | 20=>138 | n=>n,fun | 22=>22 | 3=>3 | 4=>4 | 0=>0 | n=>n,fun | n=>n⟩
theorem Tryz.laysNm220:Go.Proofs.Lays2.n20 Tryz.prog Tryz.laysNm220_ren:={
 mixed:=by kernel_rfl
 f20:=Tryz.func138.trans (congrArg some (by kernel_rfl))
 t0:=Tryz.underlying0
 a0:=Tryz.isAgg0
 z0:=Tryz.sizeOf0
 v0:=Tryz.zeroValue0
 t3:=Tryz.underlying3
 a3:=Tryz.isAgg3
 z3:=Tryz.sizeOf3
 v3:=Tryz.zeroValue3
 t4:=Tryz.underlying4
 a4:=Tryz.isAgg4
 z4:=Tryz.sizeOf4
 v4:=Tryz.zeroValue4
 t22:=Tryz.underlying22
 a22:=Tryz.isAgg22
 z22:=Tryz.sizeOf22
 v22:=Tryz.zeroValue22
 i3:=by kernel_rfl }
open Go.RowKit Go.Lib Go.Sort in
theorem Tryz.slices_Compact_int (blk off cap:Nat) (zs:List Int) (w:World) (hH:Holds (Value.int .i64) w blk off zs.toArray) (hsz:zs.length≤9223372036854775807) (hcap:zs.length≤cap) :
 Calls Tryz.prog 138 #[.slice (some ⟨blk,off,none⟩) zs.length cap] w fun e w'=>e = .returned (.slice (some ⟨blk,off,none⟩) (Lib.compact zs).length cap)∧∃ q,w'=putRow (Value.int .i64) (Sort.ahead w q) blk off (Lib.compact zs++List.replicate (zs.length - (Lib.compact zs).length) 0).toArray:=Any.slices_Compact_int Tryz.laysNm220 blk off cap zs w hH hsz hcap
open Go.RowKit Go.Lib Go.Sort in
theorem Tryz.slices_Compact_int_empty (a:Option Addr) (cap:Nat) (w:World) :
 Calls Tryz.prog 138 #[.slice a 0 cap] w fun e w'=>e = .returned (.slice a 0 cap)∧w'=w:=Any.slices_Compact_int_empty Tryz.laysNm220 a cap w
open Go.RowKit Go.Sort in
theorem Tryz.slices_Sort_int_none (p:Option Addr) (cap:Nat) (w:World) :
 Calls Tryz.prog 137 #[.slice p 0 cap] w fun e w'=>e = .returned (.tuple #[])∧w'=w:=Any.slices_Sort_int_none Tryz.lays189 p cap w
def Tryz.laysSlH6_f136_ren:Go.Shelf.Ren:=⟨fun | 6=>136 | n=>n,fun | 22=>22 | 23=>3 | 25=>171 | 3=>3 | 0=>0 | 4=>4 | n=>n,fun | n=>n⟩
theorem Tryz.laysSlH6_f136:Go.Proofs.SlLaysH.n6 Tryz.prog Tryz.laysSlH6_f136_ren:={
 mixed:=by kernel_rfl
 f6:=⟨Tryz.f136.name,by decide,Tryz.func136.trans (congrArg some (by kernel_rfl))⟩
 t0:=Tryz.underlying0
 a0:=Tryz.isAgg0
 z0:=Tryz.sizeOf0
 v0:=Tryz.zeroValue0
 t3:=Tryz.underlying3
 a3:=Tryz.isAgg3
 z3:=Tryz.sizeOf3
 v3:=Tryz.zeroValue3
 t4:=Tryz.underlying4
 a4:=Tryz.isAgg4
 z4:=Tryz.sizeOf4
 v4:=Tryz.zeroValue4
 t22:=Tryz.underlying22
 a22:=Tryz.isAgg22
 z22:=Tryz.sizeOf22
 v22:=Tryz.zeroValue22
 a23:=Tryz.isAgg3
 z23:=Tryz.sizeOf3
 t25:=Tryz.underlying171
 a25:=Tryz.isAgg171
 z25:=Tryz.sizeOf171
 v25:=Tryz.zeroValue171 }
open Go.RowKit Go.Lib in
theorem Tryz.slices_IndexFunc_empty {α:Type} [Inhabited α] (a:Option Addr) (c:Nat) (fv:Value) (w:World) :
 Calls Tryz.prog 136 #[.slice a 0 c,fv] w fun e w'=>e = .returned (.int .i64 (-1))∧w'=w:=AnyE.slices_IndexFunc_empty Tryz.laysSlH6_f136 a c fv w
def Tryz.laysSlH10_f97_ren:Go.Shelf.Ren:=⟨fun | 10=>97 | 6=>136 | n=>n,fun | 22=>22 | 23=>3 | 25=>171 | 3=>3 | 4=>4 | 0=>0 | n=>n,fun | n=>n⟩
theorem Tryz.laysSlH10_f97:Go.Proofs.SlLaysH.n10 Tryz.prog Tryz.laysSlH10_f97_ren:={
 mixed:=by kernel_rfl
 f6:=⟨Tryz.f136.name,by decide,Tryz.func136.trans (congrArg some (by kernel_rfl))⟩
 f10:=⟨Tryz.f97.name,by decide,Tryz.func97.trans (congrArg some (by kernel_rfl))⟩
 t0:=Tryz.underlying0
 a0:=Tryz.isAgg0
 z0:=Tryz.sizeOf0
 v0:=Tryz.zeroValue0
 t3:=Tryz.underlying3
 a3:=Tryz.isAgg3
 z3:=Tryz.sizeOf3
 v3:=Tryz.zeroValue3
 t4:=Tryz.underlying4
 a4:=Tryz.isAgg4
 z4:=Tryz.sizeOf4
 v4:=Tryz.zeroValue4
 t22:=Tryz.underlying22
 a22:=Tryz.isAgg22
 z22:=Tryz.sizeOf22
 v22:=Tryz.zeroValue22
 a23:=Tryz.isAgg3
 z23:=Tryz.sizeOf3
 t25:=Tryz.underlying171
 a25:=Tryz.isAgg171
 z25:=Tryz.sizeOf171
 v25:=Tryz.zeroValue171 }
open Go.RowKit Go.Lib Go.Sort in
theorem Tryz.slices_DeleteFunc {α:Type} [Inhabited α] (enc:α→Value) (hO:OneCell enc) (p:α→Bool) (g:Nat) (lb:Array Value) (eg:∀ args w,(callFunc g args).run Tryz.prog w = .ok (.enter g args) w) (zr:α) (v23:∀ w,(zeroValue 3).run Tryz.prog w = .ok (enc zr) w) (blk off cap:Nat) (d:Array α) (w:World) (hp:PredAt Tryz.prog g lb enc p w) (hpo:PredOver Tryz.prog g lb enc p blk off d.size w) (hH:Holds enc w blk off d) (hsz:d.size≤9223372036854775807) (hcap:d.size≤cap) :
 Calls Tryz.prog 97 #[.slice (some ⟨blk,off,none⟩) d.size cap,.func (.func g) #[] lb] w fun e w'=>e = .returned (.slice (some ⟨blk,off,none⟩) (d.toList.filter fun x=>!p x).length cap)∧∃ q,w'=putRow enc (Sort.ahead w q) blk off ((d.toList.filter fun x=>!p x)++List.replicate (d.size - (d.toList.filter fun x=>!p x).length) zr).toArray:=AnyE.slices_DeleteFunc Tryz.laysSlH10_f97 enc hO p g lb eg zr v23 blk off cap d w hp hpo hH hsz hcap
end Go.Proofs
namespace Go.FM
open Go Go.Proofs Go.RowKit Go.Sort Go.Lib
set_option maxHeartbeats 12800000 in
theorem Ul (u:Nat) (hu64:u < 18446744073709551616) (w:World) (htab:Lib.TabIs Tryz.prog w "internal/strconv.uint64pow10" .u64 Lib.pow10Tab) :
  Calls Tryz.prog 123 #[.int .u64 u,.int .i64 10] w fun e w'=>e = .returned (.string ⟨(Lib.decDigits u).toArray⟩)∧∃ k os,w'=grow (w.drewN k) os:=by
 by_cases hs:u < 100
 ·have hwr:IntKind.i64.wrap (u:Int)=(u:Int):=by rw [IntKind.wrap_i64]; omega
  have iu:(u:Int) < 100:=by omega
  go_enter Tryz.func123,Tryz.ntmps123
  go_wp2_with (go_at_call 154; refine (Tryz.internal_strconv_small u hs _).mono ?_; rintro e w' ⟨rfl,rfl⟩)
  go_ret
  exact ⟨rfl,0,#[],by simp [World.drewN_zero]⟩
 ·have hu1:1≤u:=by omega
  have hnd20:Lib.nDigits u≤20:=by have:=Lib.numDigits_eq u hu1 hu64; split at this <;> omega
  have hal:Tryz.prog.arrayLen 222=24:=by simp [Program.arrayLen,Tryz.underlying222]
  have hsl:∀ W,(Instr.sliceAt 222 (.pointer (some ⟨w.heap.size,0,none⟩)) none (some (.int .i64 (Lib.nDigits u:Int))) none).run Tryz.prog W = .ok (.slice (some ⟨w.heap.size,0,none⟩) (Lib.nDigits u) 24) W:=fun W=>by
   rw [run_sliceAt_array_h W 222 ⟨w.heap.size,0,none⟩ (by simp [Program.arrayLen,Program.elem,Tryz.underlying222]) .i64 (Lib.nDigits u:Int) (by omega) (by rw [hal]; omega)]
   go_simp
  have hH0:=Lib.holds_zero0 w 222 (Lib.nDigits u) (by omega);have hfmt:=Tryz.internal_strconv_formatBase10 w.heap.size 0 24 u (Array.replicate (Lib.nDigits u) 0) (w.alloc (.cells Lib.zeros24 222)) hH0 (by rw [Array.size_replicate]; exact Lib.lt_pow_nDigits u) hu64 (by rw [Array.size_replicate]; omega);rw [Array.size_replicate] at hfmt;have HH0:=Lib.hid hH0;have iu:¬ (u:Int) < 100:=by omega
  clear hH0 hal hs
  go_enter Tryz.func123,Tryz.ntmps123
  go_wp2_with (first
   | (go_at_call 155; refine (Tryz.internal_strconv_numDigits u hu1 hu64 _ (Lib.tabIs_alloc htab _)).mono ?_; rintro e w' ⟨rfl,rfl⟩))
  go_at_call 156
  refine hfmt.mono ?_;rintro e w' ⟨rfl,k,v',dk,rfl,hF⟩;have hcv:(convert 105 9 (.slice (some ⟨w.heap.size,0,none⟩) (Lib.nDigits u) 24)).run Tryz.prog ((putRow (fun (b:UInt8)=>Value.int .u8 (b.toNat:Int)) (w.alloc (.cells Lib.zeros24 222)) w.heap.size 0 dk).drewN k) = .ok (.string ⟨(Lib.decDigits u).toArray⟩) ((putRow (fun (b:UInt8)=>Value.int .u8 (b.toNat:Int)) (w.alloc (.cells Lib.zeros24 222)) w.heap.size 0 dk).drewN k):=by
   have h:=run_convert_bytes_back (P:=Tryz.prog) ((putRow (fun (b:UInt8)=>Value.int .u8 (b.toNat:Int)) (w.alloc (.cells Lib.zeros24 222)) w.heap.size 0 dk).drewN k) 105 9 5 ⟨w.heap.size,0,none⟩ 24 (Lib.decDigits u) Tryz.underlying105 Tryz.underlying5 Tryz.underlying9 (fun j hj=>by
    rw [Lib.row_is_numeral hF j hj,Lib.add_plain,World.cell?_drewN];exact cell?_putRow (fun (b:UInt8)=>Value.int .u8 (b.toNat:Int)) _ w.heap.size 0 _ dk HH0.out (by rw [hF.size,Array.size_replicate]) j (by rw [hF.size]; rw [Lib.decDigits_length] at hj; exact hj))
   rw [Lib.decDigits_length] at h;exact h
  go_wp2
  go_ret
  obtain ⟨os,eo⟩:=Lib.fin_at w (.cells Lib.zeros24 222) dk k 0;exact ⟨rfl,k,os,eo⟩
set_option maxHeartbeats 1600000 in
theorem Uk (u:Nat) (hu64:u < 18446744073709551616) (w:World) (htab:Lib.TabIs Tryz.prog w "internal/strconv.uint64pow10" .u64 Lib.pow10Tab) :
  Calls Tryz.prog 88 #[.int .u64 u,.int .i64 10] w fun e w'=>e = .returned (.string ⟨(Lib.decDigits u).toArray⟩)∧∃ k os,w'=grow (w.drewN k) os:=by
 go_enter Tryz.func88,Tryz.ntmps88
 go_wp2_with (go_at_call 123; refine (Ul u hu64 _ htab).mono ?_; rintro e w' ⟨rfl,hw⟩)
 go_ret
 exact ⟨rfl,hw⟩
theorem zfM:(PR.info? 9).map (fun i=>(i.zero,i.size,i.bytes))=some (some (.string .empty),1,16):=by kernel_rfl
set_option maxHeartbeats 4000000 in
theorem Qc (b:Addr) (n c:Nat) (news:List Value) (w:World) (hl:news.length=n) (hn:n≤maxLen) (hbig:n*16≤140737488355328)
  (hc:∀ j u,news[j]?=some u→w.cell? (b.add j)=some u) (h1:∀ u∈news,u.oneCell'=true) :
  Calls Tryz.prog 158 #[.slice (some b) n c] w fun e w'=>∃ v',e = .returned v'∧w'.ownsRow w.heap.size 9 1 v' n news∧Below w.heap.size w w':=by
 obtain ⟨i0,hi,hz0,hz1,hz2⟩:=info_parts zfM;have qS:∀ (w:World) (a:Option Addr) (n c n' c':Nat),(binOp .eql 108 (.slice a n c) (.slice none n' c')).run Tryz.prog w = .ok (.bool a.isNone) w:=fun w a n c n' c'=>Lib.run_eql_slice_nil w _ _ a n c n' c' Tryz.underlying108
 have A:Aside (∀ j u,news[j]?=some u→w.cell? (b.add j)=some u):=hc;clear hc
 go_enter Tryz.func158,Tryz.ntmps158
 go_wp2_with (at_builtin; refine wpList_append_own _ rfl _ _ 108 rfl w.heap.size 9 i0 (.string .empty) 1 16 Tryz.underlying108 hi hz0 hz1 hz2 rfl (by decide) _ _ _ rfl (World.ownsRow_made w #[] 0 (Nat.le_refl _) (Nat.zero_le _) (by simp)) b n c news rfl ?qc1 ?qc2 ?qc3 ?qc4 ?qc5 ?qc6 ?_)
 case qc1=>rw [Nat.mul_one]; exact hl
 case qc2=>
  intro j u hj;exact Lib.cell?_alloc_some _ (A.out j u hj)
 case qc3=>exact h1
 case qc4=>rw [Nat.zero_add]; exact hn
 case qc5=>rw [Nat.zero_add]; exact hbig
 case qc6=>simp
 intro v' w1 hown hgrow hnil
 go_wp2
 go_ret
 refine ⟨v',rfl,by simpa using hown,?_⟩;exact ((Below.refl _ w).alloc (Nat.le_refl _) _).grown hgrow (by simp) (by intro k hk; simp [Value.ownBlock] at hk; omega)
set_option maxHeartbeats 1000000 in
theorem Pz (n c:Nat) (w:World):Calls Tryz.prog 158 #[.slice none n c] w fun e w'=>e = .returned (.slice none 0 0)∧w'=w:=by
 have qS:∀ (w:World) (a:Option Addr) (n c n' c':Nat),(binOp .eql 108 (.slice a n c) (.slice none n' c')).run Tryz.prog w = .ok (.bool a.isNone) w:=fun w a n c n' c'=>Lib.run_eql_slice_nil w _ _ a n c n' c' Tryz.underlying108
 go_enter Tryz.func158,Tryz.ntmps158
 go_wp2
 go_ret
 exact ⟨rfl,rfl⟩
open Go Go.RowKit
def eV:DK
 | [.list false [.str] l]=>.br (decide (l.length≤4294967296)) (.ok (.vec 9 false [.str] l) []) .no
 | _=>.no
def aV:DK
 | [.list false [.str] l,.str s]=>.ok (.int .i64 (FT l s 0)) []
 | _=>.no
open Go Go.Proofs Go.RowKit
structure GF (h:Nat→Option Obj):Prop where
 unit:True
 gm:∃ c T fr m,h 1=some (.cells c T fr)∧c[0]?=some (.int .i64 m)
 gp:∃ T fr,h 0=some (.cells (Lib.pow10Tab.map fun z=>Value.int .u64 z).toArray T fr)
 gs:∃ c T fr te pe,h 2=some (.cells c T fr)∧c[0]?=some (.iface te pe)
 gr:∃ c T fr te pe,h 3=some (.cells c T fr)∧c[0]?=some (.iface te pe)
def B0:BT:={ T:=107,e:=5,ng:=4,F:=GF }
theorem gR {w:World} {h:Nat→Option Obj} (hh:h=fun b=>if b < B0.ng then w.heap[b]? else none) {g:Nat} (hg:g < 4) {o:Obj} (ho:h g=some o):w.heap[g]?=some o:=by
 rw [hh] at ho;simp only at ho;rw [BJ (show g < B0.ng from hg)] at ho;exact ho
theorem yK {w:World} (h:Glob B0 w):∃ m,w.cell? ⟨1,0,none⟩=some (.int .i64 m):=by
 obtain ⟨c,T,fr,m,h1,h2⟩:=h.2.gm;exact ⟨m,by simp only [vay,gR rfl (by decide) h1]; exact h2⟩
theorem yL {w:World} (h:Glob B0 w):Lib.TabIs Tryz.prog w "internal/strconv.uint64pow10" .u64 Lib.pow10Tab:=by
 obtain ⟨T,fr,h1⟩:=h.2.gp;have hn:Tryz.prog.globalNamed "internal/strconv.uint64pow10" = some 0:=by kernel_rfl
 unfold Lib.TabIs World.var?;rw [hn];simp only [Option.bind_some,gR rfl (by decide) h1]
theorem yN {w:World} (h:Glob B0 w):∃ ev,w.cell? ⟨2,0,none⟩=some ev∧(ev = .nilIface∨∃ te pe,ev = .iface te pe):=by
 obtain ⟨c,T,fr,te,pe,h1,h2⟩:=h.2.gs;exact ⟨_,by simp only [vay,gR rfl (by decide) h1]; exact h2,.inr ⟨te,pe,rfl⟩⟩
theorem yM {w:World} (h:Glob B0 w):∃ ev,w.cell? ⟨3,0,none⟩=some ev∧(ev = .nilIface∨∃ te pe,ev = .iface te pe):=by
 obtain ⟨c,T,fr,te,pe,h1,h2⟩:=h.2.gr;exact ⟨_,by simp only [vay,gR rfl (by decide) h1]; exact h2,.inr ⟨te,pe,rfl⟩⟩
theorem Keep.below {w w':World} (h:Below w.heap.size w w'):Keep (fun _=>False) w w':=⟨h.os,h.tape,h.output,h.size,fun b hb _=>h.block b hb⟩
theorem Keep.drewN {O:Nat→Prop} (w:World):∀ n,Keep O w (w.drewN n):=fun _=>⟨rfl,rfl,rfl,AT _,fun _ _ _=>rfl⟩
theorem Keep.grow (w:World) (os:Array Obj):Keep (fun _=>False) w (Go.Sort.grow w os):=⟨rfl,rfl,rfl,by simp [Go.Sort.grow],fun b hb _=>by simp [Go.Sort.grow,Array.getElem?_append_left hb]⟩
theorem qF:DO PR B0 48 RZ:=by
 intro w X γ vs xs r out hsp hg hx hR hV;unfold RZ at hsp;simp only at hsp;split at hsp
 ·rename_i s t;cases hc:decide (s.size+t.size≤strMax) with
  | false=>rw [hc] at hsp; simp [R.get] at hsp
  | true=>
   rw [hc] at hsp;simp only [R.get,AC,AS] at hsp;obtain ⟨rfl,rfl⟩:=hsp;have hle:s.size+t.size≤strMax:=AY hc;refine qA hR rfl rfl (fun γ' o w' O x h=>by
    simp only [VRel] at h ⊢;obtain ⟨cs,rfl,h⟩:=h;refine ⟨cs,rfl,?_⟩
    match cs,h with
    | ⟨[a,b]⟩,h=>simp only [VRels,VRel] at h ⊢; exact h) (fun b v p hgm hB=>?_)
   obtain ⟨x0,x1,rfl⟩:∃ x0 x1,xs=[x0,x1]:=by
    have:=hV.length
    simp at this
    match xs,this with
    | [a,b],_=>exact ⟨a,b,rfl⟩
   simp only [AZ,B6,D8,VRels] at hV;have h0:=lC hgm hV.1;have h1:=hV.2.1;simp only [VRel] at h1;obtain ⟨rfl,ht⟩:=h1;subst h0;refine Does.of_calls Tryz.func48 (by kernel_rfl) (by kernel_rfl) ((Pb b p v (C6 s) t w hB.self hB.heap (by rw [var]; exact hB.own) hB.ne (by rw [var]; unfold strMax at hle; omega)).mono ?_);rintro e w' ⟨rfl,v',q1,q2,q3,q4,q5⟩;refine ⟨_,rfl,⟨_,v',⟨.inr rfl,q1,?_,q3,?_⟩,q4,q5⟩,fun O=>?_⟩
   ·have e1:C6 (s++t)=C6 s++C6 t:=by simp [C6]
    have e2:(s++t).size=(C6 s++C6 t).length:=by simp [var]
    rw [e1,e2];exact q2
   ·simp only [BI]; exact hle
   ·simp only [VRel];refine ⟨_,rfl,?_⟩;simp only [VRels,VRel,ic,BY];refine ⟨trivial,?_,?_⟩
    ·have:AB.min = -9223372036854775808:=rfl
     omega
    ·have:AB.max=9223372036854775807:=rfl
     unfold strMax at hle;omega
 ·simp [R.get] at hsp
theorem Pe {c:Int} (h0:IntKind.u8.min≤c) (h1:c≤IntKind.u8.max):(Value.int .u8 ((MA c).toNat:Int)) = .int .u8 c:=by
 have e1:IntKind.u8.min=0:=rfl;have e2:IntKind.u8.max=255:=rfl
 have:((MA c).toNat:Int)=c:=by
  unfold MA;rw [UInt8.toNat_ofNat_of_lt' (by simp [UInt8.size]; omega)];omega
 rw [this]
theorem Gi:DO PR B0 87 WT:=by
 intro w X γ vs xs r out hsp hg hx hR hV;unfold WT at hsp;simp only at hsp;split at hsp
 ·rename_i s c;cases hc:decide (s.size+1≤strMax) with
  | false=>rw [hc] at hsp; simp [R.get] at hsp
  | true=>
   rw [hc] at hsp;simp only [R.get,AC,AS] at hsp;obtain ⟨rfl,rfl⟩:=hsp;have hle:s.size+1≤strMax:=AY hc;refine qA hR rfl rfl (fun γ' o w' O x h=>by simp only [VRel] at h ⊢; exact h) (fun b v p hgm hB=>?_);obtain ⟨x0,x1,rfl⟩:∃ x0 x1,xs=[x0,x1]:=by
    have:=hV.length
    simp at this
    match xs,this with
    | [a,b],_=>exact ⟨a,b,rfl⟩
   simp only [AZ,B6,D8,VRels] at hV;have h0:=lC hgm hV.1;have h1:=hV.2.1;simp only [VRel] at h1;obtain ⟨rfl,hc0,hc1⟩:=h1;subst h0;refine Does.of_calls Tryz.func87 (by kernel_rfl) (by kernel_rfl) ((Pa b p v (C6 s) c w hB.self hB.heap (by rw [var]; exact hB.own) hB.ne (by rw [var]; unfold strMax at hle; omega)).mono ?_);rintro e w' ⟨rfl,v',q1,q2,q3,q4,q5⟩;refine ⟨_,rfl,⟨_,v',⟨.inr rfl,q1,?_,q3,?_⟩,q4,q5⟩,fun O=>by simp only [VRel]⟩
   ·have e1:C6 (s.push (MA c))=C6 s++[.int .u8 c]:=by
     rw [← Pe hc0 hc1];simp [C6]
    have e2:(s.push (MA c)).size=(C6 s++[Value.int .u8 c]).length:=by simp [var]
    rw [e1,e2];exact q2
   ·simp only [vbj]; exact hle
 ·simp [R.get] at hsp
theorem qE:DO PR B0 52 RY:=by
 intro w X γ vs xs r out hsp hg hx hR hV;unfold RY at hsp;simp only at hsp;split at hsp
 ·rename_i s;simp only [R.get,AC,AS] at hsp;obtain ⟨rfl,rfl⟩:=hsp;refine qA hR rfl rfl (fun γ' o w' O x h=>by simp only [VRel] at h ⊢; exact h) (fun b v p hgm hB=>?_);obtain ⟨x0,rfl⟩:∃ x0,xs=[x0]:=by
   have:=hV.length
   simp at this
   match xs,this with
   | [a],_=>exact ⟨a,rfl⟩
  simp only [AZ,B6,D8,VRels] at hV;have h0:=lC hgm hV.1;subst h0;refine Does.of_calls Tryz.func52 (by kernel_rfl) (by kernel_rfl) ((Ov b p v s w hB.heap hB.own hB.ne).mono ?_);rintro e w' ⟨rfl,q1,q2,q3⟩;exact ⟨_,rfl,⟨p,v,⟨hB.self,q1,q2,hB.ne,hB.size⟩,q3,fun k hk=>.inl hk⟩,fun O=>by simp only [VRel]; exact ⟨trivial,hB.size⟩⟩
 ·simp [R.get] at hsp
theorem jM:DO PR B0 49 PE:=by
 intro w X γ vs xs r out hsp hg hx hR hV;unfold PE at hsp;simp only at hsp;split at hsp
 ·rename_i n;simp only [R.get,AC,AS] at hsp;obtain ⟨rfl,rfl⟩:=hsp;obtain ⟨x0,rfl⟩:∃ x0,xs=[x0]:=by
   have:=hV.length
   simp at this
   match xs,this with
   | [a],_=>exact ⟨a,rfl⟩
  simp only [AZ,B6,D8,VRels,VRel,BY] at hV;obtain ⟨rfl,h0,h1⟩:=hV;refine P9 hR rfl rfl (Does.of_calls Tryz.func49 (by kernel_rfl) (by kernel_rfl) ((Tryz.strconv_Itoa n h0 h1 w (yL hg)).mono ?_));rintro e w' ⟨rfl,k,os,rfl⟩;exact ⟨_,rfl,((Keep.drewN w k).trans (Keep.grow _ os) (fun _ _ h=>h)),fun O _=>by
   simp only [VRel];exact ⟨rfl,by have:=nB h0 h1; unfold strMax; omega⟩⟩
 ·simp [R.get] at hsp
theorem Gh:DO PR B0 111 WS:=by
 intro w X γ vs xs r out hsp hg hx hR hV;unfold WS at hsp;simp only at hsp;split at hsp
 ·rename_i s;simp only [R.get,AC,AS] at hsp;obtain ⟨rfl,rfl⟩:=hsp;obtain ⟨x0,rfl⟩:∃ x0,xs=[x0]:=by
   have:=hV.length
   simp at this
   match xs,this with
   | [a],_=>exact ⟨a,rfl⟩
  simp only [AZ,B6,D8,VRels,VRel,BY] at hV;obtain ⟨rfl,hs⟩:=hV;unfold strMax at hs;have hb:=Oi s;refine P9 hR rfl rfl (Does.of_calls Tryz.func111 (by kernel_rfl) (by kernel_rfl) ?_);cases ha:Lib.atoiAll s.data.toList
  ·rename_i v;refine (Tryz.strconv_Atoi_ok s (by omega) v ha w).mono ?_;rintro e w' ⟨rfl,hw⟩;have e1:FV s=v:=by unfold FV; rw [ha]
   have e2:OF s=true:=by unfold OF; rw [ha]
   rw [e1] at hb ⊢;rw [e2];refine ⟨_,rfl,?_,fun O _=>?_⟩
   ·rcases hw with rfl | ⟨t,rfl⟩
    ·exact Keep.refl _ _
    ·unfold vaJ;have h1:=Keep.alloc (fun _=>False) w.drew (.cells (Lib.bytesCells w 5 t) 5);refine ((Keep.drew (fun _=>False) w).trans h1 (fun _ _ h=>h)).trans (Keep.freeze (O:=fun k=>k=w.heap.size) _ ⟨w.heap.size,_,none⟩ 1 rfl) (fun b hb h=>?_);subst h;exact absurd hb (Nat.lt_irrefl _)
   ·simp only [VRel];exact ⟨_,rfl,by simp only [VRels,VRel,BY,vba]; exact hb⟩
  ·skip
   obtain ⟨ev,h1,h2⟩:=yN hg;refine (Tryz.strconv_Atoi_syntax s (by omega) ha ev w h1 h2).mono ?_;rintro e w' ⟨N,rfl,_,_,hw⟩;have e1:FV s=0:=by unfold FV; rw [ha]
   have e2:OF s=false:=by unfold OF; rw [ha]
   rw [e1] at hb ⊢;rw [e2];refine ⟨_,rfl,Keep.below hw,fun O _=>?_⟩;simp only [VRel];exact ⟨_,rfl,by simp only [VRels,VRel,BY]; exact ⟨⟨trivial,hb⟩,_,_,rfl⟩⟩
  ·skip
   obtain ⟨ev,h1,h2⟩:=yM hg;refine (Tryz.strconv_Atoi_range s (by omega) ha ev w h1 h2).mono ?_;rintro e w' ⟨N,rfl,_,_,hw⟩;have e1:FV s=Lib.atoiSat s.data.toList:=by unfold FV; rw [ha]
   have e2:OF s=false:=by unfold OF; rw [ha]
   rw [e1] at hb ⊢;rw [e2];refine ⟨_,rfl,Keep.below hw,fun O _=>?_⟩;simp only [VRel];exact ⟨_,rfl,by simp only [VRels,VRel,BY]; exact ⟨⟨trivial,hb⟩,_,_,rfl⟩⟩
 ·simp [R.get] at hsp
theorem zfo:DO PR B0 88 eZ:=by
 intro w X γ vs xs r out hsp hg hx hR hV;unfold eZ at hsp;simp only at hsp;split at hsp
 ·rename_i n b;cases hc:decide (b=10) with
  | false=>rw [hc] at hsp; simp [R.get] at hsp
  | true=>
   rw [hc] at hsp;have hb:=AY hc;subst hb;simp only [R.get,AC,AS] at hsp;obtain ⟨rfl,rfl⟩:=hsp;obtain ⟨x0,x1,rfl⟩:∃ x0 x1,xs=[x0,x1]:=by
    have:=hV.length
    simp at this
    match xs,this with
    | [a,b],_=>exact ⟨a,b,rfl⟩
   simp only [AZ,B6,D8,VRels,VRel,BY] at hV;obtain ⟨⟨rfl,h0,h1⟩,rfl,_⟩:=hV;have e0:AJ.min=0:=rfl;have e1:AJ.max=18446744073709551615:=rfl;rw [e0] at h0;rw [e1] at h1;obtain ⟨u,rfl⟩:∃ u:Nat,n=u:=⟨n.toNat,by omega⟩;refine P9 hR rfl rfl (Does.of_calls Tryz.func88 (by kernel_rfl) (by kernel_rfl) ((Uk u (by omega) w (yL hg)).mono ?_));rintro e w' ⟨rfl,k,os,rfl⟩;refine ⟨_,rfl,((Keep.drewN w k).trans (Keep.grow _ os) (fun _ _ h=>h)),fun O _=>?_⟩;simp only [VRel];have hz:=oK h0 h1;exact ⟨by simp [EW],by unfold strMax; omega⟩
 ·simp [R.get] at hsp
theorem zfp:DO PR B0 182 e9:=by
 intro w X γ vs xs r out hsp hg hx hR hV;unfold e9 at hsp;simp only at hsp;split at hsp
 ·rename_i s b c;cases hc:(decide (b=10)&&decide (c=64)) with
  | false=>rw [hc] at hsp; simp [R.get] at hsp
  | true=>
   rw [hc] at hsp;simp only [AG,AP] at hc;obtain ⟨rfl,rfl⟩:=hc;simp only [R.get,AC,AS] at hsp;obtain ⟨rfl,rfl⟩:=hsp;obtain ⟨x0,x1,x2,rfl⟩:∃ x0 x1 x2,xs=[x0,x1,x2]:=by
    have:=hV.length
    simp at this
    match xs,this with
    | [a,b,c],_=>exact ⟨a,b,c,rfl⟩
   simp only [AZ,B6,D8,VRels,VRel,BY] at hV;obtain ⟨⟨rfl,hs⟩,⟨rfl,_⟩,rfl,_⟩:=hV;unfold strMax at hs;have hb:=pC s;refine P9 hR rfl rfl (Does.of_calls Tryz.func182 (by kernel_rfl) (by kernel_rfl) ?_);cases ha:Lib.parseMag s.data.toList
   ·rename_i v;refine (Tryz.strconv_ParseUint_10_at64_ok s (by omega) v (by rw [vbE]; exact ha) w).mono ?_;rintro e w' ⟨rfl,hw⟩;have e1:GD s=v:=by unfold GD; rw [ha]
    have e2:JD s=true:=by unfold JD; rw [ha]
    rw [e1] at hb ⊢;rw [e2];refine ⟨_,rfl,?_,fun O _=>?_⟩
    ·rcases hw with rfl | rfl
     ·exact Keep.refl _ _
     ·unfold vaJ;have h1:=Keep.alloc (fun _=>False) w.drew (.cells (Lib.bytesCells w 5 s) 5);refine ((Keep.drew (fun _=>False) w).trans h1 (fun _ _ h=>h)).trans (Keep.freeze (O:=fun k=>k=w.heap.size) _ ⟨w.heap.size,_,none⟩ 1 rfl) (fun b hb h=>?_);subst h;exact absurd hb (Nat.lt_irrefl _)
    ·simp only [VRel];exact ⟨_,rfl,by simp only [VRels,VRel,BY,vba]; exact hb⟩
   ·skip
    obtain ⟨ev,h1,h2⟩:=yN hg;refine (Tryz.strconv_ParseUint_10_at64_syntax s (by omega) (by rw [vbE]; exact ha) ev w h1 h2).mono ?_;rintro e w' ⟨N,rfl,_,_,hw⟩;have e1:GD s=0:=by unfold GD; rw [ha]
    have e2:JD s=false:=by unfold JD; rw [ha]
    rw [e1] at hb ⊢;rw [e2];refine ⟨_,rfl,Keep.below hw,fun O _=>?_⟩;simp only [VRel];exact ⟨_,rfl,by simp only [VRels,VRel,BY]; exact ⟨⟨trivial,hb⟩,_,_,rfl⟩⟩
   ·skip
    obtain ⟨ev,h1,h2⟩:=yM hg;refine (Tryz.strconv_ParseUint_10_at64_range s (by omega) (by rw [vbE]; exact ha) ev w h1 h2).mono ?_;rintro e w' ⟨N,rfl,_,_,hw⟩;have e1:GD s=18446744073709551615:=by unfold GD; rw [ha]
    have e2:JD s=false:=by unfold JD; rw [ha]
    rw [e1] at hb ⊢;rw [e2];refine ⟨_,rfl,Keep.below hw,fun O _=>?_⟩;simp only [VRel];exact ⟨_,rfl,by simp only [VRels,VRel,BY]; exact ⟨⟨trivial,hb⟩,_,_,rfl⟩⟩
 ·simp [R.get] at hsp
theorem zfr:DO PR B0 90 fB:=by
 intro w X γ vs xs r out hsp hg hx hR hV;unfold fB at hsp;simp only at hsp;split at hsp
 ·rename_i s cs;cases hc:(decide (cs.size=1)&&decide ((cs.data.toList.headD 0).toNat < 128)) with
  | false=>rw [hc] at hsp; simp [R.get] at hsp
  | true=>
   rw [hc] at hsp;simp only [AG,AP] at hc;simp only [R.get,AC,AS] at hsp;obtain ⟨rfl,rfl⟩:=hsp;obtain ⟨c,rfl⟩:∃ c,cs=⟨#[c]⟩:=by
    obtain ⟨⟨l⟩⟩:=cs;have h1:l.length=1:=hc.1
    match l,h1 with
    | [c],_=>exact ⟨c,rfl⟩
   obtain ⟨x0,x1,rfl⟩:∃ x0 x1,xs=[x0,x1]:=by
    have:=hV.length
    simp at this
    match xs,this with
    | [a,b],_=>exact ⟨a,b,rfl⟩
   simp only [AZ,B6,D8,VRels,VRel,BY] at hV;obtain ⟨⟨rfl,hs⟩,rfl,_⟩:=hV;have hz:=Jq s ⟨#[c]⟩;unfold strMax at hs;refine P9 hR rfl rfl (Does.of_calls Tryz.func90 (by kernel_rfl) (by kernel_rfl) ((Tryz.strings_TrimRight_one s c hc.2 w (by omega)).mono ?_));rintro e w' ⟨rfl,rfl⟩;refine ⟨_,rfl,Keep.refl _ _,fun O _=>?_⟩;simp only [VRel];exact ⟨rfl,by unfold strMax; omega⟩
 ·simp [R.get] at hsp
theorem Gl:DO PR B0 91 WW:=by
 intro w X γ vs xs r out hsp hg hx hR hV;unfold WW at hsp;simp only at hsp;split at hsp
 ·rename_i s n;cases hc:(decide (0≤n)&&decide (s.size*n.toNat≤strMax)) with
  | false=>rw [hc] at hsp; simp [R.get] at hsp
  | true=>
   rw [hc] at hsp;simp only [AG,AP] at hc;simp only [R.get,AC,AS] at hsp;obtain ⟨rfl,rfl⟩:=hsp;obtain ⟨x0,x1,rfl⟩:∃ x0 x1,xs=[x0,x1]:=by
    have:=hV.length
    simp at this
    match xs,this with
    | [a,b],_=>exact ⟨a,b,rfl⟩
   simp only [AZ,B6,D8,VRels,VRel,BY] at hV;obtain ⟨⟨rfl,hs⟩,rfl,_,hn1⟩:=hV;have e1:AB.max=9223372036854775807:=rfl;rw [e1] at hn1;obtain ⟨c,rfl⟩:∃ c:Nat,n=c:=⟨n.toNat,by omega⟩;have hz:=pH s c;have hle:=hc.2;simp only [BC] at hle ⊢;unfold strMax at hle;refine P9 hR rfl rfl (Does.of_calls Tryz.func91 (by kernel_rfl) (by kernel_rfl) ((Tryz.strings_Repeat s c w (by omega) (by omega)).mono ?_));rintro e w' ⟨rfl,hw⟩;refine ⟨_,rfl,Keep.below hw,fun O _=>?_⟩;simp only [VRel];exact ⟨rfl,by rw [hz]; unfold strMax; omega⟩
 ·simp [R.get] at hsp
theorem zfq:DO PR B0 152 fA:=by
 intro w X γ vs xs r out hsp hg hx hR hV;unfold fA at hsp;simp only at hsp;split at hsp
 ·rename_i s p;simp only [R.get,AC,AS] at hsp;obtain ⟨rfl,rfl⟩:=hsp;obtain ⟨x0,x1,rfl⟩:∃ x0 x1,xs=[x0,x1]:=by
   have:=hV.length
   simp at this
   match xs,this with
   | [a,b],_=>exact ⟨a,b,rfl⟩
  simp only [AZ,B6,D8,VRels,VRel,BY] at hV;obtain ⟨⟨rfl,hs⟩,rfl,_⟩:=hV;have hz:=Jp s p;refine P9 hR rfl rfl (Does.of_calls Tryz.func152 (by kernel_rfl) (by kernel_rfl) ((Tryz.strings_CutPrefix s p w).mono ?_));rintro e w' ⟨rfl,rfl⟩;refine ⟨_,rfl,Keep.refl _ _,fun O _=>?_⟩;simp only [VRel];exact ⟨_,rfl,by simp only [VRels,VRel,BY]; exact ⟨⟨rfl,by omega⟩,rfl⟩⟩
 ·simp [R.get] at hsp
theorem Gj:DO PR B0 118 WU:=by
 intro w X γ vs xs r out hsp hg hx hR hV;unfold WU at hsp;simp only at hsp;split at hsp
 ·rename_i s sep;cases hc:decide (s.size < 4294967281) with
  | false=>rw [hc] at hsp; simp [R.get] at hsp
  | true=>
   rw [hc] at hsp;simp only [R.get,AC,AS] at hsp;obtain ⟨rfl,rfl⟩:=hsp;obtain ⟨x0,x1,rfl⟩:∃ x0 x1,xs=[x0,x1]:=by
    have:=hV.length
    simp at this
    match xs,this with
    | [a,b],_=>exact ⟨a,b,rfl⟩
   simp only [AZ,B6,D8,VRels,VRel,BY] at hV;obtain ⟨⟨rfl,hs⟩,rfl,hsep⟩:=hV;obtain ⟨m,hm⟩:=yK hg;refine P9 hR rfl rfl (Does.of_calls Tryz.func118 (by kernel_rfl) (by kernel_rfl) ((Tryz.strings_Cut s sep m w (AY hc) hm).mono ?_));rintro e w' ⟨rfl,n,rfl⟩;have hsz:=w8 s sep;refine ⟨_,rfl,Keep.drewN w n,fun O _=>?_⟩;simp only [VRel];exact ⟨_,rfl,by simp only [VRels,VRel,BY]; exact ⟨⟨rfl,by omega⟩,⟨rfl,by omega⟩,rfl⟩⟩
 ·simp [R.get] at hsp
theorem jN:DO PR B0 74 PF:=by
 intro w X γ vs xs r out hsp hg hx hR hV;unfold PF at hsp;simp only at hsp;split at hsp
 ·rename_i s sep;cases hc:(decide (s.size < 4294967281)&&decide (1≤sep.size)) with
  | false=>rw [hc] at hsp; simp [R.get] at hsp
  | true=>
   rw [hc] at hsp;simp only [AG,AP] at hc;simp only [R.get,AC,AS] at hsp;obtain ⟨rfl,rfl⟩:=hsp;obtain ⟨x0,x1,rfl⟩:∃ x0 x1,xs=[x0,x1]:=by
    have:=hV.length
    simp at this
    match xs,this with
    | [a,b],_=>exact ⟨a,b,rfl⟩
   simp only [AZ,B6,D8,VRels,VRel,BY] at hV;obtain ⟨⟨rfl,hs⟩,rfl,hsep⟩:=hV;obtain ⟨m,hm⟩:=yK hg;have hlen:=Lib.splitB_all sep hc.2 0 _ s rfl;have hcnt:=Lib.countB_le sep hc.2 s.size s (AT _);refine P9 hR rfl rfl (Does.of_calls Tryz.func74 (by kernel_rfl) (by kernel_rfl) ((Tryz.strings_Split s sep m w hc.1 hm hc.2).mono ?_));rintro e w' ⟨rfl,rfl⟩;refine ⟨_,rfl,Keep.alloc _ w _,fun O hO=>?_⟩;simp only [VRel]
   have:=zfN (w:=w) (w':=w.alloc (.cells ((D7 s sep).map Value.string).toArray 9)) hO (g:=w.heap.size) (AT _) (vaB w _) (l:=D7 s sep) (c:=Lib.countB s sep+1) (by unfold D7; omega) (by unfold maxLen; omega) (by unfold D7 strMax; omega) (fun p hp=>CE ((YH sep _ s).2 p hp) hs)
   unfold D7 at this ⊢;rw [hlen] at this;exact this
 ·simp [R.get] at hsp
theorem Iz {w:World} {O:Nat→Prop} {l:LI} {x:Value} (h:Kd.Rel w O (.list false [.str]) (.list l) x):∃ p c,x = .slice p l.length c∧l.length≤c∧c≤maxLen∧l.length≤strMax∧∀ j y,l[j]?=some y→∃ b o,p=some ⟨b,o,none⟩∧b < w.heap.size∧w.cell? ⟨b,o+j,none⟩=some (.string y.toStr)∧y.toStr.size≤strMax:=by
 simp only [Kd.Rel,IV.toList] at h;obtain ⟨p,c,rfl,hc,hm,hl,hi⟩:=h;refine ⟨p,c,rfl,hc,hm,hl,fun j y hy=>?_⟩;obtain ⟨b,o,rfl,_,hb,hr⟩:=hi j y hy;simp only [Kd.RelAll,AM,A6,BK,Nat.mul_one,CZ,BY] at hr;obtain ⟨u,hu,hs⟩:=hr;simp only [Kd.Rel,FL] at hs;obtain ⟨rfl,hs⟩:=hs;exact ⟨b,o,rfl,hb,hu,hs⟩
theorem Gk:DO PR B0 86 WV:=by
 intro w X γ vs xs r out hsp hg hx hR hV;unfold WV at hsp;simp only at hsp;split at hsp
 ·rename_i l sep;cases hc:(decide (l.length≤strMax)&&decide ((HE (l.map IV.toStr) sep).size≤strMax)) with
  | false=>rw [hc] at hsp; simp [R.get] at hsp
  | true=>
   rw [hc] at hsp;simp only [AG,AP] at hc;simp only [R.get,AC,AS] at hsp;obtain ⟨rfl,rfl⟩:=hsp;obtain ⟨x0,x1,rfl⟩:∃ x0 x1,xs=[x0,x1]:=by
    have:=hV.length
    simp at this
    match xs,this with
    | [a,b],_=>exact ⟨a,b,rfl⟩
   simp only [AZ,B6,D8,VRels,VRel,BY] at hV;obtain ⟨h0,rfl,_⟩:=hV;obtain ⟨p,c,rfl,hc1,hc2,hc3,hcell⟩:=Iz h0;have hz:(HE (l.map IV.toStr) sep).size=(Lib.join ((l.map IV.toStr).map (·.data.toList)) sep.data.toList).length:=by
    show (Array.size (List.toArray _))=_;rw [vac]
   have hle:=hc.2;rw [hz] at hle;unfold strMax at hle hc3;refine P9 hR rfl rfl (Does.of_calls Tryz.func86 (by kernel_rfl) (by kernel_rfl) (Calls.mono (R:=fun e w'=>e = .returned (.string (HE (l.map IV.toStr) sep))∧Below w.heap.size w w') ?_ ?_))
   ·cases l with
    | nil=>
     refine (Tryz.strings_Join_none p c sep w).mono ?_;rintro e w' ⟨rfl,rfl⟩;exact ⟨rfl,Below.refl _ _⟩
    | cons y r=>
     obtain ⟨b,o,rfl,hb,_⟩:=hcell 0 y rfl
     have:=Tryz.strings_Join b o c ((y :: r).map IV.toStr) sep w (fun j x hj=>by
      rw [B8,C8] at hj;obtain ⟨y',hj,rfl⟩:=hj;obtain ⟨b',o',hp,_,hu,_⟩:=hcell j y' hj;simp only [AC,C5,BY] at hp;obtain ⟨rfl,rfl⟩:=hp;exact hu) hb (by rw [B9]; omega) (by rw [B9]; omega) (by omega)
     rw [B9] at this;exact this
   ·rintro e w' ⟨rfl,hw⟩;refine ⟨_,rfl,Keep.below hw,fun O _=>?_⟩;simp only [VRel];exact ⟨trivial,by rw [hz]; unfold strMax; omega⟩
 ·simp [R.get] at hsp
theorem zfi:DO PR B0 158 eV:=by
 intro w X γ vs xs r out hsp hg hx hR hV;unfold eV at hsp;simp only at hsp;split at hsp
 ·rename_i l;cases hc:decide (l.length≤4294967296) with
  | false=>rw [hc] at hsp; simp [R.get] at hsp
  | true=>
   rw [hc] at hsp;have hc:=AY hc;simp only [R.get,AC,AS] at hsp;obtain ⟨rfl,rfl⟩:=hsp;obtain ⟨x0,rfl⟩:∃ x0,xs=[x0]:=by
    have:=hV.length
    simp at this
    match xs,this with
    | [a],_=>exact ⟨a,rfl⟩
   simp only [AZ,B6,D8,VRels,VRel,BY] at hV;obtain ⟨p,c,rfl,hc1,hc2,hc3,hcell⟩:=Iz hV;have hel:∀ (w':World) (O:Nat→Prop) i y,l[i]?=some y→Kd.RelAll w' O [.str] (FL false y) 0 (fun j u=>(l.map fun y=>Value.string y.toStr)[i*[Kd.str].length+j]?=some u):=fun w' O i y hy=>by
    obtain ⟨b,o,_,_,_,hs⟩:=hcell i y hy;simp only [Kd.RelAll,AM,A6,BK,Nat.mul_one,CZ,BY];refine ⟨.string y.toStr,by rw [B8,hy]; rfl,?_⟩;simp only [Kd.Rel,FL];exact ⟨trivial,hs⟩
   refine Fq hR rfl (by decide) (by decide) hc3 (Does.of_calls Tryz.func158 (by kernel_rfl) (by kernel_rfl) ?_);cases p with
   | none=>
    have h0:l=[]:=by
     cases l with
     | nil=>rfl
     | cons y r=>
      obtain ⟨b,o,hp,_⟩:=hcell 0 y rfl;cases hp
    subst h0;refine (Pz _ c w).mono ?_;rintro e w' ⟨rfl,rfl⟩;exact ⟨_,[],rfl,Keep.refl _ _,⟨rfl,.inl ⟨rfl,rfl⟩⟩,hel _⟩
   | some a=>
    refine (Qc a l.length c (l.map fun y=>Value.string y.toStr) w (by rw [B9]) (by unfold maxLen; omega) (by omega) (fun j u hj=>?_) (fun u hu=>?_)).mono ?_
    ·rw [B8,C8] at hj;obtain ⟨y,hj,rfl⟩:=hj;obtain ⟨b,o,hp,_,hu,_⟩:=hcell j y hj;simp only [AC] at hp;subst hp;rw [Addr.add_lit];exact hu
    ·rw [vao] at hu;obtain ⟨y,_,rfl⟩:=hu;rfl
    ·rintro e w' ⟨v',rfl,hown,hw⟩;exact ⟨v',_,rfl,Keep.below hw,hown,hel _⟩
 ·simp [R.get] at hsp
def SpsOK:List (Nat × DK)→Prop
 | []=>True
 | (f,sp) :: r=>DO PR B0 f sp∧SpsOK r
theorem SpsOK.get:∀ {l:List (Nat × DK)},SpsOK l→∀ f sp,lk l f=some sp→DO PR B0 f sp
 | [],_,f,sp,h=>by simp [lk] at h
 | (g,sg) :: r,hs,f,sp,h=>by
  simp only [lk] at h;split at h
  ·rename_i hb;simp only [AC] at h;subst h;rw [← FG.1 hb];exact hs.1
  ·exact SpsOK.get hs.2 f sp h
theorem DX {f:Nat} {fn:Func} {code:Code} {rs:List ResultVar} {nt:Nat} (sps:List (Nat × DK)) (lp:List (Nat × KP)) (sp:DK) (rks:List (List Kd)) (hf:PR.funcs[f]?=some fn)
  (hc:(fn.name == "runtime.NumGoroutine")=false∧fn.body=some code∧fn.ntmps=nt∧BS nt 900000=true∧fn.results.toList=rs) (hs:SpsOK sps)
  (h:∀ vs r,(KK vs (FD vs)→RG vs)→(sp vs).get=some r→∃ N,DQ (DV sps lp nt N) code rs rks vs=some r):DO PR B0 f sp:=
 Fs (DV sps lp nt) sp rks hf hc (fun _=>rfl) Al (fun _=>Jh rfl Jg) (fun _=>xO rfl xN) (fun _=>hs.get) (fun _ f p hp=>by cases hp) (fun _ h=>sW h) h
def IpsOK:List (Nat × Ip)→Prop
 | []=>True
 | (f,p) :: r=>QI PR f p∧IpsOK r
theorem IpsOK.get:∀ {l:List (Nat × Ip)},IpsOK l→∀ f p,lk l f=some p→QI PR f p
 | [],_,f,p,h=>by simp [lk] at h
 | (g,pg) :: r,hs,f,p,h=>by
  simp only [lk] at h;split at h
  ·rename_i hb;simp only [AC] at h;subst h;rw [← FG.1 hb];exact hs.1
  ·exact IpsOK.get hs.2 f p h
theorem Fx {f:Nat} {fn:Func} {code:Code} {rs:List ResultVar} {nt:Nat} (sps:List (Nat × DK)) (ips:List (Nat × Ip)) (lp:List (Nat × KP)) (sp:DK) (rks:List (List Kd)) (hf:PR.funcs[f]?=some fn)
  (hc:(fn.name == "runtime.NumGoroutine")=false∧fn.body=some code∧fn.ntmps=nt∧BS nt 900000=true∧fn.results.toList=rs) (hs:SpsOK sps) (hi:IpsOK ips)
  (h:∀ vs r,(KK vs (FD vs)→RG vs)→(sp vs).get=some r→∃ N,DQ (iL sps ips lp nt N) code rs rks vs=some r):DO PR B0 f sp:=
 Fs (iL sps ips lp nt) sp rks hf hc (fun _=>rfl) Al (fun _=>Jh rfl Jg) (fun _=>xO rfl xN) (fun _=>hs.get) (fun _=>hi.get) (fun _ h=>sW h) h
open Go Go.RowKit
theorem EA {n:Int} (h0 : -9223372036854775808≤n) (h1:n≤9223372036854775807):AA .i64 n=n:=by
 have e:AA .i64 n=(n+9223372036854775808) % 18446744073709551616 - 9223372036854775808:=by
  simp [AA,AO,vaj];omega
 rw [e];omega
theorem IG {α:Type} {l:List α} {i:Nat} (h:i < l.length):decide ((i:Int) < ic l.length)=true:=by simp [ic]; omega
theorem IW {α:Type} {l:List α} {i:Nat} (h:l.length≤i):decide ((i:Int) < ic l.length)=false:=by simp [ic]; omega
theorem IF {i:Nat}:decide (0≤(i:Int))=true:=by simp
theorem GV {i:Nat} (h:i < 9223372036854775807):AA .i64 ((i:Int)+1)=((i+1:Nat):Int):=by rw [EA (by omega) (by omega)]; rfl
theorem I9 {α:Type} [Inhabited α] {l:List α} {i:Nat} (h:i < l.length):l.getD (i:Int).toNat default=l[i]:=by simp [h]
theorem l9 (a b:Int):decide (a≤b)=!decide (b < a):=by rw [vaC]; simp
theorem l8 (a b:Int):decide (a > b)=decide (b < a):=rfl
theorem R4 (a b:Int):(a==b)=decide (a=b):=rfl
theorem s5 (a b:Int):(a != b)=!decide (a=b):=rfl
theorem DB {α:Type _} (a b:α):cond true a b=a:=Eq.trans (Eq.refl a) (Eq.refl a)
theorem DC {α:Type _} (a b:α):cond false a b=b:=Eq.trans (Eq.refl b) (Eq.refl b)
open Go
def FC (n:Int):Int:=AA .i64 n
def JX (n:Int):Int:=AA .u64 n
def I4 (lo hi:Int):Int:=FC (FC (hi - lo)+1)
def DS (n lo hi:Int):Int:=cond (decide (n.tmod (I4 lo hi) < 0)) (FC (lo+FC (FC (FC (n.tmod (I4 lo hi)+hi) - lo)+1))) (FC (lo+n.tmod (I4 lo hi)))
def LL:DK
 | [.int .i64 n,.int .i64 lo,.int .i64 hi]=>.br (decide (I4 lo hi=0)) .no (.ok (.int .i64 (DS n lo hi)) [])
 | _=>.no
abbrev eC:BA:=⟨#[45]⟩
abbrev Kb:BA:=⟨#[46]⟩
abbrev zgk:BA:=⟨#[48]⟩
abbrev kF:BA:=⟨#[]⟩
def T7:DK
 | []=>.ok (.int .u64 390625) []
 | _=>.no
def PI (r:Nat):List UInt8:=Lib.trimRightB (Lib.repeatL [48] (8 - (C3 (r*390625)).length)++C3 (r*390625)) 48
def P7 (u:Nat):List UInt8:=C3 (u / 256)++(if u % 256=0 then [] else 46 :: PI (u % 256))
def VV (n:Int):List UInt8:=if n < 0 then 45 :: P7 n.natAbs else P7 n.natAbs
def D0 (n:Int):BA:=⟨(VV n).toArray⟩
def QL:DK
 | [.int .i64 n]=>.ok (.str (D0 n)) []
 | _=>.no
def Z0:DK
 | [.str s]=>.ok (.tup [.int .u64 (GD s),.bool (JD s)]) []
 | _=>.no
def SG (s:BA):BA:=cutL (GN s eC) Kb
def KF (s:BA):BA:=GS (GN s eC) Kb
def NS (s:BA):BA:=KF s++G8 zgk (8 - (KF s).size)
def QW (s:BA):Int:=JX (JX (GD (SG s)*256)+GD (NS s) / 390625)
def l6 (s:BA):Int:=FC (cond (XM s eC) (JX (0 - QW s)) (QW s))
def fZ (s:BA):Bool:=
 decide ((KF s).size≤8)&&(JD (SG s)&&(JD (NS s)&&(decide (GD (SG s)≤36028797018963968)&&(decide (GD (NS s) % 390625=0)&&decide (D0 (l6 s)=s)))))
def GI (s:BA):Int:=cond (fZ s) (l6 s) 0
def T6:DK
 | [.str s]=>.br (decide (s.size < 4294967281)) (.ok (.tup [.int .i64 (GI s),.bool (fZ s)]) []) .no
 | _=>.no
open Go Go.Proofs
def Ld (N:Nat):Env:=DV [] [] 24 N
theorem za7 (N:Nat) (n lo hi:Int):DQ (Ld N) tU [.tmp 6] [[.z]] [.i n,.i lo,.i hi] =
 (cond (decide (AA AB (AA AB (hi - lo)+1)=0))
 none
 (cond (decide (Int.tmod n (AA AB (AA AB (hi - lo)+1)) < 0))
 (some ((.i (AA AB (lo+AA AB (AA AB (AA AB (Int.tmod n (AA AB (AA AB (hi - lo)+1))+hi) - lo)+1)))),[]))
 (some ((.i (AA AB (lo+Int.tmod n (AA AB (AA AB (hi - lo)+1))))),[])))):=by kernel_rfl
def Lw (N:Nat):Env:=DV [] [(3,⟨[0,1,2],[],[]⟩)] 8 N
def Lv (N:Nat):Env:=DV [(182,e9)] [] 19 N
theorem zbr (N:Nat) (s:BA):DQ (Lv N) uI [.tmp 2,.tmp 3] [[.int .u64],[.bool]] [.str s] =
 (cond (JD s)
 (cond (decide (0≤0)&&decide (0 < ic (AH s)))
 (some ((.tup [.int .u64 (GD s),.bool (ic (UInt8.toNat (AI (Array.toList (ByteArray.data s)) (AD 0) 0)) != 43)]),[]))
 none)
 (some ((.tup [.int .u64 (GD s),.bool false]),[]))):=by kernel_rfl
def Lt (N:Nat):Env:=DV [(89,T7),(88,eZ),(91,WW),(90,fB)] [] 38 N
theorem zbp (N:Nat) (n:Int):DQ (Lt N) uG [.tmp 2] [[.str]] [.i n] =
 (cond (decide (n < 0))
 (cond (decide (AH { data:=#[45] }+AH (EW (vaR (AA AJ (0 - AA AJ n)) (2 ^ min (AD 8) (AO AJ))))≤strMax))
 (cond (AA AJ (ic (CC (A0 (AO AJ) (AA AJ (0 - AA AJ n)) &&& A0 (AO AJ) 255)))==0)
 (some ((.str ({ data:=#[45] }++EW (vaR (AA AJ (0 - AA AJ n)) (2 ^ min (AD 8) (AO AJ))))),[]))
 (cond (decide (AH ({ data:=#[45] }++EW (vaR (AA AJ (0 - AA AJ n)) (2 ^ min (AD 8) (AO AJ))))+AH { data:=#[46] }≤strMax))
 (cond (decide (0≤AA AB (8 - ic (AH (EW (AA AJ (AA AJ (ic (CC (A0 (AO AJ) (AA AJ (0 - AA AJ n)) &&& A0 (AO AJ) 255)))*390625))))))&&decide (AH { data:=#[48] }*AD (AA AB (8 - ic (AH (EW (AA AJ (AA AJ (ic (CC (A0 (AO AJ) (AA AJ (0 - AA AJ n)) &&& A0 (AO AJ) 255)))*390625))))))≤strMax))
 (cond (decide (AH (G8 { data:=#[48] } (AD (AA AB (8 - ic (AH (EW (AA AJ (AA AJ (ic (CC (A0 (AO AJ) (AA AJ (0 - AA AJ n)) &&& A0 (AO AJ) 255)))*390625))))))))+AH (EW (AA AJ (AA AJ (ic (CC (A0 (AO AJ) (AA AJ (0 - AA AJ n)) &&& A0 (AO AJ) 255)))*390625)))≤strMax))
 (cond (decide (AH ({ data:=#[45] }++EW (vaR (AA AJ (0 - AA AJ n)) (2 ^ min (AD 8) (AO AJ)))++{ data:=#[46] })+AH (N5 (G8 { data:=#[48] } (AD (AA AB (8 - ic (AH (EW (AA AJ (AA AJ (ic (CC (A0 (AO AJ) (AA AJ (0 - AA AJ n)) &&& A0 (AO AJ) 255)))*390625)))))))++EW (AA AJ (AA AJ (ic (CC (A0 (AO AJ) (AA AJ (0 - AA AJ n)) &&& A0 (AO AJ) 255)))*390625))) { data:=#[48] })≤strMax))
 (some ((.str ({ data:=#[45] }++EW (vaR (AA AJ (0 - AA AJ n)) (2 ^ min (AD 8) (AO AJ)))++{ data:=#[46] }++N5 (G8 { data:=#[48] } (AD (AA AB (8 - ic (AH (EW (AA AJ (AA AJ (ic (CC (A0 (AO AJ) (AA AJ (0 - AA AJ n)) &&& A0 (AO AJ) 255)))*390625)))))))++EW (AA AJ (AA AJ (ic (CC (A0 (AO AJ) (AA AJ (0 - AA AJ n)) &&& A0 (AO AJ) 255)))*390625))) { data:=#[48] })),[]))
 none)
 none)
 none)
 none))
 none)
 (cond (decide (AH { data:=#[] }+AH (EW (vaR (AA AJ n) (2 ^ min (AD 8) (AO AJ))))≤strMax))
 (cond (AA AJ (ic (CC (A0 (AO AJ) (AA AJ n) &&& A0 (AO AJ) 255)))==0)
 (some ((.str ({ data:=#[] }++EW (vaR (AA AJ n) (2 ^ min (AD 8) (AO AJ))))),[]))
 (cond (decide (AH ({ data:=#[] }++EW (vaR (AA AJ n) (2 ^ min (AD 8) (AO AJ))))+AH { data:=#[46] }≤strMax))
 (cond (decide (0≤AA AB (8 - ic (AH (EW (AA AJ (AA AJ (ic (CC (A0 (AO AJ) (AA AJ n) &&& A0 (AO AJ) 255)))*390625))))))&&decide (AH { data:=#[48] }*AD (AA AB (8 - ic (AH (EW (AA AJ (AA AJ (ic (CC (A0 (AO AJ) (AA AJ n) &&& A0 (AO AJ) 255)))*390625))))))≤strMax))
 (cond (decide (AH (G8 { data:=#[48] } (AD (AA AB (8 - ic (AH (EW (AA AJ (AA AJ (ic (CC (A0 (AO AJ) (AA AJ n) &&& A0 (AO AJ) 255)))*390625))))))))+AH (EW (AA AJ (AA AJ (ic (CC (A0 (AO AJ) (AA AJ n) &&& A0 (AO AJ) 255)))*390625)))≤strMax))
 (cond (decide (AH ({ data:=#[] }++EW (vaR (AA AJ n) (2 ^ min (AD 8) (AO AJ)))++{ data:=#[46] })+AH (N5 (G8 { data:=#[48] } (AD (AA AB (8 - ic (AH (EW (AA AJ (AA AJ (ic (CC (A0 (AO AJ) (AA AJ n) &&& A0 (AO AJ) 255)))*390625)))))))++EW (AA AJ (AA AJ (ic (CC (A0 (AO AJ) (AA AJ n) &&& A0 (AO AJ) 255)))*390625))) { data:=#[48] })≤strMax))
 (some ((.str ({ data:=#[] }++EW (vaR (AA AJ n) (2 ^ min (AD 8) (AO AJ)))++{ data:=#[46] }++N5 (G8 { data:=#[48] } (AD (AA AB (8 - ic (AH (EW (AA AJ (AA AJ (ic (CC (A0 (AO AJ) (AA AJ n) &&& A0 (AO AJ) 255)))*390625)))))))++EW (AA AJ (AA AJ (ic (CC (A0 (AO AJ) (AA AJ n) &&& A0 (AO AJ) 255)))*390625))) { data:=#[48] })),[]))
 none)
 none)
 none)
 none))
 none)):=by kernel_rfl
open Go Go.Proofs
theorem YD:DO PR B0 7 LL:=by
 refine DX [] [] LL [[.z]] Tryz.func7 Vz trivial ?_;intro vs r hwf h;unfold LL at h;split at h
 ·rename_i n lo hi;refine ⟨0,?_⟩;rw [← h];refine (za7 0 n lo hi).trans ?_;simp only [R.get_br,R.get_ok,R.get_no];unfold DS I4 FC;cases decide (AA AB (AA AB (hi - lo)+1)=0) <;> cases decide (Int.tmod n (AA AB (AA AB (hi - lo)+1)) < 0) <;> rfl
 ·simp [R.get] at h
open Go
theorem W2 {s t:BA} (h:s.data.toList=t.data.toList):s=t:=ByteArray.ext (Array.ext' h)
theorem tC (s t:BA):(s.toList==t.toList)=decide (s=t):=by
 rw [Lib.toList_data,Lib.toList_data];by_cases h:s=t
 ·subst h; simp
 ·rw [AL h,BZ];exact fun e=>h (W2 e)
theorem V4 (s:BA):s.size=s.data.toList.length:=by rw [CP]; rfl
theorem Qr (u:Nat):∀ c∈C3 u,48≤c.toNat∧c.toNat≤57:=by
 induction u using Nat.strongRecOn with
 | _ u ih=>
  intro c hc;rw [C3] at hc;split at hc
  ·rename_i h;simp only [A4] at hc;subst hc;rw [UInt8.toNat_ofNat_of_lt' (by simp [UInt8.size]; omega)];omega
  ·rename_i h;rw [AV,A4] at hc;rcases hc with hc | hc
   ·exact ih (u / 10) (by omega) c hc
   ·subst hc;rw [UInt8.toNat_ofNat_of_lt' (by simp [UInt8.size]; omega)];omega
theorem Qs (u:Nat):C3 u≠[]:=by
 rw [C3];split <;> simp
open Go
theorem zf2 {n m:Int} (h:0 < m) : -m < n.tmod m∧n.tmod m < m:=by
 constructor
 ·rcases Int.lt_or_le n 0 with hn | hn
  ·have e:n.tmod m = -((-n).tmod m):=by rw [Int.neg_tmod,Int.neg_neg]
   have:=Int.tmod_lt_of_pos (-n) h
   omega
  ·have:=Int.tmod_nonneg m hn
   omega
 ·exact Int.tmod_lt_of_pos n h
theorem JG {n lo hi:Int} (h:lo≤hi) (h0 : -2000000000000000000≤lo) (h1:hi≤2000000000000000000):I4 lo hi=hi - lo+1∧lo≤DS n lo hi∧DS n lo hi≤hi:=by
 have e1:FC (hi - lo)=hi - lo:=EA (by omega) (by omega);have e2:I4 lo hi=hi - lo+1:=by
  unfold I4;rw [e1];exact EA (by omega) (by omega)
 refine ⟨e2,?_⟩;unfold DS;rw [e2];obtain ⟨t0,t1⟩:=zf2 (n:=n) (m:=hi - lo+1) (by omega);generalize n.tmod (hi - lo+1)=q at t0 t1 ⊢;cases hq:decide (q < 0) with
 | true=>
  have hq:=AY hq;simp only [CT];have a1:FC (q+hi)=q+hi:=EA (by omega) (by omega);have a2:FC (q+hi - lo)=q+hi - lo:=EA (by omega) (by omega);have a3:FC (q+hi - lo+1)=q+hi - lo+1:=EA (by omega) (by omega);have a4:FC (lo+(q+hi - lo+1))=lo+(q+hi - lo+1):=EA (by omega) (by omega);rw [a1,a2,a3,a4];omega
 | false=>
  have hq:=BE hq;simp only [CG];have a1:FC (lo+q)=lo+q:=EA (by omega) (by omega);rw [a1];omega
theorem zgd (n:Int):AA .u64 n=n % 18446744073709551616:=by simp [AA,AO,vaj]
abbrev FA (n:Int):Prop := -9223372036854775808≤n∧n≤9223372036854775807
theorem Nt {f:Nat→Bool} (h:(vaQ 256).all f=true) {r:Nat} (hr:r < 256):f r=true:=CN.1 h r (vbg.2 hr)
def Bi (r:Nat):Bool:=BM r 0||(BS (PI r).length 8&&((PI r).all (fun c=>BS 48 c.toNat&&BS c.toNat 57)&&(match (PI r).reverse with | []=>false | c :: _=>!(BM c.toNat 48))))
theorem Qx:(vaQ 256).all Bi=true:=by kernel_rfl
theorem Qw {r:Nat} (h0:r≠0) (h:r < 256):(PI r).length≤8∧(∀ c∈PI r,48≤c.toNat∧c.toNat≤57)∧∃ l c,PI r=l++[c]∧c.toNat≠48:=by
 have:=Nt Qx h
 unfold Bi at this;simp only [vaT,AG,CN] at this;rcases this with h1 | ⟨h1,h2,h3⟩
 ·exact absurd (vat h1) h0
 ·refine ⟨AN h1,fun c hc=>⟨AN (h2 c hc).1,AN (h2 c hc).2⟩,?_⟩;cases hr:(PI r).reverse with
  | nil=>rw [hr] at h3; cases h3
  | cons c l=>
   rw [hr] at h3;refine ⟨l.reverse,c,?_,?_⟩
   ·have:=congrArg List.reverse hr
    simpa using this
   ·intro e;have h3:(!c.toNat.beq 48)=true:=h3;rw [e] at h3;cases h3
theorem Fd (u:Nat):P7 u=C3 (u / 256)++(if u % 256=0 then [] else 46 :: PI (u % 256)):=rfl
theorem Qt (v:Nat):∃ c r,C3 v=c :: r∧48≤c.toNat∧c.toNat≤57:=by
 cases h:C3 v with
 | nil=>exact absurd h (Qs v)
 | cons c r=>exact ⟨c,r,rfl,Qr v c (by rw [h]; exact AU ..)⟩
theorem zea (u:Nat):∃ c r,P7 u=c :: r∧48≤c.toNat∧c.toNat≤57:=by
 obtain ⟨c,r,h,h1⟩:=Qt (u / 256);exact ⟨c,r++_,by rw [Fd,h]; rfl,h1⟩
theorem zdn (n:Int):∃ c r,(D0 n).data.toList=c :: r∧c.toNat≠43:=by
 show ∃ c r,VV n=c :: r∧c.toNat≠43;unfold VV;split
 ·exact ⟨45,_,rfl,by decide⟩
 ·obtain ⟨c,r,h,h1,_⟩:=zea n.natAbs;exact ⟨c,r,h,by omega⟩
theorem X3 (n:Int) (hn:FA n):1≤(D0 n).size∧(D0 n).size≤40:=by
 obtain ⟨c,r,h,_⟩:=zdn n;refine ⟨by rw [V4,h]; simp,?_⟩;rw [V4];show (VV n).length≤40;have hs:(P7 n.natAbs).length≤30:=by
  rw [Fd,AR];have h1:(C3 (n.natAbs / 256)).length≤20:=by
   have:=oK (n:=((n.natAbs / 256:Nat):Int)) (by omega) (by obtain ⟨_,_⟩:=hn; omega)
   rw [V4] at this;exact this
  split
  ·simp; omega
  ·rename_i h0
   have:=(Qw h0 (by omega:n.natAbs % 256 < 256)).1
   simp only [AM];omega
 unfold VV;split
 ·simp only [AM]; omega
 ·omega
open Go
structure Qy where
 k:Int
 c:Int
 a0:Int
 b0:Int
 a1:Int
 b1:Int
 a2:Int
 b2:Int
 a3:Int
 b3:Int
 a4:Int
 b4:Int
 lo:Int
 hi:Int
 ft:Int
 fl:Bool
 bu:Int
def Qy.V (q:Qy):V:=.agg [.int .i64 q.k,.int .i64 q.c,.int .i64 q.a0,.int .i64 q.b0,.int .i64 q.a1,.int .i64 q.b1,.int .i64 q.a2,.int .i64 q.b2,.int .i64 q.a3,.int .i64 q.b3,.int .i64 q.a4,.int .i64 q.b4,.int .i64 q.lo,.int .i64 q.hi,.int .i64 q.ft,.bool q.fl,.int .i64 q.bu]
def Qy.none:Qy:=⟨0,0,0,0,0,0,0,0,0,0,0,0,0,0,0,false,0⟩
def Qy.eq (p q:Qy):Bool:=
 (p.k==q.k)&&((p.c==q.c)&&((p.a0==q.a0)&&((p.b0==q.b0)&&((p.a1==q.a1)&&((p.b1==q.b1)&&((p.a2==q.a2)&&((p.b2==q.b2)&&((p.a3==q.a3)&&((p.b3==q.b3)&&((p.a4==q.a4)&&((p.b4==q.b4)&&((p.lo==q.lo)&&((p.hi==q.hi)&&((p.ft==q.ft)&&((p.fl==q.fl)&&((p.bu==q.bu)&&true))))))))))))))))
def FX (q:Qy) (d:Int):Qy:=
 ⟨q.k,q.c,cond (decide (0 < d)) q.a0 0,cond (decide (0 < d)) q.b0 0,cond (decide (1 < d)) q.a1 0,cond (decide (1 < d)) q.b1 0,cond (decide (2 < d)) q.a2 0,cond (decide (2 < d)) q.b2 0,cond (decide (3 < d)) q.a3 0,cond (decide (3 < d)) q.b3 0,cond (decide (4 < d)) q.a4 0,cond (decide (4 < d)) q.b4 0,
  cond (q.k==1) q.lo 0,cond (q.k==1) q.hi 0,cond (q.k==3) q.ft 0,cond (q.k==3) q.fl false,q.bu⟩
def Y8:DK
 | [.agg [.int .i64 k,.int .i64 c,.int .i64 a0,.int .i64 b0,.int .i64 a1,.int .i64 b1,.int .i64 a2,.int .i64 b2,.int .i64 a3,.int .i64 b3,.int .i64 a4,.int .i64 b4,.int .i64 lo,.int .i64 hi,.int .i64 ft,.bool fl,.int .i64 bu],.int .i64 d]=>
  .br (decide (0≤d)&&decide (d≤5)) (.ok (.agg [.int .i64 (FX ⟨k,c,a0,b0,a1,b1,a2,b2,a3,b3,a4,b4,lo,hi,ft,fl,bu⟩ d).k,.int .i64 (FX ⟨k,c,a0,b0,a1,b1,a2,b2,a3,b3,a4,b4,lo,hi,ft,fl,bu⟩ d).c,
   .int .i64 (FX ⟨k,c,a0,b0,a1,b1,a2,b2,a3,b3,a4,b4,lo,hi,ft,fl,bu⟩ d).a0,.int .i64 (FX ⟨k,c,a0,b0,a1,b1,a2,b2,a3,b3,a4,b4,lo,hi,ft,fl,bu⟩ d).b0,
   .int .i64 (FX ⟨k,c,a0,b0,a1,b1,a2,b2,a3,b3,a4,b4,lo,hi,ft,fl,bu⟩ d).a1,.int .i64 (FX ⟨k,c,a0,b0,a1,b1,a2,b2,a3,b3,a4,b4,lo,hi,ft,fl,bu⟩ d).b1,
   .int .i64 (FX ⟨k,c,a0,b0,a1,b1,a2,b2,a3,b3,a4,b4,lo,hi,ft,fl,bu⟩ d).a2,.int .i64 (FX ⟨k,c,a0,b0,a1,b1,a2,b2,a3,b3,a4,b4,lo,hi,ft,fl,bu⟩ d).b2,
   .int .i64 (FX ⟨k,c,a0,b0,a1,b1,a2,b2,a3,b3,a4,b4,lo,hi,ft,fl,bu⟩ d).a3,.int .i64 (FX ⟨k,c,a0,b0,a1,b1,a2,b2,a3,b3,a4,b4,lo,hi,ft,fl,bu⟩ d).b3,
   .int .i64 (FX ⟨k,c,a0,b0,a1,b1,a2,b2,a3,b3,a4,b4,lo,hi,ft,fl,bu⟩ d).a4,.int .i64 (FX ⟨k,c,a0,b0,a1,b1,a2,b2,a3,b3,a4,b4,lo,hi,ft,fl,bu⟩ d).b4,
   .int .i64 (FX ⟨k,c,a0,b0,a1,b1,a2,b2,a3,b3,a4,b4,lo,hi,ft,fl,bu⟩ d).lo,.int .i64 (FX ⟨k,c,a0,b0,a1,b1,a2,b2,a3,b3,a4,b4,lo,hi,ft,fl,bu⟩ d).hi,
   .int .i64 (FX ⟨k,c,a0,b0,a1,b1,a2,b2,a3,b3,a4,b4,lo,hi,ft,fl,bu⟩ d).ft,.bool (FX ⟨k,c,a0,b0,a1,b1,a2,b2,a3,b3,a4,b4,lo,hi,ft,fl,bu⟩ d).fl,
   .int .i64 (FX ⟨k,c,a0,b0,a1,b1,a2,b2,a3,b3,a4,b4,lo,hi,ft,fl,bu⟩ d).bu]) []) .no
 | _=>.no
def OY (n:Int):Bool:=decide (0≤n)&&decide (n≤1073741824)
def Y7:DK
 | [.int .i64 n]=>.ok (.bool (OY n)) []
 | _=>.no
def TX:DK
 | [.str s]=>.ok (.int .i64 (FV s)) []
 | _=>.no
def TY:DK
 | [.str s]=>.br (decide (s.size < 4294967281)) (.ok (.int .i64 (GI s)) []) .no
 | _=>.no
abbrev YP:BA:=⟨#[114,97,110,103,101]⟩
abbrev YN:BA:=⟨#[98,101,115,116]⟩
abbrev YQ:BA:=⟨#[114,105,115,101,115]⟩
abbrev WD:BA:=⟨#[102,97,108,108,115]⟩
abbrev rN:BA:=⟨#[102,114,111,109]⟩
abbrev rS:BA:=⟨#[116,111]⟩
abbrev eB:BA:=⟨#[98,121]⟩
abbrev TF:BA:=⟨#[105,110]⟩
abbrev WC:BA:=⟨#[98,117,100,103,101,116]⟩
abbrev kD:BA:=⟨#[46,46]⟩
abbrev IC:BA:=⟨#[32]⟩
def YG (a b:Int):BA:=D0 a++kD++D0 b
def XN (q:Qy):List BA:=
 cond (q.k==1) [YP,DP q.c,rN,D0 q.lo,rS,D0 q.hi]
 (cond (q.k==2) [YN,DP q.c] [cond q.fl WD YQ,DP q.c,eB,DP q.ft])
def Qy.spans (q:Qy):List (Int × Int):=[(q.a0,q.b0),(q.a1,q.b1),(q.a2,q.b2),(q.a3,q.b3),(q.a4,q.b4)]
def rU (q:Qy) (d:Nat):List BA:=XN q++TF :: ((q.spans.take d).map fun s=>YG s.1 s.2)++[WC,DP q.bu]
def Bl (q:Qy) (d:Int):Bool:=
 (!(decide (d < 1))&&!(decide (d > 4)))&&(q.eq (FX q d)&&(OY q.c&&(OY q.ft&&(OY q.bu&&((q.k==1)||((q.k==2)||(q.k==3)))))))
def dC (q:Qy) (d:Int):BA:=cond (Bl q d) (HE (rU q d.toNat) IC) kF
def Y5:DK
 | [.agg [.int .i64 k,.int .i64 c,.int .i64 a0,.int .i64 b0,.int .i64 a1,.int .i64 b1,.int .i64 a2,.int .i64 b2,.int .i64 a3,.int .i64 b3,.int .i64 a4,.int .i64 b4,.int .i64 lo,.int .i64 hi,.int .i64 ft,.bool fl,.int .i64 bu],.int .i64 d]=>
  .ok (.str (dC ⟨k,c,a0,b0,a1,b1,a2,b2,a3,b3,a4,b4,lo,hi,ft,fl,bu⟩ d)) []
 | _=>.no
def D2 (l:LI) (i:Nat):BA:=(l.getD i default).toStr
def ET (l:LI):Qy:=
 cond ((D2 l 0).toList==YP.toList) ⟨1,FV (D2 l 1),0,0,0,0,0,0,0,0,0,0,GI (D2 l 3),GI (D2 l 5),0,false,0⟩
 (cond ((D2 l 0).toList==YN.toList) ⟨2,FV (D2 l 1),0,0,0,0,0,0,0,0,0,0,0,0,0,false,0⟩
 (cond ((D2 l 0).toList==YQ.toList||(D2 l 0).toList==WD.toList) ⟨3,FV (D2 l 1),0,0,0,0,0,0,0,0,0,0,0,0,FV (D2 l 3),(D2 l 0).toList==WD.toList,0⟩
 ⟨0,FV (D2 l 1),0,0,0,0,0,0,0,0,0,0,0,0,0,false,0⟩))
def Y6:DK
 | [.list false [.str] l]=>.br (decide (l.length≤4294967290)&&l.all (fun x=>decide (x.toStr.size < 4294967281)))
  (.ok (.agg [.int .i64 (ET l).k,.int .i64 (ET l).c,.int .i64 (ET l).a0,.int .i64 (ET l).b0,.int .i64 (ET l).a1,.int .i64 (ET l).b1,.int .i64 (ET l).a2,.int .i64 (ET l).b2,.int .i64 (ET l).a3,.int .i64 (ET l).b3,.int .i64 (ET l).a4,.int .i64 (ET l).b4,
   .int .i64 (ET l).lo,.int .i64 (ET l).hi,.int .i64 (ET l).ft,.bool (ET l).fl,.int .i64 (ET l).bu]) []) .no
 | _=>.no
def S6 (l:LI) (i:Nat):Int:=GI (cutL (D2 l i) kD)
def S7 (l:LI) (i:Nat):Int:=GI (GS (D2 l i) kD)
def pE (l:LI) (i d:Nat):Qy:=
 ⟨(
  ET (l.take i)).k,(ET (l.take i)).c,
  cond (BN 0 d) (S6 l (i+1)) 0,cond (BN 0 d) (S7 l (i+1)) 0,cond (BN 1 d) (S6 l (i+2)) 0,cond (BN 1 d) (S7 l (i+2)) 0,cond (BN 2 d) (S6 l (i+3)) 0,cond (BN 2 d) (S7 l (i+3)) 0,cond (BN 3 d) (S6 l (i+4)) 0,cond (BN 3 d) (S7 l (i+4)) 0,0,0,
  (ET (l.take i)).lo,(ET (l.take i)).hi,(ET (l.take i)).ft,(ET (l.take i)).fl,FV (D2 l (l.length - 1))⟩
def G5 (s:BA):LI:=(D7 s IC).map IV.str
def NX (s:BA):Int:=FT (G5 s) TF 0
def OQ (s:BA):Int:=ic (G5 s).length - 2 - NX s - 1
def nO (s:BA):Qy:=pE (G5 s) (NX s).toNat (OQ s).toNat
def UU (s:BA):Bool:=(!(decide (NX s < 0))&&(!(decide (OQ s < 1))&&!(decide (OQ s > 4))))&&(dC (nO s) (OQ s)).toList==s.toList
def GQ (s:BA):Qy:=cond (UU s) (nO s) Qy.none
def UT (s:BA):Int:=cond (UU s) (OQ s) 0
def Y4:DK
 | [.str s]=>.br (decide (s.size < 4294967281))
  (.ok (.tup [.agg [.int .i64 (GQ s).k,.int .i64 (GQ s).c,.int .i64 (GQ s).a0,.int .i64 (GQ s).b0,.int .i64 (GQ s).a1,.int .i64 (GQ s).b1,.int .i64 (GQ s).a2,.int .i64 (GQ s).b2,.int .i64 (GQ s).a3,.int .i64 (GQ s).b3,.int .i64 (GQ s).a4,.int .i64 (GQ s).b4,
   .int .i64 (GQ s).lo,.int .i64 (GQ s).hi,.int .i64 (GQ s).ft,.bool (GQ s).fl,.int .i64 (GQ s).bu],.int .i64 (UT s),.bool (UU s)]) []) .no
 | _=>.no
open Go
def ED (l:LI) (i:Int):Int:=cond (ic l.length==0) 0 (l.getD (i.tmod (ic l.length)).toNat default).toInt
def OC:DK
 | [.list false [.z] l,.int .i64 i]=>.br (decide (0≤i)) (.ok (.int .i64 (ED l i)) []) .no
 | _=>.no
def EY (n:Int):Bool:=decide (-2147483648≤n)&&decide (n≤2147483647)
def ZT:DK
 | [.int .i64 n,.int .i64 w]=>.br (decide (w=32)) (.ok (.bool (EY n)) []) .no
 | _=>.no
def dI (lf:Bool) (v f a l r:Int):Bool:=
 cond lf (EY v&&((f==0)&&((a==0)&&((l==0)&&(r==0)))))
  ((v==0)&&(decide (0≤f)&&(decide (f < 4)&&(EY a&&(decide (1≤l)&&(decide (l < 31)&&(decide (1≤r)&&decide (r < 31))))))))
def ZU:DK
 | [.agg [.bool lf,.int .i64 v,.int .i64 f,.int .i64 a,.int .i64 l,.int .i64 r]]=>.ok (.bool (dI lf v f a l r)) []
 | _=>.no
def fE (a b:Int):Int:=JX (ic (CC (A0 (AO AJ) a &&& A0 (AO AJ) b)))
def cX (a b:Int):Int:=JX (ic (CC (A0 (AO AJ) a ||| A0 (AO AJ) b)))
def YB (a:Int) (k:Nat):Int:=JX (a*2 ^ k)
def HP (lf:Bool) (v f a l r:Int):Int:=
 cond (dI lf v f a l r)
  (cond lf (cX 9223372036854775808 (fE (JX v) 4294967295))
   (cX (cX (cX (fE (JX a) 4294967295) (YB (JX f) 32)) (YB (JX l) 40)) (YB (JX r) 48)))
  0
def T4:DK
 | [.agg [.bool lf,.int .i64 v,.int .i64 f,.int .i64 a,.int .i64 l,.int .i64 r]]=>.ok (.int .u64 (HP lf v f a l r)) []
 | _=>.no
def Q6 (lf:Bool) (v f a l r:Int):IV:=.agg [.bool lf,.int v,.int f,.int a,.int l,.int r]
def LB (v:Int):IV:=Q6 true v 0 0 0 0
def RA (x:IV):IV:=.int (HP (x.cell 0).toBool (x.cell 1).toInt (x.cell 2).toInt (x.cell 3).toInt (x.cell 4).toInt (x.cell 5).toInt)
structure Ns where
 nodes:LI
 leaves:LI
def HH (part:LI) (i:Nat) (s:Ns):Int:=DS (part.getD i default).toInt 0 (ic s.leaves.length - 1)
def PZ (part:LI) (i:Nat) (s:Ns):Int:=(s.leaves.getD (HH part i s).toNat default).toInt
def JS (part byl atl val:LI) (dim:Int) (i:Nat) (s:Ns):Ns:=
 ⟨s.nodes.set (PZ part i s).toNat (Q6 false 0 (DS (ED byl (i:Int)) 0 (dim - 1)) (DS (ED atl (i:Int)) 0 9) (ic s.nodes.length) (ic s.nodes.length+1)) ++
   [LB (DS (ED val (2*(i:Int)+1)) (-3000) 3000),LB (DS (ED val (2*(i:Int)+2)) (-3000) 3000)],
  s.leaves.take (HH part i s).toNat++s.leaves.drop ((HH part i s).toNat+1)++[.int (ic s.nodes.length),.int (ic s.nodes.length+1)]⟩
def XV (part byl atl val:LI) (dim:Int):Nat→Nat→Ns→Ns
 | 0,_,s=>s
 | d+1,i,s=>XV part byl atl val dim d (i+1) (JS part byl atl val dim i s)
def NZ (part byl atl val:LI) (dim:Int):Ns:=XV part byl atl val dim (min part.length 7) 0 ⟨[LB (DS (ED val 0) (-3000) 3000)],[.int 0]⟩
def MN (part byl atl val:LI) (dim:Int):LI:=(NZ part byl atl val dim).nodes.map RA
def ZS:DK
 | [.agg [.int .i64 _,.list false [.z] part,.list false [.z] byl,.list false [.z] atl,.list false [.z] val],.int .i64 dim]=>
  .br (decide (1≤dim)&&decide (dim≤4)) (.ok (.list false [.int .u64] (MN part byl atl val dim)) []) .no
 | _=>.no
def M3 (d:Int):Int:=DS d 1 3
def J2 (c:Int):Int:=DS c 1 3
def QQ (c:Int) (bias:LI) (j:Int):Int:=cond (decide (j < J2 c)) (DS (ED bias j) (-500) 500) 0
def YL (d c:Int) (t:IV):IV:=.agg [.int (DS (t.cell 0).toInt 0 (J2 c - 1)),.list (MN (t.cell 1).toList (t.cell 2).toList (t.cell 3).toList (t.cell 4).toList (M3 d))]
def TB (d c:Int) (ts:LI):LI:=(ts.take 4).map (YL d c)
def eT:DK
 | [.agg [.int .i64 d,.int .i64 c,.list false [.z] bias,.list true [.z,.list false [.z],.list false [.z],.list false [.z],.list false [.z]] ts]]=>
  .ok (.agg [.int .i64 (M3 d),.int .i64 (J2 c),.int .i64 (QQ c bias 0),.int .i64 (QQ c bias 1),.int .i64 (QQ c bias 2),.list true [.z,.list false [.int .u64]] (TB d c ts)]) []
 | _=>.no
def J8 (d:Int) (l:LI) (i:Int):Int:=cond (decide (i < d)) (DS (ED l (2*i)) (-2) 9) 0
def J9 (d:Int) (l:LI) (i:Int):Int:=cond (decide (i < d)) (DS (ED l (2*i)) (-2) 9+DS (ED l (2*i+1)) 0 11) 0
def T3:DK
 | [.agg [.int .i64 d,.int .i64 _,.int .i64 _,.int .i64 _,.int .i64 _,.list true [.z,.list false [.int .u64]] _],.list false [.z] l]=>
  .br (decide (0≤d)&&decide (d≤4)) (.ok (.agg [.int .i64 (J8 d l 0),.int .i64 (J9 d l 0),.int .i64 (J8 d l 1),.int .i64 (J9 d l 1),.int .i64 (J8 d l 2),.int .i64 (J9 d l 2),.int .i64 (J8 d l 3),.int .i64 (J9 d l 3),.int .i64 0,.int .i64 0]) []) .no
 | _=>.no
structure Ak where
 k:Int
 c:Int
 lo:Int
 size:Int
 ft:Int
 bu:Int
 fl:Bool
 sp:LI
open Go Go.Proofs
def Lg (N:Nat):Env:=DV [] [] 15 N
theorem zbc (N:Nat) (l:LI) (i:Int):DQ (Lg N) tX [.tmp 4] [[.z]] [.list false [.z] l,.i i]=(cond (ic (AE l)==0) (some ((.i 0),[])) (cond (decide (ic (AE l)=0)) none (cond (decide (0≤Int.tmod i (ic (AE l)))&&decide (Int.tmod i (ic (AE l)) < ic (AE l))) (some ((.i (IV.toInt (AI l (AD (Int.tmod i (ic (AE l)))) default))),[])) none))):=by kernel_rfl
def Lh (N:Nat):Env:=DV [] [] 27 N
theorem zbd (N:Nat) (n w:Int):DQ (Lh N) tY [.tmp 4] [[.bool]] [.i n,.i w]=(cond (decide (w < 1)) (some ((.bool false),[])) (cond (decide (w > 64)) (some ((.bool false),[])) (cond (w==64) (some ((.bool true),[])) (cond (decide (AA AB (w - 1) < 0)) none (cond (decide (n≥AA AB (0 - AA AB (1*2 ^ min (AD (AA AB (w - 1))) (AO AB))))) (some ((.bool (decide (n≤AA AB (AA AB (1*2 ^ min (AD (AA AB (w - 1))) (AO AB)) - 1)))),[])) (some ((.bool false),[]))))))):=by kernel_rfl
def Lj (N:Nat):Env:=DV [(105,ZT)] [] 66 N
theorem zbf (N:Nat) (u01:Bool) (u04 u00 n_At u02 u03:Int):DQ (Lj N) t6 [.tmp 2] [[.bool]] [.agg [.bool u01,.i u04,.i u00,.i n_At,.i u02,.i u03]]=(cond u01 (cond (EY u04) (cond (u00==0) (cond (n_At==0) (cond (u02==0) (some ((.bool (u03==0)),[])) (some ((.bool false),[]))) (some ((.bool false),[]))) (some ((.bool false),[]))) (some ((.bool false),[]))) (cond (u04==0) (cond (decide (u00≥0)) (cond (decide (u00 < 4)) (cond (EY n_At) (cond (decide (u02≥1)) (cond (decide (u02 < 31)) (cond (decide (u03≥1)) (some ((.bool (decide (u03 < 31))),[])) (some ((.bool false),[]))) (some ((.bool false),[]))) (some ((.bool false),[]))) (some ((.bool false),[]))) (some ((.bool false),[]))) (some ((.bool false),[]))) (some ((.bool false),[])))):=by kernel_rfl
def Li (N:Nat):Env:=DV [(64,ZU)] [] 32 N
theorem zbe (N:Nat) (u01:Bool) (u04 u00 n_At u02 u03:Int):DQ (Li N) tZ [.tmp 2] [[.int .u64]] [.agg [.bool u01,.i u04,.i u00,.i n_At,.i u02,.i u03]]=(cond (!dI u01 u04 u00 n_At u02 u03) (some ((.int .u64 0),[])) (cond u01 (some ((.int .u64 (AA AJ (ic (CC (A0 (AO AJ) 9223372036854775808 ||| A0 (AO AJ) (AA AJ (ic (CC (A0 (AO AJ) (AA AJ u04) &&& A0 (AO AJ) 4294967295))))))))),[])) (some ((.int .u64 (AA AJ (ic (CC (A0 (AO AJ) (AA AJ (ic (CC (A0 (AO AJ) (AA AJ (ic (CC (A0 (AO AJ) (AA AJ (ic (CC (A0 (AO AJ) (AA AJ n_At) &&& A0 (AO AJ) 4294967295)))) ||| A0 (AO AJ) (AA AJ (AA AJ u00*2 ^ min (AD 32) (AO AJ))))))) ||| A0 (AO AJ) (AA AJ (AA AJ u02*2 ^ min (AD 40) (AO AJ))))))) ||| A0 (AO AJ) (AA AJ (AA AJ u03*2 ^ min (AD 48) (AO AJ)))))))),[])))):=by kernel_rfl
def QH (N:Nat):Env:=DV [(7,LL),(15,OC)] [(3,⟨[1,4,5,9,10],[4,5],[]⟩)] 32 N
abbrev QD (l1:LI) (x9 x10 u00 u01 u02 u03 u04 u05 u06 u07 u08 u09 u0a u0b u0c u0d u0e u0f u0g u0h u0i u0j:Int):St:=⟨[(1,(.list false [.z] l1)),(4,(.ptr 4 0 0)),(5,(.ptr 5 0 0)),(9,(.i x9)),(10,(.i x10))],[(4,(some (.box [.i u00,.i u01,.i u02,.i u03,.i u04,.i u05,.i u06,.i u07,.i u08,.i u09]))),(5,(some (.box [.i u0a,.i u0b,.i u0c,.i u0d,.i u0e,.i u0f,.i u0g,.i u0h,.i u0i,.i u0j])))]⟩
theorem za9 (N:Nat) (u04 u03 u00 u01 u02:Int) (u05 l:LI):DQ (QH N) R9 [.cell 4 34] [[.z,.z,.z,.z,.z,.z,.z,.z,.z,.z]] [.agg [.i u04,.i u03,.i u00,.i u01,.i u02,.list true [.z,.list false [.int .u64]] u05],.list false [.z] l]=(DR (QH N) (DD R9 [1,1,0,1,0,0]) ⟨[1,4,5,9,10],[4,5],[]⟩ N (QD l u04 0 0 0 0 0 0 0 0 0 0 0 0 0 0 0 0 0 0 0 0 0) (DI 0 (DJ (QH N) (DD R9 [1,1,1]) (DL (QH N) none [.cell 4 34] [[.z,.z,.z,.z,.z,.z,.z,.z,.z,.z]])))):=by kernel_rfl
theorem Hr (N:Nat) (l1:LI) (x9 x10 u00 u01 u02 u03 u04 u05 u06 u07 u08 u09 u0a u0b u0c u0d u0e u0f u0g u0h u0i u0j:Int) (again:St→DG) (k:Out→St→DG):E4 (QH N) (DD R9 [1,1,0,1,0,0]) (QD l1 x9 x10 u00 u01 u02 u03 u04 u05 u06 u07 u08 u09 u0a u0b u0c u0d u0e u0f u0g u0h u0i u0j) (EH again ⟨[1,4,5,9,10],[4,5],[]⟩ k)=(cond (decide (x10 < x9)) (cond (decide (0≤AA AB (2*x10))) (cond (decide (0≤AA AB (AA AB (2*x10)+1))) (cond (decide (x10=ic 0)) (again (QD l1 x9 (AA AB (x10+1)) u00 u01 u02 u03 u04 u05 u06 u07 u08 u09 (DS (ED l1 (AA AB (2*x10))) (-2) 9) (AA AB (DS (ED l1 (AA AB (2*x10))) (-2) 9+DS (ED l1 (AA AB (AA AB (2*x10)+1))) 0 11)) u0c u0d u0e u0f u0g u0h u0i u0j)) (cond (decide (x10=ic 1)) (again (QD l1 x9 (AA AB (x10+1)) u00 u01 u02 u03 u04 u05 u06 u07 u08 u09 u0a u0b (DS (ED l1 (AA AB (2*x10))) (-2) 9) (AA AB (DS (ED l1 (AA AB (2*x10))) (-2) 9+DS (ED l1 (AA AB (AA AB (2*x10)+1))) 0 11)) u0e u0f u0g u0h u0i u0j)) (cond (decide (x10=ic 2)) (again (QD l1 x9 (AA AB (x10+1)) u00 u01 u02 u03 u04 u05 u06 u07 u08 u09 u0a u0b u0c u0d (DS (ED l1 (AA AB (2*x10))) (-2) 9) (AA AB (DS (ED l1 (AA AB (2*x10))) (-2) 9+DS (ED l1 (AA AB (AA AB (2*x10)+1))) 0 11)) u0g u0h u0i u0j)) (cond (decide (x10=ic 3)) (again (QD l1 x9 (AA AB (x10+1)) u00 u01 u02 u03 u04 u05 u06 u07 u08 u09 u0a u0b u0c u0d u0e u0f (DS (ED l1 (AA AB (2*x10))) (-2) 9) (AA AB (DS (ED l1 (AA AB (2*x10))) (-2) 9+DS (ED l1 (AA AB (AA AB (2*x10)+1))) 0 11)) u0i u0j)) (cond (decide (x10=ic 4)) (again (QD l1 x9 (AA AB (x10+1)) u00 u01 u02 u03 u04 u05 u06 u07 u08 u09 u0a u0b u0c u0d u0e u0f u0g u0h (DS (ED l1 (AA AB (2*x10))) (-2) 9) (AA AB (DS (ED l1 (AA AB (2*x10))) (-2) 9+DS (ED l1 (AA AB (AA AB (2*x10)+1))) 0 11)))) none))))) none) none) (k (.exit 0) (QD l1 x9 x10 u00 u01 u02 u03 u04 u05 u06 u07 u08 u09 u0a u0b u0c u0d u0e u0f u0g u0h u0i u0j))):=by kernel_rfl
theorem Sk (N:Nat) (l1:LI) (x9 x10 u00 u01 u02 u03 u04 u05 u06 u07 u08 u09 u0a u0b u0c u0d u0e u0f u0g u0h u0i u0j:Int):(DI 0 (DJ (QH N) (DD R9 [1,1,1]) (DL (QH N) none [.cell 4 34] [[.z,.z,.z,.z,.z,.z,.z,.z,.z,.z]]))) (.exit 0) (QD l1 x9 x10 u00 u01 u02 u03 u04 u05 u06 u07 u08 u09 u0a u0b u0c u0d u0e u0f u0g u0h u0i u0j)=(some ((.agg [.i u0a,.i u0b,.i u0c,.i u0d,.i u0e,.i u0f,.i u0g,.i u0h,.i u0i,.i u0j]),[])):=by kernel_rfl
open Go Go.Proofs
open Go Go.Proofs
theorem jK:DO PR B0 15 OC:=by
 refine DX [] [] OC [[.z]] Tryz.func15 Wf trivial ?_;intro vs r hwf h;unfold OC at h;split at h
 ·rename_i l i;cases hc:decide (0≤i) with
  | false=>rw [hc] at h; simp [R.get] at h
  | true=>
   rw [hc,R.get_br,DB,R.get_ok] at h;have hc:=AY hc;refine ⟨0,?_⟩;rw [← h];refine (zbc 0 l i).trans ?_;unfold ED;cases h0:(ic (AE l)==0) with
   | true=>rfl
   | false=>
    rw [R4] at h0;have h0':=BE h0;have hl:0 < (l.length:Int):=by simp only [ic] at h0'; omega
    have t0:=Int.tmod_nonneg (l.length:Int) hc;have t1:=Int.tmod_lt_of_pos i hl;rw [DC,h0,DC,AF (show 0≤Int.tmod i (ic (AE l)) from t0),AF (show Int.tmod i (ic (AE l)) < ic (AE l) from t1),CR,DB,DC]
 ·simp [R.get] at h
theorem zeC:DO PR B0 105 ZT:=by
 refine DX [] [] ZT [[.bool]] Tryz.func105 Wg trivial ?_;intro vs r hwf h;unfold ZT at h;split at h
 ·rename_i n w;cases hc:decide (w=32) with
  | false=>rw [hc] at h; simp [R.get] at h
  | true=>
   rw [hc,R.get_br,DB,R.get_ok] at h;have hc:=AY hc;subst hc;refine ⟨0,?_⟩;rw [← h];refine (zbd 0 n 32).trans ?_;have e1:AA AB (0 - AA AB (1*2 ^ min (AD (AA AB ((32:Int) - 1))) (AO AB))) = -2147483648:=by kernel_rfl
   have e2:AA AB (AA AB (1*2 ^ min (AD (AA AB ((32:Int) - 1))) (AO AB)) - 1)=2147483647:=by kernel_rfl
   have e3:decide (AA AB ((32:Int) - 1) < 0)=false:=by kernel_rfl
   rw [e1,e2,e3];unfold EY;have e4:decide (n ≥ -2147483648)=decide (-2147483648≤n):=rfl;rw [e4];cases decide (-2147483648≤n) <;> rfl
 ·simp [R.get] at h
theorem wS (a b:Bool):cond a (some (V.bool b,[])) (some (V.bool false,[]))=(some (V.bool (a&&b),[]):DG):=by cases a <;> rfl
theorem zeD:DO PR B0 64 ZU:=by
 refine DX [(105,ZT)] [] ZU [[.bool]] Tryz.func64 Wi ⟨zeC,trivial⟩ ?_;intro vs r hwf h;unfold ZU at h;split at h
 ·rename_i lf v f a l r';refine ⟨0,?_⟩;rw [← h];refine (zbf 0 lf v f a l r').trans ?_;simp only [R.get_ok,wS];unfold dI;cases lf with
  | true=>rfl
  | false=>rfl
 ·simp [R.get] at h
theorem Fl:DO PR B0 33 T4:=by
 refine DX [(64,ZU)] [] T4 [[.int .u64]] Tryz.func33 Wh ⟨zeD,trivial⟩ ?_;intro vs r hwf h;unfold T4 at h;split at h
 ·rename_i lf v f a l r';refine ⟨0,?_⟩;rw [← h];refine (zbe 0 lf v f a l r').trans ?_;unfold HP;cases dI lf v f a l r' with
  | false=>rfl
  | true=>cases lf <;> rfl
 ·simp [R.get] at h
def LF (l:LI) (j:Int):Int:=DS (ED l (2*j)) (-2) 9
def KQ (l:LI) (j:Int):Int:=DS (ED l (2*j)) (-2) 9+DS (ED l (2*j+1)) 0 11
def rgC (l:LI) (i:Nat):List V:=[.int .i64 (cond (BN 0 i) (LF l 0) 0),.int .i64 (cond (BN 0 i) (KQ l 0) 0),.int .i64 (cond (BN 1 i) (LF l 1) 0),.int .i64 (cond (BN 1 i) (KQ l 1) 0),.int .i64 (cond (BN 2 i) (LF l 2) 0),.int .i64 (cond (BN 2 i) (KQ l 2) 0),.int .i64 (cond (BN 3 i) (LF l 3) 0),.int .i64 (cond (BN 3 i) (KQ l 3) 0),.int .i64 0,.int .i64 0]
abbrev jR (l:LI) (D:Int) (i:Nat) (x:Int):St:=⟨[(1,(.list false [.z] l)),(4,(.ptr 4 0 0)),(5,(.ptr 5 0 0)),(9,(.int .i64 D)),(10,(.int .i64 x))],[(4,(some (.box [(.int .i64 0),(.int .i64 0),(.int .i64 0),(.int .i64 0),(.int .i64 0),(.int .i64 0),(.int .i64 0),(.int .i64 0),(.int .i64 0),(.int .i64 0)]))),(5,(some (.box (rgC l i))))]⟩
theorem zfQ (l:LI) (j:Int):AA AB (DS (ED l (2*j)) (-2) 9+DS (ED l (2*j+1)) 0 11)=KQ l j:=by
 obtain ⟨_,a1,a2⟩:=JG (n:=ED l (2*j)) (lo := -2) (hi:=9) (by omega) (by omega) (by omega);obtain ⟨_,b1,b2⟩:=JG (n:=ED l (2*j+1)) (lo:=0) (hi:=11) (by omega) (by omega) (by omega);exact EA (by omega) (by omega)
theorem zdD (N:Nat) (l:LI) (D:Int) (i:Nat) (hi:(i:Int) < D) (h4:i < 4) (again:St→DG) (k:Out→St→DG) :
  E4 (QH N) (DD R9 [1,1,0,1,0,0]) (jR l D i (i:Int)) (EH again ⟨[1,4,5,9,10],[4,5],[]⟩ k)=again (jR l D (i+1) ((i+1:Nat):Int)):=by
 refine (Hr N l D i 0 0 0 0 0 0 0 0 0 0 (cond (BN 0 i) (LF l 0) 0) (cond (BN 0 i) (KQ l 0) 0) (cond (BN 1 i) (LF l 1) 0) (cond (BN 1 i) (KQ l 1) 0) (cond (BN 2 i) (LF l 2) 0) (cond (BN 2 i) (KQ l 2) 0) (cond (BN 3 i) (LF l 3) 0) (cond (BN 3 i) (KQ l 3) 0) 0 0 again k).trans ?_;have w2:AA AB (2*(i:Int))=2*(i:Int):=EA (by omega) (by omega);have w3:AA AB (2*(i:Int)+1)=2*(i:Int)+1:=EA (by omega) (by omega);rw [AF hi,DB,w2,w3,AF (show 0≤2*(i:Int) by omega),DB,AF (show 0≤2*(i:Int)+1 by omega),DB,zfQ];have hi4:i=0∨i=1∨i=2∨i=3:=by omega
 rcases hi4 with rfl | rfl | rfl | rfl
 ·rw [show decide (((0:Nat):Int)=ic 0)=true from rfl,DB];rfl
 ·rw [show decide (((1:Nat):Int)=ic 0)=false from rfl,show decide (((1:Nat):Int)=ic 1)=true from rfl,DC,DB];rfl
 ·rw [show decide (((2:Nat):Int)=ic 0)=false from rfl,show decide (((2:Nat):Int)=ic 1)=false from rfl,show decide (((2:Nat):Int)=ic 2)=true from rfl,DC,DC,DB];rfl
 ·rw [show decide (((3:Nat):Int)=ic 0)=false from rfl,show decide (((3:Nat):Int)=ic 1)=false from rfl,show decide (((3:Nat):Int)=ic 2)=false from rfl,show decide (((3:Nat):Int)=ic 3)=true from rfl,DC,DC,DC,DB];rfl
theorem Dl (N:Nat) (l:LI) (D:Nat) (hD:D≤4) (K:Out→St→DG):∀ (d i n:Nat),i+d=D→d < n →
  DR (QH N) (DD R9 [1,1,0,1,0,0]) ⟨[1,4,5,9,10],[4,5],[]⟩ n (jR l D i (i:Int)) K=K (.exit 0) (jR l D D (D:Int))
 | 0,i,n+1,hd,hn=>by
  have hi:i=D:=by omega
  subst hi;rw [DY];refine (Hr N l _ _ 0 0 0 0 0 0 0 0 0 0 (cond (BN 0 i) (LF l 0) 0) (cond (BN 0 i) (KQ l 0) 0) (cond (BN 1 i) (LF l 1) 0) (cond (BN 1 i) (KQ l 1) 0) (cond (BN 2 i) (LF l 2) 0) (cond (BN 2 i) (KQ l 2) 0) (cond (BN 3 i) (LF l 3) 0) (cond (BN 3 i) (KQ l 3) 0) 0 0 _ _).trans ?_;rw [AL (show ¬ (i:Int) < (i:Int) by omega),DC];rfl
 | d+1,i,n+1,hd,hn=>by
  rw [DY,zdD N l D i (by omega) (by omega)];exact Dl N l D hD K d (i+1) n (by omega) (by omega)
 | _,_,0,_,h=>by omega
theorem Fk:DO PR B0 6 T3:=by
 refine DX [(7,LL),(15,OC)] [(3,⟨[1,4,5,9,10],[4,5],[]⟩)] T3 [[.z,.z,.z,.z,.z,.z,.z,.z,.z,.z]] Tryz.func6 Wc
  ⟨YD,jK,trivial⟩ ?_
 intro vs r hwf h;unfold T3 at h;split at h
 ·rename_i d c b0 b1 b2 ts l;cases hc:(decide (0≤d)&&decide (d≤4)) with
  | false=>rw [hc] at h; simp [R.get] at h
  | true=>
   rw [hc,R.get_br,DB,R.get_ok] at h;simp only [AG,AP] at hc;refine ⟨10,?_⟩;rw [← h];refine (za9 10 d c b0 b1 b2 ts l).trans ?_;obtain ⟨D,rfl⟩:∃ D:Nat,d=D:=⟨d.toNat,by omega⟩;refine (Dl 10 l D (by omega) _ D 0 10 (by omega) (by omega)).trans ?_;refine (Sk 10 l D D 0 0 0 0 0 0 0 0 0 0 (cond (BN 0 D) (LF l 0) 0) (cond (BN 0 D) (KQ l 0) 0) (cond (BN 1 D) (LF l 1) 0) (cond (BN 1 D) (KQ l 1) 0) (cond (BN 2 D) (LF l 2) 0) (cond (BN 2 D) (KQ l 2) 0) (cond (BN 3 D) (LF l 3) 0) (cond (BN 3 D) (KQ l 3) 0) 0 0).trans ?_;have hD:D=0∨D=1∨D=2∨D=3∨D=4:=by omega
   rcases hD with rfl | rfl | rfl | rfl | rfl <;> rfl
 ·simp [R.get] at h
open Go
def QJ:DK
 | [.int .i64 n,.int .i64 w]=>.br (decide (w=32)) (.ok (.bool (EY n)) []) .no
 | _=>.no
def TZ:DK
 | [.int .i64 a,.int .i64 w]=>.br (decide (0≤a)&&decide (a < 64)) (.ok (.bool (decide (1≤w)&&decide (w≤64 - a))) []) .no
 | _=>.no
def VL (w:Int):Int:=(18446744073709551615:Int).fdiv (2 ^ (64 - w).toNat)
def T1:DK
 | [.int .i64 w]=>.br (decide (1≤w)&&decide (w≤64)) (.ok (.int .u64 (VL w)) []) .no
 | _=>.no
def Nu (a b:Int):Int:=JX (ic (CC (A0 (AO AJ) a &&& ~~~ (A0 (AO AJ) b))))
def OV (x a w y:Int):Int:=cX (Nu x (YB (VL w) a.toNat)) (fE (YB y a.toNat) (YB (VL w) a.toNat))
def HM (x a w:Int):Int:=fE (x.fdiv (2 ^ a.toNat)) (VL w)
def Y9:DK
 | [.int .u64 x,.int .i64 a,.int .i64 w,.int .u64 y]=>.br (decide (0≤a)&&(decide (a < 64)&&(decide (1≤w)&&decide (w≤64 - a)))) (.ok (.int .u64 (OV x a w y)) []) .no
 | _=>.no
def QK:DK
 | [.int .u64 x,.int .i64 a,.int .i64 w]=>.br (decide (0≤a)&&(decide (a < 64)&&(decide (1≤w)&&decide (w≤64 - a)))) (.ok (.int .u64 (HM x a w)) []) .no
 | _=>.no
def rV (n:Int):Int:=(FC (n*2 ^ 32)).fdiv (2 ^ 32)
def ZB:DK
 | [.int .i64 n,.int .i64 w]=>.br (decide (w=32)) (.ok (.int .i64 (rV n)) []) .no
 | _=>.no
def NC (x:Int):Int:=rV (FC (HM x 0 32))
def ZA:DK
 | [.int .u64 x,.int .i64 a,.int .i64 w]=>.br (decide (a=0)&&decide (w=32)) (.ok (.int .i64 (NC x)) []) .no
 | _=>.no
structure Nd where
 lf:Bool
 v:Int
 f:Int
 a:Int
 l:Int
 r:Int
def Nd.eq (x y:Nd):Bool:=(x.lf==y.lf)&&((x.v==y.v)&&((x.f==y.f)&&((x.a==y.a)&&((x.l==y.l)&&((x.r==y.r)&&true)))))
def Nd.zero:Nd:=⟨false,0,0,0,0,0⟩
def QV (n:Int):Bool:=decide (1≤n)&&decide (n < 31)
def aI:DK
 | [.int .i64 n]=>.ok (.bool (QV n)) []
 | _=>.no
def NA (x:Nd):Bool:=
 cond x.lf (x.eq ⟨true,x.v,0,0,0,0⟩&&EY x.v)
  ((x.v==0)&&(decide (0≤x.f)&&(decide (x.f < 4)&&(EY x.a&&(QV x.l&&QV x.r)))))
def aG:DK
 | [.agg [.bool lf,.int .i64 v,.int .i64 f,.int .i64 a,.int .i64 l,.int .i64 r]]=>.ok (.bool (NA ⟨lf,v,f,a,l,r⟩)) []
 | _=>.no
def II (x:Nd):Int:=
 cond (NA x)
  (cond x.lf (OV 9223372036854775808 0 32 (JX x.v))
   (OV (OV (OV (OV 0 0 32 (JX x.a)) 32 4 (JX x.f)) 40 8 (JX x.l)) 48 8 (JX x.r)))
  0
def UD:DK
 | [.agg [.bool lf,.int .i64 v,.int .i64 f,.int .i64 a,.int .i64 l,.int .i64 r]]=>.ok (.int .u64 (II ⟨lf,v,f,a,l,r⟩)) []
 | _=>.no
def VX (w:Int):Nd:=
 cond (HM w 63 1==0) ⟨false,0,FC (HM w 32 4),NC w,FC (HM w 40 8),FC (HM w 48 8)⟩ ⟨true,NC w,0,0,0,0⟩
def GA (w:Int):Bool:=!(w==0)&&(II (VX w)==w)
def DE (w:Int):Nd:=cond (GA w) (VX w) Nd.zero
def LN:DK
 | [.int .u64 w]=>.ok (.tup [.agg [.bool (DE w).lf,.int .i64 (DE w).v,.int .i64 (DE w).f,.int .i64 (DE w).a,.int .i64 (DE w).l,.int .i64 (DE w).r],.bool (GA w)]) []
 | _=>.no
def aH:DK
 | [.int .i64 a,.int .i64 w,.bor [.int .u64 x]]=>.br (decide (0≤a)&&(decide (a < 64)&&(decide (1≤w)&&decide (w≤64 - a)))) (.ok (.int .i64 (FC (HM x a w))) [[.int .u64 x]]) .no
 | _=>.no
def KH (x:Nd) (j:Nat):Nat:=cond x.lf 0 ((if x.l=(j:Int) then 1 else 0)+(if x.r=(j:Int) then 1 else 0))
def H2 (l:LI) (j:Nat):Nat:=(l.map fun w=>KH (DE w.toInt) j).sum
def M4 (dim n:Int) (i:Nat) (x:Nd):Bool:=
 cond x.lf true (!(decide (x.f≥dim))&&(!(x.l==x.r)&&(!(decide (min x.l x.r≤(i:Int)))&&!(decide (max x.l x.r≥n)))))
def KI (dim n:Int):Nat→LI→Bool
 | _,[]=>true
 | i,w :: r=>(GA w.toInt&&M4 dim n i (DE w.toInt))&&KI dim n (i+1) r
def XY (l:LI):Bool:=(vaQ (l.length - 1)).all fun j=>H2 l (j+1)==1
def FY (l:LI) (dim:Int):Bool:=(BS 1 l.length&&BS l.length 31)&&(KI dim (ic l.length) 0 l&&XY l)
def UQ:DK
 | [.list false [.int .u64] l,.int .i64 dim]=>.ok (.bool (FY l dim)) []
 | _=>.no
structure Md where
 d:Int
 c:Int
 b0:Int
 b1:Int
 b2:Int
 ts:LI
def HW (d c:Int) (t:IV):Bool:=!(decide ((t.cell 0).toInt < 0))&&(!(decide ((t.cell 0).toInt≥c))&&FY (t.cell 1).toList d)
def H6 (c j b:Int):Bool:=EY b&&!(decide (j≥c)&&!(b==0))
def EQ (m:Md):Bool:=
 (!(decide (m.d < 1))&&(!(decide (m.d > 4))&&(!(decide (m.c < 1))&&(!(decide (m.c > 3))&&BS m.ts.length 8)))) &&
  ((H6 m.c 0 m.b0&&(H6 m.c 1 m.b1&&H6 m.c 2 m.b2))&&m.ts.all (HW m.d m.c))
abbrev K9:List Kd:=[.z,.list false [.int .u64]]
def UC:DK
 | [.agg [.int .i64 k,.list false [.int .u64] l],.bor [.int .i64 d,.int .i64 c,.int .i64 b0,.int .i64 b1,.int .i64 b2,.list true [.z,.list false [.int .u64]] ts]]=>
  .ok (.bool (!(HW d c (.agg [.int k,.list l])))) [[.int .i64 d,.int .i64 c,.int .i64 b0,.int .i64 b1,.int .i64 b2,.list true K9 ts]]
 | _=>.no
def VF (d c:Int):LI→Int→Int
 | [],_ => -1
 | t :: r,i=>cond (HW d c t) (VF d c r (i+1)) i
def aU:DK
 | [.list true [.z,.list false [.int .u64]] l,.clo 38 [.bor [.int .i64 d,.int .i64 c,.int .i64 b0,.int .i64 b1,.int .i64 b2,.list true [.z,.list false [.int .u64]] ts]]]=>
  .ok (.int .i64 (VF d c l 0)) [[.int .i64 d,.int .i64 c,.int .i64 b0,.int .i64 b1,.int .i64 b2,.list true K9 ts]]
 | _=>.no
def aT:DK
 | [.list true [.z,.list false [.int .u64]] l,.clo 38 [.bor [.int .i64 d,.int .i64 c,.int .i64 b0,.int .i64 b1,.int .i64 b2,.list true [.z,.list false [.int .u64]] ts]]]=>
  .ok (.bool (!(l.all (HW d c)))) [[.int .i64 d,.int .i64 c,.int .i64 b0,.int .i64 b1,.int .i64 b2,.list true K9 ts]]
 | _=>.no
def LM:DK
 | [.agg [.int .i64 d,.int .i64 c,.int .i64 b0,.int .i64 b1,.int .i64 b2,.list true [.z,.list false [.int .u64]] ts]]=>.ok (.bool (EQ ⟨d,c,b0,b1,b2,ts⟩)) []
 | _=>.no
abbrev TE:BA:=⟨#[102,111,114,101,115,116]⟩
abbrev N7:BA:=⟨#[98,105,97,115]⟩
abbrev TG:BA:=⟨#[116,114,101,101]⟩
abbrev YO:BA:=⟨#[108,101,97,102]⟩
abbrev rO:BA:=⟨#[105,102]⟩
abbrev rP:BA:=⟨#[60,61]⟩
abbrev rR:BA:=⟨#[116,104,101,110]⟩
abbrev rM:BA:=⟨#[101,108,115,101]⟩
abbrev WE:BA:=⟨#[10]⟩
def FQ (ws:List BA):BA:=HE ws IC++WE
def HA:List (List BA)→BA
 | []=>CH
 | l :: r=>FQ l++HA r
def SO (x:Nd):List BA:=
 cond x.lf [YO,D0 x.v] [rO,DP x.f,rP,D0 x.a,rR,DP x.l,rM,DP x.r]
def PY (l:LI):List (List BA):=l.map fun w=>SO (DE w.toInt)
def V9 (t:IV):List (List BA):=[TG,DP (t.cell 0).toInt,DP (ic (t.cell 1).toList.length)] :: PY (t.cell 1).toList
def QA:LI→List (List BA)
 | []=>[]
 | t :: r=>V9 t++QA r
def gT (m:Md):List (List BA):=[[TE,DP m.d,DP m.c],N7 :: ([m.b0,m.b1,m.b2].take m.c.toNat).map D0]
def zQ (m:Md):List (List BA):=gT m++QA m.ts
def dA (m:Md):BA:=cond (EQ m) (HA (zQ m)) kF
def FP (s:BA) (most:Int):Int:=cond (OF s&&(!(decide (FV s < 0))&&!(decide (FV s > most)))) (FV s) 0
def E3 (ls:LI):LI:=match ls with | []=>[] | l :: _=>G5 l.toStr
def VW (l:LI):Nd:=
 cond ((D2 l 0).toList==YO.toList) ⟨true,GI (D2 l 1),0,0,0,0⟩ ⟨false,0,FP (D2 l 1) 4,GI (D2 l 3),FP (D2 l 5) 31,FP (D2 l 7) 31⟩
def N0 (ls:LI) (k:Nat):LI:=(vaQ k).map fun i=>.int (II (VW (E3 (ls.drop i))))
def M8 (ls:LI):Nat:=(FP (D2 (E3 ls) 2) 31).toNat
def i6 (ls:LI):IV:=.agg [.int (FP (D2 (E3 ls) 1) 3),.list (N0 (ls.drop 1) (M8 ls))]
def M9:Nat→LI→LI
 | 0,_=>[]
 | n+1,ls=>match ls with
  | []=>[]
  | l :: r=>i6 (l :: r) :: M9 n (r.drop (M8 (l :: r)))
def LY (ls:LI) (c:Int) (j:Nat):Int:=cond (decide ((j:Int) < c)) (GI (D2 (E3 (ls.drop 1)) (1+j))) 0
def iY (ls:LI):Int:=FP (D2 (E3 ls) 2) 3
def zdB (ls:LI):Md:=⟨FP (D2 (E3 ls) 1) 4,iY ls,LY ls (iY ls) 0,LY ls (iY ls) 1,LY ls (iY ls) 2,M9 9 (ls.drop 2)⟩
def VE (s t:BA):Bool:=decide (t.size≤s.size)&&(s.extract (s.size - t.size) s.size).toList==t.toList
def I0 (s t:BA):BA:=cond (VE s t) (s.extract 0 (s.size - t.size)) s
def rD (s:BA):BA:=I0 s WE
def cL (s:BA):LI:=(D7 (rD s) WE).map IV.str
def fM (s:BA):Md:=zdB (cL s)
def Md.zero:Md:=⟨0,0,0,0,0,[]⟩
def YK (s:BA):Bool:=!(s.toList==kF.toList)&&(dA (fM s)).toList==s.toList
def IZ (s:BA):Md:=cond (YK s) (fM s) Md.zero
def JT (l:LI):Bool:=l.all fun x=>decide (x.toStr.size < 4294967281)
def aY:DK
 | [.bor [.bld s],.list false [.str] ws]=>.br (BS ws.length 1000&&decide (s.size+(FQ (ws.map IV.toStr)).size≤1000000000)) (.ok (.tup []) [[.bld (s++FQ (ws.map IV.toStr))]]) .no
 | _=>.no
def UL:DK
 | [.agg [.int .i64 d,.int .i64 c,.int .i64 b0,.int .i64 b1,.int .i64 b2,.list true [.z,.list false [.int .u64]] ts]]=>.ok (.str (dA ⟨d,c,b0,b1,b2,ts⟩)) []
 | _=>.no
def UN:DK
 | [.bor [.list false [.str] ls]]=>.br (JT ls) (.ok (.list false [.str] (E3 ls)) [[.list false [.str] (ls.drop 1)]]) .no
 | _=>.no
def UP:DK
 | [.list false [.str] l,.int .i64 i]=>.br (decide (0≤i)) (.ok (.str (D2 l i.toNat)) []) .no
 | _=>.no
def UM:DK
 | [.str s,.int .i64 most]=>.ok (.int .i64 (FP s most)) []
 | _=>.no
def UO:DK
 | [.str s]=>.br (decide (s.size < 4294967281)) (.ok (.int .i64 (GI s)) []) .no
 | _=>.no
def aZ:DK
 | [.bor [.list false [.str] ls]]=>.br (JT ls) (.ok (.int .u64 (II (VW (E3 ls)))) [[.list false [.str] (ls.drop 1)]]) .no
 | _=>.no
def Z9:DK
 | [.str s,.str t]=>.ok (.bool (VE s t)) []
 | _=>.no
def aA:DK
 | [.str s,.str t]=>.ok (.str (I0 s t)) []
 | _=>.no
def UK:DK
 | [.str s,.str t]=>.ok (.str (I0 s t)) []
 | _=>.no
def aX:DK
 | [.str s]=>.br (decide (s.size < 4294967281)) (.ok (.tup [.agg [.int .i64 (IZ s).d,.int .i64 (IZ s).c,.int .i64 (IZ s).b0,.int .i64 (IZ s).b1,.int .i64 (IZ s).b2,.list true K9 (IZ s).ts],.bool (YK s)]) []) .no
 | _=>.no
open Go Go.Proofs
def Kr (N:Nat):Env:=DV [] [] 25 N
theorem zaO (N:Nat) (n w:Int):DQ (Kr N) tI [.tmp 4] [[.bool]] [.i n,.i w]=(cond (decide (w < 1)) (some ((.bool false),[])) (cond (decide (w > 64)) (some ((.bool false),[])) (cond (decide (AA AJ (AA AB (w - 1)) < 0)) none (cond (vaR n (2 ^ min (AD (AA AJ (AA AB (w - 1)))) (AO AB))==0) (some ((.bool true),[])) (cond (decide (AA AJ (AA AB (w - 1)) < 0)) none (some ((.bool (vaR n (2 ^ min (AD (AA AJ (AA AB (w - 1)))) (AO AB)) == -1)),[]))))))):=by kernel_rfl
def Kv (N:Nat):Env:=DV [] [] 21 N
theorem zaS (N:Nat) (n w:Int):DQ (Kv N) tM [.tmp 4] [[.z]] [.i n,.i w]=(cond (decide (w < 1)) (some ((.i n),[])) (cond (decide (w≥64)) (some ((.i n),[])) (cond (decide (AA AJ (AA AB (64 - w)) < 0)) none (cond (decide (AA AJ (AA AB (64 - w)) < 0)) none (some ((.i (vaR (AA AB (n*2 ^ min (AD (AA AJ (AA AB (64 - w)))) (AO AB))) (2 ^ min (AD (AA AJ (AA AB (64 - w)))) (AO AB)))),[])))))):=by kernel_rfl
def Kw (N:Nat):Env:=DV [] [] 21 N
theorem zaT (N:Nat) (atv w:Int):DQ (Kw N) tN [.tmp 4] [[.bool]] [.i atv,.i w]=(cond (decide (atv≥0)) (cond (decide (atv < 64)) (cond (decide (w≥1)) (some ((.bool (decide (w≤AA AB (64 - atv)))),[])) (some ((.bool false),[]))) (some ((.bool false),[]))) (some ((.bool false),[]))):=by kernel_rfl
def Kx (N:Nat):Env:=DV [] [] 7 N
theorem zaU (N:Nat) (w:Int):DQ (Kx N) tO [.tmp 2] [[.int .u64]] [.i w]=(cond (decide (AA AJ (AA AB (64 - w)) < 0)) none (some ((.int .u64 (vaR 18446744073709551615 (2 ^ min (AD (AA AJ (AA AB (64 - w)))) (AO AJ)))),[]))):=by kernel_rfl
def Kt (N:Nat):Env:=DV [(132,TZ),(133,T1)] [] 30 N
theorem zaQ (N:Nat) (x atv w y:Int):DQ (Kt N) tK [.tmp 8] [[.int .u64]] [.int .u64 x,.i atv,.i w,.int .u64 y]=(cond (decide (0≤atv)&&decide (atv < 64)) (cond (! (decide (1≤w)&&decide (w≤64 - atv))) (some ((.int .u64 x),[])) (cond (decide (1≤w)&&decide (w≤64)) (cond (decide (AA AJ atv < 0)) none (cond (decide (AA AJ atv < 0)) none (some ((.int .u64 (AA AJ (ic (CC (A0 (AO AJ) (AA AJ (ic (CC (A0 (AO AJ) x &&& ~~~A0 (AO AJ) (AA AJ (VL w*2 ^ min (AD (AA AJ atv)) (AO AJ))))))) ||| A0 (AO AJ) (AA AJ (ic (CC (A0 (AO AJ) (AA AJ (y*2 ^ min (AD (AA AJ atv)) (AO AJ))) &&& A0 (AO AJ) (AA AJ (VL w*2 ^ min (AD (AA AJ atv)) (AO AJ)))))))))))),[])))) none)) none):=by kernel_rfl
def Ks (N:Nat):Env:=DV [(132,TZ),(133,T1)] [] 18 N
theorem zaP (N:Nat) (x atv w:Int):DQ (Ks N) tJ [.tmp 6] [[.int .u64]] [.int .u64 x,.i atv,.i w]=(cond (decide (0≤atv)&&decide (atv < 64)) (cond (! (decide (1≤w)&&decide (w≤64 - atv))) (some ((.int .u64 0),[])) (cond (decide (AA AJ atv < 0)) none (cond (decide (1≤w)&&decide (w≤64)) (some ((.int .u64 (AA AJ (ic (CC (A0 (AO AJ) (vaR x (2 ^ min (AD (AA AJ atv)) (AO AJ))) &&& A0 (AO AJ) (VL w)))))),[])) none))) none):=by kernel_rfl
def Ku (N:Nat):Env:=DV [(93,QK),(131,ZB)] [] 14 N
theorem zaR (N:Nat) (x atv w:Int):DQ (Ku N) tL [.tmp 6] [[.z]] [.int .u64 x,.i atv,.i w]=(cond (decide (0≤atv)&&(decide (atv < 64)&&(decide (1≤w)&&decide (w≤64 - atv)))) (cond (decide (w=32)) (some ((.i (rV (AA AB (HM x atv w)))),[])) none) none):=by kernel_rfl
def Ml (N:Nat):Env:=DV [] [] 9 N
theorem zbT (N:Nat) (n:Int):DQ (Ml N) uX [.tmp 2] [[.bool]] [.i n]=(cond (decide (n≥1)) (some ((.bool (decide (n < 31))),[])) (some ((.bool false),[]))):=by kernel_rfl
def Mi (N:Nat):Env:=DV [(36,QJ),(169,aI)] [] 43 N
theorem zbQ (N:Nat) (u01:Bool) (u04 u00 n_At u02 u03:Int):DQ (Mi N) uU [.tmp 2] [[.bool]] [.agg [.bool u01,.i u04,.i u00,.i n_At,.i u02,.i u03]]=(cond u01 (cond (u01==true&&(u04==u04&&(u00==0&&(n_At==0&&(u02==0&&(u03==0&&true)))))) (some ((.bool (EY u04)),[])) (some ((.bool false),[]))) (cond (u04==0) (cond (decide (u00≥0)) (cond (decide (u00 < 4)) (cond (EY n_At) (cond (QV u02) (some ((.bool (QV u03)),[])) (some ((.bool false),[]))) (some ((.bool false),[]))) (some ((.bool false),[]))) (some ((.bool false),[]))) (some ((.bool false),[])))):=by kernel_rfl
def Mh (N:Nat):Env:=DV [(135,Y9),(134,aG)] [] 32 N
theorem zbP (N:Nat) (u01:Bool) (u04 u00 n_At u02 u03:Int):DQ (Mh N) uT [.tmp 2] [[.int .u64]] [.agg [.bool u01,.i u04,.i u00,.i n_At,.i u02,.i u03]]=(cond (!NA {lf:=u01,v:=u04,f:=u00,a:=n_At,l:=u02,r:=u03}) (some ((.int .u64 0),[])) (cond u01 (some ((.int .u64 (OV 9223372036854775808 0 32 (AA AJ u04))),[])) (some ((.int .u64 (OV (OV (OV (OV 0 0 32 (AA AJ n_At)) 32 4 (AA AJ u00)) 40 8 (AA AJ u02)) 48 8 (AA AJ u03))),[])))):=by kernel_rfl
def Mk (N:Nat):Env:=DV [(93,QK)] [] 11 N
theorem zbS (N:Nat) (a w x:Int):DQ (Mk N) uW [.tmp 5] [[.z]] [.i a,.i w,.bor [.int .u64 x]]=(cond (decide (0≤a)&&(decide (a < 64)&&(decide (1≤w)&&decide (w≤64 - a)))) (some ((.i (AA AB (HM x a w))),[[.int .u64 x]])) none):=by kernel_rfl
def Mj (N:Nat):Env:=DV [(93,QK),(92,ZA),(95,UD),(94,aH)] [] 33 N
theorem zbR (N:Nat) (w:Int):DQ (Mj N) uV [.cell 2 82,.tmp 3] [[.bool,.z,.z,.z,.z,.z],[.bool]] [.int .u64 w]=(cond (HM w 63 1==0) (cond (w==0) (some ((.tup [.agg [.bool false,.i 0,.i 0,.i 0,.i 0,.i 0],.bool false]),[])) (cond (II {lf:=false,v:=0,f:=FC (HM w 32 4),a:=NC w,l:=FC (HM w 40 8),r:=FC (HM w 48 8)} != w) (some ((.tup [.agg [.bool false,.i 0,.i 0,.i 0,.i 0,.i 0],.bool false]),[])) (some ((.tup [.agg [.bool false,.i 0,.i (FC (HM w 32 4)),.i (NC w),.i (FC (HM w 40 8)),.i (FC (HM w 48 8))],.bool true]),[])))) (cond (w==0) (some ((.tup [.agg [.bool false,.i 0,.i 0,.i 0,.i 0,.i 0],.bool false]),[])) (cond (II {lf:=true,v:=NC w,f:=0,a:=0,l:=0,r:=0} != w) (some ((.tup [.agg [.bool false,.i 0,.i 0,.i 0,.i 0,.i 0],.bool false]),[])) (some ((.tup [.agg [.bool true,.i (NC w),.i 0,.i 0,.i 0,.i 0],.bool true]),[]))))):=by kernel_rfl
open Go Go.Proofs
theorem rE {n:Int} (h0:0≤n) (h1:n < 18446744073709551616):AA AJ n=n:=by
 rw [zgd];omega
theorem p8:DO PR B0 36 QJ:=by
 refine DX [] [] QJ [[.bool]] Tryz.func36 Uz trivial ?_;intro vs r hwf h;unfold QJ at h;split at h
 ·rename_i n w;cases hc:decide (w=32) with
  | false=>rw [hc] at h; simp [R.get] at h
  | true=>
   rw [hc,R.get_br,DB,R.get_ok] at h;have hc:=AY hc;subst hc;refine ⟨0,?_⟩;rw [← h];refine (zaO 0 n 32).trans ?_;have e3:decide (AA AJ (AA AB ((32:Int) - 1)) < 0)=false:=by kernel_rfl
   have e4:(2:Int) ^ min (AD (AA AJ (AA AB ((32:Int) - 1)))) (AO AB)=2147483648:=by kernel_rfl
   rw [e3,e4,AL (show ¬ (32:Int) < 1 by omega),AL (show ¬ (32:Int) > 64 by omega),DC,DC,DC,DC];have h0:=Int.fdiv_mul_add_fmod n 2147483648;have h1:=Int.fmod_nonneg_of_pos n (show (0:Int) < 2147483648 by omega);have h2:=Int.fmod_lt_of_pos n (show (0:Int) < 2147483648 by omega);generalize vaR n 2147483648=q at h0 ⊢;generalize Int.fmod n 2147483648=m at h0 h1 h2;unfold EY;rw [R4,R4];cases hq:decide (q=0) with
   | true=>
    have hq:=AY hq;rw [AF (show -2147483648≤n by omega),AF (show n≤2147483647 by omega)];rfl
   | false=>
    have hq:=BE hq;cases hp:decide (q = -1) with
    | true=>
     have hp:=AY hp;rw [AF (show -2147483648≤n by omega),AF (show n≤2147483647 by omega)];rfl
    | false=>
     have hp:=BE hp;rw [DC];congr 3
     symm
     rw [Bool.and_eq_false_iff,BL,BL];omega
 ·simp [R.get] at h
theorem zej:DO PR B0 131 ZB:=by
 refine DX [] [] ZB [[.z]] Tryz.func131 Ve trivial ?_;intro vs r hwf h;unfold ZB at h;split at h
 ·rename_i n w;cases hc:decide (w=32) with
  | false=>rw [hc] at h; simp [R.get] at h
  | true=>
   rw [hc,R.get_br,DB,R.get_ok] at h;have hc:=AY hc;subst hc;refine ⟨0,?_⟩;rw [← h];refine (zaS 0 n 32).trans ?_;have e3:decide (AA AJ (AA AB ((64:Int) - 32)) < 0)=false:=by kernel_rfl
   have e4:min (AD (AA AJ (AA AB ((64:Int) - 32)))) (AO AB)=32:=by kernel_rfl
   rw [e3,e4,AL (show ¬ (32:Int) < 1 by omega),AL (show ¬ (32:Int)≥64 by omega),DC,DC,DC,DC];rfl
 ·simp [R.get] at h
theorem Fh:DO PR B0 132 TZ:=by
 refine DX [] [] TZ [[.bool]] Tryz.func132 Vf trivial ?_;intro vs r hwf h;unfold TZ at h;split at h
 ·rename_i a w;cases hc:(decide (0≤a)&&decide (a < 64)) with
  | false=>rw [hc] at h; simp [R.get] at h
  | true=>
   rw [hc,R.get_br,DB,R.get_ok] at h;rw [AG,AP,AP] at hc;refine ⟨0,?_⟩;rw [← h];refine (zaT 0 a w).trans ?_;have e:AA AB (64 - a)=64 - a:=EA (by omega) (by omega);have e1:decide (w≥1)=decide (1≤w):=rfl;rw [AF (show a≥0 by omega),AF hc.2,DB,DB,e,e1];cases decide (1≤w) <;> rfl
 ·simp [R.get] at h
theorem Fi:DO PR B0 133 T1:=by
 refine DX [] [] T1 [[.int .u64]] Tryz.func133 Vg trivial ?_;intro vs r hwf h;unfold T1 at h;split at h
 ·rename_i w;cases hc:(decide (1≤w)&&decide (w≤64)) with
  | false=>rw [hc] at h; simp [R.get] at h
  | true=>
   rw [hc,R.get_br,DB,R.get_ok] at h;rw [AG,AP,AP] at hc;refine ⟨0,?_⟩;rw [← h];refine (zaU 0 w).trans ?_;have e:AA AB (64 - w)=64 - w:=EA (by omega) (by omega);have e2:AA AJ (64 - w)=64 - w:=rE (by omega) (by omega);have e3:min (64 - w).toNat (AO AJ)=(64 - w).toNat:=by
    have:AO AJ=64:=rfl
    omega
   rw [e,e2,e3,AL (show ¬ (64 - w < 0) by omega),DC];rfl
 ·simp [R.get] at h
theorem xY {a w:Int} (hc:(decide (0≤a)&&(decide (a < 64)&&(decide (1≤w)&&decide (w≤64 - a))))=true):0≤a∧a < 64∧1≤w∧w≤64 - a:=by
 simpa only [AG,AP] using hc
theorem zeh:DO PR B0 135 Y9:=by
 refine DX [(132,TZ),(133,T1)] [] Y9 [[.int .u64]] Tryz.func135 Vb ⟨Fh,Fi,trivial⟩ ?_;intro vs r hwf h;unfold Y9 at h;split at h
 ·rename_i x a w y;cases hc:(decide (0≤a)&&(decide (a < 64)&&(decide (1≤w)&&decide (w≤64 - a)))) with
  | false=>rw [hc] at h; simp [R.get] at h
  | true=>
   rw [hc,R.get_br,DB,R.get_ok] at h;obtain ⟨h1,h2,h3,h4⟩:=xY hc;refine ⟨0,?_⟩;rw [← h];refine (zaQ 0 x a w y).trans ?_;have e2:AA AJ a=a:=rE (by omega) (by omega);have e3:min a.toNat (AO AJ)=a.toNat:=by
    have:AO AJ=64:=rfl
    omega
   rw [e2,e3,AF h1,AF h2,AF h3,AF h4,AF (show w≤64 by omega),AL (show ¬ a < 0 by omega)];simp only [BH,A1,DB,DC];rfl
 ·simp [R.get] at h
theorem p9:DO PR B0 93 QK:=by
 refine DX [(132,TZ),(133,T1)] [] QK [[.int .u64]] Tryz.func93 Va ⟨Fh,Fi,trivial⟩ ?_;intro vs r hwf h;unfold QK at h;split at h
 ·rename_i x a w;cases hc:(decide (0≤a)&&(decide (a < 64)&&(decide (1≤w)&&decide (w≤64 - a)))) with
  | false=>rw [hc] at h; simp [R.get] at h
  | true=>
   rw [hc,R.get_br,DB,R.get_ok] at h;obtain ⟨h1,h2,h3,h4⟩:=xY hc;refine ⟨0,?_⟩;rw [← h];refine (zaP 0 x a w).trans ?_;have e2:AA AJ a=a:=rE (by omega) (by omega);have e3:min a.toNat (AO AJ)=a.toNat:=by
    have:AO AJ=64:=rfl
    omega
   rw [e2,e3,AF h1,AF h2,AF h3,AF h4,AF (show w≤64 by omega),AL (show ¬ a < 0 by omega)];simp only [BH,A1,DB,DC];rfl
 ·simp [R.get] at h
theorem zei:DO PR B0 92 ZA:=by
 refine DX [(93,QK),(131,ZB)] [] ZA [[.z]] Tryz.func92 Vc ⟨p9,zej,trivial⟩ ?_;intro vs r hwf h;unfold ZA at h;split at h
 ·rename_i x a w;cases hc:(decide (a=0)&&decide (w=32)) with
  | false=>rw [hc] at h; simp [R.get] at h
  | true=>
   rw [hc,R.get_br,DB,R.get_ok] at h;rw [AG,AP,AP] at hc;obtain ⟨rfl,rfl⟩:=hc;refine ⟨0,?_⟩;rw [← h];refine (zaR 0 x 0 32).trans ?_;rfl
 ·simp [R.get] at h
theorem ze6:DO PR B0 169 aI:=by
 refine DX [] [] aI [[.bool]] Tryz.func169 Xv trivial ?_;intro vs r hwf h;unfold aI at h;split at h
 ·rename_i n;refine ⟨0,?_⟩;rw [R.get_ok] at h;rw [← h];refine (zbT 0 n).trans ?_;unfold QV;have e1:decide (n≥1)=decide (1≤n):=rfl;rw [e1];cases decide (1≤n) <;> rfl
 ·simp [R.get] at h
theorem ze4:DO PR B0 134 aG:=by
 refine DX [(36,QJ),(169,aI)] [] aG [[.bool]] Tryz.func134 Xs ⟨p8,ze6,trivial⟩ ?_;intro vs r hwf h;unfold aG at h;split at h
 ·rename_i lf v f a l r';refine ⟨0,?_⟩;rw [← h];refine (zbQ 0 lf v f a l r').trans ?_;simp only [R.get_ok,wS];unfold NA;cases lf with
  | true=>rfl
  | false=>rfl
 ·simp [R.get] at h
theorem Ga:DO PR B0 95 UD:=by
 refine DX [(135,Y9),(134,aG)] [] UD [[.int .u64]] Tryz.func95 Xr ⟨zeh,ze4,trivial⟩ ?_;intro vs r hwf h;unfold UD at h;split at h
 ·rename_i lf v f a l r';refine ⟨0,?_⟩;rw [← h];refine (zbP 0 lf v f a l r').trans ?_;unfold II;cases NA ⟨lf,v,f,a,l,r'⟩ with
  | false=>rfl
  | true=>cases lf <;> rfl
 ·simp [R.get] at h
theorem ze5:DO PR B0 94 aH:=by
 refine DX [(93,QK)] [] aH [[.z]] Tryz.func94 Xu ⟨p9,trivial⟩ ?_;intro vs r hwf h;unfold aH at h;split at h
 ·rename_i a w x;cases hc:(decide (0≤a)&&(decide (a < 64)&&(decide (1≤w)&&decide (w≤64 - a)))) with
  | false=>rw [hc] at h; simp [R.get] at h
  | true=>
   rw [hc,R.get_br,DB,R.get_ok] at h;refine ⟨0,?_⟩;rw [← h];refine (zbS 0 a w x).trans ?_;rw [hc];rfl
 ·simp [R.get] at h
theorem YF:DO PR B0 55 LN:=by
 refine DX [(93,QK),(92,ZA),(95,UD),(94,aH)] [] LN [[.bool,.z,.z,.z,.z,.z],[.bool]] Tryz.func55 Xt ⟨p9,zei,Ga,ze5,trivial⟩ ?_;intro vs r hwf h;unfold LN at h;split at h
 ·rename_i w;refine ⟨0,?_⟩;rw [← h];refine (zbR 0 w).trans ?_;rw [R.get_ok];unfold DE GA VX;cases (HM w 63 1==0) with
  | true=>
   simp only [CT];cases hw:(w==0) with
   | true=>rfl
   | false=>
    simp only [CG,A9,BG];have e:(II ⟨false,0,FC (HM w 32 4),NC w,FC (HM w 40 8),FC (HM w 48 8)⟩ != w)=!(II ⟨false,0,FC (HM w 32 4),NC w,FC (HM w 40 8),FC (HM w 48 8)⟩==w):=rfl;rw [e];cases (II ⟨false,0,FC (HM w 32 4),NC w,FC (HM w 40 8),FC (HM w 48 8)⟩==w) <;> rfl
  | false=>
   simp only [CG];cases hw:(w==0) with
   | true=>rfl
   | false=>
    simp only [CG,A9,BG];have e:(II ⟨true,NC w,0,0,0,0⟩ != w)=!(II ⟨true,NC w,0,0,0,0⟩==w):=rfl;rw [e];cases (II ⟨true,NC w,0,0,0,0⟩==w) <;> rfl
 ·simp [R.get] at h
open Go Go.Proofs
def HD (N:Nat):Env:=DV [(55,LN)] [(5,⟨[0,1,4,5,23,24,25],[22],[]⟩),(17,⟨[4,85,86,87],[22],[]⟩)] 94 N
abbrev NI (l0:LI) (x1:Int) (b4:Bool) (n5:Nat) (l23:LI) (x24 x25:Int) (lo22:LI):St:=⟨[(0,(.list false [.int .u64] l0)),(1,(.i x1)),(4,(.bool b4)),(5,(.row 22 0 n5)),(23,(.list false [.int .u64] l23)),(24,(.i x24)),(25,(.i x25))],[(22,(some (.row true 3 false [.z] lo22)))]⟩
abbrev TV (b4:Bool) (n85:Nat) (x86 x87:Int) (lo22:LI):St:=⟨[(4,(.bool b4)),(85,(.row 22 1 n85)),(86,(.i x86)),(87,(.i x87))],[(22,(some (.row true 3 false [.z] lo22)))]⟩
theorem zcu (N:Nat) (l:LI) (a1:Int):DQ (HD N) K5 [.tmp 4] [[.bool]] [.list false [.int .u64] l,.i a1]=(cond (decide (ic (AE l) < 1)) (some ((.bool false),[])) (cond (decide (ic (AE l) > 31)) (some ((.bool false),[])) (cond (BN 0 (TI.size (Env.tyd (HD N) 3))&&(BN 3 1000000&&decide (0≤ic (AE l)))&&(decide (ic (AE l)=ic (AE l))&&decide (ic (AE l)*ic (TI.bytes (Env.tyd (HD N) 3))≤ic D1))) (DR (HD N) (DD K5 [1,1,1,0,1,0,0]) ⟨[0,1,4,5,23,24,25],[22],[]⟩ N (NI l a1 false (AD (ic (AE l))) l (ic (AE l)) 0 (BB (AD (ic (AE l))) (IV.int 0))) (DI 0 (DJ (HD N) (DD K5 [1,1,1,1]) (DL (HD N) none [.tmp 4] [[.bool]])))) none))):=by kernel_rfl
theorem Iq (N:Nat) (l0:LI) (x1:Int) (b4:Bool) (n5:Nat) (l23:LI) (x24 x25:Int) (lo22:LI) (again:St→DG) (k:Out→St→DG):E4 (HD N) (DD K5 [1,1,1,0,1,0,0]) (NI l0 x1 b4 n5 l23 x24 x25 lo22) (EH again ⟨[0,1,4,5,23,24,25],[22],[]⟩ k)=(cond (decide (x25 < x24)) (cond (decide (0≤x25)&&decide (x25 < ic (AE l23))) (cond (!GA (IV.toInt (AI l23 (AD x25) default))) (k .ret (NI l0 x1 false n5 l23 x24 x25 lo22)) (cond (Nd.lf (DE (IV.toInt (AI l23 (AD x25) default)))) (again (NI l0 x1 b4 n5 l23 x24 (AA AB (x25+1)) lo22)) (cond (decide (Nd.f (DE (IV.toInt (AI l23 (AD x25) default)))≥x1)) (k .ret (NI l0 x1 false n5 l23 x24 x25 lo22)) (cond (Nd.l (DE (IV.toInt (AI l23 (AD x25) default)))==Nd.r (DE (IV.toInt (AI l23 (AD x25) default)))) (k .ret (NI l0 x1 false n5 l23 x24 x25 lo22)) (cond (decide (min (Nd.l (DE (IV.toInt (AI l23 (AD x25) default)))) (Nd.r (DE (IV.toInt (AI l23 (AD x25) default))))≤x25)) (k .ret (NI l0 x1 false n5 l23 x24 x25 lo22)) (cond (decide (max (Nd.l (DE (IV.toInt (AI l23 (AD x25) default)))) (Nd.r (DE (IV.toInt (AI l23 (AD x25) default))))≥ic (AE l0))) (k .ret (NI l0 x1 false n5 l23 x24 x25 lo22)) (cond (decide (0≤Nd.l (DE (IV.toInt (AI l23 (AD x25) default))))&&decide (Nd.l (DE (IV.toInt (AI l23 (AD x25) default))) < ic (n5 - 0))) (cond (decide (0≤Nd.l (DE (IV.toInt (AI l23 (AD x25) default))))&&decide (Nd.l (DE (IV.toInt (AI l23 (AD x25) default))) < ic (n5 - 0))) (cond (decide (0≤Nd.r (DE (IV.toInt (AI l23 (AD x25) default))))&&decide (Nd.r (DE (IV.toInt (AI l23 (AD x25) default))) < ic (n5 - 0))) (cond (decide (0≤Nd.r (DE (IV.toInt (AI l23 (AD x25) default))))&&decide (Nd.r (DE (IV.toInt (AI l23 (AD x25) default))) < ic (n5 - 0))) (again (NI l0 x1 b4 n5 l23 x24 (AA AB (x25+1)) (List.set (List.set lo22 (0+AD (Nd.l (DE (IV.toInt (AI l23 (AD x25) default))))) (M7 false [Kd.int AB] (AI lo22 (0+AD (Nd.l (DE (IV.toInt (AI l23 (AD x25) default))))) default) 0 [IV.int (AA AB (IV.toInt (AI lo22 (0+AD (Nd.l (DE (IV.toInt (AI l23 (AD x25) default))))) default)+1))])) (0+AD (Nd.r (DE (IV.toInt (AI l23 (AD x25) default))))) (M7 false [Kd.int AB] (AI (List.set lo22 (0+AD (Nd.l (DE (IV.toInt (AI l23 (AD x25) default))))) (M7 false [Kd.int AB] (AI lo22 (0+AD (Nd.l (DE (IV.toInt (AI l23 (AD x25) default))))) default) 0 [IV.int (AA AB (IV.toInt (AI lo22 (0+AD (Nd.l (DE (IV.toInt (AI l23 (AD x25) default))))) default)+1))])) (0+AD (Nd.r (DE (IV.toInt (AI l23 (AD x25) default))))) default) 0 [IV.int (AA AB (IV.toInt (AI (List.set lo22 (0+AD (Nd.l (DE (IV.toInt (AI l23 (AD x25) default))))) (M7 false [Kd.int AB] (AI lo22 (0+AD (Nd.l (DE (IV.toInt (AI l23 (AD x25) default))))) default) 0 [IV.int (AA AB (IV.toInt (AI lo22 (0+AD (Nd.l (DE (IV.toInt (AI l23 (AD x25) default))))) default)+1))])) (0+AD (Nd.r (DE (IV.toInt (AI l23 (AD x25) default))))) default)+1))])))) none) none) none) none))))))) none) (k (.exit 0) (NI l0 x1 b4 n5 l23 x24 x25 lo22))):=by kernel_rfl
theorem Tx (N:Nat) (l0:LI) (x1:Int) (b4:Bool) (n5:Nat) (l23:LI) (x24 x25:Int) (lo22:LI):(DI 0 (DJ (HD N) (DD K5 [1,1,1,1]) (DL (HD N) none [.tmp 4] [[.bool]]))) (.exit 0) (NI l0 x1 b4 n5 l23 x24 x25 lo22)=(cond (decide (0≤1)&&decide (1≤ic (n5 - 0))) (DR (HD N) (DD K5 [1,1,1,1,0,1,0,0]) ⟨[4,85,86,87],[22],[]⟩ N (TV b4 (0+(n5 - 0)) (ic (0+(n5 - 0) - 1)) 0 lo22) (DI 2 (DJ (HD N) (DD K5 [1,1,1,1,1]) (DL (HD N) none [.tmp 4] [[.bool]])))) none):=by kernel_rfl
theorem Ty (N:Nat) (l0:LI) (x1:Int) (b4:Bool) (n5:Nat) (l23:LI) (x24 x25:Int) (lo22:LI):(DI 0 (DJ (HD N) (DD K5 [1,1,1,1]) (DL (HD N) none [.tmp 4] [[.bool]]))) .ret (NI l0 x1 b4 n5 l23 x24 x25 lo22)=(some ((.bool b4),[])):=by kernel_rfl
theorem Ir (N:Nat) (b4:Bool) (n85:Nat) (x86 x87:Int) (lo22:LI) (again:St→DG) (k:Out→St→DG):E4 (HD N) (DD K5 [1,1,1,1,0,1,0,0]) (TV b4 n85 x86 x87 lo22) (EH again ⟨[4,85,86,87],[22],[]⟩ k)=(cond (decide (x87 < x86)) (cond (decide (0≤x87)&&decide (x87 < ic (n85 - 1))) (cond (IV.toInt (AI lo22 (1+AD x87) default) != 1) (k .ret (TV false n85 x86 x87 lo22)) (again (TV b4 n85 x86 (AA AB (x87+1)) lo22))) none) (k (.exit 2) (TV b4 n85 x86 x87 lo22))):=by kernel_rfl
theorem Tz (N:Nat) (b4:Bool) (n85:Nat) (x86 x87:Int) (lo22:LI):(DI 2 (DJ (HD N) (DD K5 [1,1,1,1,1]) (DL (HD N) none [.tmp 4] [[.bool]]))) (.exit 2) (TV b4 n85 x86 x87 lo22)=(some ((.bool true),[])):=by kernel_rfl
theorem Ua (N:Nat) (b4:Bool) (n85:Nat) (x86 x87:Int) (lo22:LI):(DI 2 (DJ (HD N) (DD K5 [1,1,1,1,1]) (DL (HD N) none [.tmp 4] [[.bool]]))) .ret (TV b4 n85 x86 x87 lo22)=(some ((.bool b4),[])):=by kernel_rfl
def Mg (N:Nat):Env:=DV [(39,UQ)] [] 22 N
theorem zbM (N:Nat) (k:Int) (l:LI) (d c b0 b1 b2:Int) (ts:LI):DQ (Mg N) uS [.tmp 3] [[.bool]] [.agg [.i k,.list false [.int .u64] l],.bor [.i d,.i c,.i b0,.i b1,.i b2,.list true [.z,.list false [.int .u64]] ts]]=(cond (decide (k < 0)) (some ((.bool true),[[.i d,.i c,.i b0,.i b1,.i b2,.list true [.z,.list false [.int .u64]] ts]])) (cond (decide (k≥c)) (some ((.bool true),[[.i d,.i c,.i b0,.i b1,.i b2,.list true [.z,.list false [.int .u64]] ts]])) (some ((.bool (!FY l d)),[[.i d,.i c,.i b0,.i b1,.i b2,.list true [.z,.list false [.int .u64]] ts]])))):=by kernel_rfl
def NN (N:Nat):Env:=DV [(38,UC)] [(2,⟨[0,1,4,7,8],[900000],[]⟩)] 19 N
abbrev TR (l0:LI) (x4 x7 x8 u01 u02 u03 u04 u05:Int) (u00:LI):St:=⟨[(0,(.list true [.z,.list false [.int .u64]] l0)),(1,(.clo 38 [.ptr 900000 0 0])),(4,(.i x4)),(7,(.i x7)),(8,(.i x8))],[(900000,(some (.box [.i u01,.i u02,.i u03,.i u04,.i u05,.list true [.z,.list false [.int .u64]] u00])))]⟩
theorem zcd (N:Nat) (l:LI) (d c b0 b1 b2:Int) (ts:LI):DQ (NN N) QT [.tmp 4] [[.z]] [.list true [.z,.list false [.int .u64]] l,.clo 38 [.bor [.i d,.i c,.i b0,.i b1,.i b2,.list true [.z,.list false [.int .u64]] ts]]]=(DR (NN N) (DD QT [1,0,1,0,0]) ⟨[0,1,4,7,8],[900000],[]⟩ N (TR l 0 (ic (AE l)) 0 d c b0 b1 b2 ts) (DI 0 (DJ (NN N) (DD QT [1,1]) (DL (NN N) (some [.i d,.i c,.i b0,.i b1,.i b2,.list true [.z,.list false [.int .u64]] ts]) [.tmp 4] [[.z]])))):=by kernel_rfl
theorem Ij (N:Nat) (l0:LI) (x4 x7 x8 u01 u02 u03 u04 u05:Int) (u00:LI) (again:St→DG) (k:Out→St→DG):E4 (NN N) (DD QT [1,0,1,0,0]) (TR l0 x4 x7 x8 u01 u02 u03 u04 u05 u00) (EH again ⟨[0,1,4,7,8],[900000],[]⟩ k)=(cond (decide (x8 < x7)) (cond (decide (0≤x8)&&decide (x8 < ic (AE l0))) (cond (!HW u01 u02 (IV.agg [IV.int (IV.toInt (IV.cell (AI l0 (AD x8) default) 0)),IV.list (IV.toList (IV.cell (AI l0 (AD x8) default) 1))])) (k .ret (TR l0 x8 x7 x8 u01 u02 u03 u04 u05 u00)) (again (TR l0 x4 x7 (AA AB (x8+1)) u01 u02 u03 u04 u05 u00))) none) (k (.exit 0) (TR l0 x4 x7 x8 u01 u02 u03 u04 u05 u00))):=by kernel_rfl
theorem Tl (N:Nat) (d c b0 b1 b2:Int) (ts l0:LI) (x4 x7 x8 u01 u02 u03 u04 u05:Int) (u00:LI):(DI 0 (DJ (NN N) (DD QT [1,1]) (DL (NN N) (some [.i d,.i c,.i b0,.i b1,.i b2,.list true [.z,.list false [.int .u64]] ts]) [.tmp 4] [[.z]]))) (.exit 0) (TR l0 x4 x7 x8 u01 u02 u03 u04 u05 u00)=(some ((.i (-1)),[[.i u01,.i u02,.i u03,.i u04,.i u05,.list true [.z,.list false [.int .u64]] u00]])):=by kernel_rfl
theorem Tm (N:Nat) (d c b0 b1 b2:Int) (ts l0:LI) (x4 x7 x8 u01 u02 u03 u04 u05:Int) (u00:LI):(DI 0 (DJ (NN N) (DD QT [1,1]) (DL (NN N) (some [.i d,.i c,.i b0,.i b1,.i b2,.list true [.z,.list false [.int .u64]] ts]) [.tmp 4] [[.z]]))) .ret (TR l0 x4 x7 x8 u01 u02 u03 u04 u05 u00)=(some ((.i x4),[[.i u01,.i u02,.i u03,.i u04,.i u05,.list true [.z,.list false [.int .u64]] u00]])):=by kernel_rfl
def Mv (N:Nat):Env:=DV [(66,aU)] [] 9 N
theorem zcc (N:Nat) (l:LI) (d c b0 b1 b2:Int) (ts:LI):DQ (Mv N) vE [.tmp 4] [[.bool]] [.list true [.z,.list false [.int .u64]] l,.clo 38 [.bor [.i d,.i c,.i b0,.i b1,.i b2,.list true [.z,.list false [.int .u64]] ts]]]=(some ((.bool (decide (VF d c l 0≥0))),[[.i d,.i c,.i b0,.i b1,.i b2,.list true [.z,.list false [.int .u64]] ts]])):=by kernel_rfl
def MU (N:Nat):Env:=DV [(36,QJ),(38,UC),(37,aT)] [(4,⟨[1,2,30,31],[1,53005],[]⟩)] 54 N
abbrev KE (b2:Bool) (u01 u02 u03 x31 u04 u05 u06 u07 u08:Int) (u00:LI):St:=⟨[(1,(.ptr 1 0 0)),(2,(.bool b2)),(30,(.agg [.i u01,.i u02,.i u03])),(31,(.i x31))],[(1,(some (.box [.i u04,.i u05,.i u06,.i u07,.i u08,.list true [.z,.list false [.int .u64]] u00]))),(53005,none)]⟩
theorem zbL (N:Nat) (u04 u03 u00 u01 u02:Int) (u05:LI):DQ (MU N) PG [.tmp 2] [[.bool]] [.agg [.i u04,.i u03,.i u00,.i u01,.i u02,.list true [.z,.list false [.int .u64]] u05]]=(cond (decide (u04 < 1)) (some ((.bool false),[])) (cond (decide (u04 > 4)) (some ((.bool false),[])) (cond (decide (u03 < 1)) (some ((.bool false),[])) (cond (decide (u03 > 3)) (some ((.bool false),[])) (cond (decide (ic (AE u05) > 8)) (some ((.bool false),[])) (DR (MU N) (DD PG [1,1,0,1,0,0]) ⟨[1,2,30,31],[1,53005],[]⟩ N (KE false u00 u01 u02 0 u04 u03 u00 u01 u02 u05) (DI 0 (DJ (MU N) (DD PG [1,1,1]) (DL (MU N) none [.tmp 2] [[.bool]]))))))))):=by kernel_rfl
theorem Ib (N:Nat) (b2:Bool) (u01 u02 u03 x31 u04 u05 u06 u07 u08:Int) (u00:LI) (again:St→DG) (k:Out→St→DG):E4 (MU N) (DD PG [1,1,0,1,0,0]) (KE b2 u01 u02 u03 x31 u04 u05 u06 u07 u08 u00) (EH again ⟨[1,2,30,31],[1,53005],[]⟩ k)=(cond (decide (x31 < 3)) (cond (decide (x31=ic 0)) (cond (!EY u01) (k .ret (KE false u01 u02 u03 x31 u04 u05 u06 u07 u08 u00)) (cond (decide (x31≥u05)) (cond (u01 != 0) (k .ret (KE false u01 u02 u03 x31 u04 u05 u06 u07 u08 u00)) (again (KE b2 u01 u02 u03 (AA AB (x31+1)) u04 u05 u06 u07 u08 u00))) (again (KE b2 u01 u02 u03 (AA AB (x31+1)) u04 u05 u06 u07 u08 u00)))) (cond (decide (x31=ic 1)) (cond (!EY u02) (k .ret (KE false u01 u02 u03 x31 u04 u05 u06 u07 u08 u00)) (cond (decide (x31≥u05)) (cond (u02 != 0) (k .ret (KE false u01 u02 u03 x31 u04 u05 u06 u07 u08 u00)) (again (KE b2 u01 u02 u03 (AA AB (x31+1)) u04 u05 u06 u07 u08 u00))) (again (KE b2 u01 u02 u03 (AA AB (x31+1)) u04 u05 u06 u07 u08 u00)))) (cond (decide (x31=ic 2)) (cond (!EY u03) (k .ret (KE false u01 u02 u03 x31 u04 u05 u06 u07 u08 u00)) (cond (decide (x31≥u05)) (cond (u03 != 0) (k .ret (KE false u01 u02 u03 x31 u04 u05 u06 u07 u08 u00)) (again (KE b2 u01 u02 u03 (AA AB (x31+1)) u04 u05 u06 u07 u08 u00))) (again (KE b2 u01 u02 u03 (AA AB (x31+1)) u04 u05 u06 u07 u08 u00)))) none))) (k (.exit 0) (KE b2 u01 u02 u03 x31 u04 u05 u06 u07 u08 u00))):=by kernel_rfl
theorem Ta (N:Nat) (b2:Bool) (u01 u02 u03 x31 u04 u05 u06 u07 u08:Int) (u00:LI):(DI 0 (DJ (MU N) (DD PG [1,1,1]) (DL (MU N) none [.tmp 2] [[.bool]]))) (.exit 0) (KE b2 u01 u02 u03 x31 u04 u05 u06 u07 u08 u00)=(some ((.bool (!!List.all u00 (HW u04 u05))),[])):=by kernel_rfl
theorem Tb (N:Nat) (b2:Bool) (u01 u02 u03 x31 u04 u05 u06 u07 u08:Int) (u00:LI):(DI 0 (DJ (MU N) (DD PG [1,1,1]) (DL (MU N) none [.tmp 2] [[.bool]]))) .ret (KE b2 u01 u02 u03 x31 u04 u05 u06 u07 u08 u00)=(some ((.bool b2),[])):=by kernel_rfl
open Go Go.Proofs
theorem Aq {l:LI} {i:Nat} {w:IV} (h:l[i]?=some w) (j:Nat):H2 (l.take (i+1)) j=H2 (l.take i) j+KH (DE w.toInt) j:=by
 unfold H2;rw [List.take_add_one,h];simp
theorem zaE (x:Nd) (j:Nat):KH x j≤2:=by
 unfold KH;cases x.lf
 ·simp only [CG];split <;> split <;> omega
 ·simp only [CT];omega
theorem Ao:∀ (l:LI) (j:Nat),H2 l j≤2*l.length
 | [],_=>AT _
 | w :: l,j=>by
  have:=Ao l j
  have:=zaE (DE w.toInt) j
  unfold H2 at *;simp only [AZ,va2,AM];omega
def NM (l:LI) (i:Nat):LI:=(vaQ l.length).map fun j=>IV.int (H2 (l.take i) j:Nat)
theorem Y3 (l:LI) (i:Nat):(NM l i).length=l.length:=by simp [NM]
theorem WR (l:LI) (i:Nat) {j:Nat} (h:j < l.length):(NM l i)[j]?=some (IV.int (H2 (l.take i) j:Nat)):=by
 unfold NM;rw [B8,List.getElem?_range h];rfl
theorem Nq (l:LI):NM l 0=BB l.length (IV.int 0):=by
 apply List.ext_getElem?;intro j;by_cases h:j < l.length
 ·rw [WR l 0 h,List.getElem?_replicate,BJ h];simp [H2]
 ·rw [BU (by rw [Y3]; omega),BU (by simp; omega)]
theorem Np {l:LI} {i:Nat} {w:IV} (h:l[i]?=some w) (hl:(DE w.toInt).lf=true):NM l (i+1)=NM l i:=by
 unfold NM;congr 1
 funext j
 rw [Aq h];unfold KH;rw [hl];rfl
theorem No {l:LI} {i:Nat} {w:IV} (h:l[i]?=some w) (hl:(DE w.toInt).lf=false) (hn:l.length≤31) {a b:Nat} (ha:(DE w.toInt).l=(a:Int)) (hb:(DE w.toInt).r=(b:Int)) (hab:a≠b) (al:a < l.length) (bl:b < l.length) :
  ((NM l i).set a (IV.int (AA AB (((NM l i).getD a default).toInt+1)))).set b (IV.int (AA AB ((((NM l i).set a (IV.int (AA AB (((NM l i).getD a default).toInt+1)))).getD b default).toInt+1)))=NM l (i+1):=by
 have hil:i < l.length:=(BQ.1 h).1;have hsm:∀ j,H2 (l.take i) j≤62:=fun j=>by
  have:=Ao (l.take i) j
  rw [A8] at this;omega
 have ga:((NM l i).getD a default).toInt=(H2 (l.take i) a:Nat):=by
  rw [BO,WR l i al];rfl
 have gb:(((NM l i).set a (IV.int (AA AB (((NM l i).getD a default).toInt+1)))).getD b default).toInt=(H2 (l.take i) b:Nat):=by
  rw [BO,va1 hab,WR l i bl];rfl
 rw [gb,ga,EA (by omega) (by have:=hsm a; omega),EA (by omega) (by have:=hsm b; omega)];apply List.ext_getElem?;intro j;by_cases hj:j < l.length
 ·rw [WR l (i+1) hj,Aq h];have e:KH (DE w.toInt) j=(if a=j then 1 else 0)+(if b=j then 1 else 0):=by
   unfold KH;rw [hl,ha,hb,CG];have e1:((a:Int)=(j:Int))↔a=j:=by omega
   have e2:((b:Int)=(j:Int))↔b=j:=by omega
   simp only [e1,e2]
  rw [e];by_cases h1:b=j
  ·subst h1;rw [List.getElem?_set_self (by rw [vas,Y3]; exact bl),A2 hab,BJ rfl];congr 2
  ·rw [va1 h1];by_cases h2:a=j
   ·subst h2;rw [List.getElem?_set_self (by rw [Y3]; exact al),BJ rfl,A2 h1];congr 2
   ·rw [va1 h2,WR l i hj,A2 h1,A2 h2];congr 2
 ·rw [BU (by rw [vas,vas,Y3]; omega),BU (by rw [Y3]; omega)]
abbrev kK (l:LI) (dim:Int) (b:Bool) (i:Int) (nm:LI):St:=
 ⟨[(0,(.list false [(.int .u64)] l)),(1,(.int .i64 dim)),(4,(.bool b)),(5,(.row 22 0 l.length)),(23,(.list false [(.int .u64)] l)),(24,(.int .i64 (ic l.length))),(25,(.int .i64 i))],[(22,(some (.row true 3 false [.z] nm)))]⟩
theorem rC (N:Nat) (l:LI) (dim:Int) (hl:l.length≤31) (K:Out→St→DG) (hK:∀ i nm,K .ret (kK l dim false i nm)=some (.bool false,[])):∀ (d i n:Nat),i+d=l.length→d < n →
  DR (HD N) (DD K5 [1,1,1,0,1,0,0]) ⟨[0,1,4,5,23,24,25],[22],[]⟩ n (kK l dim false (i:Int) (NM l i)) K =
   cond (KI dim (ic l.length) i (l.drop i)) (K (.exit 0) (kK l dim false (ic l.length) (NM l l.length))) (some (.bool false,[]))
 | d,i,0,_,h=>absurd h (by omega)
 | 0,i,n+1,hd,_=>by
  have hi:i=l.length:=by omega
  subst hi;rw [DY,Iq];rw [AL (show ¬ ((l.length:Nat):Int) < ic l.length by simp only [ic]; omega),DC,CX];rfl
 | d+1,i,n+1,hd,hn=>by
  have hil:i < l.length:=by omega
  have hw:l[i]?=some l[i]:=A5 hil;rw [DY,Iq,A7 hil];have hg:l.getD (AD (i:Int)) default=l[i]:=by
   rw [BC,BO,hw];rfl
  rw [hg];generalize l[i]=w at hw ⊢;have ei:AA AB ((i:Int)+1)=((i+1:Nat):Int):=by
   rw [EA (by omega) (by omega)];omega
  rw [ei,AF (show (i:Int) < ic l.length by simp only [ic]; omega),DB,AF (show (0:Int)≤(i:Int) by omega),BH,DB];unfold KI;cases hb:GA w.toInt with
  | false=>
   simp only [A9,DB,BX,DC];exact hK (i:Int) (NM l i)
  | true=>
   simp only [A1,DC,BG];unfold M4;cases hlf:(DE w.toInt).lf with
   | true=>
    simp only [DB,BG];rw [← Np hw hlf];exact rC N l dim hl K hK d (i+1) n (by omega) (by omega)
   | false=>
    simp only [DC];cases h1:decide ((DE w.toInt).f≥dim) with
    | true=>
     simp only [DB,A1,BX,DC];exact hK (i:Int) (NM l i)
    | false=>
    cases h2:((DE w.toInt).l==(DE w.toInt).r) with
    | true=>
     simp only [DB,DC,A1,A9,BX,vax];exact hK (i:Int) (NM l i)
    | false=>
    cases h3:decide (min (DE w.toInt).l (DE w.toInt).r≤(i:Int)) with
    | true=>
     simp only [DB,DC,A1,A9,BX,vax];exact hK (i:Int) (NM l i)
    | false=>
    cases h4:decide (max (DE w.toInt).l (DE w.toInt).r≥ic l.length) with
    | true=>
     simp only [DB,DC,A1,A9,BX,vax];exact hK (i:Int) (NM l i)
    | false=>
     have g2:(DE w.toInt).l≠(DE w.toInt).r:=BZ.1 h2;have g3:=BE h3;have g4:=BE h4;simp only [ic] at g4;obtain ⟨a,ha⟩:∃ a:Nat,(DE w.toInt).l=(a:Int):=⟨(DE w.toInt).l.toNat,by omega⟩;obtain ⟨b,hb'⟩:∃ b:Nat,(DE w.toInt).r=(b:Int):=⟨(DE w.toInt).r.toNat,by omega⟩;have hab:a≠b:=fun e=>g2 (by rw [ha,hb',e])
     have al:a < l.length:=by omega
     have bl:b < l.length:=by omega
     have hN:=No hw hlf hl ha hb' hab al bl;rw [ha,hb'];rw [AF (show (0:Int)≤(a:Int) by omega),AF (show (0:Int)≤(b:Int) by omega),AF (show (a:Int) < ic (l.length - 0) by simp only [ic]; omega),AF (show (b:Int) < ic (l.length - 0) by simp only [ic]; omega)];simp only [DB,DC,A9,BH,BG,BC,BK];refine Eq.trans ?_ (rC N l dim hl K hK d (i+1) n (by omega) (by omega));rw [← hN];rfl
abbrev zgB (l:LI) (b:Bool) (j:Int):St:=
 ⟨[(4,(.bool b)),(85,(.row 22 1 (0+(l.length - 0)))),(86,(.int .i64 (ic (0+(l.length - 0) - 1)))),(87,(.int .i64 j))],[(22,(some (.row true 3 false [.z] (NM l l.length))))]⟩
theorem Bm (N:Nat) (l:LI) (hl:l.length≤31):∀ (d j n:Nat),j+d=l.length - 1→d < n →
  DR (HD N) (DD K5 [1,1,1,1,0,1,0,0]) ⟨[4,85,86,87],[22],[]⟩ n (zgB l false (j:Int)) (DI 2 (DJ (HD N) (DD K5 [1,1,1,1,1]) (DL (HD N) none [(BV 4)] [[.bool]]))) =
   some (.bool ((List.range' j d).all fun j=>H2 l (j+1)==1),[])
 | d,j,0,_,h=>absurd h (by omega)
 | 0,j,n+1,hd,_=>by
  rw [DY,Ir,AL (show ¬ (j:Int) < ic (0+(l.length - 0) - 1) by simp only [ic]; omega),DC];exact Tz N false _ _ _ _
 | d+1,j,n+1,hd,hn=>by
  have ej:AA AB ((j:Int)+1)=((j+1:Nat):Int):=by
   rw [EA (by omega) (by omega)];omega
  rw [DY,Ir,ej,AF (show (j:Int) < ic (0+(l.length - 0) - 1) by simp only [ic]; omega),DB,AF (show (0:Int)≤(j:Int) by omega),BH,DB];have hg:((NM l l.length).getD (1+AD (j:Int)) default).toInt=(H2 l (j+1):Nat):=by
   rw [BC,Nat.add_comm 1 j,BO,WR l l.length (by omega),BD];rfl
  rw [hg,List.range'_succ,List.all_cons];have e:(((H2 l (j+1):Nat):Int) != 1)=!(H2 l (j+1)==1):=by
   show (!(((H2 l (j+1):Nat):Int)==1))=_;congr 1;rw [vaC,CB,CB];omega
  rw [e];cases (H2 l (j+1)==1) with
  | false=>
   rw [A9,DB];exact Ua N false _ _ _ _
  | true=>
   rw [A1,DC,BG];exact Bm N l hl d (j+1) n (by omega) (by omega)
theorem zf7 (N:Nat) (l:LI) (dim:Int) (hl:l.length≤31) (h1:1≤l.length) (hN:40≤N) (i:Int) :
  (DI 0 (DJ (HD N) (DD K5 [1,1,1,1]) (DL (HD N) none [(BV 4)] [[.bool]]))) (.exit 0) (kK l dim false i (NM l l.length))=some (.bool (XY l),[]):=by
 refine (Tx N l dim false l.length l (ic l.length) i (NM l l.length)).trans ?_;rw [AF (show (0:Nat)≤1 by omega),AF (show (1:Int)≤ic (l.length - 0) by simp only [ic]; omega),BH,DB]
 have:=Bm N l hl (l.length - 1) 0 N (by omega) (by omega)
 refine this.trans ?_;unfold XY;rw [List.range_eq_range']
theorem Gt:DO PR B0 39 UQ:=by
 refine DX [(55,LN)] [(5,⟨[0,1,4,5,23,24,25],[22],[]⟩),(17,⟨[4,85,86,87],[22],[]⟩)] UQ [[.bool]] Tryz.func39 Zd ⟨YF,trivial⟩ ?_;intro vs r hwf h;unfold UQ at h;split at h
 ·rename_i l dim;refine ⟨40,?_⟩;rw [R.get_ok] at h;rw [← h];refine (zcu 40 l dim).trans ?_;unfold FY;by_cases h1:1≤l.length
  ·by_cases h2:l.length≤31
   ·have eb:ic (TI.bytes (Env.tyd (HD 40) 3))=8:=rfl;rw [AL (show ¬ ic l.length < 1 by simp only [ic]; omega),AL (show ¬ ic l.length > 31 by simp only [ic]; omega),DC,DC,eb,
     AF (show (0:Int)≤ic l.length by simp only [ic]; omega),AF (show ic l.length=ic l.length from rfl),AF (show ic l.length*8≤ic D1 by unfold D1; simp only [ic]; omega)]
    have e0:(BN 0 (TI.size (Env.tyd (HD 40) 3))&&(BN 3 1000000&&true)&&(true&&true))=true:=rfl;have e1:AD (ic l.length)=l.length:=by simp only [ic]; omega
    rw [e0,DB,e1,← Nq,CQ h1,CQ h2];refine (rC 40 l dim h2 _ (fun i nm=>?_) l.length 0 40 (by omega) (by omega)).trans ?_
    ·exact Ty 40 l dim false l.length l (ic l.length) i nm
    ·rw [B1,zf7 40 l dim h2 h1 (by omega)];cases KI dim (ic l.length) 0 l <;> rfl
   ·have e:BS l.length 31=false:=by
     cases hb:BS l.length 31 with
     | false=>rfl
     | true=>exact absurd (AN hb) h2
    rw [AL (show ¬ ic l.length < 1 by simp only [ic]; omega),AF (show ic l.length > 31 by simp only [ic]; omega),DC,DB,e,vax,BX]
  ·have e:BS 1 l.length=false:=by
    cases hb:BS 1 l.length with
    | false=>rfl
    | true=>exact absurd (AN hb) h1
   rw [AF (show ic l.length < 1 by simp only [ic]; omega),DB,e,BX,BX]
 ·simp [R.get] at h
theorem Fz:DO PR B0 38 UC:=by
 refine DX [(39,UQ)] [] UC [[.bool]] Tryz.func38 Xo ⟨Gt,trivial⟩ ?_;intro vs r hwf h;unfold UC at h;split at h
 ·rename_i k l d c b0 b1 b2 ts;refine ⟨0,?_⟩;rw [R.get_ok] at h;rw [← h];refine (zbM 0 k l d c b0 b1 b2 ts).trans ?_;have e:HW d c (.agg [.int k,.list l])=(!(decide (k < 0))&&(!(decide (k≥c))&&FY l d)):=rfl;rw [e];cases decide (k < 0) with
  | true=>rfl
  | false=>
   cases decide (k≥c) with
   | true=>rfl
   | false=>rfl
 ·simp [R.get] at h
abbrev zgw (l:LI) (d c b0 b1 b2:Int) (ts:LI) (r i:Int):St:=
 ⟨[(0,(.list true [.z,(.list false [(.int .u64)])] l)),(1,(.clo 38 [(.ptr 900000 0 0)])),(4,(.int .i64 r)),(7,(.int .i64 (ic l.length))),(8,(.int .i64 i))],[(900000,(some (.box [(.int .i64 d),(.int .i64 c),(.int .i64 b0),(.int .i64 b1),(.int .i64 b2),(.list true [.z,(.list false [(.int .u64)])] ts)])))]⟩
theorem zf4 (d c:Int) (t:IV):HW d c (.agg [.int (IV.toInt (IV.cell t 0)),.list (IV.toList (IV.cell t 1))])=HW d c t:=rfl
theorem yX (N:Nat) (l:LI) (hl:l.length≤strMax) (d c b0 b1 b2:Int) (ts:LI):∀ (m i n:Nat),i+m=l.length→m < n →
  DR (NN N) (DD QT [1,0,1,0,0]) ⟨[0,1,4,7,8],[900000],[]⟩ n (zgw l d c b0 b1 b2 ts 0 (i:Int)) (DI 0 (DJ (NN N) (DD QT [1,1]) (DL (NN N) (some [(.int .i64 d),(.int .i64 c),(.int .i64 b0),(.int .i64 b1),(.int .i64 b2),(.list true [.z,(.list false [(.int .u64)])] ts)]) [(BV 4)] [[.z]]))) =
   some (.int .i64 (VF d c (l.drop i) (i:Int)),[[(.int .i64 d),(.int .i64 c),(.int .i64 b0),(.int .i64 b1),(.int .i64 b2),(.list true K9 ts)]])
 | m,i,0,_,h=>absurd h (by omega)
 | 0,i,n+1,hd,_=>by
  have hi:i=l.length:=by omega
  subst hi;rw [DY,Ij,AL (show ¬ ((l.length:Nat):Int) < ic l.length by simp only [ic]; omega),DC,CX];exact Tl N d c b0 b1 b2 ts l 0 (ic l.length) (l.length:Int) d c b0 b1 b2 ts
 | m+1,i,n+1,hd,hn=>by
  have hil:i < l.length:=by omega
  have m':strMax=140737488355327:=rfl;have ei:AA AB ((i:Int)+1)=((i+1:Nat):Int):=by
   rw [EA (by omega) (by omega)];omega
  have hg:l.getD (AD (i:Int)) default=l[i]:=by
   rw [BC,BO,A5 hil];rfl
  rw [DY,Ij,ei,hg,zf4,AF (show (i:Int) < ic l.length by simp only [ic]; omega),DB,AF (show (0:Int)≤(i:Int) by omega),BH,DB,A7 hil,VF];cases HW d c l[i] with
  | true=>
   rw [A1,DC,DB];exact yX N l hl d c b0 b1 b2 ts m (i+1) n (by omega) (by omega)
  | false=>
   rw [A9,DB,DC];exact Tm N d c b0 b1 b2 ts l (i:Int) (ic l.length) (i:Int) d c b0 b1 b2 ts
theorem zfk:DO PR B0 66 aU:=by
 refine DX [(38,UC)] [(2,⟨[0,1,4,7,8],[900000],[]⟩)] aU [[.z]] Tryz.func66 Ym ⟨Fz,trivial⟩ ?_;intro vs r hwf h;unfold aU at h;split at h
 ·rename_i l d c b0 b1 b2 ts;refine ⟨l.length+1,?_⟩;rw [R.get_ok] at h;rw [← h];refine (zcd (l.length+1) l d c b0 b1 b2 ts).trans ?_;have hl:l.length≤strMax:=by
   have hb:=hwf (by simp [KK])
   have:=hb.1
   simp only [N8,wfL] at this;exact this.1
  exact yX (l.length+1) l hl d c b0 b1 b2 ts l.length 0 (l.length+1) (by omega) (by omega)
 ·simp [R.get] at h
theorem yV (d c:Int):∀ (l:LI) (i:Nat),decide (VF d c l (i:Int)≥0)=!(l.all (HW d c))
 | [],i=>rfl
 | t :: l,i=>by
  unfold VF;rw [List.all_cons];cases HW d c t with
  | true=>
   rw [DB,BG];exact yV d c l (i+1)
  | false=>
   rw [DC,BX,AF (show (i:Int)≥0 by omega)];rfl
theorem zfj:DO PR B0 37 aT:=by
 refine DX [(66,aU)] [] aT [[.bool]] Tryz.func37 Yl ⟨zfk,trivial⟩ ?_;intro vs r hwf h;unfold aT at h;split at h
 ·rename_i l d c b0 b1 b2 ts;refine ⟨0,?_⟩;rw [R.get_ok] at h;rw [← h];refine (zcc 0 l d c b0 b1 b2 ts).trans ?_
  have:=yV d c l 0
  rw [show ((0:Nat):Int)=0 from rfl] at this;rw [this]
 ·simp [R.get] at h
abbrev YT (d c b0 b1 b2:Int) (ts:LI) (b:Bool) (i:Int):St:=
 ⟨[(1,(.ptr 1 0 0)),(2,(.bool b)),(30,(.agg [(.int .i64 b0),(.int .i64 b1),(.int .i64 b2)])),(31,(.int .i64 i))],[(1,(some (.box [(.int .i64 d),(.int .i64 c),(.int .i64 b0),(.int .i64 b1),(.int .i64 b2),(.list true [.z,(.list false [(.int .u64)])] ts)]))),(53005,none)]⟩
theorem Ok (c j b:Int) {α:Type _} (x y:α):cond (!EY b) y (cond (decide (j≥c)) (cond (b != 0) y x) x)=cond (H6 c j b) x y:=by
 unfold H6;have e:(b != 0)=!(b==0):=rfl;rw [e];cases EY b <;> cases decide (j≥c) <;> cases (b==0) <;> rfl
theorem lA (N:Nat) (d c b0 b1 b2:Int) (ts:LI) (j:Nat) (b:Int) (h:(j=0∧b=b0)∨(j=1∧b=b1)∨(j=2∧b=b2)) (again:St→DG) (k:Out→St→DG) :
  E4 (MU N) (DD PG [1,1,0,1,0,0]) (YT d c b0 b1 b2 ts false (j:Int)) (EH again ⟨[1,2,30,31],[1,53005],[]⟩ k) =
   cond (H6 c (j:Int) b) (again (YT d c b0 b1 b2 ts false ((j+1:Nat):Int))) (k .ret (YT d c b0 b1 b2 ts false (j:Int))):=by
 rw [Ib];have ej:AA AB ((j:Int)+1)=((j+1:Nat):Int):=by
  rw [EA (by omega) (by omega)];omega
 rw [ej,← Ok,AF (show (j:Int) < 3 by omega),DB];rcases h with ⟨rfl,rfl⟩ | ⟨rfl,rfl⟩ | ⟨rfl,rfl⟩ <;> rfl
theorem YE:DO PR B0 20 LM:=by
 refine DX [(36,QJ),(38,UC),(37,aT)] [(4,⟨[1,2,30,31],[1,53005],[]⟩)] LM [[.bool]] Tryz.func20 Xn ⟨p8,Fz,zfj,trivial⟩ ?_;intro vs r hwf h;unfold LM at h;split at h
 ·rename_i d c b0 b1 b2 ts;refine ⟨6,?_⟩;rw [R.get_ok] at h;rw [← h];refine (zbL 6 d c b0 b1 b2 ts).trans ?_;have run:DR (MU 6) (DD PG [1,1,0,1,0,0]) ⟨[1,2,30,31],[1,53005],[]⟩ 6 (YT d c b0 b1 b2 ts false 0) (DI 0 (DJ (MU 6) (DD PG [1,1,1]) (DL (MU 6) none [(BV 2)] [[.bool]]))) =
    some (.bool ((H6 c 0 b0&&(H6 c 1 b1&&H6 c 2 b2))&&ts.all (HW d c)),[]):=by
   have e0:YT d c b0 b1 b2 ts false 0=YT d c b0 b1 b2 ts false ((0:Nat):Int):=rfl;have R2:=fun j=>Tb 6 false b0 b1 b2 j d c b0 b1 b2 ts
   have R1:=fun j=>Ta 6 false b0 b1 b2 j d c b0 b1 b2 ts
   rw [e0,DY,lA 6 d c b0 b1 b2 ts 0 b0 (by simp),R2];cases h0:H6 c ((0:Nat):Int) b0 with
   | false=>rfl
   | true=>
    rw [DB,DY,lA 6 d c b0 b1 b2 ts 1 b1 (by simp),R2];cases h1:H6 c ((1:Nat):Int) b1 with
    | false=>rfl
    | true=>
     rw [DB,DY,lA 6 d c b0 b1 b2 ts 2 b2 (by simp),R2];cases h2:H6 c ((2:Nat):Int) b2 with
     | false=>rfl
     | true=>
      rw [DB,DY,Ib,AL (show ¬ ((2+1:Nat):Int) < 3 by omega),DC,R1,Bool.not_not];rfl
  unfold EQ;cases decide (d < 1) with
  | true=>rfl
  | false=>
  cases decide (d > 4) with
  | true=>rfl
  | false=>
  cases decide (c < 1) with
  | true=>rfl
  | false=>
  cases decide (c > 3) with
  | true=>rfl
  | false=>
   simp only [DC,A9,BG];by_cases h8:ts.length≤8
   ·rw [AL (show ¬ ic ts.length > 8 by simp only [ic]; omega),DC,CQ h8,BG];exact run
   ·have e:BS ts.length 8=false:=by
     cases hb:BS ts.length 8 with
     | false=>rfl
     | true=>exact absurd (AN hb) h8
    rw [AF (show ic ts.length > 8 by simp only [ic]; omega),DB,e,BX]
 ·simp [R.get] at h
open Go Go.Proofs
def Lu (N:Nat):Env:=DV [(54,QL),(153,Z0),(89,T7),(118,WU),(152,fA),(91,WW)] [] 76 N
theorem zbq (N:Nat) (s:BA):DQ (Lu N) uH [.tmp 2,.tmp 3] [[.z],[.bool]] [.str s] =
 (cond (decide (AH (GN s { data:=#[45] }) < 4294967281))
 (cond (decide (ic (AH (GS (GN s { data:=#[45] }) { data:=#[46] })) > 8))
 (some ((.tup [.i 0,.bool false]),[]))
 (cond (decide (0≤AA AB (8 - ic (AH (GS (GN s { data:=#[45] }) { data:=#[46] }))))&&decide (AH { data:=#[48] }*AD (AA AB (8 - ic (AH (GS (GN s { data:=#[45] }) { data:=#[46] }))))≤strMax))
 (cond (decide (AH (GS (GN s { data:=#[45] }) { data:=#[46] })+AH (G8 { data:=#[48] } (AD (AA AB (8 - ic (AH (GS (GN s { data:=#[45] }) { data:=#[46] }))))))≤strMax))
 (cond (!JD (cutL (GN s { data:=#[45] }) { data:=#[46] }))
 (some ((.tup [.i 0,.bool false]),[]))
 (cond (!JD (GS (GN s { data:=#[45] }) { data:=#[46] }++G8 { data:=#[48] } (AD (AA AB (8 - ic (AH (GS (GN s { data:=#[45] }) { data:=#[46] })))))))
 (some ((.tup [.i 0,.bool false]),[]))
 (cond (decide (GD (cutL (GN s { data:=#[45] }) { data:=#[46] }) > 36028797018963968))
 (some ((.tup [.i 0,.bool false]),[]))
 (cond (Int.tmod (GD (GS (GN s { data:=#[45] }) { data:=#[46] }++G8 { data:=#[48] } (AD (AA AB (8 - ic (AH (GS (GN s { data:=#[45] }) { data:=#[46] }))))))) 390625 != 0)
 (some ((.tup [.i 0,.bool false]),[]))
 (cond (XM s { data:=#[45] })
 (cond (BR (D0 (AA AB (AA AJ (0 - AA AJ (AA AJ (GD (cutL (GN s { data:=#[45] }) { data:=#[46] })*2 ^ min (AD 8) (AO AJ))+AA AJ (Int.tdiv (GD (GS (GN s { data:=#[45] }) { data:=#[46] }++G8 { data:=#[48] } (AD (AA AB (8 - ic (AH (GS (GN s { data:=#[45] }) { data:=#[46] }))))))) 390625))))))==BR s)
 (some ((.tup [(.i (AA AB (AA AJ (0 - AA AJ (AA AJ (GD (cutL (GN s { data:=#[45] }) { data:=#[46] })*2 ^ min (AD 8) (AO AJ))+AA AJ (Int.tdiv (GD (GS (GN s { data:=#[45] }) { data:=#[46] }++G8 { data:=#[48] } (AD (AA AB (8 - ic (AH (GS (GN s { data:=#[45] }) { data:=#[46] }))))))) 390625)))))),.bool true]),[]))
 (some ((.tup [.i 0,.bool false]),[])))
 (cond (BR (D0 (AA AB (AA AJ (AA AJ (GD (cutL (GN s { data:=#[45] }) { data:=#[46] })*2 ^ min (AD 8) (AO AJ))+AA AJ (Int.tdiv (GD (GS (GN s { data:=#[45] }) { data:=#[46] }++G8 { data:=#[48] } (AD (AA AB (8 - ic (AH (GS (GN s { data:=#[45] }) { data:=#[46] }))))))) 390625)))))==BR s)
 (some ((.tup [(.i (AA AB (AA AJ (AA AJ (GD (cutL (GN s { data:=#[45] }) { data:=#[46] })*2 ^ min (AD 8) (AO AJ))+AA AJ (Int.tdiv (GD (GS (GN s { data:=#[45] }) { data:=#[46] }++G8 { data:=#[48] } (AD (AA AB (8 - ic (AH (GS (GN s { data:=#[45] }) { data:=#[46] }))))))) 390625))))),.bool true]),[]))
 (some ((.tup [.i 0,.bool false]),[]))))))))
 none)
 none))
 none):=by kernel_rfl
open Go Go.Proofs
theorem Fp:DO PR B0 89 T7:=by
 refine DX [] [(3,⟨[0,1,2],[],[]⟩)] T7 [[.int .u64]] Tryz.func89 Wv trivial ?_;intro vs r hwf h;unfold T7 at h;split at h
 ·refine ⟨9,?_⟩;rw [← h];show DQ (Lw 9) uJ [.tmp 0] [[.int .u64]] []=_
  kernel_rfl
 ·simp [R.get] at h
theorem zdx {s:BA} (h:JD s=true):0 < s.size:=by
 unfold JD at h;split at h
 ·rename_i v hv
  have:s.data.toList≠[]:=fun e=>by rw [e] at hv; cases hv
  rw [V4];exact List.length_pos_iff.2 this
 ·cases h
theorem zdw {s:BA} (h:JD s=true):(AI s.data.toList 0 0).toNat≠43:=by
 unfold JD at h;split at h
 ·rename_i v hv;revert hv;cases s.data.toList with
  | nil=>intro _; decide
  | cons c r=>
   intro hv he;have he:c.toNat=43:=he;unfold Lib.parseMag at hv;rw [A2 (by simp),Lib.parseUint10,A2 (by omega)] at hv;cases hv
 ·cases h
theorem zeL:DO PR B0 153 Z0:=by
 refine DX [(182,e9)] [] Z0 [[.int .u64],[.bool]] Tryz.func153 Wu ⟨zfp,trivial⟩ ?_;intro vs r hwf h;unfold Z0 at h;split at h
 ·rename_i s;refine ⟨0,?_⟩;rw [← h];refine (zbr 0 s).trans ?_;simp only [R.get_ok];cases hp:JD s with
  | false=>simp only [DC]
  | true=>
   have h1:(decide (0≤0)&&decide (0 < ic (AH s)))=true:=by
    have:=zdx hp
    simp [ic]; omega
   have h2:(ic (UInt8.toNat (AI (Array.toList (ByteArray.data s)) (AD 0) 0)) != 43)=true:=by
    have:=zdw hp
    rw [s5];simp only [ic,Int.toNat_zero];simp only [BW,BL];omega
   rw [h1,h2];simp only [DB]
 ·simp [R.get] at h
theorem rW {n:Int} (h0:0≤n) (h1:n < 18446744073709551616):AA .u64 n=n:=by rw [va6]; omega
theorem zgt {n:Int} (h0:n < 0) (h1 : -9223372036854775808≤n):AA .u64 (0 - AA .u64 n)=(n.natAbs:Int):=by rw [va6,va6]; omega
theorem zgu {n:Int} (h0:¬ n < 0) (h1:n≤9223372036854775807):AA .u64 n=(n.natAbs:Int):=by rw [va6]; omega
theorem sF (u:Nat) (h:u < 18446744073709551616):AA .u64 (ic (CC (A0 (AO AJ) (u:Int) &&& A0 (AO AJ) 255)))=((u % 256:Nat):Int):=by
 have e:CC (A0 (AO AJ) (u:Int) &&& A0 (AO AJ) 255)=u % 256:=by
  have h1:(A0 (AO AJ) (u:Int)).toNat=u:=by
   show (A0 64 (u:Int)).toNat=u;rw [BitVec.toNat_ofInt];omega
  have h2:(A0 (AO AJ) 255).toNat=2 ^ 8 - 1:=by rfl
  rw [BitVec.toNat_and,h1,h2,Nat.and_two_pow_sub_one_eq_mod]
 rw [e];exact rW (by simp [ic]; omega) (by simp [ic]; omega)
theorem Fc (u:Nat):vaR (u:Int) (2 ^ min (AD 8) (AO AJ))=((u / 256:Nat):Int):=by
 have e:(2:Int) ^ min (AD 8) (AO AJ)=((256:Nat):Int):=rfl;rw [e,Int.fdiv_eq_ediv_of_nonneg _ (by omega)];rfl
theorem An {r:Nat} (h:r < 256):AA .u64 ((r:Int)*390625)=((r*390625:Nat):Int):=by
 rw [rW (by omega) (by omega)];omega
theorem oJ (u:Nat):EW (u:Int)=⟨(C3 u).toArray⟩:=rfl
theorem Qv:(vaQ 256).all (fun r=>BS (C3 (r*390625)).length 8)=true:=by kernel_rfl
theorem Qu {r:Nat} (h:r < 256):(C3 (r*390625)).length≤8:=by
 have:=CN.1 Qv r (vbg.2 h)
 exact AN this
theorem xB (l:List UInt8):(⟨l.toArray⟩:BA).data.toList=l:=rfl
theorem bP (s t:BA):(s++t).data.toList=s.data.toList++t.data.toList:=by simp
theorem zeb (l:List UInt8):(⟨l.toArray⟩:BA).size=l.length:=by rw [V4]
theorem Cs {u:Nat} (hu:u < 18446744073709551616) (sg:BA) (hsg:sg.size≤1) (K:BA) (hK:K=sg++⟨(P7 u).toArray⟩) :
  (cond (decide (AH sg+AH (EW ((u / 256:Nat):Int))≤strMax))
   (cond (((u % 256:Nat):Int)==0)
    (some ((.str (sg++EW ((u / 256:Nat):Int))),[]))
    (cond (decide (AH (sg++EW ((u / 256:Nat):Int))+AH { data:=#[46] }≤strMax))
     (cond (decide (0≤AA AB (8 - ic (AH (EW ((u % 256*390625:Nat):Int)))))&&decide (AH { data:=#[48] }*AD (AA AB (8 - ic (AH (EW ((u % 256*390625:Nat):Int)))))≤strMax))
      (cond (decide (AH (G8 { data:=#[48] } (AD (AA AB (8 - ic (AH (EW ((u % 256*390625:Nat):Int)))))))+AH (EW ((u % 256*390625:Nat):Int))≤strMax))
       (cond (decide (AH (sg++EW ((u / 256:Nat):Int)++{ data:=#[46] })+AH (N5 (G8 { data:=#[48] } (AD (AA AB (8 - ic (AH (EW ((u % 256*390625:Nat):Int))))))++EW ((u % 256*390625:Nat):Int)) { data:=#[48] })≤strMax))
        (some ((.str (sg++EW ((u / 256:Nat):Int)++{ data:=#[46] }++N5 (G8 { data:=#[48] } (AD (AA AB (8 - ic (AH (EW ((u % 256*390625:Nat):Int))))))++EW ((u % 256*390625:Nat):Int)) { data:=#[48] })),[]))
        none)
       none)
      none)
     none))
   none)=(some (V.str K,[]):DG):=by
 have hr:u % 256 < 256:=by omega
 have l1:(EW ((u / 256:Nat):Int)).size≤20:=oK (by omega) (by omega);have l2:(EW ((u % 256*390625:Nat):Int)).size=(C3 (u % 256*390625)).length:=by rw [oJ,zeb]
 have l3:=Qu hr;generalize hD:C3 (u % 256*390625)=D at l2 l3;have e8:AA AB (8 - ic (AH (EW ((u % 256*390625:Nat):Int))))=((8 - D.length:Nat):Int):=by
  rw [l2,EA (by simp [ic]; omega) (by simp [ic]; omega)];simp only [ic];omega
 rw [e8];simp only [BC];have s46:AH { data:=#[46] }=1:=rfl;have s48:AH { data:=#[48] }=1:=rfl;have l4:(G8 { data:=#[48] } (8 - D.length)).size=8 - D.length:=by rw [pH,s48]; omega
 have l5:=Jq (G8 { data:=#[48] } (8 - D.length)++EW ((u % 256*390625:Nat):Int)) { data:=#[48] };rw [BI,l4,l2] at l5;rw [AF (show AH sg+AH (EW ((u / 256:Nat):Int))≤strMax by unfold strMax; omega),
  AF (show AH (sg++EW ((u / 256:Nat):Int))+AH { data:=#[46] }≤strMax by rw [BI,s46]; unfold strMax; omega),
  AF (show (0:Int)≤((8 - D.length:Nat):Int) by omega),
  AF (show AH { data:=#[48] }*(8 - D.length)≤strMax by rw [s48]; unfold strMax; omega),
  AF (show AH (G8 { data:=#[48] } (8 - D.length))+AH (EW ((u % 256*390625:Nat):Int))≤strMax by rw [l4,l2]; unfold strMax; omega),
  AF (show AH (sg++EW ((u / 256:Nat):Int)++{ data:=#[46] })+AH (N5 (G8 { data:=#[48] } (8 - D.length)++EW ((u % 256*390625:Nat):Int)) { data:=#[48] })≤strMax by rw [BI,BI,s46]; unfold strMax; omega)]
 simp only [DB,CR];subst hK;by_cases h0:u % 256=0
 ·have e0:(((u % 256:Nat):Int)==0)=true:=by rw [R4]; exact AF (by omega)
  rw [e0,DB]
  have:sg++EW ((u / 256:Nat):Int)=sg++⟨(P7 u).toArray⟩:=by
   apply W2;rw [bP,bP,oJ,xB,xB,P7,BJ h0,vad]
  rw [this]
 ·have e0:(((u % 256:Nat):Int)==0)=false:=by rw [R4]; exact AL (by omega)
  rw [e0,DC]
  have:sg++EW ((u / 256:Nat):Int)++{ data:=#[46] }++N5 (G8 { data:=#[48] } (8 - D.length)++EW ((u % 256*390625:Nat):Int)) { data:=#[48] }=sg++⟨(P7 u).toArray⟩:=by
   apply W2;simp only [bP,oJ,P7,A2 h0,N5,G8,PI,hD,vaG];rfl
  rw [this]
theorem qB:DO PR B0 54 QL:=by
 refine DX [(89,T7),(88,eZ),(91,WW),(90,fB)] [] QL [[.str]] Tryz.func54 Ws ⟨Fp,zfo,Gl,zfr,trivial⟩ ?_;intro vs r hwf h;unfold QL at h;split at h
 ·rename_i n;refine ⟨0,?_⟩;rw [← h];refine (zbp 0 n).trans ?_;simp only [R.get_ok];have hb:=(hwf (by simp [KK])).1;simp only [N8,wfL] at hb;obtain ⟨h0,h1⟩:=hb;have e0:AB.min = -9223372036854775808:=rfl;have e1:AB.max=9223372036854775807:=rfl;rw [e0] at h0;rw [e1] at h1;have hu:n.natAbs < 18446744073709551616:=by omega
  by_cases hn:n < 0
  ·rw [AF hn,DB,zgt hn h0,Fc,sF _ hu,An (by omega)];exact Cs hu ⟨#[45]⟩ (by decide) _ (by apply W2; rw [bP]; unfold D0 VV; rw [BJ hn]; rfl)
  ·rw [AL hn,DC,zgu hn h1,Fc,sF _ hu,An (by omega)];exact Cs hu ⟨#[]⟩ (by decide) _ (by apply W2; rw [bP]; unfold D0 VV; rw [A2 hn]; rfl)
 ·simp [R.get] at h
open Go Go.Proofs
theorem Fo:DO PR B0 112 T6:=by
 refine DX [(54,QL),(153,Z0),(89,T7),(118,WU),(152,fA),(91,WW)] [] T6 [[.z],[.bool]] Tryz.func112 Wt
  ⟨qB,zeL,Fp,Gj,zfq,Gl,trivial⟩ ?_
 intro vs r hwf h;unfold T6 at h;split at h
 ·rename_i s;refine ⟨0,?_⟩;cases hs:decide (s.size < 4294967281) with
  | false=>rw [hs] at h; simp [R.get] at h
  | true=>
   rw [hs,R.get_br,DB,R.get_ok] at h;have hs:=AY hs;rw [← h];refine (zbq 0 s).trans ?_;have hz:=Jp s { data:=#[45] };rw [AF (show AH (GN s { data:=#[45] }) < 4294967281 by omega),DB];have eW:cutL (GN s { data:=#[45] }) { data:=#[46] }=SG s:=rfl;have eP:GS (GN s { data:=#[45] }) { data:=#[46] }=KF s:=rfl;have eM:XM s { data:=#[45] }=XM s eC:=rfl;rw [eW,eP,eM];unfold GI;by_cases h8:(KF s).size≤8
   ·have c1:decide (ic (AH (KF s)) > 8)=false:=AL (by simp only [ic]; omega);have e8:AA AB (8 - ic (AH (KF s)))=((8 - (KF s).size:Nat):Int):=by
     rw [EA (by simp only [ic]; omega) (by simp only [ic]; omega)];simp only [ic];omega
    rw [c1,DC,e8];simp only [BC];have s48:AH { data:=#[48] }=1:=rfl;have eF:KF s++G8 { data:=#[48] } (8 - (KF s).size)=NS s:=rfl;have l4:(G8 { data:=#[48] } (8 - (KF s).size)).size=8 - (KF s).size:=by rw [pH,s48]; omega
    rw [AF (show (0:Int)≤((8 - (KF s).size:Nat):Int) by omega),AF (show AH { data:=#[48] }*(8 - (KF s).size)≤strMax by rw [s48]; unfold strMax; omega),CR,DB,
     AF (show AH (KF s)+AH (G8 { data:=#[48] } (8 - (KF s).size))≤strMax by rw [l4]; unfold strMax; omega),DB,eF]
    have hw:=pC (SG s);have hf:=pC (NS s);have b0:AJ.min=0:=rfl;have b1:AJ.max=18446744073709551615:=rfl;rw [b0,b1] at hw hf;have em:Int.tmod (GD (NS s)) 390625=GD (NS s) % 390625:=Int.tmod_eq_emod_of_nonneg hf.1;have ed:AA AJ (Int.tdiv (GD (NS s)) 390625)=GD (NS s) / 390625:=by
     rw [Int.tdiv_eq_ediv_of_nonneg hf.1,rW (by omega) (by omega)]
    have e2:(2:Int) ^ min (AD 8) (AO AJ)=256:=rfl;rw [em,ed,e2];have eS:AA AJ (AA AJ (GD (SG s)*256)+GD (NS s) / 390625)=QW s:=rfl;rw [eS];unfold fZ;rw [AF h8,l8,l9,s5];cases hp1:JD (SG s) with
    | false=>simp only [A9,DB,DC,BX,vax]
    | true=>
     cases hp2:JD (NS s) with
     | false=>simp only [A9,A1,DB,DC,BX,vax]
     | true=>
      simp only [A1,DC,BG];cases hc:decide (36028797018963968 < GD (SG s)) with
      | true=>simp only [A1,DB,DC,BX]
      | false=>
       cases hd:decide (GD (NS s) % 390625=0) with
       | false=>simp only [A9,DB,DC,BX,BG]
       | true=>
        simp only [A9,A1,DC,BG];unfold l6;cases hm:XM s eC with
        | false=>
         simp only [DC];rw [show AA AB (QW s)=FC (QW s) from rfl,tC];cases decide (D0 (FC (QW s))=s) <;> simp only [DB,DC]
        | true=>
         simp only [DB];rw [show AA AB (AA AJ (0 - QW s))=FC (JX (0 - QW s)) from rfl,tC];cases decide (D0 (FC (JX (0 - QW s)))=s) <;> simp only [DB,DC]
   ·have c1:decide (ic (AH (KF s)) > 8)=true:=AF (by simp only [ic]; omega);rw [c1,DB];unfold fZ;rw [AL h8,BX,DC]
 ·simp [R.get] at h
open Go Go.Proofs
def HT (N:Nat):Env:=DV [(54,QL),(20,LM),(55,LN),(49,PE),(52,RY),(53,aY)] [(7,⟨[1,2,3,4,28,29,30],[1,3,500],[⟨.tmp 4,500,9,false,[.str]⟩]⟩),(13,⟨[2,3,43,44,45],[3],[]⟩),(17,⟨[2,3,43,44,45,59,60,61],[3],[]⟩)] 94 N
abbrev TU (s2:BA) (n4 n28:Nat) (x29 x30 u02 u03 u04 u05 u06:Int) (u00:LI) (so3:BA) (u01:LI):St:=⟨[(1,(.ptr 1 0 0)),(2,(.str s2)),(3,(.ptr 3 0 0)),(4,(.row 500 0 n4)),(28,(.bview 1 2 3 1 n28)),(29,(.i x29)),(30,(.i x30))],[(1,(some (.box [.i u02,.i u03,.i u04,.i u05,.i u06,.list true [.z,.list false [.int .u64]] u00]))),(3,(some (.bld so3))),(500,(some (.row true 9 false [.str] u01)))]⟩
abbrev Y1 (s2:BA) (l43:LI) (x44 x45:Int) (so3:BA):St:=⟨[(2,(.str s2)),(3,(.ptr 3 0 0)),(43,(.list true [.z,.list false [.int .u64]] l43)),(44,(.i x44)),(45,(.i x45))],[(3,(some (.bld so3)))]⟩
abbrev WO (s2:BA) (l43:LI) (x44 x45:Int) (l59:LI) (x60 x61:Int) (so3:BA):St:=⟨[(2,(.str s2)),(3,(.ptr 3 0 0)),(43,(.list true [.z,.list false [.int .u64]] l43)),(44,(.i x44)),(45,(.i x45)),(59,(.list false [.int .u64] l59)),(60,(.i x60)),(61,(.i x61))],[(3,(some (.bld so3)))]⟩
theorem zcn (N:Nat) (u04 u03 u00 u01 u02:Int) (u05:LI):DQ (HT N) J1 [.tmp 2] [[.str]] [.agg [.i u04,.i u03,.i u00,.i u01,.i u02,.list true [.z,.list false [.int .u64]] u05]]=(cond (!EQ {d:=u04,c:=u03,b0:=u00,b1:=u01,b2:=u02,ts:=u05}) (some ((.str ({data:=#[]})),[])) (cond (BS (AE (AQ 0 (AK 3 [IV.str {data:=#[102,111,114,101,115,116]},IV.str (DP u04),IV.str (DP u03)]))) 1000&&decide (AH CH+AH (FQ (A3 IV.toStr (AQ 0 (AK 3 [IV.str {data:=#[102,111,114,101,115,116]},IV.str (DP u04),IV.str (DP u03)]))))≤1000000000)) (cond (decide (0≤u03)&&decide (u03≤ic 3)) (DR (HT N) (DD J1 [1,1,1,1,1,0,1,0,0]) ⟨[1,2,3,4,28,29,30],[1,3,500],[⟨(.tmp 4),500,9,false,[.str]⟩]⟩ N (TU ({data:=#[]}) 1 (AD u03) (ic (AD u03)) 0 u04 u03 u00 u01 u02 u05 (CH++FQ (A3 IV.toStr (AQ 0 (AK 3 [IV.str {data:=#[102,111,114,101,115,116]},IV.str (DP u04),IV.str (DP u03)])))) [(IV.str {data:=#[98,105,97,115]})]) (DI 0 (DJ (HT N) (DD J1 [1,1,1,1,1,1]) (DL (HT N) none [.tmp 2] [[.str]])))) none) none)):=by kernel_rfl
theorem jU (N:Nat) (s2:BA) (n4 n28:Nat) (x29 x30 u02 u03 u04 u05 u06:Int) (u00:LI) (so3:BA) (u01:LI) (again:St→DG) (k:Out→St→DG):E4 (HT N) (DD J1 [1,1,1,1,1,0,1,0,0]) (TU s2 n4 n28 x29 x30 u02 u03 u04 u05 u06 u00 so3 u01) (EH again ⟨[1,2,3,4,28,29,30],[1,3,500],[⟨(.tmp 4),500,9,false,[.str]⟩]⟩ k)=(cond (decide (x30 < x29)) (cond (decide (x30 < ic n28)) (cond (decide (x30=ic 0)) (cond (decide ((n4+AE (AQ 0 (AK 1 [IV.str (D0 u04)])))*TI.bytes (Env.tyd (HT N) 9)≤D1)) (again (TU s2 (n4+AE (AQ 0 (AK 1 [IV.str (D0 u04)]))) n28 x29 (AA AB (x30+1)) u02 u03 u04 u05 u06 u00 so3 (AK n4 u01++AQ 0 (AK 1 [IV.str (D0 u04)])))) none) (cond (decide (x30=ic 1)) (cond (decide ((n4+AE (AQ 0 (AK 1 [IV.str (D0 u05)])))*TI.bytes (Env.tyd (HT N) 9)≤D1)) (again (TU s2 (n4+AE (AQ 0 (AK 1 [IV.str (D0 u05)]))) n28 x29 (AA AB (x30+1)) u02 u03 u04 u05 u06 u00 so3 (AK n4 u01++AQ 0 (AK 1 [IV.str (D0 u05)])))) none) (cond (decide (x30=ic 2)) (cond (decide ((n4+AE (AQ 0 (AK 1 [IV.str (D0 u06)])))*TI.bytes (Env.tyd (HT N) 9)≤D1)) (again (TU s2 (n4+AE (AQ 0 (AK 1 [IV.str (D0 u06)]))) n28 x29 (AA AB (x30+1)) u02 u03 u04 u05 u06 u00 so3 (AK n4 u01++AQ 0 (AK 1 [IV.str (D0 u06)])))) none) none))) none) (k (.exit 0) (TU s2 n4 n28 x29 x30 u02 u03 u04 u05 u06 u00 so3 u01))):=by kernel_rfl
theorem Tu (N:Nat) (s2:BA) (n4 n28:Nat) (x29 x30 u02 u03 u04 u05 u06:Int) (u00:LI) (so3:BA) (u01:LI):(DI 0 (DJ (HT N) (DD J1 [1,1,1,1,1,1]) (DL (HT N) none [.tmp 2] [[.str]]))) (.exit 0) (TU s2 n4 n28 x29 x30 u02 u03 u04 u05 u06 u00 so3 u01)=(cond (BS (AE (AQ 0 (AK n4 u01))) 1000&&decide (AH so3+AH (FQ (A3 IV.toStr (AQ 0 (AK n4 u01))))≤1000000000)) (DR (HT N) (DD J1 [1,1,1,1,1,1,1,0,1,0,0]) ⟨[2,3,43,44,45],[3],[]⟩ N (Y1 s2 u00 (ic (AE u00)) 0 (so3++FQ (A3 IV.toStr (AQ 0 (AK n4 u01))))) (DI 2 (DJ (HT N) (DD J1 [1,1,1,1,1,1,1,1]) (DL (HT N) none [.tmp 2] [[.str]])))) none):=by kernel_rfl
theorem Im (N:Nat) (s2:BA) (l43:LI) (x44 x45:Int) (so3:BA) (again:St→DG) (k:Out→St→DG):E4 (HT N) (DD J1 [1,1,1,1,1,1,1,0,1,0,0]) (Y1 s2 l43 x44 x45 so3) (EH again ⟨[2,3,43,44,45],[3],[]⟩ k)=(cond (decide (x45 < x44)) (cond (decide (0≤x45)&&decide (x45 < ic (AE l43))) (cond (BS (AE (AQ 0 (AK 3 [IV.str {data:=#[116,114,101,101]},IV.str (DP (IV.toInt (IV.cell (AI l43 (AD x45) default) 0))),IV.str (DP (ic (AE (IV.toList (IV.cell (AI l43 (AD x45) default) 1)))))]))) 1000&&decide (AH so3+AH (FQ (A3 IV.toStr (AQ 0 (AK 3 [IV.str {data:=#[116,114,101,101]},IV.str (DP (IV.toInt (IV.cell (AI l43 (AD x45) default) 0))),IV.str (DP (ic (AE (IV.toList (IV.cell (AI l43 (AD x45) default) 1)))))]))))≤1000000000)) (DR (HT N) (DD J1 [1,1,1,1,1,1,1,0,1,0,0,1,1,0,0,1,1,1,0,0]) ⟨[2,3,43,44,45,59,60,61],[3],[]⟩ N (WO s2 l43 x44 x45 (IV.toList (IV.cell (AI l43 (AD x45) default) 1)) (ic (AE (IV.toList (IV.cell (AI l43 (AD x45) default) 1)))) 0 (so3++FQ (A3 IV.toStr (AQ 0 (AK 3 [IV.str {data:=#[116,114,101,101]},IV.str (DP (IV.toInt (IV.cell (AI l43 (AD x45) default) 0))),IV.str (DP (ic (AE (IV.toList (IV.cell (AI l43 (AD x45) default) 1)))))]))))) (DI 4 (DI 3 (DJ (HT N) (DD J1 [1,1,1,1,1,1,1,0,1,0,0,1,1,1]) (EH again ⟨[2,3,43,44,45],[3],[]⟩ k))))) none) none) (k (.exit 2) (Y1 s2 l43 x44 x45 so3))):=by kernel_rfl
theorem Io (N:Nat) (s2:BA) (l43:LI) (x44 x45:Int) (l59:LI) (x60 x61:Int) (so3:BA) (again:St→DG) (k:Out→St→DG):E4 (HT N) (DD J1 [1,1,1,1,1,1,1,0,1,0,0,1,1,0,0,1,1,1,0,0]) (WO s2 l43 x44 x45 l59 x60 x61 so3) (EH again ⟨[2,3,43,44,45,59,60,61],[3],[]⟩ k)=(cond (decide (x61 < x60)) (cond (decide (0≤x61)&&decide (x61 < ic (AE l59))) (cond (Nd.lf (DE (IV.toInt (AI l59 (AD x61) default)))) (cond (BS (AE (AQ 0 (AK 2 [IV.str {data:=#[108,101,97,102]},IV.str (D0 (Nd.v (DE (IV.toInt (AI l59 (AD x61) default)))))]))) 1000&&decide (AH so3+AH (FQ (A3 IV.toStr (AQ 0 (AK 2 [IV.str {data:=#[108,101,97,102]},IV.str (D0 (Nd.v (DE (IV.toInt (AI l59 (AD x61) default)))))]))))≤1000000000)) (again (WO s2 l43 x44 x45 l59 x60 (AA AB (x61+1)) (so3++FQ (A3 IV.toStr (AQ 0 (AK 2 [IV.str {data:=#[108,101,97,102]},IV.str (D0 (Nd.v (DE (IV.toInt (AI l59 (AD x61) default)))))])))))) none) (cond (BS (AE (AQ 0 (AK 8 [IV.str {data:=#[105,102]},IV.str (DP (Nd.f (DE (IV.toInt (AI l59 (AD x61) default))))),IV.str {data:=#[60,61]},IV.str (D0 (Nd.a (DE (IV.toInt (AI l59 (AD x61) default))))),IV.str {data:=#[116,104,101,110]},IV.str (DP (Nd.l (DE (IV.toInt (AI l59 (AD x61) default))))),IV.str {data:=#[101,108,115,101]},IV.str (DP (Nd.r (DE (IV.toInt (AI l59 (AD x61) default)))))]))) 1000&&decide (AH so3+AH (FQ (A3 IV.toStr (AQ 0 (AK 8 [IV.str {data:=#[105,102]},IV.str (DP (Nd.f (DE (IV.toInt (AI l59 (AD x61) default))))),IV.str {data:=#[60,61]},IV.str (D0 (Nd.a (DE (IV.toInt (AI l59 (AD x61) default))))),IV.str {data:=#[116,104,101,110]},IV.str (DP (Nd.l (DE (IV.toInt (AI l59 (AD x61) default))))),IV.str {data:=#[101,108,115,101]},IV.str (DP (Nd.r (DE (IV.toInt (AI l59 (AD x61) default)))))]))))≤1000000000)) (again (WO s2 l43 x44 x45 l59 x60 (AA AB (x61+1)) (so3++FQ (A3 IV.toStr (AQ 0 (AK 8 [IV.str {data:=#[105,102]},IV.str (DP (Nd.f (DE (IV.toInt (AI l59 (AD x61) default))))),IV.str {data:=#[60,61]},IV.str (D0 (Nd.a (DE (IV.toInt (AI l59 (AD x61) default))))),IV.str {data:=#[116,104,101,110]},IV.str (DP (Nd.l (DE (IV.toInt (AI l59 (AD x61) default))))),IV.str {data:=#[101,108,115,101]},IV.str (DP (Nd.r (DE (IV.toInt (AI l59 (AD x61) default)))))])))))) none)) none) (k (.exit 4) (WO s2 l43 x44 x45 l59 x60 x61 so3))):=by kernel_rfl
theorem Tv (N:Nat) (s2:BA) (l43:LI) (x44 x45:Int) (so3:BA):(DI 2 (DJ (HT N) (DD J1 [1,1,1,1,1,1,1,1]) (DL (HT N) none [.tmp 2] [[.str]]))) (.exit 2) (Y1 s2 l43 x44 x45 so3)=(some ((.str so3),[])):=by kernel_rfl
theorem Tw (N:Nat) (again:St→DG) (k:Out→St→DG) (s2:BA) (l43:LI) (x44 x45:Int) (l59:LI) (x60 x61:Int) (so3:BA):(DI 4 (DI 3 (DJ (HT N) (DD J1 [1,1,1,1,1,1,1,0,1,0,0,1,1,1]) (EH again ⟨[2,3,43,44,45],[3],[]⟩ k)))) (.exit 4) (WO s2 l43 x44 x45 l59 x60 x61 so3)=(again (Y1 s2 l43 x44 (AA AB (x45+1)) so3)):=by kernel_rfl
def Ng (N:Nat):Env:=DV [(87,WT),(48,RZ),(86,WV)] [] 10 N
theorem zcp (N:Nat) (b:BA) (u00:LI):DQ (Ng N) vN [] [] [.bor [.bld b],.list false [.str] u00]=(cond (decide (AE u00≤strMax)&&decide (AH (HE (A3 IV.toStr u00) {data:=#[32]})≤strMax)) (cond (decide (AH b+AH (HE (A3 IV.toStr u00) {data:=#[32]})≤strMax)) (cond (decide (AH (b++HE (A3 IV.toStr u00) {data:=#[32]})+1≤strMax)) (some ((.tup []),[[(.bld (ByteArray.push (b++HE (A3 IV.toStr u00) {data:=#[32]}) (MA 10)))]])) none) none) none):=by kernel_rfl
def Nh (N:Nat):Env:=DV [(74,PF)] [] 26 N
theorem zcq (N:Nat) (u00:LI):DQ (Nh N) vO [.tmp 2] [[.list false [.str]]] [.bor [.list false [.str] u00]]=(cond (ic (AE u00)==0) (some ((.list false [.str] []),[[.list false [.str] u00]])) (cond (decide (0≤0)&&decide (0 < ic (AE u00))) (cond (decide (0≤1)&&decide (1≤ic (AE u00))) (cond (decide (AH (IV.toStr (AI u00 (AD 0) default)) < 4294967281)&&decide (1≤AH {data:=#[32]})) (some ((.list false [.str] (A3 IV.str (D7 (IV.toStr (AI u00 (AD 0) default)) {data:=#[32]}))),[[.list false [.str] (AQ (AD 1) (AK (AE u00) u00))]])) none) none) none)):=by kernel_rfl
def Nk (N:Nat):Env:=DV [] [] 13 N
theorem zct (N:Nat) (l:LI) (i:Int):DQ (Nk N) vR [.tmp 4] [[.str]] [.list false [.str] l,.i i]=(cond (decide (i≥ic (AE l))) (some ((.str ({data:=#[]})),[])) (cond (decide (0≤i)&&decide (i < ic (AE l))) (some ((.str (IV.toStr (AI l (AD i) default))),[])) none)):=by kernel_rfl
def Nf (N:Nat):Env:=DV [(111,WS)] [] 24 N
theorem zco (N:Nat) (s:BA) (most:Int):DQ (Nf N) vM [.tmp 4] [[.z]] [.str s,.i most]=(cond (!OF s) (some ((.i 0),[])) (cond (decide (FV s < 0)) (some ((.i 0),[])) (cond (decide (FV s > most)) (some ((.i 0),[])) (some ((.i (FV s)),[]))))):=by kernel_rfl
def Nj (N:Nat):Env:=DV [(112,T6)] [] 11 N
theorem zcs (N:Nat) (s:BA):DQ (Nj N) vQ [.tmp 2] [[.z]] [.str s]=(cond (decide (AH s < 4294967281)) (some ((.i (GI s)),[])) none):=by kernel_rfl
def Ni (N:Nat):Env:=DV [(95,UD),(77,UM),(76,UN),(79,UO),(78,UP)] [] 28 N
theorem zcr (N:Nat) (u00:LI):DQ (Ni N) vP [.tmp 2] [[.int .u64]] [.bor [.list false [.str] u00]]=(cond (JT u00) (cond (BR (D2 (E3 u00) (AD 0))==BR {data:=#[108,101,97,102]}) (cond (decide (AH (D2 (E3 u00) (AD 1)) < 4294967281)) (some ((.int .u64 (II {lf:=true,v:=GI (D2 (E3 u00) (AD 1)),f:=0,a:=0,l:=0,r:=0})),[[.list false [.str] (AQ 1 u00)]])) none) (cond (decide (AH (D2 (E3 u00) (AD 3)) < 4294967281)) (some ((.int .u64 (II {lf:=false,v:=0,f:=FP (D2 (E3 u00) (AD 1)) 4,a:=GI (D2 (E3 u00) (AD 3)),l:=FP (D2 (E3 u00) (AD 5)) 31,r:=FP (D2 (E3 u00) (AD 7)) 31})),[[.list false [.str] (AQ 1 u00)]])) none)) none):=by kernel_rfl
def Mc (N:Nat):Env:=DV [] [] 21 N
theorem zbD (N:Nat) (s u00:BA):DQ (Mc N) uP [.tmp 4] [[.bool]] [.str s,.str u00]=(cond (decide (ic (AH s)≥ic (AH u00))) (cond (decide (0≤AA AB (ic (AH s) - ic (AH u00)))&&decide (AA AB (ic (AH s) - ic (AH u00))≤ic (AH s))) (some ((.bool (BR (ByteArray.extract s (AD (AA AB (ic (AH s) - ic (AH u00)))) (AH s))==BR u00)),[])) none) (some ((.bool false),[]))):=by kernel_rfl
def Me (N:Nat):Env:=DV [(149,Z9)] [] 16 N
theorem zbE (N:Nat) (s u00:BA):DQ (Me N) uQ [.tmp 4] [[.str]] [.str s,.str u00]=(cond (VE s u00) (cond (decide (0≤AA AB (ic (AH s) - ic (AH u00)))&&decide (AA AB (ic (AH s) - ic (AH u00))≤ic (AH s))) (some ((.str (ByteArray.extract s 0 (AD (AA AB (ic (AH s) - ic (AH u00)))))),[])) none) (some ((.str s),[]))):=by kernel_rfl
def Nc (N:Nat):Env:=DV [(110,aA)] [] 8 N
theorem zcl (N:Nat) (s u00:BA):DQ (Nc N) vL [.tmp 4] [[.str]] [.str s,.str u00]=(some ((.str (I0 s u00)),[])):=by kernel_rfl
open Go Go.Proofs
theorem Zt (l:List BA) (h:∀ w∈l,w.size≤100):(HE l IC).size≤101*l.length:=by
 have hs:(HE l IC).size=(Lib.join (l.map (·.data.toList)) [32]).length:=by
  show (Array.size (List.toArray _))=_;rw [vac]
 rw [hs];cases l with
 | nil=>simp [Lib.join_nil]
 | cons x r=>
  rw [AZ,Lib.join_length]
  have:∀ (r:List BA),(∀ w∈r,w.size≤100)→Lib.lens (r.map (·.data.toList))≤100*r.length:=fun r=>by
   induction r with
   | nil=>intro _; simp [Lib.lens]
   | cons y r ih=>
    intro h;have h1:=h y (AU ..);rw [V4] at h1;have h2:=ih (fun w hw=>h w (AW _ hw));rw [AZ,AM];simp only [Lib.lens,AZ,va2] at h2 ⊢;omega
  have:=this (x :: r) h
  rw [AZ] at this;simp only [AM,B9,A6] at this ⊢;omega
theorem cK (ws:List BA) (hl:ws.length≤8) (h:∀ w∈ws,w.size≤100):(FQ ws).size≤809:=by
 unfold FQ
 have:=Zt ws h
 rw [BI];have e:AH WE=1:=rfl;rw [e];omega
theorem q9:∀ (a b:List (List BA)),HA (a++b)=HA a++HA b
 | [],b=>by
  show HA b=CH++HA b;rw [ByteArray.empty_append]
 | l :: a,b=>by
  rw [vaf,HA,HA,q9 a b,vai]
theorem Je:∀ (L:List (List BA)),(∀ l∈L,l.length≤8∧∀ w∈l,w.size≤100)→(HA L).size≤809*L.length
 | [],_=>by
  have:AH (HA [])=0:=rfl
  omega
 | l :: L,h=>by
  have h1:=cK l (h l (AU ..)).1 (h l (AU ..)).2;have h2:=Je L fun x hx=>h x (AW _ hx)
  rw [HA,BI,AM];omega
theorem VJ {n:Int} (h:FA n):(DP n).size≤100:=by
 have:=nB h.1 h.2
 omega
theorem c8 {n:Int} (h:FA n):(D0 n).size≤100:=by
 have:=(X3 n h).2
 omega
theorem mR {n:Int} (h:EY n=true) : -2147483648≤n∧n≤2147483647:=by
 unfold EY at h
 rwa [AG,AP,AP] at h
structure Nd.In (x:Nd):Prop where
 v : -2147483648≤x.v∧x.v≤2147483647
 f:0≤x.f∧x.f < 4
 a : -2147483648≤x.a∧x.a≤2147483647
 l:0≤x.l∧x.l < 31
 r:0≤x.r∧x.r < 31
 lf:x.lf=true→x.f=0∧x.a=0∧x.l=0∧x.r=0
 fk:x.lf=false→x.v=0
theorem zdN {x:Nd} (h:NA x=true):x.In:=by
 obtain ⟨lf,v,f,a,l,r⟩:=x;unfold NA at h;cases lf with
 | true=>
  simp only [CT,AG,Nd.eq,CB] at h;obtain ⟨⟨_,_,h1,h2,h3,h4,_⟩,hv⟩:=h;subst h1 h2 h3 h4;have z4:(0:Int)≤0∧(0:Int) < 4:=by decide
  have z31:(0:Int)≤0∧(0:Int) < 31:=by decide
  have zf:(-2147483648:Int)≤0∧(0:Int)≤2147483647:=by decide
  exact ⟨mR hv,z4,zf,z31,z31,fun _=>⟨rfl,rfl,rfl,rfl⟩,fun h=>Bool.noConfusion h⟩
 | false=>
  simp only [CG,AG,CB,AP,QV] at h;obtain ⟨hv,hf0,hf1,ha,⟨hl0,hl1⟩,hr0,hr1⟩:=h;subst hv;have zf:(-2147483648:Int)≤0∧(0:Int)≤2147483647:=by decide
  have l0:(0:Int)≤l:=by omega
  have r0:(0:Int)≤r:=by omega
  exact ⟨zf,⟨hf0,hf1⟩,mR ha,⟨l0,hl1⟩,⟨r0,hr1⟩,fun h=>Bool.noConfusion h,fun _=>rfl⟩
theorem Aw {x:Nd} (h:x.In):(SO x).length≤8∧∀ w∈SO x,w.size≤100:=by
 have hv:FA x.v:=by have:=h.v; unfold FA; omega
 have hf:FA x.f:=by have:=h.f; unfold FA; omega
 have ha:FA x.a:=by have:=h.a; unfold FA; omega
 have hl:FA x.l:=by have:=h.l; unfold FA; omega
 have hr:FA x.r:=by have:=h.r; unfold FA; omega
 unfold SO;cases x.lf with
 | true=>
  refine ⟨by simp,fun w hw=>?_⟩;simp only [CT,AX,CY,vak] at hw;rcases hw with rfl | rfl
  ·decide
  ·exact c8 hv
 | false=>
  refine ⟨by simp,fun w hw=>?_⟩;simp only [CG,AX,CY,vak] at hw;rcases hw with rfl | rfl | rfl | rfl | rfl | rfl | rfl | rfl
  ·decide
  ·exact VJ hf
  ·decide
  ·exact c8 ha
  ·decide
  ·exact VJ hl
  ·decide
  ·exact VJ hr
theorem Az {dim n:Int}:∀ {l:LI} {i:Nat},KI dim n i l=true→∀ w∈l,GA w.toInt=true
 | [],_,_,w,hw=>by cases hw
 | x :: l,i,h,w,hw=>by
  unfold KI at h;rw [AG,AG] at h;rcases AX.1 hw with rfl | hw
  ·exact h.1.1
  ·exact Az h.2 w hw
theorem Av {w:Int} (h:GA w=true):(DE w).In:=by
 have hn:DE w=VX w:=by unfold DE; rw [h]; rfl
 unfold GA at h;simp only [AG,BW,CB,BZ] at h;rw [hn];apply zdN;cases hr:NA (VX w) with
 | true=>rfl
 | false=>
  have:=h.2
  unfold II at this;rw [hr] at this;exact absurd this.symm h.1
theorem zft:DO PR B0 53 aY:=by
 refine DX [(87,WT),(48,RZ),(86,WV)] [] aY [] Tryz.func53 Yy ⟨Gi,qF,Gk,trivial⟩ ?_;intro vs r hwf h;unfold aY at h;split at h
 ·rename_i s ws;cases hc:(BS ws.length 1000&&decide (s.size+(FQ (ws.map IV.toStr)).size≤1000000000)) with
  | false=>rw [hc] at h; simp [R.get] at h
  | true=>
   rw [hc,R.get_br,DB,R.get_ok] at h;rw [AG,AP] at hc;have h1:=AN hc.1;have h2:=hc.2;have m:strMax=140737488355327:=rfl;refine ⟨0,?_⟩;rw [← h];refine (zcp 0 s ws).trans ?_;have e:ByteArray.push (s++HE (ws.map IV.toStr) IC) (MA 10)=s++FQ (ws.map IV.toStr):=by
    apply W2;unfold FQ;simp;rfl
   have e2:(FQ (ws.map IV.toStr)).size=(HE (ws.map IV.toStr) IC).size+1:=by
    unfold FQ;rw [BI];rfl
   rw [e2] at h2;rw [AF (show ws.length≤strMax by omega),AF (show (HE (ws.map IV.toStr) IC).size≤strMax by omega),AF (show s.size+(HE (ws.map IV.toStr) IC).size≤strMax by omega),
    AF (show AH (s++HE (ws.map IV.toStr) IC)+1≤strMax by rw [BI]; omega),BH,DB,DB,DB,e]
 ·simp [R.get] at h
theorem zas (s:BA) (hs:s.size < 4294967281):∀ i,(D2 (G5 s) i).size < 4294967281:=by
 intro i;unfold D2;rw [BO];cases h:(G5 s)[i]? with
 | none=>decide
 | some x=>
  have hx:x∈G5 s:=vah h;unfold G5 at hx;obtain ⟨w,hw,rfl⟩:=vao.1 hx
  have:=(YH IC _ s).2 w hw
  exact Nat.lt_of_le_of_lt this hs
theorem oD {ls:LI} (h:JT ls=true) (i:Nat):(D2 (E3 ls) i).size < 4294967281:=by
 unfold JT at h;cases ls with
 | nil=>
  show AH (IV.toStr (AI [] i default)) < _;rw [List.getD_nil];decide
 | cons l r=>
  rw [List.all_cons,AG,AP] at h;exact zas _ h.1 i
theorem VR {ls:LI} (h:JT ls=true) (k:Nat):JT (ls.drop k)=true:=by
 unfold JT at h ⊢;rw [CN] at h ⊢;exact fun x hx=>h x (vaX hx)
theorem Gq:DO PR B0 76 UN:=by
 refine DX [(74,PF)] [] UN [[.list false [.str]]] Tryz.func76 Yz ⟨jN,trivial⟩ ?_;intro vs r hwf h;unfold UN at h;split at h
 ·rename_i ls;cases hc:JT ls with
  | false=>rw [hc] at h; simp [R.get] at h
  | true=>
   rw [hc,R.get_br,DB,R.get_ok] at h;refine ⟨0,?_⟩;rw [← h];refine (zcq 0 ls).trans ?_;cases ls with
   | nil=>rfl
   | cons l r=>
    unfold JT at hc;rw [List.all_cons,AG] at hc;have e0:(ic (AE (l :: r))==0)=false:=by
     rw [R4];exact AL (by simp only [ic,AM]; omega)
    have e1:IV.toStr (AI (l :: r) (AD 0) default)=l.toStr:=rfl;have e2:AQ (AD 1) (AK (AE (l :: r)) (l :: r))=AQ 1 (l :: r):=by rw [BD]; rfl
    have e3:decide (1≤AH IC)=true:=rfl;rw [e0,e1,e2,e3,hc.1,DC];simp only [AF (show (0:Int) < ic (AE (l :: r)) by simp only [ic,AM]; omega),AF (show (1:Int)≤ic (AE (l :: r)) by simp only [ic,AM]; omega)];rfl
 ·simp [R.get] at h
theorem Gs:DO PR B0 78 UP:=by
 refine DX [] [] UP [[.str]] Tryz.func78 Zc trivial ?_;intro vs r hwf h;unfold UP at h;split at h
 ·rename_i l i;cases hc:decide (0≤i) with
  | false=>rw [hc] at h; simp [R.get] at h
  | true=>
   rw [hc,R.get_br,DB,R.get_ok] at h;have h0:=AY hc;refine ⟨0,?_⟩;rw [← h];refine (zct 0 l i).trans ?_;cases hi:decide (i≥ic l.length) with
   | true=>
    have hi:=AY hi;simp only [ic] at hi;have e:D2 l i.toNat=CH:=by
     unfold D2;rw [BO,BU (by omega)];rfl
    rw [e,DB];rfl
   | false=>
    have hi:=BE hi;rw [DC,AF h0,AF (show i < ic l.length by omega),BH,DB];rfl
 ·simp [R.get] at h
theorem Gp:DO PR B0 77 UM:=by
 refine DX [(111,WS)] [] UM [[.z]] Tryz.func77 Yx ⟨Gh,trivial⟩ ?_;intro vs r hwf h;unfold UM at h;split at h
 ·rename_i s most;refine ⟨0,?_⟩;rw [R.get_ok] at h;rw [← h];refine (zco 0 s most).trans ?_;unfold FP;cases OF s <;> cases decide (FV s < 0) <;> cases decide (FV s > most) <;> rfl
 ·simp [R.get] at h
theorem Gr:DO PR B0 79 UO:=by
 refine DX [(112,T6)] [] UO [[.z]] Tryz.func79 Zb ⟨Fo,trivial⟩ ?_;intro vs r hwf h;unfold UO at h;split at h
 ·rename_i s;cases hc:decide (s.size < 4294967281) with
  | false=>rw [hc] at h; simp [R.get] at h
  | true=>
   rw [hc,R.get_br,DB,R.get_ok] at h;refine ⟨0,?_⟩;rw [← h];refine (zcs 0 s).trans ?_;rw [hc,DB]
 ·simp [R.get] at h
theorem zfu:DO PR B0 80 aZ:=by
 refine DX [(95,UD),(77,UM),(76,UN),(79,UO),(78,UP)] [] aZ [[.int .u64]] Tryz.func80 Za ⟨Ga,Gp,Gq,Gr,Gs,trivial⟩ ?_;intro vs r hwf h;unfold aZ at h;split at h
 ·rename_i ls;cases hc:JT ls with
  | false=>rw [hc] at h; simp [R.get] at h
  | true=>
   rw [hc,R.get_br,DB,R.get_ok] at h;refine ⟨0,?_⟩;rw [← h];refine (zcr 0 ls).trans ?_;rw [hc,DB,AF (oD hc (AD 1)),AF (oD hc (AD 3)),DB,DB];unfold VW;have e:(BR (D2 (E3 ls) (AD 0))==BR { data:=#[108,101,97,102] })=((D2 (E3 ls) 0).toList==YO.toList):=rfl;rw [e];cases ((D2 (E3 ls) 0).toList==YO.toList) <;> rfl
 ·simp [R.get] at h
theorem zeU:DO PR B0 149 Z9:=by
 refine DX [] [] Z9 [[.bool]] Tryz.func149 Xf trivial ?_;intro vs r hwf h;unfold Z9 at h;split at h
 ·rename_i s t;refine ⟨0,?_⟩;rw [R.get_ok] at h;rw [← h];refine (zbD 0 s t).trans ?_;have hb:=hwf (by simp [KK]);have hs:s.size≤strMax:=hb.1;have m:strMax=140737488355327:=rfl;unfold VE;by_cases hl:t.size≤s.size
  ·have e:AA AB (ic s.size - ic t.size)=((s.size - t.size:Nat):Int):=by
    rw [EA (by simp only [ic]; omega) (by simp only [ic]; omega)];simp only [ic];omega
   rw [e,AF (show ic s.size≥ic t.size by simp only [ic]; omega),DB,AF (show (0:Int)≤((s.size - t.size:Nat):Int) by omega),AF (show ((s.size - t.size:Nat):Int)≤ic s.size by simp only [ic]; omega),BH,DB,AF hl,BG,BC]
  ·rw [AL (show ¬ ic s.size≥ic t.size by simp only [ic]; omega),DC,AL hl,BX]
 ·simp [R.get] at h
theorem zeV:DO PR B0 110 aA:=by
 refine DX [(149,Z9)] [] aA [[.str]] Tryz.func110 Xg ⟨zeU,trivial⟩ ?_;intro vs r hwf h;unfold aA at h;split at h
 ·rename_i s t;refine ⟨0,?_⟩;rw [R.get_ok] at h;rw [← h];refine (zbE 0 s t).trans ?_;have hb:=hwf (by simp [KK]);have hs:s.size≤strMax:=hb.1;have m:strMax=140737488355327:=rfl;unfold I0;cases hh:VE s t with
  | false=>rfl
  | true=>
   have hl:t.size≤s.size:=by
    unfold VE at hh;rw [AG,AP] at hh;exact hh.1
   have e:AA AB (ic s.size - ic t.size)=((s.size - t.size:Nat):Int):=by
    rw [EA (by simp only [ic]; omega) (by simp only [ic]; omega)];simp only [ic];omega
   rw [e,DB,DB,AF (show (0:Int)≤((s.size - t.size:Nat):Int) by omega),AF (show ((s.size - t.size:Nat):Int)≤ic s.size by simp only [ic]; omega),BH,DB,BC]
 ·simp [R.get] at h
theorem Gm:DO PR B0 75 UK:=by
 refine DX [(110,aA)] [] UK [[.str]] Tryz.func75 Yu ⟨zeV,trivial⟩ ?_;intro vs r hwf h;unfold UK at h;split at h
 ·rename_i s t;refine ⟨0,?_⟩;rw [R.get_ok] at h;rw [← h];exact zcl 0 s t
 ·simp [R.get] at h
abbrev Ki (ts:LI) (i:Int) (l:LI) (j:Int) (so:BA):St:=
 ⟨[(2,(.str { data:=#[] })),(3,(.ptr 3 0 0)),(43,(.list true [.z,(.list false [(.int .u64)])] ts)),(44,(.int .i64 (ic ts.length))),(45,(.int .i64 i)),(59,(.list false [(.int .u64)] l)),(60,(.int .i64 (ic l.length))),(61,(.int .i64 j))],[(3,(some (.bld so)))]⟩
theorem Bd (N:Nat) (ts:LI) (i:Int) (l:LI) (hl:l.length≤31) (hn:∀ w∈l,GA w.toInt=true) (K:Out→St→DG):∀ (d j n:Nat) (so:BA),j+d=l.length→d < n→so.size+809*d≤1000000000 →
  DR (HT N) (DD J1 [1,1,1,1,1,1,1,0,1,0,0,1,1,0,0,1,1,1,0,0]) ⟨[2,3,43,44,45,59,60,61],[3],[]⟩ n (Ki ts i l (j:Int) so) K =
   K (.exit 4) (Ki ts i l (ic l.length) (so++HA (PY (l.drop j))))
 | d,j,0,_,_,h,_=>absurd h (by omega)
 | 0,j,n+1,so,hd,_,_=>by
  have hj:j=l.length:=by omega
  subst hj;rw [DY,Io,AL (show ¬ ((l.length:Nat):Int) < ic l.length by simp only [ic]; omega),DC,CX];have e:so++HA (PY [])=so:=by
   show so++CH=so;rw [ByteArray.append_empty]
  rw [e]
 | d+1,j,n+1,so,hd,hn',hz=>by
  have hjl:j < l.length:=by omega
  have ej:AA AB ((j:Int)+1)=((j+1:Nat):Int):=by
   rw [EA (by omega) (by omega)];omega
  have hg:l.getD (AD (j:Int)) default=l[j]:=by
   rw [BC,BO,A5 hjl];rfl
  have hin:=Av (hn l[j] (vaa hjl));have hw:=Aw hin;have hls:=cK _ hw.1 hw.2;rw [DY,Io,ej,hg,AF (show (j:Int) < ic l.length by simp only [ic]; omega),DB,AF (show (0:Int)≤(j:Int) by omega),BH,DB,A7 hjl];have hr:HA (PY (l[j] :: l.drop (j+1)))=FQ (SO (DE l[j].toInt))++HA (PY (l.drop (j+1))):=rfl;rw [hr,← vai];have ih:=Bd N ts i l hl hn K d (j+1) n (so++FQ (SO (DE l[j].toInt))) (by omega) (by omega) (by rw [BI]; omega);rw [← ih];have hsz:decide (so.size+(FQ (SO (DE l[j].toInt))).size≤1000000000)=true:=AF (by omega);revert hsz;unfold SO;cases (DE l[j].toInt).lf with
  | true=>
   intro hsz;have hsz:decide (AH so+AH (FQ [YO,D0 (DE l[j].toInt).v])≤1000000000)=true:=hsz;have e:A3 IV.toStr (AQ 0 (AK 2 [IV.str { data:=#[108,101,97,102] },IV.str (D0 (Nd.v (DE (IV.toInt l[j]))))]))=[YO,D0 (DE l[j].toInt).v]:=rfl;rw [DB,e,hsz];rfl
  | false=>
   intro hsz;have hsz:decide (AH so+AH (FQ [rO,DP (DE l[j].toInt).f,rP,D0 (DE l[j].toInt).a,rR,DP (DE l[j].toInt).l,rM,DP (DE l[j].toInt).r])≤1000000000)=true:=hsz;have e:A3 IV.toStr (AQ 0 (AK 8 [IV.str { data:=#[105,102] },IV.str (DP (Nd.f (DE (IV.toInt l[j])))),IV.str { data:=#[60,61] },IV.str (D0 (Nd.a (DE (IV.toInt l[j])))),IV.str { data:=#[116,104,101,110] },IV.str (DP (Nd.l (DE (IV.toInt l[j])))),IV.str { data:=#[101,108,115,101] },IV.str (DP (Nd.r (DE (IV.toInt l[j]))))]))=[rO,DP (DE l[j].toInt).f,rP,D0 (DE l[j].toInt).a,rR,DP (DE l[j].toInt).l,rM,DP (DE l[j].toInt).r]:=rfl;rw [DC,e,hsz];rfl
theorem Jj {d c:Int} {t:IV} (h:HW d c t=true):0≤(t.cell 0).toInt∧(t.cell 0).toInt < c∧1≤(t.cell 1).toList.length∧(t.cell 1).toList.length≤31∧∀ w∈(t.cell 1).toList,GA w.toInt=true:=by
 unfold HW FY at h;simp only [AG,BW,BL] at h;obtain ⟨h1,h2,⟨h3,h4⟩,h5,_⟩:=h;exact ⟨by omega,by omega,AN h3,AN h4,Az h5⟩
theorem zf5 {d c:Int} {t:IV} (hc:c≤3) (h:HW d c t=true):(∀ l∈V9 t,l.length≤8∧∀ w∈l,w.size≤100)∧(V9 t).length≤32:=by
 obtain ⟨h1,h2,h3,h4,h5⟩:=Jj h;constructor
 ·intro l hl;unfold V9 at hl;rcases AX.1 hl with rfl | hl
  ·refine ⟨by simp,fun w hw=>?_⟩;simp only [AX,CY,vak] at hw;rcases hw with rfl | rfl | rfl
   ·decide
   ·exact VJ (by unfold FA; omega)
   ·exact VJ (by unfold FA; simp only [ic]; omega)
  ·unfold PY at hl;obtain ⟨w,hw,rfl⟩:=vao.1 hl;exact Aw (Av (h5 w hw))
 ·unfold V9 PY;rw [AM,B9];omega
abbrev Kj (ts:LI) (i:Int) (so:BA):St:=
 ⟨[(2,(.str { data:=#[] })),(3,(.ptr 3 0 0)),(43,(.list true [.z,(.list false [(.int .u64)])] ts)),(44,(.int .i64 (ic ts.length))),(45,(.int .i64 i))],[(3,(some (.bld so)))]⟩
theorem Jm (N:Nat) (hN:40≤N) (d c:Int) (hc:c≤3) (ts:LI) (hl:ts.length≤8) (ht:ts.all (HW d c)=true) (K:Out→St→DG):∀ (m i n:Nat) (so:BA),i+m=ts.length→m < n→so.size+30000*m≤1000000000 →
  DR (HT N) (DD J1 [1,1,1,1,1,1,1,0,1,0,0]) ⟨[2,3,43,44,45],[3],[]⟩ n (Kj ts (i:Int) so) K =
   K (.exit 2) (Kj ts (ic ts.length) (so++HA (QA (ts.drop i))))
 | m,i,0,_,_,h,_=>absurd h (by omega)
 | 0,i,n+1,so,hd,_,_=>by
  have hi:i=ts.length:=by omega
  subst hi;rw [DY,Im,AL (show ¬ ((ts.length:Nat):Int) < ic ts.length by simp only [ic]; omega),DC,CX];have e:so++HA (QA [])=so:=by
   show so++CH=so;rw [ByteArray.append_empty]
  rw [e]
 | m+1,i,n+1,so,hd,hn,hz=>by
  have hil:i < ts.length:=by omega
  have ei:AA AB ((i:Int)+1)=((i+1:Nat):Int):=by
   rw [EA (by omega) (by omega)];omega
  have hg:ts.getD (AD (i:Int)) default=ts[i]:=by
   rw [BC,BO,A5 hil];rfl
  have hok:=CN.1 ht ts[i] (vaa hil);have hw:=zf5 hc hok;have hts:=Je _ hw.1;obtain ⟨h1,h2,h3,h4,h5⟩:=Jj hok;have hh:∀ w∈[TG,DP (ts[i].cell 0).toInt,DP (ic (ts[i].cell 1).toList.length)],w.size≤100:=(hw.1 _ (by unfold V9; exact AU ..)).2;have hls:=cK _ (by simp) hh;have e:A3 IV.toStr (AQ 0 (AK 3 [IV.str { data:=#[116,114,101,101] },IV.str (DP (IV.toInt (IV.cell ts[i] 0))),IV.str (DP (ic (AE (IV.toList (IV.cell ts[i] 1)))))]))=[TG,DP (ts[i].cell 0).toInt,DP (ic (ts[i].cell 1).toList.length)]:=rfl;have el:BS (AE (AQ 0 (AK 3 [IV.str { data:=#[116,114,101,101] },IV.str (DP (IV.toInt (IV.cell ts[i] 0))),IV.str (DP (ic (AE (IV.toList (IV.cell ts[i] 1)))))]))) 1000=true:=rfl;rw [DY,Im,hg,e,el,AF (show (i:Int) < ic ts.length by simp only [ic]; omega),DB,AF (show (0:Int)≤(i:Int) by omega),BH,DB,
   AF (show so.size+(FQ [TG,DP (ts[i].cell 0).toInt,DP (ic (ts[i].cell 1).toList.length)]).size≤1000000000 by omega),BH,DB]
  refine (Bd N ts (i:Int) (ts[i].cell 1).toList h4 h5 _ (ts[i].cell 1).toList.length 0 N (so++FQ [TG,DP (ts[i].cell 0).toInt,DP (ic (ts[i].cell 1).toList.length)]) (by omega) (by omega) (by rw [BI]; omega)).trans ?_;rw [Tw,ei,B1,A7 hil];have hr:HA (QA (ts[i] :: ts.drop (i+1)))=(FQ [TG,DP (ts[i].cell 0).toInt,DP (ic (ts[i].cell 1).toList.length)]++HA (PY (ts[i].cell 1).toList))++HA (QA (ts.drop (i+1))):=by
   rw [QA,q9];rfl
  rw [hr,← vai (a:=so),← vai (a:=so)];have hsz:(FQ [TG,DP (ts[i].cell 0).toInt,DP (ic (ts[i].cell 1).toList.length)]++HA (PY (ts[i].cell 1).toList)).size≤26000:=by
   have:HA (V9 ts[i])=FQ [TG,DP (ts[i].cell 0).toInt,DP (ic (ts[i].cell 1).toList.length)]++HA (PY (ts[i].cell 1).toList):=rfl
   rw [← this]
   have:=hw.2
   omega
  exact Jm N hN d c hc ts hl ht K m (i+1) n _ (by omega) (by omega) (by rw [vai,BI]; omega)
abbrev YU (d c b0 b1 b2:Int) (ts:LI) (C:Nat) (so:BA) (ws:LI) (n:Nat) (i:Int):St:=
 ⟨[(1,(.ptr 1 0 0)),(2,(.str { data:=#[] })),(3,(.ptr 3 0 0)),(4,(.row 500 0 n)),(28,(.bview 1 2 3 1 C)),(29,(.int .i64 (ic C))),(30,(.int .i64 i))],[(1,(some (.box [(.int .i64 d),(.int .i64 c),(.int .i64 b0),(.int .i64 b1),(.int .i64 b2),(.list true [.z,(.list false [(.int .u64)])] ts)]))),(3,(some (.bld so))),(500,(some (.row true 9 false [.str] ws)))]⟩
theorem kI (N:Nat) (d c b0 b1 b2:Int) (ts:LI) (C:Nat) (so:BA) (ws:LI) (n i:Nat) (b:Int) (hi:i < C) (hn:n≤10) (h:(i=0∧b=b0)∨(i=1∧b=b1)∨(i=2∧b=b2)) (again:St→DG) (k:Out→St→DG) :
  E4 (HT N) (DD J1 [1,1,1,1,1,0,1,0,0]) (YU d c b0 b1 b2 ts C so ws n (i:Int)) (EH again ⟨[1,2,3,4,28,29,30],[1,3,500],[⟨.tmp 4,500,9,false,[.str]⟩]⟩ k) =
   again (YU d c b0 b1 b2 ts C so (ws.take n++[.str (D0 b)]) (n+1) ((i+1:Nat):Int)):=by
 rw [jU];have ei:AA AB ((i:Int)+1)=((i+1:Nat):Int):=by
  rw [EA (by omega) (by omega)];omega
 have eb:TI.bytes (Env.tyd (HT N) 9)=16:=rfl;have e1:∀ x:IV,AE (AQ 0 (AK 1 [x]))=1:=fun x=>rfl
 rw [ei,eb,e1,e1,e1,AF (show (i:Int) < ic C by simp only [ic]; omega),DB,DB,AF (show (n+1)*16≤D1 by unfold D1; omega)];rcases h with ⟨rfl,rfl⟩ | ⟨rfl,rfl⟩ | ⟨rfl,rfl⟩ <;> rfl
theorem zgq (N:Nat) (hN:10≤N) (d b0 b1 b2:Int) (ts:LI) (C:Nat) (h1:1≤C) (h3:C≤3) (so:BA) (K:Out→St→DG) :
  DR (HT N) (DD J1 [1,1,1,1,1,0,1,0,0]) ⟨[1,2,3,4,28,29,30],[1,3,500],[⟨.tmp 4,500,9,false,[.str]⟩]⟩ N (YU d (C:Int) b0 b1 b2 ts C so [.str N7] 1 0) K =
   K (.exit 0) (YU d (C:Int) b0 b1 b2 ts C so ((N7 :: (([b0,b1,b2].take C).map D0)).map IV.str) (1+C) (C:Int)):=by
 obtain ⟨M,rfl⟩:∃ M,N=M+4:=⟨N - 4,by omega⟩;have e0:YU d (C:Int) b0 b1 b2 ts C so [.str N7] 1 0=YU d (C:Int) b0 b1 b2 ts C so [.str N7] 1 ((0:Nat):Int):=rfl;rw [e0,DY,kI (M+4) d (C:Int) b0 b1 b2 ts C so _ 1 0 b0 (by omega) (by omega) (by simp)]
 match C,h1,h3 with
 | 1,_,_=>
  rw [DY,jU,AL (show ¬ ((0+1:Nat):Int) < ic 1 by decide),DC];rfl
 | 2,_,_=>
  rw [DY,kI (M+4) d _ b0 b1 b2 ts 2 so _ _ 1 b1 (by omega) (by omega) (by simp),DY,jU,AL (show ¬ ((1+1:Nat):Int) < ic 2 by decide),DC];rfl
 | 3,_,_=>
  rw [DY,kI (M+4) d _ b0 b1 b2 ts 3 so _ _ 1 b1 (by omega) (by omega) (by simp),DY,kI (M+4) d _ b0 b1 b2 ts 3 so _ _ 2 b2 (by omega) (by omega) (by simp),DY,jU,AL (show ¬ ((2+1:Nat):Int) < ic 3 by decide),DC];rfl
theorem Am {m:Md} (h:EQ m=true):(1≤m.d∧m.d≤4)∧(1≤m.c∧m.c≤3)∧m.ts.length≤8∧(H6 m.c 0 m.b0=true∧H6 m.c 1 m.b1=true∧H6 m.c 2 m.b2=true)∧m.ts.all (HW m.d m.c)=true:=by
 unfold EQ at h;simp only [AG,BW,BL] at h;obtain ⟨⟨h1,h2,h3,h4,h5⟩,⟨h6,h7,h8⟩,h9⟩:=h;exact ⟨⟨by omega,by omega⟩,⟨by omega,by omega⟩,AN h5,⟨h6,h7,h8⟩,h9⟩
theorem k8 {c j b:Int} (h:H6 c j b=true):(-2147483648≤b∧b≤2147483647)∧(c≤j→b=0):=by
 unfold H6 at h;rw [AG] at h;refine ⟨mR h.1,fun hj=>?_⟩
 have:=h.2
 rw [AF (show j≥c from hj)] at this;simpa using this
theorem Zg {m:Md} (h:EQ m=true):∀ l∈gT m,l.length≤8∧∀ w∈l,w.size≤100:=by
 obtain ⟨hd,hc,_,⟨g0,g1,g2⟩,_⟩:=Am h;have i0:=(k8 g0).1;have i1:=(k8 g1).1;have i2:=(k8 g2).1;intro l hl;unfold gT at hl;simp only [AX,CY,vak] at hl;rcases hl with rfl | rfl
 ·refine ⟨by simp,fun w hw=>?_⟩;simp only [AX,CY,vak] at hw;rcases hw with rfl | rfl | rfl
  ·decide
  ·exact VJ (by unfold FA; omega)
  ·exact VJ (by unfold FA; omega)
 ·refine ⟨by simp only [AM,B9,A8,A6]; omega,fun w hw=>?_⟩;rcases AX.1 hw with rfl | hw
  ·decide
  ·obtain ⟨b,hb,rfl⟩:=vao.1 hw;have hb:=vaY hb;simp only [AX,CY,vak] at hb;rcases hb with rfl | rfl | rfl
   ·exact c8 (by unfold FA; omega)
   ·exact c8 (by unfold FA; omega)
   ·exact c8 (by unfold FA; omega)
set_option maxHeartbeats 1000000 in
theorem Gn:DO PR B0 25 UL:=by
 refine DX [(54,QL),(20,LM),(55,LN),(49,PE),(52,RY),(53,aY)] [(7,⟨[1,2,3,4,28,29,30],[1,3,500],[⟨.tmp 4,500,9,false,[.str]⟩]⟩),(13,⟨[2,3,43,44,45],[3],[]⟩),(17,⟨[2,3,43,44,45,59,60,61],[3],[]⟩)] UL [[.str]] Tryz.func25 Yw ⟨qB,YE,YF,jM,qE,zft,trivial⟩ ?_;intro vs r hwf h;unfold UL at h;split at h
 ·rename_i d c b0 b1 b2 ts;refine ⟨40,?_⟩;rw [R.get_ok] at h;rw [← h];refine (zcn 40 d c b0 b1 b2 ts).trans ?_;unfold dA;cases hm:EQ ⟨d,c,b0,b1,b2,ts⟩ with
  | false=>rfl
  | true=>
   obtain ⟨hd,hc,hl,_,ht⟩:=Am hm;simp only at hd hc hl ht;have hh:=Zg hm;have hh1:=hh _ (List.mem_cons_self ..);have hh2:=hh _ (List.mem_cons_of_mem _ (List.mem_cons_self ..));have z1:=cK _ hh1.1 hh1.2;have z2:=cK _ hh2.1 hh2.2;obtain ⟨C,rfl⟩:∃ C:Nat,c=(C:Int):=⟨c.toNat,by omega⟩;have e1:List.map IV.toStr (List.drop 0 (List.take 3 [IV.str { data:=#[102,111,114,101,115,116] },IV.str (DP d),IV.str (DP (C:Int))]))=[TE,DP d,DP (C:Int)]:=rfl;have e2:Nat.ble (List.length (List.drop 0 (List.take 3 [IV.str { data:=#[102,111,114,101,115,116] },IV.str (DP d),IV.str (DP (C:Int))]))) 1000=true:=rfl;have e3:ByteArray.size ByteArray.empty=0:=rfl;have z1:(FQ [TE,DP d,DP (C:Int)]).size≤809:=z1;rw [Bool.not_true,DC,DB,e1,e2,e3,decide_eq_true (show 0+(FQ [TE,DP d,DP (C:Int)]).size≤1000000000 by omega),Bool.and_self,DB,decide_eq_true (show (0:Int)≤(C:Int) by omega),decide_eq_true (show (C:Int)≤ic 3 by simp only [ic]; omega),Bool.and_self,DB,Int.toNat_natCast,ByteArray.empty_append];refine (zgq 40 (by omega) d b0 b1 b2 ts C (by omega) (by omega) (FQ [TE,DP d,DP (C:Int)]) _).trans ?_;rw [Tu];have e4:List.map IV.toStr (List.drop 0 (List.take (1+C) ((N7 :: (([b0,b1,b2].take C).map D0)).map IV.str)))=N7 :: (([b0,b1,b2].take C).map D0):=by
    match C,hc with
    | 0,hc=>exact absurd hc.1 (by decide)
    | 1,_=>rfl
    | 2,_=>rfl
    | 3,_=>rfl
    | C+4,hc=>exact absurd hc.2 (by omega)
   have e5:Nat.ble (List.length (List.drop 0 (List.take (1+C) ((N7 :: (([b0,b1,b2].take C).map D0)).map IV.str)))) 1000=true:=by
    apply Nat.ble_eq_true_of_le;rw [List.length_drop,List.length_take];omega
   have z2:(FQ (N7 :: (([b0,b1,b2].take C).map D0))).size≤809:=by
    have:(([b0,b1,b2].take (C:Int).toNat).map D0)=(([b0,b1,b2].take C).map D0):=by rw [Int.toNat_natCast]
    rw [← this];exact z2
   rw [e4,e5,decide_eq_true (show (FQ [TE,DP d,DP (C:Int)]).size+(FQ (N7 :: (([b0,b1,b2].take C).map D0))).size≤1000000000 by omega),Bool.and_self,DB];refine (Jm 40 (by omega) d (C:Int) (by omega) ts hl ht _ ts.length 0 40 _ (by omega) (by omega) (by rw [ByteArray.size_append]; omega)).trans ?_;rw [Tv,List.drop_zero];have e6:HA (zQ ⟨d,(C:Int),b0,b1,b2,ts⟩)=FQ [TE,DP d,DP (C:Int)]++FQ (N7 :: (([b0,b1,b2].take C).map D0))++HA (QA ts):=by
    show HA (gT ⟨d,(C:Int),b0,b1,b2,ts⟩++QA ts)=_;rw [q9];show FQ [TE,DP d,DP (C:Int)]++(FQ (N7 :: (([b0,b1,b2].take (C:Int).toNat).map D0))++ByteArray.empty)++HA (QA ts)=_;rw [ByteArray.append_empty,Int.toNat_natCast]
   rw [e6]
 ·simp [R.get] at h
open Go Go.Proofs
def GZ (N:Nat):Env:=DV [(74,PF),(75,UK),(25,UL),(77,UM),(76,UN),(80,aZ),(79,UO),(78,UP)] [(6,⟨[0,2,3,4,6,7,28,29],[2,6,15],[]⟩),(10,⟨[0,2,3,4,6],[2,6,15,500],[⟨.cell 6 5,500,61,true,[.z,.list false [.int .u64]]⟩]⟩),(14,⟨[0,2,3,4,6,10,61,62],[2,6,10,15,500,501],[⟨.cell 6 5,500,61,true,[.z,.list false [.int .u64]]⟩,⟨.cell 10 1,501,84,false,[.int .u64]⟩]⟩)] 88 N
abbrev TT (s0:BA) (b3:Bool) (l7:LI) (x28 x29 u01 u02 u03 u04 u05 u06 u07 u08 u09 u0a:Int) (u00:LI):St:=⟨[(0,(.str s0)),(2,(.ptr 2 0 0)),(3,(.bool b3)),(4,(.ptr 15 0 0)),(6,(.ptr 6 0 0)),(7,(.list false [.str] l7)),(28,(.i x28)),(29,(.i x29))],[(2,(some (.box [.i u01,.i u02,.i u03,.i u04,.i u05,.zs]))),(6,(some (.box [.i u06,.i u07,.i u08,.i u09,.i u0a,.zs]))),(15,(some (.box [.list false [.str] u00])))]⟩
abbrev WN (s0:BA) (b3:Bool) (u03 u04 u05 u06 u07 u08 u09 u0a u0b u0c:Int) (u02:Nat) (u00 u01:LI):St:=⟨[(0,(.str s0)),(2,(.ptr 2 0 0)),(3,(.bool b3)),(4,(.ptr 15 0 0)),(6,(.ptr 6 0 0))],[(2,(some (.box [.i u03,.i u04,.i u05,.i u06,.i u07,.zs]))),(6,(some (.box [.i u08,.i u09,.i u0a,.i u0b,.i u0c,.row 500 0 u02]))),(15,(some (.box [.list false [.str] u00]))),(500,(some (.row true 61 true [.z,.list false [.int .u64]] u01)))]⟩
abbrev Y0 (s0:BA) (b3:Bool) (x61 x62 u06 u07 u08 u09 u0a u0b u0c u0d u0e u0f:Int) (u04:Nat) (u05:Int) (u03:Nat) (u00 u01 u02:LI):St:=⟨[(0,(.str s0)),(2,(.ptr 2 0 0)),(3,(.bool b3)),(4,(.ptr 15 0 0)),(6,(.ptr 6 0 0)),(10,(.ptr 10 0 0)),(61,(.i x61)),(62,(.i x62))],[(2,(some (.box [.i u06,.i u07,.i u08,.i u09,.i u0a,.zs]))),(6,(some (.box [.i u0b,.i u0c,.i u0d,.i u0e,.i u0f,.row 500 0 u04]))),(10,(some (.box [.i u05,.row 501 0 u03]))),(15,(some (.box [.list false [.str] u00]))),(500,(some (.row true 61 true [.z,.list false [.int .u64]] u01))),(501,(some (.row true 84 false [.int .u64] u02)))]⟩
theorem zcm (N:Nat) (s:BA):DQ (GZ N) IS [.cell 2 29,.tmp 3] [[.z,.z,.z,.z,.z,.list true [.z,.list false [.int .u64]]],[.bool]] [.str s]=(cond (decide (AH (I0 s {data:=#[10]}) < 4294967281)&&decide (1≤AH {data:=#[10]})) (cond (JT (A3 IV.str (D7 (I0 s {data:=#[10]}) {data:=#[10]}))) (cond (JT (AQ 1 (A3 IV.str (D7 (I0 s {data:=#[10]}) {data:=#[10]})))) (DR (GZ N) (DD IS [1,1,1,1,1,0,1,0,0]) ⟨[0,2,3,4,6,7,28,29],[2,6,15],[]⟩ N (TT s false (E3 (AQ 1 (A3 IV.str (D7 (I0 s {data:=#[10]}) {data:=#[10]})))) (FP (D2 (E3 (A3 IV.str (D7 (I0 s {data:=#[10]}) {data:=#[10]}))) (AD 2)) 3) 0 0 0 0 0 0 (FP (D2 (E3 (A3 IV.str (D7 (I0 s {data:=#[10]}) {data:=#[10]}))) (AD 1)) 4) (FP (D2 (E3 (A3 IV.str (D7 (I0 s {data:=#[10]}) {data:=#[10]}))) (AD 2)) 3) 0 0 0 (AQ 1 (AQ 1 (A3 IV.str (D7 (I0 s {data:=#[10]}) {data:=#[10]}))))) (DI 0 (DJ (GZ N) (DD IS [1,1,1,1,1,1]) (DL (GZ N) none [.cell 2 29,.tmp 3] [[.z,.z,.z,.z,.z,.list true [.z,.list false [.int .u64]]],[.bool]])))) none) none) none):=by kernel_rfl
theorem dS (N:Nat) (s0:BA) (b3:Bool) (l7:LI) (x28 x29 u01 u02 u03 u04 u05 u06 u07 u08 u09 u0a:Int) (u00:LI) (again:St→DG) (k:Out→St→DG):E4 (GZ N) (DD IS [1,1,1,1,1,0,1,0,0]) (TT s0 b3 l7 x28 x29 u01 u02 u03 u04 u05 u06 u07 u08 u09 u0a u00) (EH again ⟨[0,2,3,4,6,7,28,29],[2,6,15],[]⟩ k)=(cond (decide (x29 < x28)) (cond (decide (0≤AA AB (1+x29))) (cond (decide (AH (D2 l7 (AD (AA AB (1+x29)))) < 4294967281)) (cond (decide (x29=ic 0)) (again (TT s0 b3 l7 x28 (AA AB (x29+1)) u01 u02 u03 u04 u05 u06 u07 (GI (D2 l7 (AD (AA AB (1+x29))))) u09 u0a u00)) (cond (decide (x29=ic 1)) (again (TT s0 b3 l7 x28 (AA AB (x29+1)) u01 u02 u03 u04 u05 u06 u07 u08 (GI (D2 l7 (AD (AA AB (1+x29))))) u0a u00)) (cond (decide (x29=ic 2)) (again (TT s0 b3 l7 x28 (AA AB (x29+1)) u01 u02 u03 u04 u05 u06 u07 u08 u09 (GI (D2 l7 (AD (AA AB (1+x29))))) u00)) none))) none) none) (k (.exit 0) (TT s0 b3 l7 x28 x29 u01 u02 u03 u04 u05 u06 u07 u08 u09 u0a u00))):=by kernel_rfl
theorem Tp (N:Nat) (s0:BA) (b3:Bool) (l7:LI) (x28 x29 u01 u02 u03 u04 u05 u06 u07 u08 u09 u0a:Int) (u00:LI):(DI 0 (DJ (GZ N) (DD IS [1,1,1,1,1,1]) (DL (GZ N) none [.cell 2 29,.tmp 3] [[.z,.z,.z,.z,.z,.list true [.z,.list false [.int .u64]]],[.bool]]))) (.exit 0) (TT s0 b3 l7 x28 x29 u01 u02 u03 u04 u05 u06 u07 u08 u09 u0a u00)=(DR (GZ N) (DD IS [1,1,1,1,1,1,0,0,0]) ⟨[0,2,3,4,6],[2,6,15,500],[⟨(.cell 6 5),500,61,true,[.z,.list false [.int .u64]]⟩]⟩ N (WN s0 b3 u01 u02 u03 u04 u05 u06 u07 u08 u09 u0a 0 u00 []) (DI 2 (DJ (GZ N) (DD IS [1,1,1,1,1,1,1]) (DL (GZ N) none [.cell 2 29,.tmp 3] [[.z,.z,.z,.z,.z,.list true [.z,.list false [.int .u64]]],[.bool]])))):=by kernel_rfl
theorem qQ (N:Nat) (s0:BA) (b3:Bool) (u03 u04 u05 u06 u07 u08 u09 u0a u0b u0c:Int) (u02:Nat) (u00 u01:LI) (again:St→DG) (k:Out→St→DG):E4 (GZ N) (DD IS [1,1,1,1,1,1,0,0,0]) (WN s0 b3 u03 u04 u05 u06 u07 u08 u09 u0a u0b u0c u02 u00 u01) (EH again ⟨[0,2,3,4,6],[2,6,15,500],[⟨(.cell 6 5),500,61,true,[.z,.list false [.int .u64]]⟩]⟩ k)=(cond (decide (ic (AE u00) > 0)) (cond (decide (ic (u02 - 0)≤8)) (cond (JT u00) (DR (GZ N) (DD IS [1,1,1,1,1,1,0,0,0,1,0,1,1,0,1,0,0]) ⟨[0,2,3,4,6,10,61,62],[2,6,10,15,500,501],[⟨(.cell 6 5),500,61,true,[.z,.list false [.int .u64]]⟩,⟨(.cell 10 1),501,84,false,[.int .u64]⟩]⟩ N (Y0 s0 b3 (FP (D2 (E3 u00) (AD 2)) 31) 0 u03 u04 u05 u06 u07 u08 u09 u0a u0b u0c u02 (FP (D2 (E3 u00) (AD 1)) 3) 0 (AQ 1 u00) u01 []) (DI 4 (DJ (GZ N) (DD IS [1,1,1,1,1,1,0,0,0,1,0,1,1,1]) (DI 3 (EH again ⟨[0,2,3,4,6],[2,6,15,500],[⟨(.cell 6 5),500,61,true,[.z,.list false [.int .u64]]⟩]⟩ k))))) none) (k (.exit 2) (WN s0 b3 u03 u04 u05 u06 u07 u08 u09 u0a u0b u0c u02 u00 u01))) (k (.exit 2) (WN s0 b3 u03 u04 u05 u06 u07 u08 u09 u0a u0b u0c u02 u00 u01))):=by kernel_rfl
theorem Il (N:Nat) (s0:BA) (b3:Bool) (x61 x62 u06 u07 u08 u09 u0a u0b u0c u0d u0e u0f:Int) (u04:Nat) (u05:Int) (u03:Nat) (u00 u01 u02:LI) (again:St→DG) (k:Out→St→DG):E4 (GZ N) (DD IS [1,1,1,1,1,1,0,0,0,1,0,1,1,0,1,0,0]) (Y0 s0 b3 x61 x62 u06 u07 u08 u09 u0a u0b u0c u0d u0e u0f u04 u05 u03 u00 u01 u02) (EH again ⟨[0,2,3,4,6,10,61,62],[2,6,10,15,500,501],[⟨(.cell 6 5),500,61,true,[.z,.list false [.int .u64]]⟩,⟨(.cell 10 1),501,84,false,[.int .u64]⟩]⟩ k)=(cond (decide (x62 < x61)) (cond (JT u00) (cond (decide ((u03+AE (AQ 0 (AK 1 [IV.int (II (VW (E3 u00)))])))*TI.bytes (Env.tyd (GZ N) 84)≤D1)) (again (Y0 s0 b3 x61 (AA AB (x62+1)) u06 u07 u08 u09 u0a u0b u0c u0d u0e u0f u04 u05 (u03+AE (AQ 0 (AK 1 [IV.int (II (VW (E3 u00)))]))) (AQ 1 u00) u01 (AK u03 u02++AQ 0 (AK 1 [IV.int (II (VW (E3 u00)))])))) none) none) (k (.exit 4) (Y0 s0 b3 x61 x62 u06 u07 u08 u09 u0a u0b u0c u0d u0e u0f u04 u05 u03 u00 u01 u02))):=by kernel_rfl
theorem Tq (N:Nat) (s0:BA) (b3:Bool) (u03 u04 u05 u06 u07 u08 u09 u0a u0b u0c:Int) (u02:Nat) (u00 u01:LI):(DI 2 (DJ (GZ N) (DD IS [1,1,1,1,1,1,1]) (DL (GZ N) none [.cell 2 29,.tmp 3] [[.z,.z,.z,.z,.z,.list true [.z,.list false [.int .u64]]],[.bool]]))) (.exit 2) (WN s0 b3 u03 u04 u05 u06 u07 u08 u09 u0a u0b u0c u02 u00 u01)=(cond (BR s0==BR {data:=#[]}) (some ((.tup [.agg [.i 0,.i 0,.i 0,.i 0,.i 0,.list true [.z,.list false [.int .u64]] []],.bool false]),[])) (cond (!BR (dA {d:=u08,c:=u09,b0:=u0a,b1:=u0b,b2:=u0c,ts:=AQ 0 (AK u02 u01)})==BR s0) (some ((.tup [.agg [.i 0,.i 0,.i 0,.i 0,.i 0,.list true [.z,.list false [.int .u64]] []],.bool false]),[])) (some ((.tup [.agg [.i u08,.i u09,.i u0a,.i u0b,.i u0c,.list true [.z,.list false [.int .u64]] (AQ 0 (AK u02 u01))],.bool true]),[])))):=by kernel_rfl
theorem Tt (N:Nat) (again:St→DG) (k:Out→St→DG) (s0:BA) (b3:Bool) (x61 x62 u06 u07 u08 u09 u0a u0b u0c u0d u0e u0f:Int) (u04:Nat) (u05:Int) (u03:Nat) (u00 u01 u02:LI):(DI 4 (DJ (GZ N) (DD IS [1,1,1,1,1,1,0,0,0,1,0,1,1,1]) (DI 3 (EH again ⟨[0,2,3,4,6],[2,6,15,500],[⟨(.cell 6 5),500,61,true,[.z,.list false [.int .u64]]⟩]⟩ k)))) (.exit 4) (Y0 s0 b3 x61 x62 u06 u07 u08 u09 u0a u0b u0c u0d u0e u0f u04 u05 u03 u00 u01 u02)=(cond (decide ((u04+AE (AQ 0 (AK 1 [IV.agg [IV.int u05,IV.list (AQ 0 (AK u03 u02))]])))*TI.bytes (Env.tyd (GZ N) 61)≤D1)) (again (WN s0 b3 u06 u07 u08 u09 u0a u0b u0c u0d u0e u0f (u04+AE (AQ 0 (AK 1 [IV.agg [IV.int u05,IV.list (AQ 0 (AK u03 u02))]]))) u00 (AK u04 u01++AQ 0 (AK 1 [IV.agg [IV.int u05,IV.list (AQ 0 (AK u03 u02))]])))) none):=by kernel_rfl
open Go Go.Proofs
theorem wN (s:BA) {most:Int} (h:0≤most):0≤FP s most∧FP s most≤most:=by
 unfold FP;cases ha:OF s <;> cases h1:decide (FV s < 0) <;> cases h2:decide (FV s > most)
 all_goals simp only [A1,A9,BH,CR,vax,CT,CG]
 all_goals first
  | exact ⟨by omega,by omega⟩
  | (have h1:=BE h1; have h2:=BE h2; omega)
theorem j9 (s t:BA):(I0 s t).size≤s.size:=by
 unfold I0;cases VE s t with
 | true=>
  rw [DB,ByteArray.size_extract];omega
 | false=>exact AT _
theorem zat {s:BA} (h:s.size < 4294967281):JT (cL s)=true:=by
 unfold JT cL;rw [CN];intro x hx;obtain ⟨w,hw,rfl⟩:=vao.1 hx
 have:=(YH WE _ (rD s)).2 w hw
 have h2:(rD s).size≤s.size:=j9 s WE;refine AF ?_;show w.size < 4294967281;omega
abbrev nE:KP:=⟨[0,2,3,4,6,7,28,29],[2,6,15],[]⟩
abbrev hZ:KP:=⟨[0,2,3,4,6],[2,6,15,500],[⟨.cell 6 5,500,61,true,[.z,.list false [.int .u64]]⟩]⟩
abbrev y7:KP:=⟨[0,2,3,4,6,10,61,62],[2,6,10,15,500,501],[⟨.cell 6 5,500,61,true,[.z,.list false [.int .u64]]⟩,⟨.cell 10 1,501,84,false,[.int .u64]⟩]⟩
abbrev YS (s:BA) (W:LI) (C i d c b0 b1 b2:Int) (L:LI):St:=
 ⟨[(0,(.str s)),(2,(.ptr 2 0 0)),(3,(.bool false)),(4,(.ptr 15 0 0)),(6,(.ptr 6 0 0)),(7,(.list false [.str] W)),(28,(.int .i64 C)),(29,(.int .i64 i))],[(2,(some (.box [(.int .i64 0),(.int .i64 0),(.int .i64 0),(.int .i64 0),(.int .i64 0),.zs]))),(6,(some (.box [(.int .i64 d),(.int .i64 c),(.int .i64 b0),(.int .i64 b1),(.int .i64 b2),.zs]))),(15,(some (.box [(.list false [.str] L)])))]⟩
theorem W0 (N:Nat) (s:BA) (W:LI) (hW:∀ i,(D2 W i).size < 4294967281) (C:Int) (i:Nat) (hi:(i:Int) < C) (h3:i < 3) (d c b0 b1 b2:Int) (L:LI) (again:St→DG) (k:Out→St→DG) :
  E4 (GZ N) (DD IS [1,1,1,1,1,0,1,0,0]) (YS s W C (i:Int) d c b0 b1 b2 L) (EH again nE k) =
   again (YS s W C ((i+1:Nat):Int) d c (cond (BM i 0) (GI (D2 W (1+i))) b0) (cond (BM i 1) (GI (D2 W (1+i))) b1) (cond (BM i 2) (GI (D2 W (1+i))) b2) L):=by
 rw [dS];have ei:AA AB ((i:Int)+1)=((i+1:Nat):Int):=by
  rw [EA (by omega) (by omega)];omega
 have ei':AA AB (1+(i:Int))=((1+i:Nat):Int):=by
  rw [EA (by omega) (by omega)];omega
 rw [ei,ei',BC,AF hi,DB,AF (show (0:Int)≤((1+i:Nat):Int) by omega),DB,AF (hW (1+i)),DB]
 match i,h3 with
 | 0,_=>rfl
 | 1,_=>rfl
 | 2,_=>rfl
theorem Ol (N:Nat) (s:BA) (LS W:LI) (hWe:W=E3 (LS.drop 1)) (hW:∀ i,(D2 W i).size < 4294967281) (C:Int) (h0:0≤C) (h3:C≤3) (hN:10≤N) (d c:Int) (L:LI) (K:Out→St→DG) :
  DR (GZ N) (DD IS [1,1,1,1,1,0,1,0,0]) nE N (YS s W C 0 d c 0 0 0 L) K=K (.exit 0) (YS s W C C d c (LY LS C 0) (LY LS C 1) (LY LS C 2) L):=by
 obtain ⟨M,rfl⟩:∃ M,N=M+4:=⟨N - 4,by omega⟩;obtain ⟨n,rfl⟩:∃ n:Nat,C=(n:Int):=⟨C.toNat,by omega⟩;subst hWe;have e0:YS s (E3 (LS.drop 1)) (n:Int) 0 d c 0 0 0 L=YS s (E3 (LS.drop 1)) (n:Int) ((0:Nat):Int) d c 0 0 0 L:=rfl;rw [e0]
 match n,h3 with
 | 0,_=>
  rw [DY,dS,AL (show ¬ ((0:Nat):Int) < ((0:Nat):Int) by omega),DC];rfl
 | 1,_=>
  rw [DY,W0 (M+4) s _ hW _ 0 (by omega) (by omega),DY,dS,AL (show ¬ ((0+1:Nat):Int) < ((1:Nat):Int) by omega),DC];rfl
 | 2,_=>
  rw [DY,W0 (M+4) s _ hW _ 0 (by omega) (by omega),DY,W0 (M+4) s _ hW _ 1 (by omega) (by omega),DY,dS,AL (show ¬ ((1+1:Nat):Int) < ((2:Nat):Int) by omega),DC];rfl
 | 3,_=>
  rw [DY,W0 (M+4) s _ hW _ 0 (by omega) (by omega),DY,W0 (M+4) s _ hW _ 1 (by omega) (by omega),DY,W0 (M+4) s _ hW _ 2 (by omega) (by omega),DY,dS,AL (show ¬ ((2+1:Nat):Int) < ((3:Nat):Int) by omega),DC];rfl
 | n+4,h3=>exact absurd h3 (by omega)
abbrev rX (s:BA) (d c b0 b1 b2:Int) (L T:LI) (cl k j:Int) (NL:LI):St:=
 ⟨[(0,(.str s)),(2,(.ptr 2 0 0)),(3,(.bool false)),(4,(.ptr 15 0 0)),(6,(.ptr 6 0 0)),(10,(.ptr 10 0 0)),(61,(.int .i64 k)),(62,(.int .i64 j))],[(2,(some (.box [(.int .i64 0),(.int .i64 0),(.int .i64 0),(.int .i64 0),(.int .i64 0),.zs]))),(6,(some (.box [(.int .i64 d),(.int .i64 c),(.int .i64 b0),(.int .i64 b1),(.int .i64 b2),(.row 500 0 T.length)]))),(10,(some (.box [(.int .i64 cl),(.row 501 0 NL.length)]))),(15,(some (.box [(.list false [.str] L)]))),(500,(some (.row true 61 true [.z,(.list false [(.int .u64)])] T))),(501,(some (.row true 84 false [(.int .u64)] NL)))]⟩
theorem zdC (L:LI) (j:Nat):N0 L (j+1)=N0 L j++[.int (II (VW (E3 (L.drop j))))]:=by
 unfold N0;rw [List.range_succ,List.map_append];rfl
theorem dE (L:LI) (j:Nat):(N0 L j).length=j:=by
 unfold N0;rw [B9,List.length_range]
theorem Be (N:Nat) (s:BA) (d c b0 b1 b2:Int) (T L:LI) (hL:JT L=true) (cl:Int) (k:Nat) (hk:k≤31) (K:Out→St→DG):∀ (m j n:Nat),j+m=k→m < n →
  DR (GZ N) (DD IS [1,1,1,1,1,1,0,0,0,1,0,1,1,0,1,0,0]) y7 n (rX s d c b0 b1 b2 (L.drop j) T cl (k:Int) (j:Int) (N0 L j)) K =
   K (.exit 4) (rX s d c b0 b1 b2 (L.drop k) T cl (k:Int) (k:Int) (N0 L k))
 | m,j,0,_,h=>absurd h (by omega)
 | 0,j,n+1,hd,_=>by
  have hj:j=k:=by omega
  subst hj;rw [DY,Il,AL (show ¬ (j:Int) < (j:Int) by omega),DC]
 | m+1,j,n+1,hd,hn=>by
  have ej:AA AB ((j:Int)+1)=((j+1:Nat):Int):=by
   rw [EA (by omega) (by omega)];omega
  have eb:TI.bytes (Env.tyd (GZ N) 84)=8:=rfl;have e1:∀ x:IV,AE (AQ 0 (AK 1 [x]))=1:=fun x=>rfl
  have e2:∀ x:IV,AQ 0 (AK 1 [x])=[x]:=fun x=>rfl
  rw [DY,Il,ej,eb,e1,e2,AF (show (j:Int) < (k:Int) by omega),DB,VR hL j,DB,dE,AF (show (j+1)*8≤D1 by unfold D1; omega),DB];have e3:AK j (N0 L j)=N0 L j:=CW (by rw [dE]; omega);rw [e3,← zdC,List.drop_drop];have ih:=Be N s d c b0 b1 b2 T L hL cl k hk K m (j+1) n (by omega) (by omega);unfold rX at ih ⊢;rw [dE] at ih;exact ih
abbrev kJ (s:BA) (d c b0 b1 b2:Int) (L T:LI):St:=
 ⟨[(0,(.str s)),(2,(.ptr 2 0 0)),(3,(.bool false)),(4,(.ptr 15 0 0)),(6,(.ptr 6 0 0))],[(2,(some (.box [(.int .i64 0),(.int .i64 0),(.int .i64 0),(.int .i64 0),(.int .i64 0),.zs]))),(6,(some (.box [(.int .i64 d),(.int .i64 c),(.int .i64 b0),(.int .i64 b1),(.int .i64 b2),(.row 500 0 T.length)]))),(15,(some (.box [(.list false [.str] L)]))),(500,(some (.row true 61 true [.z,(.list false [(.int .u64)])] T)))]⟩
theorem Jn (N:Nat) (hN:40≤N) (s:BA) (d c b0 b1 b2:Int) (K:Out→St→DG):∀ (m n:Nat) (L T:LI),JT L=true→T.length+m=9→m < n →
  ∃ L',DR (GZ N) (DD IS [1,1,1,1,1,1,0,0,0]) hZ n (kJ s d c b0 b1 b2 L T) K=K (.exit 2) (kJ s d c b0 b1 b2 L' (T++M9 m L))
 | m,0,L,T,_,_,h=>absurd h (by omega)
 | m,n+1,[],T,hL,hT,hn=>by
  refine ⟨[],?_⟩;have e:M9 m []=[]:=by cases m <;> rfl
  rw [DY,qQ,AL (show ¬ ic (AE ([]:LI)) > 0 by decide),DC,e,vad]
 | 0,n+1,l :: L,T,hL,hT,hn=>by
  refine ⟨l :: L,?_⟩;rw [DY,qQ,AF (show ic (AE (l :: L)) > 0 by simp only [ic,AM]; omega),DB,AL (show ¬ ic (T.length - 0)≤8 by simp only [ic]; omega),DC];show K (.exit 2) _=K (.exit 2) (kJ s d c b0 b1 b2 (l :: L) (T++[]));rw [vad]
 | m+1,n+1,l :: L,T,hL,hT,hn=>by
  obtain ⟨k0,k1⟩:=wN (D2 (E3 (l :: L)) 2) (most:=31) (by omega);have hk:FP (D2 (E3 (l :: L)) 2) 31=((M8 (l :: L):Nat):Int):=by unfold M8; omega
  have hLd:=VR hL 1;have hk31:M8 (l :: L)≤31:=by unfold M8; omega
  have e2:AD 2=2:=rfl;have e1:AD 1=1:=rfl;rw [DY,qQ,AF (show ic (AE (l :: L)) > 0 by simp only [ic,AM]; omega),DB,AF (show ic (T.length - 0)≤8 by simp only [ic]; omega),DB,hL,DB,e2,e1,hk];have run:=Be N s d c b0 b1 b2 T (AQ 1 (l :: L)) hLd (FP (D2 (E3 (l :: L)) 1) 3) (M8 (l :: L)) hk31
   (DI 4 (DJ (GZ N) (DD IS [1,1,1,1,1,1,0,0,0,1,0,1,1,1]) (DI 3 (EH (fun s'=>DR (GZ N) (DD IS [1,1,1,1,1,1,0,0,0]) hZ n s' K) hZ K)))) (M8 (l :: L)) 0 N (by omega) (by omega)
  have eb:TI.bytes (Env.tyd (GZ N) 61)=32:=rfl;have e3:∀ x:IV,AE (AQ 0 (AK 1 [x]))=1:=fun x=>rfl
  have e4:∀ x:IV,AQ 0 (AK 1 [x])=[x]:=fun x=>rfl
  rw [Tt,eb,e3,e4,AF (show (T.length+1)*32≤D1 by unfold D1; omega),DB,dE] at run;have e5:AK T.length T=T:=CW (AT _);have e6:AQ 0 (AK (M8 (l :: L)) (N0 (AQ 1 (l :: L)) (M8 (l :: L))))=N0 (AQ 1 (l :: L)) (M8 (l :: L)):=by
   rw [B1,CW (by rw [dE]; omega)]
  rw [e5,e6] at run;obtain ⟨L',hL'⟩:=Jn N hN s d c b0 b1 b2 K m n (AQ (M8 (l :: L)) (AQ 1 (l :: L))) (T++[i6 (l :: L)]) (VR hLd _) (by rw [AR,AM,A6]; omega) (by omega);refine ⟨L',?_⟩;have e7:T++M9 (m+1) (l :: L)=T++[i6 (l :: L)]++M9 m (AQ (M8 (l :: L)) (AQ 1 (l :: L))):=by
   rw [vaG];rfl
  rw [e7,← hL'];refine Eq.trans ?_ (run.trans ?_)
  ·rfl
  ·have e8:(T++[i6 (l :: L)]).length=T.length+1:=by rw [AR]; rfl
   unfold kJ;rw [e8];rfl
set_option maxHeartbeats 1000000 in
theorem zfs:DO PR B0 46 aX:=by
 refine DX [(74,PF),(75,UK),(25,UL),(77,UM),(76,UN),(80,aZ),(79,UO),(78,UP)] [(6,nE),(10,hZ),(14,y7)] aX [[.z,.z,.z,.z,.z,.list true [.z,.list false [.int .u64]]],[.bool]] Tryz.func46 Yv ⟨jN,Gm,Gn,Gp,Gq,zfu,Gr,Gs,trivial⟩ ?_;intro vs r hwf h;unfold aX at h;split at h
 ·rename_i s;cases hc:decide (s.size < 4294967281) with
  | false=>rw [hc] at h; simp [R.get] at h
  | true=>
   rw [hc,R.get_br,DB,R.get_ok] at h;have hs:=of_decide_eq_true hc;refine ⟨40,?_⟩;rw [← h];refine (zcm 40 s).trans ?_;have hok:=zat hs;have e0:List.map IV.str (D7 (I0 s { data:=#[10] }) { data:=#[10] })=cL s:=rfl;have e1:decide (1≤ByteArray.size { data:=#[10] })=true:=rfl;have ts:=j9 s WE;have e2:Int.toNat 2=2:=rfl;have e3:Int.toNat 1=1:=rfl;rw [e0,e1,e2,e3,decide_eq_true (show ByteArray.size (I0 s { data:=#[10] }) < 4294967281 from Nat.lt_of_le_of_lt ts hs),Bool.and_self,DB,hok,DB,VR hok 1,DB];generalize hLS:cL s=LS at hok ⊢;obtain ⟨c0,c3⟩:=wN (D2 (E3 LS) 2) (most:=3) (by omega);refine (Ol 40 s LS (E3 (LS.drop 1)) rfl (oD (VR hok 1)) (FP (D2 (E3 LS) 2) 3) c0 c3 (by omega) (FP (D2 (E3 LS) 1) 4) (FP (D2 (E3 LS) 2) 3) (List.drop 1 (List.drop 1 LS)) _).trans ?_;rw [Tp];obtain ⟨L',hL'⟩:=Jn 40 (by omega) s (FP (D2 (E3 LS) 1) 4) (FP (D2 (E3 LS) 2) 3) (LY LS (FP (D2 (E3 LS) 2) 3) 0) (LY LS (FP (D2 (E3 LS) 2) 3) 1) (LY LS (FP (D2 (E3 LS) 2) 3) 2)
    (DI 2 (DJ (GZ 40) (DD IS [1,1,1,1,1,1,1]) (DL (GZ 40) none [(ResultVar.cell 2 29),(ResultVar.tmp 3)] [[.z,.z,.z,.z,.z,(.list true [.z,(.list false [(.int .u64)])])],[.bool]])))
    9 40 (List.drop 1 (List.drop 1 LS)) [] (VR (VR hok 1) 1) rfl (by omega)
   refine hL'.trans ?_;rw [Tq];have e4:([]:LI)++M9 9 (List.drop 1 (List.drop 1 LS))=M9 9 (LS.drop 2):=by
    rw [List.nil_append,List.drop_drop]
   have e5:List.drop 0 (List.take (([]:LI)++M9 9 (List.drop 1 (List.drop 1 LS))).length (([]:LI)++M9 9 (List.drop 1 (List.drop 1 LS))))=M9 9 (LS.drop 2):=by
    rw [List.drop_zero,List.take_of_length_le (Nat.le_refl _),e4]
   rw [e5];have e6:(⟨FP (D2 (E3 LS) 1) 4,FP (D2 (E3 LS) 2) 3,LY LS (FP (D2 (E3 LS) 2) 3) 0,LY LS (FP (D2 (E3 LS) 2) 3) 1,LY LS (FP (D2 (E3 LS) 2) 3) 2,M9 9 (LS.drop 2)⟩:Md)=fM s:=by
    unfold fM;rw [hLS];rfl
   unfold IZ YK;rw [← e6];cases (ByteArray.toList s==ByteArray.toList kF) with
   | true=>rfl
   | false=>
    rw [DC,Bool.not_false,Bool.true_and];cases (ByteArray.toList (dA ⟨FP (D2 (E3 LS) 1) 4,FP (D2 (E3 LS) 2) 3,LY LS (FP (D2 (E3 LS) 2) 3) 0,LY LS (FP (D2 (E3 LS) 2) 3) 1,LY LS (FP (D2 (E3 LS) 2) 3) 2,M9 9 (LS.drop 2)⟩)==ByteArray.toList s) <;> rfl
 ·simp [R.get] at h
open Go Go.Proofs
def Kq (N:Nat):Env:=DV [] [] 39 N
theorem zaN (N:Nat) (u04 u01 u06 u05 u08 u07 u0a u09 u0c u0b u0e u0d q_Lo q_Hi u03:Int) (u02:Bool) (u00 dim:Int):DQ (Kq N) tH [.cell 4 46] [[.z,.z,.z,.z,.z,.z,.z,.z,.z,.z,.z,.z,.z,.z,.z,.bool,.z]] [.agg [.i u04,.i u01,.i u06,.i u05,.i u08,.i u07,.i u0a,.i u09,.i u0c,.i u0b,.i u0e,.i u0d,.i q_Lo,.i q_Hi,.i u03,.bool u02,.i u00],.i dim]=(cond (decide (0≤dim)&&decide (dim≤ic 5)) (cond (decide (0≤dim)&&decide (dim≤ic 5)) (cond (decide (ic (min (AD dim) (AD dim))=ic 0)) (cond (u04==1) (some ((.agg [.i u04,.i u01,.i 0,.i 0,.i 0,.i 0,.i 0,.i 0,.i 0,.i 0,.i 0,.i 0,.i q_Lo,.i q_Hi,.i 0,.bool false,.i u00]),[])) (cond (u04==3) (some ((.agg [.i u04,.i u01,.i 0,.i 0,.i 0,.i 0,.i 0,.i 0,.i 0,.i 0,.i 0,.i 0,.i 0,.i 0,.i u03,.bool u02,.i u00]),[])) (some ((.agg [.i u04,.i u01,.i 0,.i 0,.i 0,.i 0,.i 0,.i 0,.i 0,.i 0,.i 0,.i 0,.i 0,.i 0,.i 0,.bool false,.i u00]),[])))) (cond (decide (ic (min (AD dim) (AD dim))=ic 1)) (cond (u04==1) (some ((.agg [.i u04,.i u01,.i u06,.i u05,.i 0,.i 0,.i 0,.i 0,.i 0,.i 0,.i 0,.i 0,.i q_Lo,.i q_Hi,.i 0,.bool false,.i u00]),[])) (cond (u04==3) (some ((.agg [.i u04,.i u01,.i u06,.i u05,.i 0,.i 0,.i 0,.i 0,.i 0,.i 0,.i 0,.i 0,.i 0,.i 0,.i u03,.bool u02,.i u00]),[])) (some ((.agg [.i u04,.i u01,.i u06,.i u05,.i 0,.i 0,.i 0,.i 0,.i 0,.i 0,.i 0,.i 0,.i 0,.i 0,.i 0,.bool false,.i u00]),[])))) (cond (decide (ic (min (AD dim) (AD dim))=ic 2)) (cond (u04==1) (some ((.agg [.i u04,.i u01,.i u06,.i u05,.i u08,.i u07,.i 0,.i 0,.i 0,.i 0,.i 0,.i 0,.i q_Lo,.i q_Hi,.i 0,.bool false,.i u00]),[])) (cond (u04==3) (some ((.agg [.i u04,.i u01,.i u06,.i u05,.i u08,.i u07,.i 0,.i 0,.i 0,.i 0,.i 0,.i 0,.i 0,.i 0,.i u03,.bool u02,.i u00]),[])) (some ((.agg [.i u04,.i u01,.i u06,.i u05,.i u08,.i u07,.i 0,.i 0,.i 0,.i 0,.i 0,.i 0,.i 0,.i 0,.i 0,.bool false,.i u00]),[])))) (cond (decide (ic (min (AD dim) (AD dim))=ic 3)) (cond (u04==1) (some ((.agg [.i u04,.i u01,.i u06,.i u05,.i u08,.i u07,.i u0a,.i u09,.i 0,.i 0,.i 0,.i 0,.i q_Lo,.i q_Hi,.i 0,.bool false,.i u00]),[])) (cond (u04==3) (some ((.agg [.i u04,.i u01,.i u06,.i u05,.i u08,.i u07,.i u0a,.i u09,.i 0,.i 0,.i 0,.i 0,.i 0,.i 0,.i u03,.bool u02,.i u00]),[])) (some ((.agg [.i u04,.i u01,.i u06,.i u05,.i u08,.i u07,.i u0a,.i u09,.i 0,.i 0,.i 0,.i 0,.i 0,.i 0,.i 0,.bool false,.i u00]),[])))) (cond (decide (ic (min (AD dim) (AD dim))=ic 4)) (cond (u04==1) (some ((.agg [.i u04,.i u01,.i u06,.i u05,.i u08,.i u07,.i u0a,.i u09,.i u0c,.i u0b,.i 0,.i 0,.i q_Lo,.i q_Hi,.i 0,.bool false,.i u00]),[])) (cond (u04==3) (some ((.agg [.i u04,.i u01,.i u06,.i u05,.i u08,.i u07,.i u0a,.i u09,.i u0c,.i u0b,.i 0,.i 0,.i 0,.i 0,.i u03,.bool u02,.i u00]),[])) (some ((.agg [.i u04,.i u01,.i u06,.i u05,.i u08,.i u07,.i u0a,.i u09,.i u0c,.i u0b,.i 0,.i 0,.i 0,.i 0,.i 0,.bool false,.i u00]),[])))) (cond (decide (ic (min (AD dim) (AD dim))=ic 5)) (cond (u04==1) (some ((.agg [.i u04,.i u01,.i u06,.i u05,.i u08,.i u07,.i u0a,.i u09,.i u0c,.i u0b,.i u0e,.i u0d,.i q_Lo,.i q_Hi,.i 0,.bool false,.i u00]),[])) (cond (u04==3) (some ((.agg [.i u04,.i u01,.i u06,.i u05,.i u08,.i u07,.i u0a,.i u09,.i u0c,.i u0b,.i u0e,.i u0d,.i 0,.i 0,.i u03,.bool u02,.i u00]),[])) (some ((.agg [.i u04,.i u01,.i u06,.i u05,.i u08,.i u07,.i u0a,.i u09,.i u0c,.i u0b,.i u0e,.i u0d,.i 0,.i 0,.i 0,.bool false,.i u00]),[])))) none)))))) none) none):=by kernel_rfl
def Kp (N:Nat):Env:=DV [] [] 9 N
theorem zaM (N:Nat) (n:Int):DQ (Kp N) tG [.tmp 2] [[.bool]] [.i n]=(cond (decide (n≥0)) (some ((.bool (decide (n≤1073741824))),[])) (some ((.bool false),[]))):=by kernel_rfl
def Kn (N:Nat):Env:=DV [(111,WS)] [] 11 N
theorem zaJ (N:Nat) (s:BA):DQ (Kn N) tD [.tmp 2] [[.z]] [.str s]=(some ((.i (FV s)),[])):=by kernel_rfl
def Ko (N:Nat):Env:=DV [(112,T6)] [] 11 N
theorem zaL (N:Nat) (s:BA):DQ (Ko N) tF [.tmp 2] [[.z]] [.str s]=(cond (decide (AH s < 4294967281)) (some ((.i (GI s)),[])) none):=by kernel_rfl
def PC (N:Nat):Env:=DV [] [(2,⟨[0,1,4,7,8],[],[]⟩)] 19 N
abbrev TS (l0:LI) (s1:BA) (x4 x7 x8:Int):St:=⟨[(0,(.list false [.str] l0)),(1,(.str s1)),(4,(.i x4)),(7,(.i x7)),(8,(.i x8))],[]⟩
theorem zce (N:Nat) (s:LI) (v:BA):DQ (PC N) SD [.tmp 4] [[.z]] [.list false [.str] s,.str v]=(DR (PC N) (DD SD [1,0,1,0,0]) ⟨[0,1,4,7,8],[],[]⟩ N (TS s v 0 (ic (AE s)) 0) (DI 0 (DJ (PC N) (DD SD [1,1]) (DL (PC N) none [.tmp 4] [[.z]])))):=by kernel_rfl
theorem Ik (N:Nat) (l0:LI) (s1:BA) (x4 x7 x8:Int) (again:St→DG) (k:Out→St→DG):E4 (PC N) (DD SD [1,0,1,0,0]) (TS l0 s1 x4 x7 x8) (EH again ⟨[0,1,4,7,8],[],[]⟩ k)=(cond (decide (x8 < x7)) (cond (decide (0≤x8)&&decide (x8 < ic (AE l0))) (cond (BR s1==BR (IV.toStr (AI l0 (AD x8) default))) (k .ret (TS l0 s1 x8 x7 x8)) (again (TS l0 s1 x4 x7 (AA AB (x8+1))))) none) (k (.exit 0) (TS l0 s1 x4 x7 x8))):=by kernel_rfl
theorem Tn (N:Nat) (l0:LI) (s1:BA) (x4 x7 x8:Int):(DI 0 (DJ (PC N) (DD SD [1,1]) (DL (PC N) none [.tmp 4] [[.z]]))) (.exit 0) (TS l0 s1 x4 x7 x8)=(some ((.i (-1)),[])):=by kernel_rfl
theorem To (N:Nat) (l0:LI) (s1:BA) (x4 x7 x8:Int):(DI 0 (DJ (PC N) (DD SD [1,1]) (DL (PC N) none [.tmp 4] [[.z]]))) .ret (TS l0 s1 x4 x7 x8)=(some ((.i x4),[])):=by kernel_rfl
def kO (N:Nat):Env:=DV [(120,TX),(119,TY),(158,eV)] [] 46 N
theorem zaK (N:Nat) (l:LI):DQ (kO N) tE [.cell 2 46] [[.z,.z,.z,.z,.z,.z,.z,.z,.z,.z,.z,.z,.z,.z,.z,.bool,.z]] [.list false [.str] l]=(cond (decide (AE l≤4294967296)) (cond (decide ((AE l+AE (BB (AD 6) (IV.str {data:=#[]})))*TI.bytes (Env.tyd (kO N) 9)≤D1)) (cond (decide (0≤1)&&decide (1 < ic (AE l+AE (BB (AD 6) (IV.str {data:=#[]})) - 0))) (cond (decide (0≤0)&&decide (0 < ic (AE l+AE (BB (AD 6) (IV.str {data:=#[]})) - 0))) (cond (BR (IV.toStr (AI (AK (AE l) l++BB (AD 6) (IV.str {data:=#[]})) 0 default))==BR {data:=#[114,97,110,103,101]}) (cond (decide (0≤3)&&decide (3 < ic (AE l+AE (BB (AD 6) (IV.str {data:=#[]})) - 0))) (cond (decide (AH (IV.toStr (AI (AK (AE l) l++BB (AD 6) (IV.str {data:=#[]})) 3 default)) < 4294967281)) (cond (decide (0≤5)&&decide (5 < ic (AE l+AE (BB (AD 6) (IV.str {data:=#[]})) - 0))) (cond (decide (AH (IV.toStr (AI (AK (AE l) l++BB (AD 6) (IV.str {data:=#[]})) 5 default)) < 4294967281)) (some ((.agg [.i 1,(.i (FV (IV.toStr (AI (AK (AE l) l++BB (AD 6) (IV.str {data:=#[]})) 1 default)))),.i 0,.i 0,.i 0,.i 0,.i 0,.i 0,.i 0,.i 0,.i 0,.i 0,(.i (GI (IV.toStr (AI (AK (AE l) l++BB (AD 6) (IV.str {data:=#[]})) 3 default)))),(.i (GI (IV.toStr (AI (AK (AE l) l++BB (AD 6) (IV.str {data:=#[]})) 5 default)))),.i 0,.bool false,.i 0]),[])) none) none) none) none) (cond (BR (IV.toStr (AI (AK (AE l) l++BB (AD 6) (IV.str {data:=#[]})) 0 default))==BR {data:=#[98,101,115,116]}) (some ((.agg [.i 2,(.i (FV (IV.toStr (AI (AK (AE l) l++BB (AD 6) (IV.str {data:=#[]})) 1 default)))),.i 0,.i 0,.i 0,.i 0,.i 0,.i 0,.i 0,.i 0,.i 0,.i 0,.i 0,.i 0,.i 0,.bool false,.i 0]),[])) (cond (BR (IV.toStr (AI (AK (AE l) l++BB (AD 6) (IV.str {data:=#[]})) 0 default))==BR {data:=#[114,105,115,101,115]}) (cond (decide (0≤3)&&decide (3 < ic (AE l+AE (BB (AD 6) (IV.str {data:=#[]})) - 0))) (cond (decide (0≤0)&&decide (0 < ic (AE l+AE (BB (AD 6) (IV.str {data:=#[]})) - 0))) (some ((.agg [.i 3,(.i (FV (IV.toStr (AI (AK (AE l) l++BB (AD 6) (IV.str {data:=#[]})) 1 default)))),.i 0,.i 0,.i 0,.i 0,.i 0,.i 0,.i 0,.i 0,.i 0,.i 0,.i 0,.i 0,(.i (FV (IV.toStr (AI (AK (AE l) l++BB (AD 6) (IV.str {data:=#[]})) 3 default)))),(.bool (BR (IV.toStr (AI (AK (AE l) l++BB (AD 6) (IV.str {data:=#[]})) 0 default))==BR {data:=#[102,97,108,108,115]})),.i 0]),[])) none) none) (cond (BR (IV.toStr (AI (AK (AE l) l++BB (AD 6) (IV.str {data:=#[]})) 0 default))==BR {data:=#[102,97,108,108,115]}) (cond (decide (0≤3)&&decide (3 < ic (AE l+AE (BB (AD 6) (IV.str {data:=#[]})) - 0))) (cond (decide (0≤0)&&decide (0 < ic (AE l+AE (BB (AD 6) (IV.str {data:=#[]})) - 0))) (some ((.agg [.i 3,(.i (FV (IV.toStr (AI (AK (AE l) l++BB (AD 6) (IV.str {data:=#[]})) 1 default)))),.i 0,.i 0,.i 0,.i 0,.i 0,.i 0,.i 0,.i 0,.i 0,.i 0,.i 0,.i 0,(.i (FV (IV.toStr (AI (AK (AE l) l++BB (AD 6) (IV.str {data:=#[]})) 3 default)))),(.bool (BR (IV.toStr (AI (AK (AE l) l++BB (AD 6) (IV.str {data:=#[]})) 0 default))==BR {data:=#[102,97,108,108,115]})),.i 0]),[])) none) none) (some ((.agg [.i 0,(.i (FV (IV.toStr (AI (AK (AE l) l++BB (AD 6) (IV.str {data:=#[]})) 1 default)))),.i 0,.i 0,.i 0,.i 0,.i 0,.i 0,.i 0,.i 0,.i 0,.i 0,.i 0,.i 0,.i 0,.bool false,.i 0]),[])))))) none) none) none) none):=by kernel_rfl
open Go Go.Proofs
theorem zef:DO PR B0 161 Y7:=by
 refine DX [] [] Y7 [[.bool]] Tryz.func161 Ux trivial ?_;intro vs r hwf h;unfold Y7 at h;split at h
 ·rename_i n;refine ⟨0,?_⟩;rw [← h];refine (zaM 0 n).trans ?_;simp only [R.get_ok];unfold OY
  have:decide (n≥0)=decide (0≤n):=rfl
  rw [this];cases decide (0≤n) <;> rfl
 ·simp [R.get] at h
theorem Ff:DO PR B0 120 TX:=by
 refine DX [(111,WS)] [] TX [[.z]] Tryz.func120 Uu ⟨Gh,trivial⟩ ?_;intro vs r hwf h;unfold TX at h;split at h
 ·rename_i s;refine ⟨0,?_⟩;rw [← h];exact zaJ 0 s
 ·simp [R.get] at h
theorem Fg:DO PR B0 119 TY:=by
 refine DX [(112,T6)] [] TY [[.z]] Tryz.func119 Uw ⟨Fo,trivial⟩ ?_;intro vs r hwf h;unfold TY at h;split at h
 ·rename_i s;refine ⟨0,?_⟩;rw [← h];refine (zaL 0 s).trans ?_;simp only [R.get_br,R.get_ok,R.get_no]
 ·simp [R.get] at h
theorem zeg:DO PR B0 160 Y8:=by
 refine DX [] [] Y8 [[.z,.z,.z,.z,.z,.z,.z,.z,.z,.z,.z,.z,.z,.z,.z,.bool,.z]] Tryz.func160 Uy trivial ?_;intro vs r hwf h;unfold Y8 at h;split at h
 ·rename_i k c a0 b0 a1 b1 a2 b2 a3 b3 a4 b4 lo hi ft fl bu d;refine ⟨0,?_⟩;cases hc:(decide (0≤d)&&decide (d≤5)) with
  | false=>rw [hc] at h; simp [R.get] at h
  | true=>
   rw [hc,R.get_br,DB,R.get_ok] at h;rw [← h];refine (zaN 0 k c a0 b0 a1 b1 a2 b2 a3 b3 a4 b4 lo hi ft fl bu d).trans ?_;have e5:(decide (0≤d)&&decide (d≤ic 5))=true:=hc;rw [e5,DB,DB];simp only [AG,AP] at hc;obtain ⟨n,rfl⟩:∃ n:Nat,d=n:=⟨d.toNat,by omega⟩;simp only [BC,Nat.min_self];unfold FX;have hn:n=0∨n=1∨n=2∨n=3∨n=4∨n=5:=by omega
   have h13:(k==1)=true→(k==3)=false:=fun h1=>by
    rw [R4] at h1 ⊢
    have:=AY h1
    exact AL (by omega)
   generalize (k==1)=e1 at h13 ⊢;generalize (k==3)=e3 at h13 ⊢;rcases hn with rfl | rfl | rfl | rfl | rfl | rfl <;> cases e1 <;> cases e3 <;> first | rfl | exact absurd (h13 rfl) (by decide)
 ·simp [R.get] at h
theorem yY (N:Nat) (l:LI) (s:BA) (hl:l.length≤strMax) (K:Out→St→DG)
  (hx:∀ l0 s1 x4 x7 x8,K (.exit 0) ⟨[(0,(.list false [.str] l0)),(1,(.str s1)),(4,(.int .i64 x4)),(7,(.int .i64 x7)),(8,(.int .i64 x8))],[]⟩=some (.int .i64 (-1),[]))
  (hr:∀ l0 s1 x4 x7 x8,K .ret ⟨[(0,(.list false [.str] l0)),(1,(.str s1)),(4,(.int .i64 x4)),(7,(.int .i64 x7)),(8,(.int .i64 x8))],[]⟩=some (.int .i64 x4,[])) :
  ∀ (d i n:Nat) (x4:Int),i+d=l.length→d < n →
   DR (PC N) (DD SD [1,0,1,0,0]) ⟨[0,1,4,7,8],[],[]⟩ n ⟨[(0,(.list false [.str] l)),(1,(.str s)),(4,(.int .i64 x4)),(7,(.int .i64 (ic l.length))),(8,(.int .i64 (i:Int)))],[]⟩ K=some (.int .i64 (FT (l.drop i) s (i:Int)),[])
 | 0,i,n+1,x4,hd,hn=>by
  rw [DY,Ik,IW (by omega),DC,hx,C4 (by omega)];rfl
 | d+1,i,n+1,x4,hd,hn=>by
  have hi:i < l.length:=by omega
  unfold strMax at hl;have ih:=yY N l s (by unfold strMax; omega) K hx hr d (i+1) n x4 (by omega) (by omega);rw [DY,Ik,IG hi,IF,CR,DB,DB,I9 hi,GV (by omega),A7 hi];unfold FT;cases (BR s==BR (IV.toStr l[i])) with
  | true=>rw [DB,DB,hr]
  | false=>
   rw [DC,DC,ih];rfl
 | _,_,0,_,_,h=>by omega
theorem zfl:DO PR B0 116 aV:=by
 refine DX [] [(2,⟨[0,1,4,7,8],[],[]⟩)] aV [[.z]] Tryz.func116 Yn trivial ?_;intro vs r hwf h;unfold aV at h;split at h
 ·rename_i l s;refine ⟨l.length+1,?_⟩;rw [← h];refine (zce (l.length+1) l s).trans ?_;simp only [R.get_ok];have hl:=(hwf (by simp [KK])).1;simp only [N8,wfL] at hl
  have:=yY (l.length+1) l s hl.1 _ (fun l0 s1 x4 x7 x8=>Tn (l.length+1) l0 s1 x4 x7 x8) (fun l0 s1 x4 x7 x8=>To (l.length+1) l0 s1 x4 x7 x8) l.length 0 (l.length+1) 0 (by omega) (by omega)
  rw [B1] at this;exact this
 ·simp [R.get] at h
theorem zdd (l:LI) (i m:Nat) (x:IV) (hx:x.toStr=CH):IV.toStr (AI (l++BB m x) i default)=D2 l i:=by
 unfold D2;by_cases h:i < l.length
 ·simp [AI,vag,h]
 ·have e0:(AI l i default).toStr=CH:=by simp [AI,h]; rfl
  rw [e0];by_cases h6:i - l.length < m
  ·have e:AI (l++BB m x) i default=x:=by simp [AI,vag,h,h6]
   rw [e,hx]
  ·have e:AI (l++BB m x) i default=default:=by simp [AI,vag,h,h6]
   rw [e];rfl
theorem zde (l:LI) (i:Nat):IV.toStr (AI (AK (AE l) l++BB (AD 6) (IV.str { data:=#[] })) i default)=D2 l i:=by
 rw [BD];exact zdd l i _ _ rfl
theorem zee:DO PR B0 117 Y6:=by
 refine DX [(120,TX),(119,TY),(158,eV)] [] Y6 [[.z,.z,.z,.z,.z,.z,.z,.z,.z,.z,.z,.z,.z,.z,.z,.bool,.z]] Tryz.func117 Uv
  ⟨Ff,Fg,zfi,trivial⟩ ?_
 intro vs r hwf h;unfold Y6 at h;split at h
 ·rename_i l;refine ⟨0,?_⟩;cases hc:(decide (l.length≤4294967290)&&l.all (fun x=>decide (x.toStr.size < 4294967281))) with
  | false=>rw [hc] at h; simp [R.get] at h
  | true=>
   rw [hc,R.get_br,DB,R.get_ok] at h;rw [← h];refine (zaK 0 l).trans ?_;simp only [AG,AP,CN] at hc;obtain ⟨hl,hz⟩:=hc;have hw:∀ i,(D2 l i).size < 4294967281:=fun i=>by
    unfold D2;by_cases hi:i < l.length
    ·have:AI l i default=l[i]:=by simp [hi]
     rw [this];exact hz _ (vaa hi)
    ·have:AI l i default=default:=by simp [AI,hi]
     rw [this];decide
   have hb:TI.bytes (Env.tyd (kO 0) 9)=16:=by rfl
   have hr6:(BB (AD 6) (IV.str { data:=#[] })).length=6:=rfl;simp only [zde];rw [hb,hr6];have ge:∀ k:Nat,k < 6→decide ((k:Int) < ic (AE l+6 - 0))=true:=fun k hk=>AF (by simp only [ic]; omega)
   have g0:=ge 0 (by omega);have g1:=ge 1 (by omega);have g3:=ge 3 (by omega);have g5:=ge 5 (by omega);rw [AF (show AE l≤4294967296 by omega),DB,AF (show (AE l+6)*16≤D1 by unfold D1; omega),DB];have n0:decide ((0:Nat)≤0)=true:=rfl;have d1:(decide (0≤1)&&decide (1 < ic (AE l+6 - 0)))=true:=by simpa using g1
   have d0:(decide (0≤0)&&decide (0 < ic (AE l+6 - 0)))=true:=by simpa using g0
   have d3:(decide (0≤3)&&decide (3 < ic (AE l+6 - 0)))=true:=by simpa using g3
   have d5:(decide (0≤5)&&decide (5 < ic (AE l+6 - 0)))=true:=by simpa using g5
   rw [d1,d0,d3,d5,AF (hw 3),AF (hw 5)];simp only [DB];unfold ET;cases ((D2 l 0).toList==YP.toList) with
   | true=>rfl
   | false=>
    cases ((D2 l 0).toList==YN.toList) with
    | true=>rfl
    | false=>
     cases ((D2 l 0).toList==YQ.toList) <;> cases ((D2 l 0).toList==WD.toList) <;> rfl
 ·simp [R.get] at h
open Go Go.Proofs
def GP (N:Nat):Env:=DV [(161,Y7),(160,Y8),(54,QL),(49,PE),(86,WV)] [(18,⟨[2,4,6,75,76,77],[2,500],[⟨.tmp 6,500,9,false,[.str]⟩]⟩)] 100 N
abbrev NF (s4:BA) (n6 n75:Nat) (x76 x77 u02 u03 u0a u0b u0c u0d u0e u0f u0g u0h u04 u05 u06 u07 u08:Int) (u00:Bool) (u09:Int) (u01:LI):St:=⟨[(2,(.ptr 2 0 0)),(4,(.str s4)),(6,(.row 500 0 n6)),(75,(.bview 2 2 5 2 n75)),(76,(.i x76)),(77,(.i x77))],[(2,(some (.box [.i u02,.i u03,.i u0a,.i u0b,.i u0c,.i u0d,.i u0e,.i u0f,.i u0g,.i u0h,.i u04,.i u05,.i u06,.i u07,.i u08,.bool u00,.i u09]))),(500,(some (.row true 9 false [.str] u01)))]⟩
theorem zaI (N:Nat) (u04 u01 u06 u05 u08 u07 u0a u09 u0c u0b u0e u0d q_Lo q_Hi u03:Int) (u02:Bool) (u00 a1:Int):DQ (GP N) KZ [.tmp 4] [[.str]] [.agg [.i u04,.i u01,.i u06,.i u05,.i u08,.i u07,.i u0a,.i u09,.i u0c,.i u0b,.i u0e,.i u0d,.i q_Lo,.i q_Hi,.i u03,.bool u02,.i u00],.i a1]=(cond (decide (a1 < 1)) (some ((.str ({data:=#[]})),[])) (cond (decide (a1 > 4)) (some ((.str ({data:=#[]})),[])) (cond (decide (0≤a1)&&decide (a1≤5)) (cond (! (u04==Qy.k (FX {k:=u04,c:=u01,a0:=u06,b0:=u05,a1:=u08,b1:=u07,a2:=u0a,b2:=u09,a3:=u0c,b3:=u0b,a4:=u0e,b4:=u0d,lo:=q_Lo,hi:=q_Hi,ft:=u03,fl:=u02,bu:=u00} a1)&&(u01==Qy.c (FX {k:=u04,c:=u01,a0:=u06,b0:=u05,a1:=u08,b1:=u07,a2:=u0a,b2:=u09,a3:=u0c,b3:=u0b,a4:=u0e,b4:=u0d,lo:=q_Lo,hi:=q_Hi,ft:=u03,fl:=u02,bu:=u00} a1)&&(u06==Qy.a0 (FX {k:=u04,c:=u01,a0:=u06,b0:=u05,a1:=u08,b1:=u07,a2:=u0a,b2:=u09,a3:=u0c,b3:=u0b,a4:=u0e,b4:=u0d,lo:=q_Lo,hi:=q_Hi,ft:=u03,fl:=u02,bu:=u00} a1)&&(u05==Qy.b0 (FX {k:=u04,c:=u01,a0:=u06,b0:=u05,a1:=u08,b1:=u07,a2:=u0a,b2:=u09,a3:=u0c,b3:=u0b,a4:=u0e,b4:=u0d,lo:=q_Lo,hi:=q_Hi,ft:=u03,fl:=u02,bu:=u00} a1)&&(u08==Qy.a1 (FX {k:=u04,c:=u01,a0:=u06,b0:=u05,a1:=u08,b1:=u07,a2:=u0a,b2:=u09,a3:=u0c,b3:=u0b,a4:=u0e,b4:=u0d,lo:=q_Lo,hi:=q_Hi,ft:=u03,fl:=u02,bu:=u00} a1)&&(u07==Qy.b1 (FX {k:=u04,c:=u01,a0:=u06,b0:=u05,a1:=u08,b1:=u07,a2:=u0a,b2:=u09,a3:=u0c,b3:=u0b,a4:=u0e,b4:=u0d,lo:=q_Lo,hi:=q_Hi,ft:=u03,fl:=u02,bu:=u00} a1)&&(u0a==Qy.a2 (FX {k:=u04,c:=u01,a0:=u06,b0:=u05,a1:=u08,b1:=u07,a2:=u0a,b2:=u09,a3:=u0c,b3:=u0b,a4:=u0e,b4:=u0d,lo:=q_Lo,hi:=q_Hi,ft:=u03,fl:=u02,bu:=u00} a1)&&(u09==Qy.b2 (FX {k:=u04,c:=u01,a0:=u06,b0:=u05,a1:=u08,b1:=u07,a2:=u0a,b2:=u09,a3:=u0c,b3:=u0b,a4:=u0e,b4:=u0d,lo:=q_Lo,hi:=q_Hi,ft:=u03,fl:=u02,bu:=u00} a1)&&(u0c==Qy.a3 (FX {k:=u04,c:=u01,a0:=u06,b0:=u05,a1:=u08,b1:=u07,a2:=u0a,b2:=u09,a3:=u0c,b3:=u0b,a4:=u0e,b4:=u0d,lo:=q_Lo,hi:=q_Hi,ft:=u03,fl:=u02,bu:=u00} a1)&&(u0b==Qy.b3 (FX {k:=u04,c:=u01,a0:=u06,b0:=u05,a1:=u08,b1:=u07,a2:=u0a,b2:=u09,a3:=u0c,b3:=u0b,a4:=u0e,b4:=u0d,lo:=q_Lo,hi:=q_Hi,ft:=u03,fl:=u02,bu:=u00} a1)&&(u0e==Qy.a4 (FX {k:=u04,c:=u01,a0:=u06,b0:=u05,a1:=u08,b1:=u07,a2:=u0a,b2:=u09,a3:=u0c,b3:=u0b,a4:=u0e,b4:=u0d,lo:=q_Lo,hi:=q_Hi,ft:=u03,fl:=u02,bu:=u00} a1)&&(u0d==Qy.b4 (FX {k:=u04,c:=u01,a0:=u06,b0:=u05,a1:=u08,b1:=u07,a2:=u0a,b2:=u09,a3:=u0c,b3:=u0b,a4:=u0e,b4:=u0d,lo:=q_Lo,hi:=q_Hi,ft:=u03,fl:=u02,bu:=u00} a1)&&(q_Lo==Qy.lo (FX {k:=u04,c:=u01,a0:=u06,b0:=u05,a1:=u08,b1:=u07,a2:=u0a,b2:=u09,a3:=u0c,b3:=u0b,a4:=u0e,b4:=u0d,lo:=q_Lo,hi:=q_Hi,ft:=u03,fl:=u02,bu:=u00} a1)&&(q_Hi==Qy.hi (FX {k:=u04,c:=u01,a0:=u06,b0:=u05,a1:=u08,b1:=u07,a2:=u0a,b2:=u09,a3:=u0c,b3:=u0b,a4:=u0e,b4:=u0d,lo:=q_Lo,hi:=q_Hi,ft:=u03,fl:=u02,bu:=u00} a1)&&(u03==Qy.ft (FX {k:=u04,c:=u01,a0:=u06,b0:=u05,a1:=u08,b1:=u07,a2:=u0a,b2:=u09,a3:=u0c,b3:=u0b,a4:=u0e,b4:=u0d,lo:=q_Lo,hi:=q_Hi,ft:=u03,fl:=u02,bu:=u00} a1)&&(u02==Qy.fl (FX {k:=u04,c:=u01,a0:=u06,b0:=u05,a1:=u08,b1:=u07,a2:=u0a,b2:=u09,a3:=u0c,b3:=u0b,a4:=u0e,b4:=u0d,lo:=q_Lo,hi:=q_Hi,ft:=u03,fl:=u02,bu:=u00} a1)&&(u00==Qy.bu (FX {k:=u04,c:=u01,a0:=u06,b0:=u05,a1:=u08,b1:=u07,a2:=u0a,b2:=u09,a3:=u0c,b3:=u0b,a4:=u0e,b4:=u0d,lo:=q_Lo,hi:=q_Hi,ft:=u03,fl:=u02,bu:=u00} a1)&&true)))))))))))))))))) (some ((.str ({data:=#[]})),[])) (cond (!OY u01) (some ((.str ({data:=#[]})),[])) (cond (!OY u03) (some ((.str ({data:=#[]})),[])) (cond (!OY u00) (some ((.str ({data:=#[]})),[])) (cond (u04==1) (cond (decide (0≤a1)&&decide (a1≤ic 5)) (DR (GP N) (DD KZ [1,1,1,1,1,1,0,1,0,0]) ⟨[2,4,6,75,76,77],[2,500],[⟨(.tmp 6),500,9,false,[.str]⟩]⟩ N (NF ({data:=#[]}) 7 (AD a1) (ic (AD a1)) 0 u04 u01 u06 u05 u08 u07 u0a u09 u0c u0b u0e u0d q_Lo q_Hi u03 u02 u00 [(IV.str {data:=#[114,97,110,103,101]}),(IV.str (DP u01)),(IV.str {data:=#[102,114,111,109]}),(IV.str (D0 q_Lo)),(IV.str {data:=#[116,111]}),(IV.str (D0 q_Hi)),(IV.str {data:=#[105,110]})]) (DI 1 (DJ (GP N) (DD KZ [1,1,1,1,1,1,1]) (DL (GP N) none [.tmp 4] [[.str]])))) none) (cond (u04==2) (cond (decide (0≤a1)&&decide (a1≤ic 5)) (DR (GP N) (DD KZ [1,1,1,1,1,1,0,1,0,0]) ⟨[2,4,6,75,76,77],[2,500],[⟨(.tmp 6),500,9,false,[.str]⟩]⟩ N (NF ({data:=#[]}) 3 (AD a1) (ic (AD a1)) 0 u04 u01 u06 u05 u08 u07 u0a u09 u0c u0b u0e u0d q_Lo q_Hi u03 u02 u00 [(IV.str {data:=#[98,101,115,116]}),(IV.str (DP u01)),(IV.str {data:=#[105,110]})]) (DI 1 (DJ (GP N) (DD KZ [1,1,1,1,1,1,1]) (DL (GP N) none [.tmp 4] [[.str]])))) none) (cond (u04==3) (cond u02 (cond (decide (0≤a1)&&decide (a1≤ic 5)) (DR (GP N) (DD KZ [1,1,1,1,1,1,0,1,0,0]) ⟨[2,4,6,75,76,77],[2,500],[⟨(.tmp 6),500,9,false,[.str]⟩]⟩ N (NF ({data:=#[]}) 5 (AD a1) (ic (AD a1)) 0 u04 u01 u06 u05 u08 u07 u0a u09 u0c u0b u0e u0d q_Lo q_Hi u03 u02 u00 [(IV.str {data:=#[102,97,108,108,115]}),(IV.str (DP u01)),(IV.str {data:=#[98,121]}),(IV.str (DP u03)),(IV.str {data:=#[105,110]})]) (DI 1 (DJ (GP N) (DD KZ [1,1,1,1,1,1,1]) (DL (GP N) none [.tmp 4] [[.str]])))) none) (cond (decide (0≤a1)&&decide (a1≤ic 5)) (DR (GP N) (DD KZ [1,1,1,1,1,1,0,1,0,0]) ⟨[2,4,6,75,76,77],[2,500],[⟨(.tmp 6),500,9,false,[.str]⟩]⟩ N (NF ({data:=#[]}) 5 (AD a1) (ic (AD a1)) 0 u04 u01 u06 u05 u08 u07 u0a u09 u0c u0b u0e u0d q_Lo q_Hi u03 u02 u00 [(IV.str {data:=#[114,105,115,101,115]}),(IV.str (DP u01)),(IV.str {data:=#[98,121]}),(IV.str (DP u03)),(IV.str {data:=#[105,110]})]) (DI 1 (DJ (GP N) (DD KZ [1,1,1,1,1,1,1]) (DL (GP N) none [.tmp 4] [[.str]])))) none)) (some ((.str ({data:=#[]})),[]))))))))) none))):=by kernel_rfl
theorem Hd (N:Nat) (s4:BA) (n6 n75:Nat) (x76 x77 u02 u03 u0a u0b u0c u0d u0e u0f u0g u0h u04 u05 u06 u07 u08:Int) (u00:Bool) (u09:Int) (u01:LI) (again:St→DG) (k:Out→St→DG):E4 (GP N) (DD KZ [1,1,1,1,1,1,0,1,0,0]) (NF s4 n6 n75 x76 x77 u02 u03 u0a u0b u0c u0d u0e u0f u0g u0h u04 u05 u06 u07 u08 u00 u09 u01) (EH again ⟨[2,4,6,75,76,77],[2,500],[⟨(.tmp 6),500,9,false,[.str]⟩]⟩ k)=(cond (decide (x77 < x76)) (cond (decide (x77 < ic n75)) (cond (decide (x77=ic 0)) (cond (decide (AH (D0 u0a)+AH {data:=#[46,46]}≤strMax)) (cond (decide (AH (D0 u0a++{data:=#[46,46]})+AH (D0 u0b)≤strMax)) (cond (decide ((n6+AE (AQ 0 (AK 1 [IV.str (D0 u0a++{data:=#[46,46]}++D0 u0b)])))*TI.bytes (Env.tyd (GP N) 9)≤D1)) (again (NF s4 (n6+AE (AQ 0 (AK 1 [IV.str (D0 u0a++{data:=#[46,46]}++D0 u0b)]))) n75 x76 (AA AB (x77+1)) u02 u03 u0a u0b u0c u0d u0e u0f u0g u0h u04 u05 u06 u07 u08 u00 u09 (AK n6 u01++AQ 0 (AK 1 [IV.str (D0 u0a++{data:=#[46,46]}++D0 u0b)])))) none) none) none) (cond (decide (x77=ic 1)) (cond (decide (AH (D0 u0c)+AH {data:=#[46,46]}≤strMax)) (cond (decide (AH (D0 u0c++{data:=#[46,46]})+AH (D0 u0d)≤strMax)) (cond (decide ((n6+AE (AQ 0 (AK 1 [IV.str (D0 u0c++{data:=#[46,46]}++D0 u0d)])))*TI.bytes (Env.tyd (GP N) 9)≤D1)) (again (NF s4 (n6+AE (AQ 0 (AK 1 [IV.str (D0 u0c++{data:=#[46,46]}++D0 u0d)]))) n75 x76 (AA AB (x77+1)) u02 u03 u0a u0b u0c u0d u0e u0f u0g u0h u04 u05 u06 u07 u08 u00 u09 (AK n6 u01++AQ 0 (AK 1 [IV.str (D0 u0c++{data:=#[46,46]}++D0 u0d)])))) none) none) none) (cond (decide (x77=ic 2)) (cond (decide (AH (D0 u0e)+AH {data:=#[46,46]}≤strMax)) (cond (decide (AH (D0 u0e++{data:=#[46,46]})+AH (D0 u0f)≤strMax)) (cond (decide ((n6+AE (AQ 0 (AK 1 [IV.str (D0 u0e++{data:=#[46,46]}++D0 u0f)])))*TI.bytes (Env.tyd (GP N) 9)≤D1)) (again (NF s4 (n6+AE (AQ 0 (AK 1 [IV.str (D0 u0e++{data:=#[46,46]}++D0 u0f)]))) n75 x76 (AA AB (x77+1)) u02 u03 u0a u0b u0c u0d u0e u0f u0g u0h u04 u05 u06 u07 u08 u00 u09 (AK n6 u01++AQ 0 (AK 1 [IV.str (D0 u0e++{data:=#[46,46]}++D0 u0f)])))) none) none) none) (cond (decide (x77=ic 3)) (cond (decide (AH (D0 u0g)+AH {data:=#[46,46]}≤strMax)) (cond (decide (AH (D0 u0g++{data:=#[46,46]})+AH (D0 u0h)≤strMax)) (cond (decide ((n6+AE (AQ 0 (AK 1 [IV.str (D0 u0g++{data:=#[46,46]}++D0 u0h)])))*TI.bytes (Env.tyd (GP N) 9)≤D1)) (again (NF s4 (n6+AE (AQ 0 (AK 1 [IV.str (D0 u0g++{data:=#[46,46]}++D0 u0h)]))) n75 x76 (AA AB (x77+1)) u02 u03 u0a u0b u0c u0d u0e u0f u0g u0h u04 u05 u06 u07 u08 u00 u09 (AK n6 u01++AQ 0 (AK 1 [IV.str (D0 u0g++{data:=#[46,46]}++D0 u0h)])))) none) none) none) (cond (decide (x77=ic 4)) (cond (decide (AH (D0 u04)+AH {data:=#[46,46]}≤strMax)) (cond (decide (AH (D0 u04++{data:=#[46,46]})+AH (D0 u05)≤strMax)) (cond (decide ((n6+AE (AQ 0 (AK 1 [IV.str (D0 u04++{data:=#[46,46]}++D0 u05)])))*TI.bytes (Env.tyd (GP N) 9)≤D1)) (again (NF s4 (n6+AE (AQ 0 (AK 1 [IV.str (D0 u04++{data:=#[46,46]}++D0 u05)]))) n75 x76 (AA AB (x77+1)) u02 u03 u0a u0b u0c u0d u0e u0f u0g u0h u04 u05 u06 u07 u08 u00 u09 (AK n6 u01++AQ 0 (AK 1 [IV.str (D0 u04++{data:=#[46,46]}++D0 u05)])))) none) none) none) none))))) none) (k (.exit 1) (NF s4 n6 n75 x76 x77 u02 u03 u0a u0b u0c u0d u0e u0f u0g u0h u04 u05 u06 u07 u08 u00 u09 u01))):=by kernel_rfl
theorem Rs (N:Nat) (s4:BA) (n6 n75:Nat) (x76 x77 u02 u03 u0a u0b u0c u0d u0e u0f u0g u0h u04 u05 u06 u07 u08:Int) (u00:Bool) (u09:Int) (u01:LI):(DI 1 (DJ (GP N) (DD KZ [1,1,1,1,1,1,1]) (DL (GP N) none [.tmp 4] [[.str]]))) (.exit 1) (NF s4 n6 n75 x76 x77 u02 u03 u0a u0b u0c u0d u0e u0f u0g u0h u04 u05 u06 u07 u08 u00 u09 u01)=(cond (decide ((n6+AE (AQ 0 (AK 2 [IV.str {data:=#[98,117,100,103,101,116]},IV.str (DP u09)])))*TI.bytes (Env.tyd (GP N) 9)≤D1)) (cond (decide (AE (AQ 0 (AK (n6+AE (AQ 0 (AK 2 [IV.str {data:=#[98,117,100,103,101,116]},IV.str (DP u09)]))) (AK n6 u01++AQ 0 (AK 2 [IV.str {data:=#[98,117,100,103,101,116]},IV.str (DP u09)]))))≤strMax)&&decide (AH (HE (A3 IV.toStr (AQ 0 (AK (n6+AE (AQ 0 (AK 2 [IV.str {data:=#[98,117,100,103,101,116]},IV.str (DP u09)]))) (AK n6 u01++AQ 0 (AK 2 [IV.str {data:=#[98,117,100,103,101,116]},IV.str (DP u09)]))))) {data:=#[32]})≤strMax)) (some ((.str (HE (A3 IV.toStr (AQ 0 (AK (n6+AE (AQ 0 (AK 2 [IV.str {data:=#[98,117,100,103,101,116]},IV.str (DP u09)]))) (AK n6 u01++AQ 0 (AK 2 [IV.str {data:=#[98,117,100,103,101,116]},IV.str (DP u09)]))))) {data:=#[32]})),[])) none) none):=by kernel_rfl
open Go
theorem Zs (l:List BA) (h:∀ w∈l,w.size≤100):(HE l IC).size≤101*l.length:=by
 have hs:(HE l IC).size=(Lib.join (l.map (·.data.toList)) [32]).length:=by
  show (Array.size (List.toArray _))=_;rw [vac]
 rw [hs];cases l with
 | nil=>simp [Lib.join_nil]
 | cons x r=>
  rw [AZ,Lib.join_length]
  have:∀ (r:List BA),(∀ w∈r,w.size≤100)→Lib.lens (r.map (·.data.toList))≤100*r.length:=fun r=>by
   induction r with
   | nil=>intro _; simp [Lib.lens]
   | cons y r ih=>
    intro h;have h1:=h y (AU ..);rw [V4] at h1;have h2:=ih (fun w hw=>h w (AW _ hw));rw [AZ,AM];simp only [Lib.lens,AZ,va2] at h2 ⊢;omega
  have:=this (x :: r) h
  rw [AZ] at this;simp only [AM,B9,A6] at this ⊢;omega
theorem zfy {a b:Int} (ha:FA a) (hb:FA b):(YG a b).size≤82:=by
 unfold YG;have h1:=(X3 a ha).2;have h2:=(X3 b hb).2;have h3:AH kD=2:=rfl;rw [BI,BI,h3];omega
theorem y3 {n:Int} (h:FA n):(DP n).size≤21:=nB h.1 h.2
structure Qy.In (q:Qy):Prop where
 k:FA q.k
 c:FA q.c
 a0:FA q.a0
 b0:FA q.b0
 a1:FA q.a1
 b1:FA q.b1
 a2:FA q.a2
 b2:FA q.b2
 a3:FA q.a3
 b3:FA q.b3
 a4:FA q.a4
 b4:FA q.b4
 lo:FA q.lo
 hi:FA q.hi
 ft:FA q.ft
 bu:FA q.bu
open Go Go.Proofs
abbrev lE (q:Qy):Ob:=.box [.int .i64 q.k,.int .i64 q.c,.int .i64 q.a0,.int .i64 q.b0,.int .i64 q.a1,.int .i64 q.b1,.int .i64 q.a2,.int .i64 q.b2,.int .i64 q.a3,.int .i64 q.b3,.int .i64 q.a4,.int .i64 q.b4,.int .i64 q.lo,.int .i64 q.hi,.int .i64 q.ft,.bool q.fl,.int .i64 q.bu]
abbrev jS (q:Qy) (s4:BA) (W:LI) (D:Nat) (i:Int):St:=⟨[(2,(.ptr 2 0 0)),(4,(.str s4)),(6,(.row 500 0 W.length)),(75,(.bview 2 2 5 2 D)),(76,(.int .i64 (ic D))),(77,(.int .i64 i))],[(2,(some (lE q))),(500,(some (.row true 9 false [.str] W)))]⟩
theorem Iy (N:Nat):TI.bytes (Env.tyd (GP N) 9)=16:=by rfl
theorem zdm (N:Nat) (q:Qy) (hq:q.In) (s4:BA) (W:LI) (hW:W.length≤20) (hs:∀ w∈W,w.toStr.size≤100) (D:Nat) (i:Int) :
  (DI 1 (DJ (GP N) (DD KZ [1,1,1,1,1,1,1]) (DL (GP N) none [(BV 4)] [[.str]]))) (.exit 1) (jS q s4 W D i)=some (.str (HE (W.map IV.toStr++[WC,DP q.bu]) IC),[]):=by
 refine (Rs N s4 W.length D (ic D) i q.k q.c q.a0 q.b0 q.a1 q.b1 q.a2 q.b2 q.a3 q.b3 q.a4 q.b4 q.lo q.hi q.ft q.fl q.bu W).trans ?_;have e2:(AQ 0 (AK 2 [IV.str { data:=#[98,117,100,103,101,116] },IV.str (DP q.bu)]))=[IV.str { data:=#[98,117,100,103,101,116] },IV.str (DP q.bu)]:=rfl;rw [Iy,e2,BD];have e3:AQ 0 (AK (W.length+AE [IV.str { data:=#[98,117,100,103,101,116] },IV.str (DP q.bu)]) (W++[IV.str { data:=#[98,117,100,103,101,116] },IV.str (DP q.bu)]))=W++[IV.str { data:=#[98,117,100,103,101,116] },IV.str (DP q.bu)]:=by
  rw [B1,CW (by simp)]
 rw [e3];have e4:A3 IV.toStr (W++[IV.str { data:=#[98,117,100,103,101,116] },IV.str (DP q.bu)])=W.map IV.toStr++[WC,DP q.bu]:=by simp [IV.toStr]
 rw [e4];have hz:=Zs (W.map IV.toStr++[WC,DP q.bu]) (fun w hw=>by
  rcases AV.1 hw with h | h
  ·obtain ⟨x,hx,rfl⟩:=vao.1 h;exact hs x hx
  ·simp only [AX,CY,vak] at h;rcases h with rfl | rfl
   ·decide
   ·have:=y3 hq.bu
    omega)
 simp only [AR,B9,AM,A6] at hz ⊢;rw [AF (show (W.length+(0+1+1))*16≤D1 by unfold D1; omega),DB,AF (show W.length+(0+1+1)≤strMax by unfold strMax; omega),
  AF (show AH (HE (W.map IV.toStr++[WC,DP q.bu]) { data:=#[32] })≤strMax from CE hz (by unfold strMax; omega)),CR,DB]
def jO (a b:Int):IV:=.str (YG a b)
theorem zdo (N:Nat) (q:Qy) (s4:BA) (W:LI) (hW:W.length≤20) (D i:Nat) (hiD:i < D) (a b:Int) (again:St→DG) (k:Out→St→DG) (ha:FA a) (hb:FA b)
  (hab:(i=0∧a=q.a0∧b=q.b0)∨(i=1∧a=q.a1∧b=q.b1)∨(i=2∧a=q.a2∧b=q.b2)∨(i=3∧a=q.a3∧b=q.b3)) :
  E4 (GP N) (DD KZ [1,1,1,1,1,1,0,1,0,0]) (jS q s4 W D (i:Int)) (EH again ⟨[2,4,6,75,76,77],[2,500],[⟨.tmp 6,500,9,false,[.str]⟩]⟩ k)=again (jS q s4 (W++[jO a b]) D ((i+1:Nat):Int)):=by
 refine (Hd N s4 W.length D (ic D) i q.k q.c q.a0 q.b0 q.a1 q.b1 q.a2 q.b2 q.a3 q.b3 q.a4 q.b4 q.lo q.hi q.ft q.fl q.bu W again k).trans ?_;have d1:decide ((i:Int) < ic D)=true:=AF (by simp only [ic]; omega);rw [d1,DB,DB];have h3:AH { data:=#[46,46] }=2:=rfl;have sz:∀ x y:Int,FA x→FA y→decide (AH (D0 x)+AH { data:=#[46,46] }≤strMax)=true∧decide (AH (D0 x++{ data:=#[46,46] })+AH (D0 y)≤strMax)=true:=fun x y hx hy=>by
  have h1:=(X3 x hx).2;have h2:=(X3 y hy).2;refine ⟨AF (by rw [h3]; unfold strMax; omega),AF (by rw [BI,h3]; unfold strMax; omega)⟩
 have e1:∀ x:IV,(AQ 0 (AK 1 [x]))=[x]:=fun _=>rfl
 have g16:∀ x:IV,decide ((W.length+AE [x])*TI.bytes (Env.tyd (GP N) 9)≤D1)=true:=fun x=>AF (by rw [Iy]; simp only [AM,A6]; unfold D1; omega)
 have hl:∀ x:IV,W.length+AE [x]=(W++[x]).length:=fun x=>by simp
 obtain ⟨s1,s2⟩:=sz a b ha hb;simp only [e1,g16,DB,BD];rcases hab with ⟨rfl,rfl,rfl⟩ | ⟨rfl,rfl,rfl⟩ | ⟨rfl,rfl,rfl⟩ | ⟨rfl,rfl,rfl⟩
 ·rw [s1,s2,show decide (((0:Nat):Int)=ic 0)=true from rfl,DB,DB,DB,hl];rfl
 ·rw [s1,s2,show decide (((1:Nat):Int)=ic 0)=false from rfl,show decide (((1:Nat):Int)=ic 1)=true from rfl,DC,DB,DB,DB,hl];rfl
 ·rw [s1,s2,show decide (((2:Nat):Int)=ic 0)=false from rfl,show decide (((2:Nat):Int)=ic 1)=false from rfl,show decide (((2:Nat):Int)=ic 2)=true from rfl,DC,DC,DB,DB,DB,hl];rfl
 ·rw [s1,s2,show decide (((3:Nat):Int)=ic 0)=false from rfl,show decide (((3:Nat):Int)=ic 1)=false from rfl,show decide (((3:Nat):Int)=ic 2)=false from rfl,show decide (((3:Nat):Int)=ic 3)=true from rfl,DC,DC,DC,DB,DB,DB,hl];rfl
theorem Cq (N:Nat) (q:Qy) (hq:q.In) (s4:BA) (D:Nat) (hD:D≤4) :
  ∀ (d i n:Nat) (W:LI),i+d=D→d < n→W.length+d≤20→(∀ w∈W,w.toStr.size≤100) →
   DR (GP N) (DD KZ [1,1,1,1,1,1,0,1,0,0]) ⟨[2,4,6,75,76,77],[2,500],[⟨.tmp 6,500,9,false,[.str]⟩]⟩ n (jS q s4 W D (i:Int)) (DI 1 (DJ (GP N) (DD KZ [1,1,1,1,1,1,1]) (DL (GP N) none [(BV 4)] [[.str]]))) =
    some (.str (HE (W.map IV.toStr++(((q.spans.take D).drop i).map fun s=>YG s.1 s.2)++[WC,DP q.bu]) IC),[])
 | 0,i,n+1,W,hd,hn,hW,hs=>by
  have hi:i=D:=by omega
  rw [DY];refine (Hd N s4 W.length D (ic D) i q.k q.c q.a0 q.b0 q.a1 q.b1 q.a2 q.b2 q.a3 q.b3 q.a4 q.b4 q.lo q.hi q.ft q.fl q.bu W _ _).trans ?_;rw [AL (show ¬ (i:Int) < ic D by simp only [ic]; omega),DC];refine (zdm N q hq s4 W (by omega) hs D i).trans ?_;rw [C4 (by rw [A8]; omega)];simp
 | d+1,i,n+1,W,hd,hn,hW,hs=>by
  obtain ⟨a,b,ha,hb,hab,hsp⟩:∃ a b,FA a∧FA b∧((i=0∧a=q.a0∧b=q.b0)∨(i=1∧a=q.a1∧b=q.b1)∨(i=2∧a=q.a2∧b=q.b2)∨(i=3∧a=q.a3∧b=q.b3))∧(q.spans.take D).drop i=(a,b) :: (q.spans.take D).drop (i+1):=by
   have hi:i=0∨i=1∨i=2∨i=3:=by omega
   have hDD:D=0∨D=1∨D=2∨D=3∨D=4:=by omega
   rcases hi with rfl | rfl | rfl | rfl
   ·exact ⟨q.a0,q.b0,hq.a0,hq.b0,.inl ⟨rfl,rfl,rfl⟩,by rcases hDD with rfl | rfl | rfl | rfl | rfl <;> first | rfl | omega⟩
   ·exact ⟨q.a1,q.b1,hq.a1,hq.b1,.inr (.inl ⟨rfl,rfl,rfl⟩),by rcases hDD with rfl | rfl | rfl | rfl | rfl <;> first | rfl | omega⟩
   ·exact ⟨q.a2,q.b2,hq.a2,hq.b2,.inr (.inr (.inl ⟨rfl,rfl,rfl⟩)),by rcases hDD with rfl | rfl | rfl | rfl | rfl <;> first | rfl | omega⟩
   ·exact ⟨q.a3,q.b3,hq.a3,hq.b3,.inr (.inr (.inr ⟨rfl,rfl,rfl⟩)),by rcases hDD with rfl | rfl | rfl | rfl | rfl <;> first | rfl | omega⟩
  rw [DY,zdo N q s4 W (by omega) D i (by omega) a b _ _ ha hb hab,hsp];have ih:=Cq N q hq s4 D hD d (i+1) n (W++[jO a b]) (by omega) (by omega) (by simp only [AR,AM,A6]; omega) (fun w hw=>by
   rcases AV.1 hw with h | h
   ·exact hs w h
   ·rw [A4] at h;subst h
    have:=zfy ha hb
    simp only [jO,IV.toStr];omega)
  refine ih.trans ?_;simp [jO,IV.toStr]
 | _,_,0,_,_,h,_,_=>by omega
theorem zed:DO PR B0 121 Y5:=by
 refine DX [(161,Y7),(160,Y8),(54,QL),(49,PE),(86,WV)] [(18,⟨[2,4,6,75,76,77],[2,500],[⟨.tmp 6,500,9,false,[.str]⟩]⟩)] Y5 [[.str]] Tryz.func121 Ut
  ⟨zef,zeg,qB,jM,Gk,trivial⟩ ?_
 intro vs r hwf h;unfold Y5 at h;split at h
 ·rename_i k c a0 b0 a1 b1 a2 b2 a3 b3 a4 b4 lo hi ft fl bu d;refine ⟨20,?_⟩;rw [R.get_ok] at h;rw [← h];refine (zaI 20 k c a0 b0 a1 b1 a2 b2 a3 b3 a4 b4 lo hi ft fl bu d).trans ?_;have hb:=hwf (by simp [KK]);have hq:Qy.In ⟨k,c,a0,b0,a1,b1,a2,b2,a3,b3,a4,b4,lo,hi,ft,fl,bu⟩:=by
   have:=hb.1
   simp only [N8,wfLs,wfL,BY,vba] at this;obtain ⟨h1,h2,h3,h4,h5,h6,h7,h8,h9,h10,h11,h12,h13,h14,h15,h16⟩:=this;exact ⟨h1,h2,h3,h4,h5,h6,h7,h8,h9,h10,h11,h12,h13,h14,h15,h16⟩
  show cond (decide (d < 1)) _ (cond (decide (d > 4)) _ (cond _ (cond (!(Qy.eq ⟨k,c,a0,b0,a1,b1,a2,b2,a3,b3,a4,b4,lo,hi,ft,fl,bu⟩ (FX ⟨k,c,a0,b0,a1,b1,a2,b2,a3,b3,a4,b4,lo,hi,ft,fl,bu⟩ d))) _ _) _))=_;generalize hQ:(⟨k,c,a0,b0,a1,b1,a2,b2,a3,b3,a4,b4,lo,hi,ft,fl,bu⟩:Qy)=q at hq ⊢;unfold dC Bl;cases h1:decide (d < 1) with
  | true=>simp only [DB,DC,A1,BX]
  | false=>
   cases h4:decide (d > 4) with
   | true=>simp only [DB,DC,A1,A9,BX,vax]
   | false=>
    have h1:=BE h1;have h4:=BE h4;rw [AF (show 0≤d by omega),AF (show d≤5 by omega),AF (show d≤ic 5 by simp only [ic]; omega)];simp only [CR,DB,DC,A9,BG];cases he:q.eq (FX q d) with
    | false=>simp only [A9,DB,DC,BX]
    | true=>
     have ec:q.c=c:=by rw [← hQ]
     have ef:q.ft=ft:=by rw [← hQ]
     have eb:q.bu=bu:=by rw [← hQ]
     have ek:q.k=k:=by rw [← hQ]
     rw [ec,ef,eb,ek];cases hc:OY c with
     | false=>simp only [A1,A9,DB,DC,BX,BG]
     | true=>
      cases hf:OY ft with
      | false=>simp only [A1,A9,DB,DC,BX,BG]
      | true=>
       cases hbu:OY bu with
       | false=>simp only [A1,A9,DB,DC,BX,BG]
       | true=>
        simp only [A1,DC,BG];have hDn:d.toNat≤4:=by omega
        have run:=fun (W:LI) (hW:W.length≤16) (hs:∀ w∈W,w.toStr.size≤100)=>Cq 20 q hq ⟨#[]⟩ d.toNat hDn d.toNat 0 20 W (by omega) (by omega) (by omega) hs
        have zi:∀ {n:Int},FA n→(DP n).size≤100:=fun h=>by have:=y3 h; omega
        have zp:∀ {n:Int},FA n→(D0 n).size≤100:=fun h=>by have:=(X3 _ h).2; omega
        have fin:∀ (W:LI) (l:List BA),W.map IV.toStr=l++[TF]→XN q=l→HE (W.map IV.toStr++(((q.spans.take d.toNat).drop 0).map fun s=>YG s.1 s.2)++[WC,DP q.bu]) IC=HE (rU q d.toNat) IC:=fun W l hWl hl=>by
         unfold rU;rw [hWl,hl,B1];simp
        subst hQ;cases k1:(k==1) with
        | true=>
         simp only [DB,Bool.true_or];refine (run [IV.str YP,IV.str (DP c),IV.str rN,IV.str (D0 lo),IV.str rS,IV.str (D0 hi),IV.str TF] (by simp) (fun w hw=>?_)).trans ?_
         ·simp only [AX,CY,vak] at hw;rcases hw with rfl | rfl | rfl | rfl | rfl | rfl | rfl
          ·decide
          ·exact zi hq.c
          ·decide
          ·exact zp hq.lo
          ·decide
          ·exact zp hq.hi
          ·decide
         ·rw [fin _ [YP,DP c,rN,D0 lo,rS,D0 hi] rfl (by unfold XN; simp only [k1,DB])]
        | false=>
         simp only [DC,vav];cases k2:(k==2) with
         | true=>
          simp only [DB,Bool.true_or];refine (run [IV.str YN,IV.str (DP c),IV.str TF] (by simp) (fun w hw=>?_)).trans ?_
          ·simp only [AX,CY,vak] at hw;rcases hw with rfl | rfl | rfl
           ·decide
           ·exact zi hq.c
           ·decide
          ·rw [fin _ [YN,DP c] rfl (by unfold XN; simp only [k1,k2,DB,DC])]
         | false=>
          simp only [DC,vav];cases k3:(k==3) with
          | false=>simp only [DC]
          | true=>
           simp only [DB];cases fl with
           | true=>
            simp only [DB];refine (run [IV.str WD,IV.str (DP c),IV.str eB,IV.str (DP ft),IV.str TF] (by simp) (fun w hw=>?_)).trans ?_
            ·simp only [AX,CY,vak] at hw;rcases hw with rfl | rfl | rfl | rfl | rfl
             ·decide
             ·exact zi hq.c
             ·decide
             ·exact zi hq.ft
             ·decide
            ·rw [fin _ [WD,DP c,eB,DP ft] rfl (by unfold XN; simp only [k1,k2,DB,DC])]
           | false=>
            simp only [DC];refine (run [IV.str YQ,IV.str (DP c),IV.str eB,IV.str (DP ft),IV.str TF] (by simp) (fun w hw=>?_)).trans ?_
            ·simp only [AX,CY,vak] at hw;rcases hw with rfl | rfl | rfl | rfl | rfl
             ·decide
             ·exact zi hq.c
             ·decide
             ·exact zi hq.ft
             ·decide
            ·rw [fin _ [YQ,DP c,eB,DP ft] rfl (by unfold XN; simp only [k1,k2,DC])]
 ·simp [R.get] at h
open Go Go.Proofs
def N9 (N:Nat):Env:=DV [(121,Y5),(120,TX),(117,Y6),(119,TY),(116,aV),(118,WU),(74,PF)] [(9,⟨[0,2,3,4,5,7,8,9,45,46,47],[2,9],[]⟩)] 82 N
abbrev QC (s0:BA) (x3:Int) (b4:Bool) (l5:LI) (x7 x8:Int) (l45:LI) (x46 x47 u02 u03 u0a u0b u0c u0d u0e u0f u0g u0h u04 u05 u06 u07 u08:Int) (u00:Bool) (u09 u0i u0j u0q u0r u0s u0t u0u u0v u0w u0x u0k u0l u0m u0n u0o:Int) (u01:Bool) (u0p:Int):St:=⟨[(0,(.str s0)),(2,(.ptr 2 0 0)),(3,(.i x3)),(4,(.bool b4)),(5,(.list false [.str] l5)),(7,(.i x7)),(8,(.i x8)),(9,(.ptr 9 0 0)),(45,(.list false [.str] l45)),(46,(.i x46)),(47,(.i x47))],[(2,(some (.box [.i u02,.i u03,.i u0a,.i u0b,.i u0c,.i u0d,.i u0e,.i u0f,.i u0g,.i u0h,.i u04,.i u05,.i u06,.i u07,.i u08,.bool u00,.i u09]))),(9,(some (.box [.i u0i,.i u0j,.i u0q,.i u0r,.i u0s,.i u0t,.i u0u,.i u0v,.i u0w,.i u0x,.i u0k,.i u0l,.i u0m,.i u0n,.i u0o,.bool u01,.i u0p])))]⟩
theorem zaH (N:Nat) (s:BA):DQ (N9 N) QR [.cell 2 46,.tmp 3,.tmp 4] [[.z,.z,.z,.z,.z,.z,.z,.z,.z,.z,.z,.z,.z,.z,.z,.bool,.z],[.z],[.bool]] [.str s]=(cond (decide (AH s < 4294967281)&&decide (1≤AH {data:=#[32]})) (cond (decide (FT (A3 IV.str (D7 s {data:=#[32]})) {data:=#[105,110]} 0 < 0)) (some ((.tup [.agg [.i 0,.i 0,.i 0,.i 0,.i 0,.i 0,.i 0,.i 0,.i 0,.i 0,.i 0,.i 0,.i 0,.i 0,.i 0,.bool false,.i 0],.i 0,.bool false]),[])) (cond (decide (AA AB (AA AB (AA AB (ic (AE (A3 IV.str (D7 s {data:=#[32]}))) - 2) - FT (A3 IV.str (D7 s {data:=#[32]})) {data:=#[105,110]} 0) - 1) < 1)) (some ((.tup [.agg [.i 0,.i 0,.i 0,.i 0,.i 0,.i 0,.i 0,.i 0,.i 0,.i 0,.i 0,.i 0,.i 0,.i 0,.i 0,.bool false,.i 0],.i 0,.bool false]),[])) (cond (decide (AA AB (AA AB (AA AB (ic (AE (A3 IV.str (D7 s {data:=#[32]}))) - 2) - FT (A3 IV.str (D7 s {data:=#[32]})) {data:=#[105,110]} 0) - 1) > 4)) (some ((.tup [.agg [.i 0,.i 0,.i 0,.i 0,.i 0,.i 0,.i 0,.i 0,.i 0,.i 0,.i 0,.i 0,.i 0,.i 0,.i 0,.bool false,.i 0],.i 0,.bool false]),[])) (cond (decide (0≤FT (A3 IV.str (D7 s {data:=#[32]})) {data:=#[105,110]} 0)&&decide (FT (A3 IV.str (D7 s {data:=#[32]})) {data:=#[105,110]} 0≤ic (AE (A3 IV.str (D7 s {data:=#[32]}))))) (cond (decide (AE (AQ 0 (AK (AD (FT (A3 IV.str (D7 s {data:=#[32]})) {data:=#[105,110]} 0)) (A3 IV.str (D7 s {data:=#[32]}))))≤4294967290)&&List.all (AQ 0 (AK (AD (FT (A3 IV.str (D7 s {data:=#[32]})) {data:=#[105,110]} 0)) (A3 IV.str (D7 s {data:=#[32]})))) fun x=>decide (AH (IV.toStr x) < 4294967281)) (cond (decide (0≤AA AB (FT (A3 IV.str (D7 s {data:=#[32]})) {data:=#[105,110]} 0+1))&&(decide (AA AB (FT (A3 IV.str (D7 s {data:=#[32]})) {data:=#[105,110]} 0+1)≤AA AB (ic (AE (A3 IV.str (D7 s {data:=#[32]}))) - 2))&&decide (AA AB (ic (AE (A3 IV.str (D7 s {data:=#[32]}))) - 2)≤ic (AE (A3 IV.str (D7 s {data:=#[32]})))))) (DR (N9 N) (DD QR [1,1,1,1,1,1,1,0,1,0,0]) ⟨[0,2,3,4,5,7,8,9,45,46,47],[2,9],[]⟩ N (QC s 0 false (A3 IV.str (D7 s {data:=#[32]})) (AA AB (ic (AE (A3 IV.str (D7 s {data:=#[32]}))) - 2)) (AA AB (AA AB (AA AB (ic (AE (A3 IV.str (D7 s {data:=#[32]}))) - 2) - FT (A3 IV.str (D7 s {data:=#[32]})) {data:=#[105,110]} 0) - 1)) (AQ (AD (AA AB (FT (A3 IV.str (D7 s {data:=#[32]})) {data:=#[105,110]} 0+1))) (AK (AD (AA AB (ic (AE (A3 IV.str (D7 s {data:=#[32]}))) - 2))) (A3 IV.str (D7 s {data:=#[32]})))) (ic (AE (AQ (AD (AA AB (FT (A3 IV.str (D7 s {data:=#[32]})) {data:=#[105,110]} 0+1))) (AK (AD (AA AB (ic (AE (A3 IV.str (D7 s {data:=#[32]}))) - 2))) (A3 IV.str (D7 s {data:=#[32]})))))) 0 0 0 0 0 0 0 0 0 0 0 0 0 0 0 0 false 0 (Qy.k (ET (AQ 0 (AK (AD (FT (A3 IV.str (D7 s {data:=#[32]})) {data:=#[105,110]} 0)) (A3 IV.str (D7 s {data:=#[32]})))))) (Qy.c (ET (AQ 0 (AK (AD (FT (A3 IV.str (D7 s {data:=#[32]})) {data:=#[105,110]} 0)) (A3 IV.str (D7 s {data:=#[32]})))))) (Qy.a0 (ET (AQ 0 (AK (AD (FT (A3 IV.str (D7 s {data:=#[32]})) {data:=#[105,110]} 0)) (A3 IV.str (D7 s {data:=#[32]})))))) (Qy.b0 (ET (AQ 0 (AK (AD (FT (A3 IV.str (D7 s {data:=#[32]})) {data:=#[105,110]} 0)) (A3 IV.str (D7 s {data:=#[32]})))))) (Qy.a1 (ET (AQ 0 (AK (AD (FT (A3 IV.str (D7 s {data:=#[32]})) {data:=#[105,110]} 0)) (A3 IV.str (D7 s {data:=#[32]})))))) (Qy.b1 (ET (AQ 0 (AK (AD (FT (A3 IV.str (D7 s {data:=#[32]})) {data:=#[105,110]} 0)) (A3 IV.str (D7 s {data:=#[32]})))))) (Qy.a2 (ET (AQ 0 (AK (AD (FT (A3 IV.str (D7 s {data:=#[32]})) {data:=#[105,110]} 0)) (A3 IV.str (D7 s {data:=#[32]})))))) (Qy.b2 (ET (AQ 0 (AK (AD (FT (A3 IV.str (D7 s {data:=#[32]})) {data:=#[105,110]} 0)) (A3 IV.str (D7 s {data:=#[32]})))))) (Qy.a3 (ET (AQ 0 (AK (AD (FT (A3 IV.str (D7 s {data:=#[32]})) {data:=#[105,110]} 0)) (A3 IV.str (D7 s {data:=#[32]})))))) (Qy.b3 (ET (AQ 0 (AK (AD (FT (A3 IV.str (D7 s {data:=#[32]})) {data:=#[105,110]} 0)) (A3 IV.str (D7 s {data:=#[32]})))))) (Qy.a4 (ET (AQ 0 (AK (AD (FT (A3 IV.str (D7 s {data:=#[32]})) {data:=#[105,110]} 0)) (A3 IV.str (D7 s {data:=#[32]})))))) (Qy.b4 (ET (AQ 0 (AK (AD (FT (A3 IV.str (D7 s {data:=#[32]})) {data:=#[105,110]} 0)) (A3 IV.str (D7 s {data:=#[32]})))))) (Qy.lo (ET (AQ 0 (AK (AD (FT (A3 IV.str (D7 s {data:=#[32]})) {data:=#[105,110]} 0)) (A3 IV.str (D7 s {data:=#[32]})))))) (Qy.hi (ET (AQ 0 (AK (AD (FT (A3 IV.str (D7 s {data:=#[32]})) {data:=#[105,110]} 0)) (A3 IV.str (D7 s {data:=#[32]})))))) (Qy.ft (ET (AQ 0 (AK (AD (FT (A3 IV.str (D7 s {data:=#[32]})) {data:=#[105,110]} 0)) (A3 IV.str (D7 s {data:=#[32]})))))) (Qy.fl (ET (AQ 0 (AK (AD (FT (A3 IV.str (D7 s {data:=#[32]})) {data:=#[105,110]} 0)) (A3 IV.str (D7 s {data:=#[32]})))))) (Qy.bu (ET (AQ 0 (AK (AD (FT (A3 IV.str (D7 s {data:=#[32]})) {data:=#[105,110]} 0)) (A3 IV.str (D7 s {data:=#[32]}))))))) (DI 0 (DJ (N9 N) (DD QR [1,1,1,1,1,1,1,1]) (DL (N9 N) none [.cell 2 46,.tmp 3,.tmp 4] [[.z,.z,.z,.z,.z,.z,.z,.z,.z,.z,.z,.z,.z,.z,.z,.bool,.z],[.z],[.bool]])))) none) none) none)))) none):=by kernel_rfl
theorem Hc (N:Nat) (s0:BA) (x3:Int) (b4:Bool) (l5:LI) (x7 x8:Int) (l45:LI) (x46 x47 u02 u03 u0a u0b u0c u0d u0e u0f u0g u0h u04 u05 u06 u07 u08:Int) (u00:Bool) (u09 u0i u0j u0q u0r u0s u0t u0u u0v u0w u0x u0k u0l u0m u0n u0o:Int) (u01:Bool) (u0p:Int) (again:St→DG) (k:Out→St→DG):E4 (N9 N) (DD QR [1,1,1,1,1,1,1,0,1,0,0]) (QC s0 x3 b4 l5 x7 x8 l45 x46 x47 u02 u03 u0a u0b u0c u0d u0e u0f u0g u0h u04 u05 u06 u07 u08 u00 u09 u0i u0j u0q u0r u0s u0t u0u u0v u0w u0x u0k u0l u0m u0n u0o u01 u0p) (EH again ⟨[0,2,3,4,5,7,8,9,45,46,47],[2,9],[]⟩ k)=(cond (decide (x47 < x46)) (cond (decide (0≤x47)&&decide (x47 < ic (AE l45))) (cond (decide (AH (IV.toStr (AI l45 (AD x47) default)) < 4294967281)) (cond (decide (AH (cutL (IV.toStr (AI l45 (AD x47) default)) {data:=#[46,46]}) < 4294967281)) (cond (decide (AH (GS (IV.toStr (AI l45 (AD x47) default)) {data:=#[46,46]}) < 4294967281)) (cond (decide (x47=ic 0)) (again (QC s0 x3 b4 l5 x7 x8 l45 x46 (AA AB (x47+1)) u02 u03 u0a u0b u0c u0d u0e u0f u0g u0h u04 u05 u06 u07 u08 u00 u09 u0i u0j (GI (cutL (IV.toStr (AI l45 (AD x47) default)) {data:=#[46,46]})) (GI (GS (IV.toStr (AI l45 (AD x47) default)) {data:=#[46,46]})) u0s u0t u0u u0v u0w u0x u0k u0l u0m u0n u0o u01 u0p)) (cond (decide (x47=ic 1)) (again (QC s0 x3 b4 l5 x7 x8 l45 x46 (AA AB (x47+1)) u02 u03 u0a u0b u0c u0d u0e u0f u0g u0h u04 u05 u06 u07 u08 u00 u09 u0i u0j u0q u0r (GI (cutL (IV.toStr (AI l45 (AD x47) default)) {data:=#[46,46]})) (GI (GS (IV.toStr (AI l45 (AD x47) default)) {data:=#[46,46]})) u0u u0v u0w u0x u0k u0l u0m u0n u0o u01 u0p)) (cond (decide (x47=ic 2)) (again (QC s0 x3 b4 l5 x7 x8 l45 x46 (AA AB (x47+1)) u02 u03 u0a u0b u0c u0d u0e u0f u0g u0h u04 u05 u06 u07 u08 u00 u09 u0i u0j u0q u0r u0s u0t (GI (cutL (IV.toStr (AI l45 (AD x47) default)) {data:=#[46,46]})) (GI (GS (IV.toStr (AI l45 (AD x47) default)) {data:=#[46,46]})) u0w u0x u0k u0l u0m u0n u0o u01 u0p)) (cond (decide (x47=ic 3)) (again (QC s0 x3 b4 l5 x7 x8 l45 x46 (AA AB (x47+1)) u02 u03 u0a u0b u0c u0d u0e u0f u0g u0h u04 u05 u06 u07 u08 u00 u09 u0i u0j u0q u0r u0s u0t u0u u0v (GI (cutL (IV.toStr (AI l45 (AD x47) default)) {data:=#[46,46]})) (GI (GS (IV.toStr (AI l45 (AD x47) default)) {data:=#[46,46]})) u0k u0l u0m u0n u0o u01 u0p)) (cond (decide (x47=ic 4)) (again (QC s0 x3 b4 l5 x7 x8 l45 x46 (AA AB (x47+1)) u02 u03 u0a u0b u0c u0d u0e u0f u0g u0h u04 u05 u06 u07 u08 u00 u09 u0i u0j u0q u0r u0s u0t u0u u0v u0w u0x (GI (cutL (IV.toStr (AI l45 (AD x47) default)) {data:=#[46,46]})) (GI (GS (IV.toStr (AI l45 (AD x47) default)) {data:=#[46,46]})) u0m u0n u0o u01 u0p)) none))))) none) none) none) none) (k (.exit 0) (QC s0 x3 b4 l5 x7 x8 l45 x46 x47 u02 u03 u0a u0b u0c u0d u0e u0f u0g u0h u04 u05 u06 u07 u08 u00 u09 u0i u0j u0q u0r u0s u0t u0u u0v u0w u0x u0k u0l u0m u0n u0o u01 u0p))):=by kernel_rfl
theorem Rr (N:Nat) (s0:BA) (x3:Int) (b4:Bool) (l5:LI) (x7 x8:Int) (l45:LI) (x46 x47 u02 u03 u0a u0b u0c u0d u0e u0f u0g u0h u04 u05 u06 u07 u08:Int) (u00:Bool) (u09 u0i u0j u0q u0r u0s u0t u0u u0v u0w u0x u0k u0l u0m u0n u0o:Int) (u01:Bool) (u0p:Int):(DI 0 (DJ (N9 N) (DD QR [1,1,1,1,1,1,1,1]) (DL (N9 N) none [.cell 2 46,.tmp 3,.tmp 4] [[.z,.z,.z,.z,.z,.z,.z,.z,.z,.z,.z,.z,.z,.z,.z,.bool,.z],[.z],[.bool]]))) (.exit 0) (QC s0 x3 b4 l5 x7 x8 l45 x46 x47 u02 u03 u0a u0b u0c u0d u0e u0f u0g u0h u04 u05 u06 u07 u08 u00 u09 u0i u0j u0q u0r u0s u0t u0u u0v u0w u0x u0k u0l u0m u0n u0o u01 u0p)=(cond (decide (0≤AA AB (x7+1))&&decide (AA AB (x7+1) < ic (AE l5))) (cond (!BR (dC {k:=u0i,c:=u0j,a0:=u0q,b0:=u0r,a1:=u0s,b1:=u0t,a2:=u0u,b2:=u0v,a3:=u0w,b3:=u0x,a4:=u0k,b4:=u0l,lo:=u0m,hi:=u0n,ft:=u0o,fl:=u01,bu:=FV (IV.toStr (AI l5 (AD (AA AB (x7+1))) default))} x8)==BR s0) (some ((.tup [.agg [.i 0,.i 0,.i 0,.i 0,.i 0,.i 0,.i 0,.i 0,.i 0,.i 0,.i 0,.i 0,.i 0,.i 0,.i 0,.bool false,.i 0],.i 0,.bool false]),[])) (some ((.tup [.agg [.i u0i,.i u0j,.i u0q,.i u0r,.i u0s,.i u0t,.i u0u,.i u0v,.i u0w,.i u0x,.i u0k,.i u0l,.i u0m,.i u0n,.i u0o,.bool u01,.i (FV (IV.toStr (AI l5 (AD (AA AB (x7+1))) default)))],.i x8,.bool true]),[]))) none):=by kernel_rfl
open Go Go.Proofs
theorem Zh (l:LI):(ET l).a0=0∧(ET l).b0=0∧(ET l).a1=0∧(ET l).b1=0∧(ET l).a2=0∧(ET l).b2=0∧(ET l).a3=0∧(ET l).b3=0∧(ET l).a4=0∧(ET l).b4=0∧(ET l).bu=0:=by
 unfold ET;cases ((D2 l 0).toList==YP.toList) <;> cases ((D2 l 0).toList==YN.toList) <;> cases ((D2 l 0).toList==YQ.toList||(D2 l 0).toList==WD.toList) <;> exact ⟨rfl,rfl,rfl,rfl,rfl,rfl,rfl,rfl,rfl,rfl,rfl⟩
def rq (l:LI) (i d:Nat):Qy:=
 ⟨(
  ET (l.take i)).k,(ET (l.take i)).c,
  cond (BN 0 d) (S6 l (i+1)) 0,cond (BN 0 d) (S7 l (i+1)) 0,cond (BN 1 d) (S6 l (i+2)) 0,cond (BN 1 d) (S7 l (i+2)) 0,cond (BN 2 d) (S6 l (i+3)) 0,cond (BN 2 d) (S7 l (i+3)) 0,cond (BN 3 d) (S6 l (i+4)) 0,cond (BN 3 d) (S7 l (i+4)) 0,0,0,
  (ET (l.take i)).lo,(ET (l.take i)).hi,(ET (l.take i)).ft,(ET (l.take i)).fl,0⟩
theorem zdU (l:LI) (i:Nat):ET (l.take i)=rq l i 0:=by
 obtain ⟨h1,h2,h3,h4,h5,h6,h7,h8,h9,h10,h11⟩:=Zh (l.take i);unfold rq;generalize ET (l.take i)=q at *;cases q;simp only at *;subst h1 h2 h3 h4 h5 h6 h7 h8 h9 h10 h11;rfl
abbrev jT (s:BA) (W:LI) (x7 x8:Int) (L:LI) (q:Qy) (i:Int):St:=
 ⟨[(0,(.str s)),(2,(.ptr 2 0 0)),(3,(.int .i64 0)),(4,(.bool false)),(5,(.list false [.str] W)),(7,(.int .i64 x7)),(8,(.int .i64 x8)),(9,(.ptr 9 0 0)),(45,(.list false [.str] L)),(46,(.int .i64 (ic L.length))),(47,(.int .i64 i))],[(2,(some (lE Qy.none))),(9,(some (lE q)))]⟩
theorem Ql (w sep:BA) (h:w.size < 4294967281):decide (AH w < 4294967281)=true∧decide (AH (cutL w sep) < 4294967281)=true∧decide (AH (GS w sep) < 4294967281)=true:=by
 obtain ⟨h1,h2⟩:=w8 w sep;exact ⟨AF h,AF (by omega),AF (by omega)⟩
theorem zdf (N:Nat) (s:BA) (W:LI) (x7 x8:Int) (L:LI) (I i:Nat) (hi:i < L.length) (h4:i < 4) (hL:IV.toStr (L.getD i default)=D2 W (I+1+i)) (hw:(D2 W (I+1+i)).size < 4294967281) (again:St→DG) (k:Out→St→DG) :
  E4 (N9 N) (DD QR [1,1,1,1,1,1,1,0,1,0,0]) (jT s W x7 x8 L (rq W I i) (i:Int)) (EH again ⟨[0,2,3,4,5,7,8,9,45,46,47],[2,9],[]⟩ k)=again (jT s W x7 x8 L (rq W I (i+1)) ((i+1:Nat):Int)):=by
 refine (Hc N s 0 false W x7 x8 L (ic L.length) i 0 0 0 0 0 0 0 0 0 0 0 0 0 0 0 false 0 (rq W I i).k (rq W I i).c (rq W I i).a0 (rq W I i).b0 (rq W I i).a1 (rq W I i).b1 (rq W I i).a2 (rq W I i).b2 (rq W I i).a3 (rq W I i).b3 (rq W I i).a4 (rq W I i).b4 (rq W I i).lo (rq W I i).hi (rq W I i).ft (rq W I i).fl (rq W I i).bu again k).trans ?_;rw [IG hi,IF,CR,DB,DB,BC,hL];obtain ⟨c1,c2,c3⟩:=Ql (D2 W (I+1+i)) { data:=#[46,46] } hw;rw [c1,c2,c3,DB,DB,DB];have hi4:i=0∨i=1∨i=2∨i=3:=by omega
 rcases hi4 with rfl | rfl | rfl | rfl
 ·rw [show decide (((0:Nat):Int)=ic 0)=true from rfl,DB];rfl
 ·rw [show decide (((1:Nat):Int)=ic 0)=false from rfl,show decide (((1:Nat):Int)=ic 1)=true from rfl,DC,DB];rfl
 ·rw [show decide (((2:Nat):Int)=ic 0)=false from rfl,show decide (((2:Nat):Int)=ic 1)=false from rfl,show decide (((2:Nat):Int)=ic 2)=true from rfl,DC,DC,DB];rfl
 ·rw [show decide (((3:Nat):Int)=ic 0)=false from rfl,show decide (((3:Nat):Int)=ic 1)=false from rfl,show decide (((3:Nat):Int)=ic 2)=false from rfl,show decide (((3:Nat):Int)=ic 3)=true from rfl,DC,DC,DC,DB];rfl
theorem Ce (N:Nat) (s:BA) (W:LI) (x7 x8:Int) (L:LI) (I:Nat) (h4:L.length≤4) (hL:∀ i,i < L.length→IV.toStr (L.getD i default)=D2 W (I+1+i)) (hw:∀ i,(D2 W i).size < 4294967281) (K:Out→St→DG) :
  ∀ (d i n:Nat),i+d=L.length→d < n →
   DR (N9 N) (DD QR [1,1,1,1,1,1,1,0,1,0,0]) ⟨[0,2,3,4,5,7,8,9,45,46,47],[2,9],[]⟩ n (jT s W x7 x8 L (rq W I i) (i:Int)) K=K (.exit 0) (jT s W x7 x8 L (rq W I L.length) (ic L.length))
 | 0,i,n+1,hd,hn=>by
  have hi:i=L.length:=by omega
  subst hi;rw [DY];refine (Hc N s 0 false W x7 x8 L (ic L.length) _ 0 0 0 0 0 0 0 0 0 0 0 0 0 0 0 false 0 (rq W I L.length).k (rq W I L.length).c (rq W I L.length).a0 (rq W I L.length).b0 (rq W I L.length).a1 (rq W I L.length).b1 (rq W I L.length).a2 (rq W I L.length).b2 (rq W I L.length).a3 (rq W I L.length).b3 (rq W I L.length).a4 (rq W I L.length).b4 (rq W I L.length).lo (rq W I L.length).hi (rq W I L.length).ft (rq W I L.length).fl (rq W I L.length).bu _ _).trans ?_;rw [IW (AT _),DC];rfl
 | d+1,i,n+1,hd,hn=>by
  rw [DY,zdf N s W x7 x8 L I i (by omega) (by omega) (hL i (by omega)) (hw _)];exact Ce N s W x7 x8 L I h4 hL hw K d (i+1) n (by omega) (by omega)
 | _,_,0,_,h=>by omega
theorem yU (w:BA):∀ (l:LI) (k:Int),0≤k→FT l w k = -1∨(k≤FT l w k∧FT l w k < k+(l.length:Int))
 | [],_,_=>.inl rfl
 | x :: l,k,hk=>by
  unfold FT;cases (w.toList==x.toStr.toList) with
  | true=>rw [DB]; exact .inr ⟨CF _,by simp only [AM]; omega⟩
  | false=>
   rw [DC];rcases yU w l (k+1) (by omega) with h | ⟨h1,h2⟩
   ·exact .inl h
   ·exact .inr ⟨by omega,by simp only [AM]; omega⟩
theorem zar (s:BA) (hs:s.size < 4294967281):(G5 s).length≤4294967282∧∀ i,(D2 (G5 s) i).size < 4294967281:=by
 have h1:=Lib.splitB_all IC (by decide) 0 _ s rfl;have h2:=Lib.countB_le IC (by decide) s.size s (AT _);refine ⟨?_,fun i=>?_⟩
 ·have e:(G5 s).length=Lib.countB s IC+1:=by
   unfold G5 D7;rw [B9];exact h1
  omega
 ·unfold D2;by_cases hi:i < (G5 s).length
  ·have:AI (G5 s) i default=(G5 s)[i]:=by simp [hi]
   rw [this];have hm:=vaa hi;unfold G5 at hm;obtain ⟨p,hp,hpe⟩:=vao.1 hm;have hz:=(YH IC _ s).2 p hp
   have:((G5 s)[i]).toStr=p:=by
    show (A3 IV.str (D7 s IC))[i].toStr=p;rw [← hpe];rfl
   rw [this];omega
  ·have:AI (G5 s) i default=default:=by simp [AI,hi]
   rw [this];decide
theorem zec:DO PR B0 85 Y4:=by
 refine DX [(121,Y5),(120,TX),(117,Y6),(119,TY),(116,aV),(118,WU),(74,PF)] [(9,⟨[0,2,3,4,5,7,8,9,45,46,47],[2,9],[]⟩)] Y4
  [[.z,.z,.z,.z,.z,.z,.z,.z,.z,.z,.z,.z,.z,.z,.z,.bool,.z],[.z],[.bool]] Tryz.func85 Us
  ⟨zed,Ff,zee,Fg,zfl,Gj,jN,trivial⟩ ?_
 intro vs r hwf h;unfold Y4 at h;split at h
 ·rename_i s;refine ⟨20,?_⟩;cases hs:decide (s.size < 4294967281) with
  | false=>rw [hs] at h; simp [R.get] at h
  | true=>
   rw [hs,R.get_br,DB,R.get_ok] at h;rw [← h];refine (zaH 20 s).trans ?_;have hs':=AY hs;rw [hs];obtain ⟨hl,hw⟩:=zar s hs';have eW:A3 IV.str (D7 s { data:=#[32] })=G5 s:=rfl;have eI:FT (G5 s) { data:=#[105,110] } 0=NX s:=rfl;rw [eW,eI,show decide (1≤AH { data:=#[32] })=true from rfl,CR,DB];have hr:=yU TF (G5 s) 0 (CF _)
   change NX s = -1∨(0≤NX s∧NX s < 0+((G5 s).length:Int)) at hr
   have w2:AA AB (ic (AE (G5 s)) - 2)=ic (AE (G5 s)) - 2:=EA (by simp only [ic]; omega) (by simp only [ic]; omega);rw [w2];have wd:AA AB (AA AB (ic (AE (G5 s)) - 2 - NX s) - 1)=OQ s:=by
    unfold OQ;rw [EA (n:=ic (AE (G5 s)) - 2 - NX s) (by simp only [ic]; omega) (by simp only [ic]; omega),EA (by simp only [ic]; omega) (by simp only [ic]; omega)]
   rw [wd];unfold GQ UT UU;cases h1:decide (NX s < 0) with
   | true=>simp only [DB,DC,A1,BX]; rfl
   | false=>
    cases h2:decide (OQ s < 1) with
    | true=>simp only [DB,DC,A1,A9,BX,vax]; rfl
    | false=>
     cases h3:decide (OQ s > 4) with
     | true=>simp only [DB,DC,A1,A9,BX,vax]; rfl
     | false=>
      simp only [DC,A9,BG];have h1:=BE h1;have h2:=BE h2;have h3:=BE h3;obtain ⟨I,hI⟩:∃ I:Nat,NX s=I:=⟨(NX s).toNat,by omega⟩;obtain ⟨D,hD⟩:∃ D:Nat,OQ s=D:=⟨(OQ s).toNat,by omega⟩;have hD1:1≤D:=by omega
      have hD4:D≤4:=by omega
      unfold nO;have hDd:(D:Int)=((G5 s).length:Int) - 2 - I - 1:=by
       rw [← hD,← hI];rfl
      rw [hI,hD] at *;generalize G5 s=W at *;have wi:AA AB ((I:Int)+1)=((I+1:Nat):Int):=by rw [EA (by omega) (by omega)]; rfl
      have eb:ic (AE W) - 2=((W.length - 2:Nat):Int):=by simp only [ic]; omega
      rw [wi,eb];simp only [BC,B1];have hall:List.all (AK I W) (fun x=>decide (AH (IV.toStr x) < 4294967281))=true:=by
       rw [CN];intro x hx;obtain ⟨j,hj,rfl⟩:=List.mem_iff_getElem.1 (vaY hx)
       have:=hw j
       unfold D2 at this;have e:AI W j default=W[j]:=by simp [hj]
       rw [e] at this;exact AF this
      rw [hall,AF (show (0:Int)≤(I:Int) by omega),AF (show (I:Int)≤ic (AE W) by simp only [ic]; omega),AF (show AE (AK I W)≤4294967290 by rw [A8]; omega),
       AF (show (0:Int)≤((I+1:Nat):Int) by omega),AF (show ((I+1:Nat):Int)≤((W.length - 2:Nat):Int) by omega),AF (show ((W.length - 2:Nat):Int)≤ic (AE W) by simp only [ic]; omega)]
      simp only [CR,DB];have hLl:(AQ (I+1) (AK (W.length - 2) W)).length=D:=by rw [C7,A8]; omega
      have hLg:∀ i,i < (AQ (I+1) (AK (W.length - 2) W)).length→IV.toStr ((AQ (I+1) (AK (W.length - 2) W)).getD i default)=D2 W (I+1+i):=fun i hi=>by
       rw [hLl] at hi;unfold D2;congr 1;simp only [AI,van,CJ];rw [BJ (by omega)]
      rw [zdU W I];have run:=Ce 20 s W ((W.length - 2:Nat):Int) (D:Int) (AQ (I+1) (AK (W.length - 2) W)) I (by rw [hLl]; exact hD4) hLg hw (DI 0 (DJ (N9 20) (DD QR [1,1,1,1,1,1,1,1]) (DL (N9 20) none [(vbf 2 46),(BV 3),(BV 4)] [[.z,.z,.z,.z,.z,.z,.z,.z,.z,.z,.z,.z,.z,.z,.z,.bool,.z],[.z],[.bool]]))) D 0 20 (by rw [hLl]; omega) (by omega);refine run.trans ?_;rw [hLl];refine (Rr 20 s 0 false W ((W.length - 2:Nat):Int) (D:Int) (AQ (I+1) (AK (W.length - 2) W)) (ic (AQ (I+1) (AK (W.length - 2) W)).length) _ 0 0 0 0 0 0 0 0 0 0 0 0 0 0 0 false 0 (rq W I D).k (rq W I D).c (rq W I D).a0 (rq W I D).b0 (rq W I D).a1 (rq W I D).b1 (rq W I D).a2 (rq W I D).b2 (rq W I D).a3 (rq W I D).b3 (rq W I D).a4 (rq W I D).b4 (rq W I D).lo (rq W I D).hi (rq W I D).ft (rq W I D).fl (rq W I D).bu).trans ?_;have e7:AA AB (((W.length - 2:Nat):Int)+1)=((W.length - 1:Nat):Int):=by rw [EA (by omega) (by omega)]; omega
      rw [e7,BC,AF (show (0:Int)≤((W.length - 1:Nat):Int) by omega),AF (show ((W.length - 1:Nat):Int) < ic (AE W) by simp only [ic]; omega),CR,DB];have eq:(⟨(rq W I D).k,(rq W I D).c,(rq W I D).a0,(rq W I D).b0,(rq W I D).a1,(rq W I D).b1,(rq W I D).a2,(rq W I D).b2,(rq W I D).a3,(rq W I D).b3,(rq W I D).a4,(rq W I D).b4,(rq W I D).lo,(rq W I D).hi,(rq W I D).ft,(rq W I D).fl,FV (IV.toStr (AI W (W.length - 1) default))⟩:Qy)=pE W I D:=rfl;rw [eq];cases ((dC (pE W I D) (D:Int)).toList==s.toList) with
      | false=>rfl
      | true=>rfl
 ·simp [R.get] at h
end Go.FM
