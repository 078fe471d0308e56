/-
  A small machine that reads a function of the program and reckons what a call of it comes to; what Go's library on the road comes to; the functions of the program, one by one. No conditions beyond each specification's own. (DERIVED: THE SHELF's CONTRACTS AT THIS DUMP, IN PLAIN WORDS , THE LIBRARY's strconv.FormatUint AT BASE 10: the number's de, WHAT THE LIBRARY's FUNCTIONS OVER SLICES OF STRINGS COME TO,, and so on.)
-/
import Derived.Shelf.Strings.Builder1
import Derived.Shelf.Strings.Builder2
import Derived.Shelf.Strings.OnBuilder
import Derived.Shelf.Strings.Trim
import Derived.Shelf.Small.Utf8
import Derived.Shelf.Small.Bits
import Derived.Shelf.Small.Strs
import Derived.Shelf.Small.Wraps
import Derived.Shelf.Strings.BuilderF
import Derived.Shelf.Strings.BuilderK
import Derived.Shelf.Utf8.RuneCount
import Derived.Shelf.Strconv.Atoi
import Derived.Shelf.Strconv.Itoa0
import Derived.Shelf.Strconv.Itoa1
import Derived.Shelf.LaysM
import Derived.Shelf.Strconv.Itoa2
import Derived.Shelf.Strconv.Itoa3
import Derived.Shelf.Strconv.AtoiErrFast
import Derived.Shelf.Strconv.ParseIntEmpty
import Derived.Shelf.Strconv.AtoiFail
import Derived.Shelf.Strconv.Clone
import Derived.Shelf.Strconv.SyntaxError
import Derived.Shelf.LaysC
import Derived.Shelf.Strconv.ToError
import Derived.Shelf.Strconv.Lower
import Derived.Shelf.Strconv.ParseUint10
import Derived.Shelf.Strconv.ParseUint10Empty
import Derived.Shelf.Strconv.ParseUint10Any
import Derived.Shelf.Strconv.ParseInt10
import Derived.Shelf.Strconv.AtoiLong
import Derived.Shelf.Strconv.AtoiInnerAll
import Derived.Shelf.Strconv.RangeError
import Derived.Shelf.Strconv.ToErrorRange
import Derived.Shelf.Strconv.AtoiAll
import Derived.Shelf.Strconv.ErrVarAll
import Derived.Shelf.Strconv.ParseUint10b64
import Derived.Ground.MpProg
import Derived.Shelf.Pu.ParseUintPublic10
import Derived.Shelf.Pu.ErrVarParseUint
import Derived.Shelf.Strings.Search1
import Derived.Shelf.Strings.Search2
import Derived.Shelf.Strings.Search3
import Derived.Shelf.Strings.Cut
import Derived.Shelf.Strings.Count
import Derived.Shelf.Strings.Shaped
import Derived.Shelf.Sort.Plain
import Derived.Shelf.Strings.Prefix
import Derived.Shelf.Strings.Split
import Derived.Shelf.Strings.SplitShaped
import Derived.Shelf.Unicode.Decode
import Derived.Shelf.Strings.Runes
import Derived.Shelf.Strings.RuneCount
import Derived.Shelf.Strings.AsciiSet
import Derived.Shelf.Strings.Explode
import Derived.Shelf.Bits.Mul64
import Derived.Shelf.Strings.Repeat
import Derived.Shelf.Unicode.DecodeSlow
import Derived.Shelf.Unicode.DecodeAny
import Derived.Shelf.Unicode.DecodeLast
import Derived.Shelf.Slices.Turned
import Derived.Ground.Names2Prog
import Derived.Shelf.Slices.Clone
import Derived.Shelf.Slices.CompactI
import Derived.Shelf.Slices.SearchI
import Derived.Shelf.Slices.Cells
import Derived.Shelf.Slices.In.SortNone
import Derived.Ground.SlgnProg
import Derived.Shelf.SlicesE.Compact
import Derived.Shelf.SlicesE.Clone
import Derived.Ground.SlgfProg
import Derived.Shelf.SlicesE.IndexFunc
import Derived.Shelf.SlicesE.DeleteFunc
import Derived.Test.YtehhekmihbaghaaGreatDoorProg
import Derived.Test.YtehhekmihbaghaaGreatDoorTb
import Derived.Lib.AppendIntMem
import Derived.Deep.LoopGhost
import Derived.Lib.Walk
import Derived.Lib.SliceRun
set_option linter.all false
set_option maxRecDepth 100000
namespace Go.Proofs
open Go.Shelf
def Tryz.lays156_ren:Go.Shelf.Ren:=⟨fun | 156=>45 | 165=>87 | 166=>60 | 169=>56 | 240=>103 | 241=>137 | 276=>153 | 277=>179 | n=>n,fun | 31=>66 | 9=>9 | 3=>3 | 4=>4 | 0=>0 | 20=>20 | 72=>108 | 76=>121 | 70=>106 | 37=>69 | 75=>120 | 127=>165 | 164=>211 | 5=>5 | 80=>114 | n=>n,fun | n=>n⟩
theorem Tryz.lays156:Go.Proofs.Lays.n156 Tryz.prog Tryz.lays156_ren:= by constructor <;> first | kernel_rfl | (intro _; kernel_rfl)
theorem Tryz.Builder_Extra_156:Builder.Extra Tryz.prog Tryz.lays156_ren:={
 sizeBuilder:=by kernel_rfl
 liesBuilder:=by kernel_rfl
 t5:=Tryz.underlying5
 a5:=Tryz.isAgg5
 z5:=Tryz.sizeOf5
 v5:=Tryz.zeroValue5
 infoByte:=by kernel_rfl
 cellsByte:=by kernel_rfl
 sizeByte:=by kernel_rfl
 neB5:=by decide }
open Go.RowKit in
theorem Tryz.strings_Join_none (a:Option Addr) (c:Nat) (sep:ByteArray) (w:World) :
 Calls Tryz.prog 45 #[.slice a 0 c,.string sep] w fun e w'=>e = .returned (.string ⟨#[]⟩)∧w'=w:=Any.strings_Join_none Tryz.lays156 Tryz.Builder_Extra_156 a c sep w
open Go.RowKit in
theorem Tryz.strings_Join (bk o c:Nat) (xs:List ByteArray) (sep:ByteArray) (w:World) (hcells:∀ (j:Nat) x,xs[j]?=some x→w.cell? ⟨bk,o+j,none⟩=some (.string x)) (hbk:bk < w.heap.size) (hN:xs.length≤140737488355328) (hcap:xs.length≤c) (hlen:(Lib.join (xs.map (·.data.toList)) sep.data.toList).length≤140737488355328) :
 Calls Tryz.prog 45 #[.slice (some ⟨bk,o,none⟩) xs.length c,.string sep] w fun e w'=>e = .returned (.string ⟨(Lib.join (xs.map (·.data.toList)) sep.data.toList).toArray⟩)∧Below w.heap.size w w':=Any.strings_Join Tryz.lays156 Tryz.Builder_Extra_156 bk o c xs sep w hcells hbk hN hcap hlen
def Tryz.lays162_ren:Go.Shelf.Ren:=⟨fun | 162=>85 | 232=>130 | 227=>131 | 234=>132 | 236=>133 | 228=>174 | 271=>175 | 151=>176 | 120=>208 | 197=>181 | 152=>209 | 260=>210 | 137=>102 | 119=>223 | 224=>212 | 225=>211 | 217=>152 | 266=>191 | n=>n,fun | 9=>9 | 4=>4 | 3=>3 | 5=>5 | 117=>195 | 116=>194 | 0=>0 | 124=>198 | 21=>21 | 105=>231 | 46=>152 | 119=>279 | 139=>282 | 138=>281 | n=>n,fun | 3=>4 | 4=>5 | n=>n⟩
theorem Tryz.lays162:Go.Proofs.Lays.n162 Tryz.prog Tryz.lays162_ren:={
 mixed:=by kernel_rfl
 f119:=Tryz.func223.trans (congrArg some (by kernel_rfl))
 f120:=Tryz.func208.trans (congrArg some (by kernel_rfl))
 f137:=Tryz.func102.trans (congrArg some (by kernel_rfl))
 f151:=Tryz.func176.trans (congrArg some (by kernel_rfl))
 f152:=Tryz.func209.trans (congrArg some (by kernel_rfl))
 f162:=Tryz.func85.trans (congrArg some (by kernel_rfl))
 f197:=Tryz.func181.trans (congrArg some (by kernel_rfl))
 f217:=Tryz.func152.trans (congrArg some (by kernel_rfl))
 f224:=Tryz.func212.trans (congrArg some (by kernel_rfl))
 f225:=Tryz.func211.trans (congrArg some (by kernel_rfl))
 f227:=Tryz.func131.trans (congrArg some (by kernel_rfl))
 f228:=Tryz.func174.trans (congrArg some (by kernel_rfl))
 f232:=Tryz.func130.trans (congrArg some (by kernel_rfl))
 f234:=Tryz.func132.trans (congrArg some (by kernel_rfl))
 f236:=Tryz.func133.trans (congrArg some (by kernel_rfl))
 f260:=Tryz.func210.trans (congrArg some (by kernel_rfl))
 f266:=Tryz.func191.trans (congrArg some (by kernel_rfl))
 f271:=Tryz.func175.trans (congrArg some (by kernel_rfl))
 t0:=Tryz.underlying0
 a0:=Tryz.isAgg0
 z0:=Tryz.sizeOf0
 v0:=Tryz.zeroValue0
 t3:=Tryz.underlying3
 a3:=Tryz.isAgg3
 z3:=Tryz.sizeOf3
 v3:=Tryz.zeroValue3
 t4:=Tryz.underlying4
 a4:=Tryz.isAgg4
 z4:=Tryz.sizeOf4
 v4:=Tryz.zeroValue4
 t5:=Tryz.underlying5
 a5:=Tryz.isAgg5
 z5:=Tryz.sizeOf5
 v5:=Tryz.zeroValue5
 t9:=Tryz.underlying9
 a9:=Tryz.isAgg9
 z9:=Tryz.sizeOf9
 v9:=Tryz.zeroValue9
 t21:=Tryz.underlying21
 a21:=Tryz.isAgg21
 z21:=Tryz.sizeOf21
 v21:=Tryz.zeroValue21
 t46:=Tryz.underlying152
 a46:=Tryz.isAgg152
 z46:=Tryz.sizeOf152
 v46:=Tryz.zeroValue152
 t105:=Tryz.underlying231
 a105:=Tryz.isAgg231
 z105:=Tryz.sizeOf231
 v105:=Tryz.zeroValue231
 t116:=Tryz.underlying194
 a116:=Tryz.isAgg194
 z116:=Tryz.sizeOf194
 t117:=Tryz.underlying195
 a117:=Tryz.isAgg195
 z117:=Tryz.sizeOf195
 v117:=Tryz.zeroValue195
 t119:=Tryz.underlying279
 a119:=Tryz.isAgg279
 z119:=Tryz.sizeOf279
 t124:=Tryz.underlying198
 a124:=Tryz.isAgg198
 z124:=Tryz.sizeOf198
 v124:=Tryz.zeroValue198
 t138:=Tryz.underlying281
 a138:=Tryz.isAgg281
 z138:=Tryz.sizeOf281
 v138:=Tryz.zeroValue281
 t139:=Tryz.underlying282
 a139:=Tryz.isAgg282
 z139:=Tryz.sizeOf282
 v139:=Tryz.zeroValue282
 g3:=by kernel_rfl
 g4:=by kernel_rfl }
open Go.RowKit in
theorem Tryz.strings_TrimRight_one (s:ByteArray) (c:UInt8) (hc:c.toNat < 128) (w:World) (hs:s.size≤9223372036854775807) :
 Calls Tryz.prog 85 #[.string s,.string ⟨#[c]⟩] w fun e w'=>e = .returned (.string ⟨(Lib.trimRightB s.data.toList c).toArray⟩)∧w'=w:=Any.strings_TrimRight_one Tryz.lays162 s c hc w hs
def Tryz.lays137_ren:Go.Shelf.Ren:=⟨fun | 137=>102 | 217=>152 | 266=>191 | n=>n,fun | 9=>9 | 5=>5 | 3=>3 | n=>n,fun | n=>n⟩
theorem Tryz.lays137:Go.Proofs.Lays.n137 Tryz.prog Tryz.lays137_ren:= by constructor <;> first | kernel_rfl | (intro _; kernel_rfl)
open Go.RowKit in
theorem Tryz.strings_IndexByte (s:ByteArray) (c:Int) (w:World) :
 Calls Tryz.prog 102 #[.string s,.int .u8 c] w fun e w'=>e = .returned (.int .i64 (Lib.indexByte s.data.toList c.toNat.toUInt8))∧w'=w:=Any.strings_IndexByte Tryz.lays137 s c w
def Tryz.lays103_ren:Go.Shelf.Ren:=⟨fun | 103=>57 | 210=>101 | 206=>151 | n=>n,fun | 9=>9 | 4=>4 | 24=>115 | 3=>3 | n=>n,fun | n=>n⟩
theorem Tryz.lays103:Go.Proofs.Lays.n103 Tryz.prog Tryz.lays103_ren:= by constructor <;> first | kernel_rfl | (intro _; kernel_rfl)
open Go.RowKit in
theorem Tryz.strings_CutPrefix (s p:ByteArray) (w:World) :
 Calls Tryz.prog 57 #[.string s,.string p] w fun e w'=>e = .returned (.tuple #[.string ⟨(Lib.trimPrefix s.data.toList p.data.toList).toArray⟩,.bool (Lib.hasPrefix s.data.toList p.data.toList)])∧w'=w:=Any.strings_CutPrefix Tryz.lays103 s p w
def Tryz.lays283_ren:Go.Shelf.Ren:=⟨fun | 283=>170 | n=>n,fun | 3=>3 | 9=>9 | 4=>4 | n=>n,fun | n=>n⟩
theorem Tryz.lays283:Go.Proofs.Lays.n283 Tryz.prog Tryz.lays283_ren:= by constructor <;> first | kernel_rfl | (intro _; kernel_rfl)
open Go.Lib in
theorem Tryz.internal_strconv_small (i:Nat) (h:i < 100) (w:World) :
 Calls Tryz.prog 170 #[.int .i64 i] w fun e w'=>e = .returned (.string ⟨(Lib.decDigits i).toArray⟩)∧w'=w:=Any.internal_strconv_small Tryz.lays283 i h w
def Tryz.laysM284_ren:Go.Shelf.Ren:=⟨fun | 284=>171 | 129=>204 | 317=>203 | 318=>205 | n=>n,fun | 53=>103 | 3=>3 | 212=>262 | 0=>0 | 4=>4 | 46=>152 | 5=>5 | 9=>9 | n=>n,fun | 17=>0 | n=>n⟩
theorem Tryz.laysM284:Go.Proofs.LaysM.n284 Tryz.prog Tryz.laysM284_ren:={
 mixed:=by kernel_rfl
 f129:=Tryz.func204.trans (congrArg some (by kernel_rfl))
 f284:=Tryz.func171.trans (congrArg some (by kernel_rfl))
 f317:=Tryz.func203.trans (congrArg some (by kernel_rfl))
 f318:=Tryz.func205.trans (congrArg some (by kernel_rfl))
 t0:=Tryz.underlying0
 a0:=Tryz.isAgg0
 z0:=Tryz.sizeOf0
 v0:=Tryz.zeroValue0
 t3:=Tryz.underlying3
 a3:=Tryz.isAgg3
 z3:=Tryz.sizeOf3
 v3:=Tryz.zeroValue3
 t4:=Tryz.underlying4
 a4:=Tryz.isAgg4
 z4:=Tryz.sizeOf4
 v4:=Tryz.zeroValue4
 t5:=Tryz.underlying5
 a5:=Tryz.isAgg5
 z5:=Tryz.sizeOf5
 v5:=Tryz.zeroValue5
 t9:=Tryz.underlying9
 a9:=Tryz.isAgg9
 z9:=Tryz.sizeOf9
 v9:=Tryz.zeroValue9
 t46:=Tryz.underlying152
 a46:=Tryz.isAgg152
 z46:=Tryz.sizeOf152
 v46:=Tryz.zeroValue152
 t53:=Tryz.underlying103
 a53:=Tryz.isAgg103
 z53:=Tryz.sizeOf103
 v53:=Tryz.zeroValue103
 t212:=Tryz.underlying262
 a212:=Tryz.isAgg262
 z212:=Tryz.sizeOf262
 v212:=Tryz.zeroValue262
 g17:=by kernel_rfl
 i0:=by kernel_rfl
 i3:=by kernel_rfl
 i4:=by kernel_rfl
 i5:=by kernel_rfl
 i9:=by kernel_rfl
 i46:=by kernel_rfl
 i53:=by kernel_rfl
 i212:=by kernel_rfl
 m17:=by kernel_rfl }
open Go.Lib in
theorem Tryz.internal_strconv_numDigits (u:Nat) (h1:1≤u) (h2:u < 18446744073709551616) (w:World) (htab:Lib.TabIs Tryz.prog w "internal/strconv.uint64pow10" .u64 Lib.pow10Tab) :
 Calls Tryz.prog 171 #[.int .u64 u] w fun e w'=>e = .returned (.int .i64 (Lib.nDigits u))∧w'=w:=Any.internal_strconv_numDigits Tryz.laysM284 u h1 h2 w htab
def Tryz.lays285_ren:Go.Shelf.Ren:=⟨fun | 285=>172 | n=>n,fun | 37=>69 | 53=>103 | 3=>3 | 4=>4 | 51=>234 | 9=>9 | 5=>5 | 0=>0 | n=>n,fun | n=>n⟩
theorem Tryz.lays285:Go.Proofs.Lays.n285 Tryz.prog Tryz.lays285_ren:= by constructor <;> first | kernel_rfl | (intro _; kernel_rfl)
open Go.RowKit Go.Sort Go.Lib in
theorem Tryz.internal_strconv_formatBase10 (blk off cap:Nat) (u:Nat) (d:Array UInt8) (w:World) (hH:Holds (fun (b:UInt8)=>Value.int .u8 (b.toNat:Int)) w blk off d) (hu:u < 10 ^ d.size) (hu64:u < 18446744073709551616) (hsz:d.size < 4611686018427387904) :
 Calls Tryz.prog 172 #[.slice (some ⟨blk,off,none⟩) d.size cap,.int .u64 u] w fun e w'=>
  e = .returned (.tuple #[])∧∃ (n v':Nat) (dk:Array UInt8),w'=(putRow (fun (b:UInt8)=>Value.int .u8 (b.toNat:Int)) w blk off dk).drewN n∧FmtInv d.size u 0 v' dk:=Any.internal_strconv_formatBase10 Tryz.lays285 blk off cap u d w hH hu hu64 hsz
def Tryz.laysM171_ren:Go.Shelf.Ren:=⟨fun | 171=>43 | 243=>82 | 246=>128 | 283=>170 | 284=>171 | 285=>172 | 286=>173 | 129=>204 | 317=>203 | 318=>205 | 319=>206 | 320=>207 | 337=>221 | 338=>222 | n=>n,fun | 3=>3 | 9=>9 | 2=>2 | 4=>4 | 171=>225 | 0=>0 | 53=>103 | 37=>69 | 5=>5 | 173=>228 | 212=>262 | 51=>234 | 20=>20 | 213=>263 | 46=>152 | 232=>296 | 233=>297 | n=>n,fun | 17=>0 | 18=>6 | 19=>7 | n=>n⟩
theorem Tryz.laysM171:Go.Proofs.LaysM.n171 Tryz.prog Tryz.laysM171_ren:={
 mixed:=by kernel_rfl
 f129:=Tryz.func204.trans (congrArg some (by kernel_rfl))
 f171:=Tryz.func43.trans (congrArg some (by kernel_rfl))
 f243:=Tryz.func82.trans (congrArg some (by kernel_rfl))
 f246:=Tryz.func128.trans (congrArg some (by kernel_rfl))
 f283:=Tryz.func170.trans (congrArg some (by kernel_rfl))
 f284:=Tryz.func171.trans (congrArg some (by kernel_rfl))
 f285:=Tryz.func172.trans (congrArg some (by kernel_rfl))
 f286:=Tryz.func173.trans (congrArg some (by kernel_rfl))
 f317:=Tryz.func203.trans (congrArg some (by kernel_rfl))
 f318:=Tryz.func205.trans (congrArg some (by kernel_rfl))
 f319:=Tryz.func206.trans (congrArg some (by kernel_rfl))
 f320:=Tryz.func207.trans (congrArg some (by kernel_rfl))
 f337:=Tryz.func221.trans (congrArg some (by kernel_rfl))
 f338:=Tryz.func222.trans (congrArg some (by kernel_rfl))
 t0:=Tryz.underlying0
 a0:=Tryz.isAgg0
 z0:=Tryz.sizeOf0
 v0:=Tryz.zeroValue0
 t2:=Tryz.underlying2
 a2:=Tryz.isAgg2
 z2:=Tryz.sizeOf2
 v2:=Tryz.zeroValue2
 t3:=Tryz.underlying3
 a3:=Tryz.isAgg3
 z3:=Tryz.sizeOf3
 v3:=Tryz.zeroValue3
 t4:=Tryz.underlying4
 a4:=Tryz.isAgg4
 z4:=Tryz.sizeOf4
 v4:=Tryz.zeroValue4
 t5:=Tryz.underlying5
 a5:=Tryz.isAgg5
 z5:=Tryz.sizeOf5
 v5:=Tryz.zeroValue5
 t9:=Tryz.underlying9
 a9:=Tryz.isAgg9
 z9:=Tryz.sizeOf9
 v9:=Tryz.zeroValue9
 t20:=Tryz.underlying20
 a20:=Tryz.isAgg20
 z20:=Tryz.sizeOf20
 v20:=Tryz.zeroValue20
 t37:=Tryz.underlying69
 a37:=Tryz.isAgg69
 z37:=Tryz.sizeOf69
 v37:=Tryz.zeroValue69
 t46:=Tryz.underlying152
 a46:=Tryz.isAgg152
 z46:=Tryz.sizeOf152
 v46:=Tryz.zeroValue152
 t51:=Tryz.underlying234
 a51:=Tryz.isAgg234
 z51:=Tryz.sizeOf234
 v51:=Tryz.zeroValue234
 t53:=Tryz.underlying103
 a53:=Tryz.isAgg103
 z53:=Tryz.sizeOf103
 v53:=Tryz.zeroValue103
 t171:=Tryz.underlying225
 a171:=Tryz.isAgg225
 z171:=Tryz.sizeOf225
 v171:=Tryz.zeroValue225
 t173:=Tryz.underlying228
 a173:=Tryz.isAgg228
 z173:=Tryz.sizeOf228
 v173:=Tryz.zeroValue228
 t212:=Tryz.underlying262
 a212:=Tryz.isAgg262
 z212:=Tryz.sizeOf262
 v212:=Tryz.zeroValue262
 t213:=Tryz.underlying263
 a213:=Tryz.isAgg263
 z213:=Tryz.sizeOf263
 t232:=Tryz.underlying296
 a232:=Tryz.isAgg296
 z232:=Tryz.sizeOf296
 v232:=Tryz.zeroValue296
 t233:=Tryz.underlying297
 a233:=Tryz.isAgg297
 z233:=Tryz.sizeOf297
 v233:=Tryz.zeroValue297
 g17:=by kernel_rfl
 g18:=by kernel_rfl
 g19:=by kernel_rfl
 i0:=by kernel_rfl
 i2:=by kernel_rfl
 i3:=by kernel_rfl
 i4:=by kernel_rfl
 i5:=by kernel_rfl
 i9:=by kernel_rfl
 i20:=by kernel_rfl
 i37:=by kernel_rfl
 i46:=by kernel_rfl
 i51:=by kernel_rfl
 i53:=by kernel_rfl
 i171:=by kernel_rfl
 i173:=by kernel_rfl
 i212:=by kernel_rfl
 i232:=by kernel_rfl
 i233:=by kernel_rfl
 m17:=by kernel_rfl
 m18:=by kernel_rfl
 m19:=by kernel_rfl }
open Go.RowKit Go.Sort Go.Lib in
theorem Tryz.strconv_Itoa (n:Int) (h0 : -9223372036854775808≤n) (h1:n≤9223372036854775807) (w:World) (htab:Lib.TabIs Tryz.prog w "internal/strconv.uint64pow10" .u64 Lib.pow10Tab) :
 Calls Tryz.prog 43 #[.int .i64 n] w fun e w'=>e = .returned (.string ⟨(Lib.itoa n).toArray⟩)∧∃ k os,w'=grow (w.drewN k) os:=Any.strconv_Itoa Tryz.laysM171 n h0 h1 w htab
def Tryz.laysC172_ren:Go.Shelf.Ren:=⟨fun | 172=>90 | 244=>142 | 245=>143 | 247=>184 | 279=>185 | 280=>186 | 281=>187 | 282=>188 | 287=>214 | 316=>215 | 171=>43 | 205=>216 | 321=>225 | 322=>226 | 243=>82 | 246=>128 | 283=>170 | 284=>171 | 285=>172 | 286=>173 | 129=>204 | 317=>203 | 318=>205 | 319=>206 | 320=>207 | 337=>221 | 338=>222 | n=>n,fun | 9=>9 | 3=>3 | 75=>120 | 76=>121 | 4=>4 | 5=>5 | 167=>240 | 37=>69 | 0=>0 | 85=>241 | 2=>2 | 168=>243 | 53=>103 | 175=>246 | 46=>152 | 210=>268 | 127=>165 | 145=>288 | 143=>286 | 21=>21 | 171=>225 | 173=>228 | 212=>262 | 51=>234 | 20=>20 | 213=>263 | 232=>296 | 233=>297 | 80=>114 | n=>n,fun | 15=>2 | 16=>3 | 17=>0 | 18=>6 | 19=>7 | n=>n⟩
theorem Tryz.laysC172:Go.Proofs.LaysC.n172 Tryz.prog Tryz.laysC172_ren:={
 mixed:=by kernel_rfl
 f129:=Tryz.func204.trans (congrArg some (by kernel_rfl))
 f171:=Tryz.func43.trans (congrArg some (by kernel_rfl))
 f172:=Tryz.func90.trans (congrArg some (by kernel_rfl))
 f205:=Tryz.func216.trans (congrArg some (by kernel_rfl))
 f243:=Tryz.func82.trans (congrArg some (by kernel_rfl))
 f244:=Tryz.func142.trans (congrArg some (by kernel_rfl))
 f245:=Tryz.func143.trans (congrArg some (by kernel_rfl))
 f246:=Tryz.func128.trans (congrArg some (by kernel_rfl))
 f247:=Tryz.func184.trans (congrArg some (by kernel_rfl))
 f279:=Tryz.func185.trans (congrArg some (by kernel_rfl))
 f280:=Tryz.func186.trans (congrArg some (by kernel_rfl))
 f281:=Tryz.func187.trans (congrArg some (by kernel_rfl))
 f282:=Tryz.func188.trans (congrArg some (by kernel_rfl))
 f283:=Tryz.func170.trans (congrArg some (by kernel_rfl))
 f284:=Tryz.func171.trans (congrArg some (by kernel_rfl))
 f285:=Tryz.func172.trans (congrArg some (by kernel_rfl))
 f286:=Tryz.func173.trans (congrArg some (by kernel_rfl))
 f287:=Tryz.func214.trans (congrArg some (by kernel_rfl))
 f316:=Tryz.func215.trans (congrArg some (by kernel_rfl))
 f317:=Tryz.func203.trans (congrArg some (by kernel_rfl))
 f318:=Tryz.func205.trans (congrArg some (by kernel_rfl))
 f319:=Tryz.func206.trans (congrArg some (by kernel_rfl))
 f320:=Tryz.func207.trans (congrArg some (by kernel_rfl))
 f321:=Tryz.func225.trans (congrArg some (by kernel_rfl))
 f322:=Tryz.func226.trans (congrArg some (by kernel_rfl))
 f337:=Tryz.func221.trans (congrArg some (by kernel_rfl))
 f338:=Tryz.func222.trans (congrArg some (by kernel_rfl))
 t0:=Tryz.underlying0
 a0:=Tryz.isAgg0
 z0:=Tryz.sizeOf0
 v0:=Tryz.zeroValue0
 t2:=Tryz.underlying2
 a2:=Tryz.isAgg2
 z2:=Tryz.sizeOf2
 v2:=Tryz.zeroValue2
 t3:=Tryz.underlying3
 a3:=Tryz.isAgg3
 z3:=Tryz.sizeOf3
 v3:=Tryz.zeroValue3
 t4:=Tryz.underlying4
 a4:=Tryz.isAgg4
 z4:=Tryz.sizeOf4
 v4:=Tryz.zeroValue4
 t5:=Tryz.underlying5
 a5:=Tryz.isAgg5
 z5:=Tryz.sizeOf5
 v5:=Tryz.zeroValue5
 t9:=Tryz.underlying9
 a9:=Tryz.isAgg9
 z9:=Tryz.sizeOf9
 v9:=Tryz.zeroValue9
 t20:=Tryz.underlying20
 a20:=Tryz.isAgg20
 z20:=Tryz.sizeOf20
 v20:=Tryz.zeroValue20
 t21:=Tryz.underlying21
 a21:=Tryz.isAgg21
 z21:=Tryz.sizeOf21
 v21:=Tryz.zeroValue21
 t37:=Tryz.underlying69
 a37:=Tryz.isAgg69
 z37:=Tryz.sizeOf69
 v37:=Tryz.zeroValue69
 t46:=Tryz.underlying152
 a46:=Tryz.isAgg152
 z46:=Tryz.sizeOf152
 v46:=Tryz.zeroValue152
 t51:=Tryz.underlying234
 a51:=Tryz.isAgg234
 z51:=Tryz.sizeOf234
 v51:=Tryz.zeroValue234
 t53:=Tryz.underlying103
 a53:=Tryz.isAgg103
 z53:=Tryz.sizeOf103
 v53:=Tryz.zeroValue103
 t75:=Tryz.underlying120
 a75:=Tryz.isAgg120
 z75:=Tryz.sizeOf120
 v75:=Tryz.zeroValue120
 t76:=Tryz.underlying121
 a76:=Tryz.isAgg121
 z76:=Tryz.sizeOf121
 v76:=Tryz.zeroValue121
 t85:=Tryz.underlying241
 a85:=Tryz.isAgg241
 z85:=Tryz.sizeOf241
 v85:=Tryz.zeroValue241
 t127:=Tryz.underlying165
 a127:=Tryz.isAgg165
 z127:=Tryz.sizeOf165
 v127:=Tryz.zeroValue165
 t143:=Tryz.underlying286
 a143:=Tryz.isAgg286
 z143:=Tryz.sizeOf286
 v143:=Tryz.zeroValue286
 t145:=Tryz.underlying288
 a145:=Tryz.isAgg288
 z145:=Tryz.sizeOf288
 v145:=Tryz.zeroValue288
 t167:=Tryz.underlying240
 a167:=Tryz.isAgg240
 z167:=Tryz.sizeOf240
 v167:=Tryz.zeroValue240
 t168:=Tryz.underlying243
 a168:=Tryz.isAgg243
 z168:=Tryz.sizeOf243
 v168:=Tryz.zeroValue243
 t171:=Tryz.underlying225
 a171:=Tryz.isAgg225
 z171:=Tryz.sizeOf225
 v171:=Tryz.zeroValue225
 t173:=Tryz.underlying228
 a173:=Tryz.isAgg228
 z173:=Tryz.sizeOf228
 v173:=Tryz.zeroValue228
 t175:=Tryz.underlying246
 a175:=Tryz.isAgg246
 z175:=Tryz.sizeOf246
 v175:=Tryz.zeroValue246
 t210:=Tryz.underlying268
 a210:=Tryz.isAgg268
 z210:=Tryz.sizeOf268
 v210:=Tryz.zeroValue268
 t212:=Tryz.underlying262
 a212:=Tryz.isAgg262
 z212:=Tryz.sizeOf262
 v212:=Tryz.zeroValue262
 t213:=Tryz.underlying263
 a213:=Tryz.isAgg263
 z213:=Tryz.sizeOf263
 t232:=Tryz.underlying296
 a232:=Tryz.isAgg296
 z232:=Tryz.sizeOf296
 v232:=Tryz.zeroValue296
 t233:=Tryz.underlying297
 a233:=Tryz.isAgg297
 z233:=Tryz.sizeOf297
 v233:=Tryz.zeroValue297
 g15:=by kernel_rfl
 g16:=by kernel_rfl
 g17:=by kernel_rfl
 g18:=by kernel_rfl
 g19:=by kernel_rfl
 t80:=Tryz.underlying114
 a80:=Tryz.isAgg114
 z80:=Tryz.sizeOf114
 v80:=Tryz.zeroValue114
 i0:=by kernel_rfl
 i2:=by kernel_rfl
 i3:=by kernel_rfl
 i4:=by kernel_rfl
 i5:=by kernel_rfl
 i9:=by kernel_rfl
 i20:=by kernel_rfl
 i21:=by kernel_rfl
 i37:=by kernel_rfl
 i46:=by kernel_rfl
 i51:=by kernel_rfl
 i53:=by kernel_rfl
 i75:=by kernel_rfl
 i76:=by kernel_rfl
 i80:=by kernel_rfl
 i85:=by kernel_rfl
 i127:=by kernel_rfl
 i143:=by kernel_rfl
 i145:=by kernel_rfl
 i167:=by kernel_rfl
 i168:=by kernel_rfl
 i171:=by kernel_rfl
 i173:=by kernel_rfl
 i175:=by kernel_rfl
 i210:=by kernel_rfl
 i212:=by kernel_rfl
 i232:=by kernel_rfl
 i233:=by kernel_rfl
 m15:=by kernel_rfl
 m16:=by kernel_rfl
 m17:=by kernel_rfl
 m18:=by kernel_rfl
 m19:=by kernel_rfl
 c0:=by kernel_rfl
 c2:=by kernel_rfl
 c3:=by kernel_rfl
 c4:=by kernel_rfl
 c5:=by kernel_rfl
 c9:=by kernel_rfl
 c20:=by kernel_rfl
 c21:=by kernel_rfl
 c37:=by kernel_rfl
 c46:=by kernel_rfl
 c51:=by kernel_rfl
 c53:=by kernel_rfl
 c75:=by kernel_rfl
 c76:=by kernel_rfl
 c80:=by kernel_rfl
 c85:=by kernel_rfl
 c127:=by kernel_rfl
 c143:=by kernel_rfl
 c145:=by kernel_rfl
 c167:=by kernel_rfl
 c168:=by kernel_rfl
 c171:=by kernel_rfl
 c173:=by kernel_rfl
 c175:=by kernel_rfl
 c210:=by kernel_rfl
 c212:=by kernel_rfl
 c213:=by kernel_rfl
 c232:=by kernel_rfl
 c233:=by kernel_rfl }
open Go.RowKit in
theorem Tryz.strconv_Atoi_ok (s:ByteArray) (hmax:s.size≤9223372036854775806) (v:Int) (h:Lib.atoiAll s.data.toList = .ok v) (w:World) :
 Calls Tryz.prog 90 #[.string s] w fun e w'=>e = .returned (.tuple #[.int .i64 v,.nilIface])∧(w'=w∨∃ t,w'=Lib.bytesWorld w 5 t):=Any.strconv_Atoi_ok Tryz.laysC172 s hmax v h w
open Go.RowKit in
theorem Tryz.strconv_Atoi_syntax (s:ByteArray) (hlim:s.size≤281474976710656) (h:Lib.atoiAll s.data.toList=Lib.NumEnd.syntax) (ev:Value) (w:World) (hv:w.cell? ⟨2,0,none⟩=some ev) (hev:ev = .nilIface∨∃ te pe,ev = .iface te pe) :
 Calls Tryz.prog 90 #[.string s] w fun e w'=>∃ N,e = .returned (.tuple #[.int .i64 (0),.iface 243 (.pointer (some ⟨N,0,none⟩))])∧w.heap.size≤N∧w'.heap[N]?=some (.cells #[.string ⟨#[65,116,111,105]⟩,.string s,ev] 268 (0,0))∧Below w.heap.size w w':=Any.strconv_Atoi_syntax Tryz.laysC172 s hlim h ev w hv hev
open Go.RowKit in
theorem Tryz.strconv_Atoi_range (s:ByteArray) (hlim:s.size≤281474976710656) (h:Lib.atoiAll s.data.toList = .range) (ev:Value) (w:World) (hv:w.cell? ⟨3,0,none⟩=some ev) (hev:ev = .nilIface∨∃ te pe,ev = .iface te pe) :
 Calls Tryz.prog 90 #[.string s] w fun e w'=>∃ N,e = .returned (.tuple #[.int .i64 (Lib.atoiSat s.data.toList),.iface 243 (.pointer (some ⟨N,0,none⟩))])∧w.heap.size≤N∧w'.heap[N]?=some (.cells #[.string ⟨#[65,116,111,105]⟩,.string s,ev] 268 (0,0))∧Below w.heap.size w w':=Any.strconv_Atoi_range Tryz.laysC172 s hlim h ev w hv hev
def Tryz.laysPu14_ren:Go.Shelf.Ren:=⟨fun | 14=>189 | 16=>214 | 17=>143 | 19=>225 | 20=>226 | 21=>185 | 22=>186 | 23=>187 | 24=>188 | 25=>215 | 27=>43 | 26=>216 | 28=>82 | 29=>128 | 30=>170 | 31=>171 | 32=>172 | 33=>173 | 35=>204 | 34=>203 | 36=>205 | 37=>206 | 38=>207 | 39=>221 | 40=>222 | n=>n,fun | 9=>9 | 3=>3 | 22=>103 | 24=>120 | 25=>246 | 4=>4 | 34=>240 | 5=>5 | 36=>152 | 37=>69 | 0=>0 | 39=>243 | 21=>21 | 44=>268 | 47=>165 | 50=>288 | 48=>286 | 2=>2 | 52=>225 | 55=>228 | 59=>262 | 60=>234 | 20=>20 | 61=>263 | 65=>296 | 66=>297 | 67=>114 | n=>n,fun | 0=>2 | 1=>3 | 2=>0 | 3=>6 | 4=>7 | n=>n⟩
theorem Tryz.laysPu14:Go.Proofs.LaysPu.n14 Tryz.prog Tryz.laysPu14_ren:={
 mixed:=by kernel_rfl
 f14:=Tryz.func189.trans (congrArg some (by kernel_rfl))
 f16:=Tryz.func214.trans (congrArg some (by kernel_rfl))
 f17:=Tryz.func143.trans (congrArg some (by kernel_rfl))
 f19:=Tryz.func225.trans (congrArg some (by kernel_rfl))
 f20:=Tryz.func226.trans (congrArg some (by kernel_rfl))
 f21:=Tryz.func185.trans (congrArg some (by kernel_rfl))
 f22:=Tryz.func186.trans (congrArg some (by kernel_rfl))
 f23:=Tryz.func187.trans (congrArg some (by kernel_rfl))
 f24:=Tryz.func188.trans (congrArg some (by kernel_rfl))
 f25:=Tryz.func215.trans (congrArg some (by kernel_rfl))
 f26:=Tryz.func216.trans (congrArg some (by kernel_rfl))
 f27:=Tryz.func43.trans (congrArg some (by kernel_rfl))
 f28:=Tryz.func82.trans (congrArg some (by kernel_rfl))
 f29:=Tryz.func128.trans (congrArg some (by kernel_rfl))
 f30:=Tryz.func170.trans (congrArg some (by kernel_rfl))
 f31:=Tryz.func171.trans (congrArg some (by kernel_rfl))
 f32:=Tryz.func172.trans (congrArg some (by kernel_rfl))
 f33:=Tryz.func173.trans (congrArg some (by kernel_rfl))
 f34:=Tryz.func203.trans (congrArg some (by kernel_rfl))
 f35:=Tryz.func204.trans (congrArg some (by kernel_rfl))
 f36:=Tryz.func205.trans (congrArg some (by kernel_rfl))
 f37:=Tryz.func206.trans (congrArg some (by kernel_rfl))
 f38:=Tryz.func207.trans (congrArg some (by kernel_rfl))
 f39:=Tryz.func221.trans (congrArg some (by kernel_rfl))
 f40:=Tryz.func222.trans (congrArg some (by kernel_rfl))
 t0:=Tryz.underlying0
 a0:=Tryz.isAgg0
 z0:=Tryz.sizeOf0
 v0:=Tryz.zeroValue0
 i0:=by kernel_rfl
 t2:=Tryz.underlying2
 a2:=Tryz.isAgg2
 z2:=Tryz.sizeOf2
 v2:=Tryz.zeroValue2
 i2:=by kernel_rfl
 t3:=Tryz.underlying3
 a3:=Tryz.isAgg3
 z3:=Tryz.sizeOf3
 v3:=Tryz.zeroValue3
 i3:=by kernel_rfl
 t4:=Tryz.underlying4
 a4:=Tryz.isAgg4
 z4:=Tryz.sizeOf4
 v4:=Tryz.zeroValue4
 i4:=by kernel_rfl
 t5:=Tryz.underlying5
 a5:=Tryz.isAgg5
 z5:=Tryz.sizeOf5
 v5:=Tryz.zeroValue5
 i5:=by kernel_rfl
 t9:=Tryz.underlying9
 a9:=Tryz.isAgg9
 z9:=Tryz.sizeOf9
 v9:=Tryz.zeroValue9
 i9:=by kernel_rfl
 t20:=Tryz.underlying20
 a20:=Tryz.isAgg20
 z20:=Tryz.sizeOf20
 v20:=Tryz.zeroValue20
 i20:=by kernel_rfl
 t21:=Tryz.underlying21
 a21:=Tryz.isAgg21
 z21:=Tryz.sizeOf21
 v21:=Tryz.zeroValue21
 i21:=by kernel_rfl
 t22:=Tryz.underlying103
 a22:=Tryz.isAgg103
 z22:=Tryz.sizeOf103
 v22:=Tryz.zeroValue103
 i22:=by kernel_rfl
 t24:=Tryz.underlying120
 a24:=Tryz.isAgg120
 z24:=Tryz.sizeOf120
 v24:=Tryz.zeroValue120
 i24:=by kernel_rfl
 t25:=Tryz.underlying246
 a25:=Tryz.isAgg246
 z25:=Tryz.sizeOf246
 v25:=Tryz.zeroValue246
 i25:=by kernel_rfl
 t34:=Tryz.underlying240
 a34:=Tryz.isAgg240
 z34:=Tryz.sizeOf240
 v34:=Tryz.zeroValue240
 i34:=by kernel_rfl
 c34:=by kernel_rfl
 t36:=Tryz.underlying152
 a36:=Tryz.isAgg152
 z36:=Tryz.sizeOf152
 v36:=Tryz.zeroValue152
 i36:=by kernel_rfl
 t37:=Tryz.underlying69
 a37:=Tryz.isAgg69
 z37:=Tryz.sizeOf69
 v37:=Tryz.zeroValue69
 i37:=by kernel_rfl
 t39:=Tryz.underlying243
 a39:=Tryz.isAgg243
 z39:=Tryz.sizeOf243
 v39:=Tryz.zeroValue243
 i39:=by kernel_rfl
 t44:=Tryz.underlying268
 a44:=Tryz.isAgg268
 z44:=Tryz.sizeOf268
 v44:=Tryz.zeroValue268
 i44:=by kernel_rfl
 t47:=Tryz.underlying165
 a47:=Tryz.isAgg165
 z47:=Tryz.sizeOf165
 v47:=Tryz.zeroValue165
 i47:=by kernel_rfl
 t48:=Tryz.underlying286
 a48:=Tryz.isAgg286
 z48:=Tryz.sizeOf286
 v48:=Tryz.zeroValue286
 i48:=by kernel_rfl
 t50:=Tryz.underlying288
 a50:=Tryz.isAgg288
 z50:=Tryz.sizeOf288
 v50:=Tryz.zeroValue288
 i50:=by kernel_rfl
 t52:=Tryz.underlying225
 a52:=Tryz.isAgg225
 z52:=Tryz.sizeOf225
 v52:=Tryz.zeroValue225
 i52:=by kernel_rfl
 t55:=Tryz.underlying228
 a55:=Tryz.isAgg228
 z55:=Tryz.sizeOf228
 v55:=Tryz.zeroValue228
 i55:=by kernel_rfl
 t59:=Tryz.underlying262
 a59:=Tryz.isAgg262
 z59:=Tryz.sizeOf262
 v59:=Tryz.zeroValue262
 i59:=by kernel_rfl
 t60:=Tryz.underlying234
 a60:=Tryz.isAgg234
 z60:=Tryz.sizeOf234
 v60:=Tryz.zeroValue234
 i60:=by kernel_rfl
 t61:=Tryz.underlying263
 a61:=Tryz.isAgg263
 z61:=Tryz.sizeOf263
 t65:=Tryz.underlying296
 a65:=Tryz.isAgg296
 z65:=Tryz.sizeOf296
 v65:=Tryz.zeroValue296
 i65:=by kernel_rfl
 t66:=Tryz.underlying297
 a66:=Tryz.isAgg297
 z66:=Tryz.sizeOf297
 v66:=Tryz.zeroValue297
 i66:=by kernel_rfl
 t67:=Tryz.underlying114
 a67:=Tryz.isAgg114
 z67:=Tryz.sizeOf114
 v67:=Tryz.zeroValue114
 i67:=by kernel_rfl
 g0:=by kernel_rfl
 m0:=by kernel_rfl
 g1:=by kernel_rfl
 m1:=by kernel_rfl
 g2:=by kernel_rfl
 m2:=by kernel_rfl
 g3:=by kernel_rfl
 m3:=by kernel_rfl
 g4:=by kernel_rfl
 m4:=by kernel_rfl }
open Go.RowKit in
theorem Tryz.strconv_ParseUint_10_at64_ok (s:ByteArray) (hmax:s.size≤9223372036854775806) (u:Nat) (h:Lib.parseUintB 64 s.data.toList = .ok u) (w:World) :
 Calls Tryz.prog 189 #[.string s,.int .i64 10,.int .i64 64] w fun e w'=>e = .returned (.tuple #[.int .u64 u,.nilIface])∧(w'=w∨w'=Lib.bytesWorld w 5 s):=Any.strconv_ParseUint_10_at64_ok Tryz.laysPu14 s hmax u h w
open Go.RowKit in
theorem Tryz.strconv_ParseUint_10_at64_syntax (s:ByteArray) (hlim:s.size≤281474976710656) (h:Lib.parseUintB 64 s.data.toList=Lib.NumEnd.syntax) (ev:Value) (w:World) (hv:w.cell? ⟨2,0,none⟩=some ev) (hev:ev = .nilIface∨∃ te pe,ev = .iface te pe) :
 Calls Tryz.prog 189 #[.string s,.int .i64 10,.int .i64 64] w fun e w'=>∃ N,e = .returned (.tuple #[.int .u64 0,.iface 243 (.pointer (some ⟨N,0,none⟩))])∧w.heap.size≤N∧w'.heap[N]?=some (.cells #[.string ⟨#[80,97,114,115,101,85,105,110,116]⟩,.string s,ev] 268 (0,0))∧Below w.heap.size w w':=Any.strconv_ParseUint_10_at64_syntax Tryz.laysPu14 s hlim h ev w hv hev
open Go.RowKit in
theorem Tryz.strconv_ParseUint_10_at64_range (s:ByteArray) (hlim:s.size≤281474976710656) (h:Lib.parseUintB 64 s.data.toList = .range) (ev:Value) (w:World) (hv:w.cell? ⟨3,0,none⟩=some ev) (hev:ev = .nilIface∨∃ te pe,ev = .iface te pe) :
 Calls Tryz.prog 189 #[.string s,.int .i64 10,.int .i64 64] w fun e w'=>∃ N,e = .returned (.tuple #[.int .u64 18446744073709551615,.iface 243 (.pointer (some ⟨N,0,none⟩))])∧w.heap.size≤N∧w'.heap[N]?=some (.cells #[.string ⟨#[80,97,114,115,101,85,105,110,116]⟩,.string s,ev] 268 (0,0))∧Below w.heap.size w w':=Any.strconv_ParseUint_10_at64_range Tryz.laysPu14 s hlim h ev w hv hev
def Tryz.lays145_ren:Go.Shelf.Ren:=⟨fun | 145=>104 | 220=>154 | 219=>183 | 217=>152 | 225=>211 | 224=>212 | 267=>213 | 266=>191 | 314=>224 | n=>n,fun | 9=>9 | 4=>4 | 59=>117 | 3=>3 | 5=>5 | 46=>152 | 146=>235 | 51=>234 | n=>n,fun | 1=>1 | n=>n⟩
theorem Tryz.lays145:Go.Proofs.Lays.n145 Tryz.prog Tryz.lays145_ren:={
 mixed:=by kernel_rfl
 f145:=Tryz.func104.trans (congrArg some (by kernel_rfl))
 f217:=Tryz.func152.trans (congrArg some (by kernel_rfl))
 f219:=Tryz.func183.trans (congrArg some (by kernel_rfl))
 f220:=Tryz.func154.trans (congrArg some (by kernel_rfl))
 f224:=Tryz.func212.trans (congrArg some (by kernel_rfl))
 f225:=Tryz.func211.trans (congrArg some (by kernel_rfl))
 f266:=Tryz.func191.trans (congrArg some (by kernel_rfl))
 f267:=Tryz.func213.trans (congrArg some (by kernel_rfl))
 f314:=Tryz.func224.trans (congrArg some (by kernel_rfl))
 t3:=Tryz.underlying3
 a3:=Tryz.isAgg3
 z3:=Tryz.sizeOf3
 v3:=Tryz.zeroValue3
 t4:=Tryz.underlying4
 a4:=Tryz.isAgg4
 z4:=Tryz.sizeOf4
 v4:=Tryz.zeroValue4
 t5:=Tryz.underlying5
 a5:=Tryz.isAgg5
 z5:=Tryz.sizeOf5
 v5:=Tryz.zeroValue5
 t9:=Tryz.underlying9
 a9:=Tryz.isAgg9
 z9:=Tryz.sizeOf9
 v9:=Tryz.zeroValue9
 t46:=Tryz.underlying152
 a46:=Tryz.isAgg152
 z46:=Tryz.sizeOf152
 v46:=Tryz.zeroValue152
 t51:=Tryz.underlying234
 a51:=Tryz.isAgg234
 z51:=Tryz.sizeOf234
 v51:=Tryz.zeroValue234
 t59:=Tryz.underlying117
 a59:=Tryz.isAgg117
 z59:=Tryz.sizeOf117
 v59:=Tryz.zeroValue117
 t146:=Tryz.underlying235
 a146:=Tryz.isAgg235
 z146:=Tryz.sizeOf235
 v146:=Tryz.zeroValue235
 g1:=by kernel_rfl }
open Go.RowKit Go.Lib in
theorem Tryz.strings_Cut (s sep:ByteArray) (m:Int) (w:World) (hs:s.size < 4294967281) (hm:w.cell? ⟨1,0,none⟩=some (.int .i64 m)) :
 Calls Tryz.prog 104 #[.string s,.string sep] w fun e w'=>e = .returned (.tuple #[.string ⟨(Lib.cut s.data.toList sep.data.toList).1.toArray⟩,.string ⟨(Lib.cut s.data.toList sep.data.toList).2.1.toArray⟩,.bool (Lib.cut s.data.toList sep.data.toList).2.2])∧∃ n,w'=w.drewN n:=Any.strings_Cut Tryz.lays145 s sep m w hs hm
def Tryz.lays189_ren:Go.Shelf.Ren:=⟨fun | 189=>201 | 125=>220 | 257=>219 | 128=>236 | 129=>204 | 294=>227 | 295=>228 | 296=>229 | 297=>230 | 298=>231 | 299=>232 | 216=>233 | 300=>234 | 301=>235 | 328=>237 | 329=>238 | 330=>239 | 331=>240 | 332=>241 | 215=>242 | 343=>243 | n=>n,fun | 28=>22 | 3=>3 | 46=>152 | 0=>0 | 51=>234 | 53=>103 | 4=>4 | 183=>291 | 182=>290 | 131=>144 | 5=>5 | 9=>9 | 218=>298 | 222=>301 | 228=>303 | 229=>174 | n=>n,fun | n=>n⟩
theorem Tryz.lays189:Go.Proofs.Lays.n189 Tryz.prog Tryz.lays189_ren:= by constructor <;> first | kernel_rfl | (intro _; kernel_rfl)
open Go.Sort Go.RowKit in
theorem Tryz.slices_Sort_int (blk off cap:Nat) (zs:List Int) (w:World) (hH:Holds (Value.int .i64) w blk off zs.toArray) (hblk:blk < w.heap.size) (hsz:zs.length < 4611686018427387904) :
 Calls Tryz.prog 201 #[.slice (some ⟨blk,off,none⟩) zs.length cap] w fun e w'=>
  e = .returned (.tuple #[])∧∃ n os,w'=grow (putRow (Value.int .i64) (Sort.ahead w n) blk off (zs.mergeSort fun x y=>decide (x≤y)).toArray) os:=Any.slices_Sort_int Tryz.lays189 blk off cap zs w hH hblk hsz
def Tryz.lays146_ren:Go.Shelf.Ren:=⟨fun | 146=>46 | 221=>88 | 268=>138 | 138=>139 | 143=>140 | 195=>180 | 197=>181 | 218=>182 | 219=>183 | 260=>210 | 217=>152 | 225=>211 | 224=>212 | 267=>213 | 266=>191 | 314=>224 | n=>n,fun | 9=>9 | 31=>66 | 3=>3 | 4=>4 | 0=>0 | 105=>231 | 21=>21 | 5=>5 | 46=>152 | 119=>279 | 139=>282 | 138=>281 | 146=>235 | 51=>234 | n=>n,fun | 1=>1 | 3=>4 | 4=>5 | n=>n⟩
theorem Tryz.lays146:Go.Proofs.Lays.n146 Tryz.prog Tryz.lays146_ren:={
 mixed:=by kernel_rfl
 f138:=Tryz.func139.trans (congrArg some (by kernel_rfl))
 f143:=Tryz.func140.trans (congrArg some (by kernel_rfl))
 f146:=Tryz.func46.trans (congrArg some (by kernel_rfl))
 f195:=Tryz.func180.trans (congrArg some (by kernel_rfl))
 f197:=Tryz.func181.trans (congrArg some (by kernel_rfl))
 f217:=Tryz.func152.trans (congrArg some (by kernel_rfl))
 f218:=Tryz.func182.trans (congrArg some (by kernel_rfl))
 f219:=Tryz.func183.trans (congrArg some (by kernel_rfl))
 f221:=Tryz.func88.trans (congrArg some (by kernel_rfl))
 f224:=Tryz.func212.trans (congrArg some (by kernel_rfl))
 f225:=Tryz.func211.trans (congrArg some (by kernel_rfl))
 f260:=Tryz.func210.trans (congrArg some (by kernel_rfl))
 f266:=Tryz.func191.trans (congrArg some (by kernel_rfl))
 f267:=Tryz.func213.trans (congrArg some (by kernel_rfl))
 f268:=Tryz.func138.trans (congrArg some (by kernel_rfl))
 f314:=Tryz.func224.trans (congrArg some (by kernel_rfl))
 t0:=Tryz.underlying0
 a0:=Tryz.isAgg0
 z0:=Tryz.sizeOf0
 v0:=Tryz.zeroValue0
 t3:=Tryz.underlying3
 a3:=Tryz.isAgg3
 z3:=Tryz.sizeOf3
 v3:=Tryz.zeroValue3
 t4:=Tryz.underlying4
 a4:=Tryz.isAgg4
 z4:=Tryz.sizeOf4
 v4:=Tryz.zeroValue4
 t5:=Tryz.underlying5
 a5:=Tryz.isAgg5
 z5:=Tryz.sizeOf5
 v5:=Tryz.zeroValue5
 t9:=Tryz.underlying9
 a9:=Tryz.isAgg9
 z9:=Tryz.sizeOf9
 v9:=Tryz.zeroValue9
 t21:=Tryz.underlying21
 a21:=Tryz.isAgg21
 z21:=Tryz.sizeOf21
 v21:=Tryz.zeroValue21
 t31:=Tryz.underlying66
 a31:=Tryz.isAgg66
 z31:=Tryz.sizeOf66
 v31:=Tryz.zeroValue66
 t46:=Tryz.underlying152
 a46:=Tryz.isAgg152
 z46:=Tryz.sizeOf152
 v46:=Tryz.zeroValue152
 t51:=Tryz.underlying234
 a51:=Tryz.isAgg234
 z51:=Tryz.sizeOf234
 v51:=Tryz.zeroValue234
 t105:=Tryz.underlying231
 a105:=Tryz.isAgg231
 z105:=Tryz.sizeOf231
 v105:=Tryz.zeroValue231
 t119:=Tryz.underlying279
 a119:=Tryz.isAgg279
 z119:=Tryz.sizeOf279
 t138:=Tryz.underlying281
 a138:=Tryz.isAgg281
 z138:=Tryz.sizeOf281
 v138:=Tryz.zeroValue281
 t139:=Tryz.underlying282
 a139:=Tryz.isAgg282
 z139:=Tryz.sizeOf282
 v139:=Tryz.zeroValue282
 t146:=Tryz.underlying235
 a146:=Tryz.isAgg235
 z146:=Tryz.sizeOf235
 v146:=Tryz.zeroValue235
 g1:=by kernel_rfl
 g3:=by kernel_rfl
 g4:=by kernel_rfl }
open Go.RowKit Go.Lib in
theorem Tryz.strings_Split (s sep:ByteArray) (m:Int) (w:World) (hs:s.size < 4294967281) (hm:w.cell? ⟨1,0,none⟩=some (.int .i64 m)) (h1:1≤sep.size) :
 Calls Tryz.prog 46 #[.string s,.string sep] w fun e w'=>
  e = .returned (.slice (some ⟨w.heap.size,0,none⟩) (Lib.countB s sep+1) (Lib.countB s sep+1))∧w'=w.alloc (.cells ((Lib.splitB sep 0 (Lib.countB s sep) s).map Value.string).toArray 9):=Any.strings_Split Tryz.lays146 (by kernel_rfl) s sep m w hs hm h1
def Tryz.lays105_ren:Go.Shelf.Ren:=⟨fun | 105=>86 | 212=>134 | 99=>135 | 165=>87 | 166=>60 | 170=>136 | 169=>56 | 263=>177 | 264=>178 | 206=>151 | 240=>103 | 241=>137 | 276=>153 | 277=>179 | n=>n,fun | 9=>9 | 3=>3 | 4=>4 | 20=>20 | 0=>0 | 46=>152 | 109=>199 | 5=>5 | 72=>108 | 76=>121 | 51=>234 | 146=>235 | 53=>103 | 148=>237 | 70=>106 | 37=>69 | 75=>120 | 127=>165 | 164=>211 | 80=>114 | n=>n,fun | n=>n⟩
theorem Tryz.lays105:Go.Proofs.Lays.n105 Tryz.prog Tryz.lays105_ren:= by constructor <;> first | kernel_rfl | (intro _; kernel_rfl)
theorem Tryz.Builder_Extra_105:Builder.Extra Tryz.prog Tryz.lays105_ren:={
 sizeBuilder:=by kernel_rfl
 liesBuilder:=by kernel_rfl
 t5:=Tryz.underlying5
 a5:=Tryz.isAgg5
 z5:=Tryz.sizeOf5
 v5:=Tryz.zeroValue5
 infoByte:=by kernel_rfl
 cellsByte:=by kernel_rfl
 sizeByte:=by kernel_rfl
 neB5:=by decide }
open Go.RowKit Go.Lib in
theorem Tryz.strings_Repeat (s:ByteArray) (c:Nat) (w:World) (hc:c≤9223372036854775807) (hlen:s.size*c≤140737488355328) :
 Calls Tryz.prog 86 #[.string s,.int .i64 c] w fun e w'=>e = .returned (.string ⟨(Lib.repeatL s.data.toList c).toArray⟩)∧Below w.heap.size w w':=Any.strings_Repeat Tryz.lays105 Tryz.Builder_Extra_105 s c w hc hlen
def Tryz.laysNm220_ren:Go.Shelf.Ren:=⟨fun | 20=>202 | n=>n,fun | 22=>22 | 3=>3 | 4=>4 | 0=>0 | n=>n,fun | n=>n⟩
theorem Tryz.laysNm220:Go.Proofs.Lays2.n20 Tryz.prog Tryz.laysNm220_ren:={
 mixed:=by kernel_rfl
 f20:=Tryz.func202.trans (congrArg some (by kernel_rfl))
 t0:=Tryz.underlying0
 a0:=Tryz.isAgg0
 z0:=Tryz.sizeOf0
 v0:=Tryz.zeroValue0
 t3:=Tryz.underlying3
 a3:=Tryz.isAgg3
 z3:=Tryz.sizeOf3
 v3:=Tryz.zeroValue3
 t4:=Tryz.underlying4
 a4:=Tryz.isAgg4
 z4:=Tryz.sizeOf4
 v4:=Tryz.zeroValue4
 t22:=Tryz.underlying22
 a22:=Tryz.isAgg22
 z22:=Tryz.sizeOf22
 v22:=Tryz.zeroValue22
 i3:=by kernel_rfl }
open Go.RowKit Go.Lib Go.Sort in
theorem Tryz.slices_Compact_int (blk off cap:Nat) (zs:List Int) (w:World) (hH:Holds (Value.int .i64) w blk off zs.toArray) (hsz:zs.length≤9223372036854775807) (hcap:zs.length≤cap) :
 Calls Tryz.prog 202 #[.slice (some ⟨blk,off,none⟩) zs.length cap] w fun e w'=>e = .returned (.slice (some ⟨blk,off,none⟩) (Lib.compact zs).length cap)∧∃ q,w'=putRow (Value.int .i64) (Sort.ahead w q) blk off (Lib.compact zs++List.replicate (zs.length - (Lib.compact zs).length) 0).toArray:=Any.slices_Compact_int Tryz.laysNm220 blk off cap zs w hH hsz hcap
open Go.RowKit Go.Lib Go.Sort in
theorem Tryz.slices_Compact_int_empty (a:Option Addr) (cap:Nat) (w:World) :
 Calls Tryz.prog 202 #[.slice a 0 cap] w fun e w'=>e = .returned (.slice a 0 cap)∧w'=w:=Any.slices_Compact_int_empty Tryz.laysNm220 a cap w
open Go.RowKit Go.Sort in
theorem Tryz.slices_Sort_int_none (p:Option Addr) (cap:Nat) (w:World) :
 Calls Tryz.prog 201 #[.slice p 0 cap] w fun e w'=>e = .returned (.tuple #[])∧w'=w:=Any.slices_Sort_int_none Tryz.lays189 p cap w
def Tryz.laysSlH6_f200_ren:Go.Shelf.Ren:=⟨fun | 6=>200 | n=>n,fun | 22=>22 | 23=>3 | 25=>91 | 3=>3 | 0=>0 | 4=>4 | n=>n,fun | n=>n⟩
theorem Tryz.laysSlH6_f200:Go.Proofs.SlLaysH.n6 Tryz.prog Tryz.laysSlH6_f200_ren:={
 mixed:=by kernel_rfl
 f6:=⟨Tryz.f200.name,by decide,Tryz.func200.trans (congrArg some (by kernel_rfl))⟩
 t0:=Tryz.underlying0
 a0:=Tryz.isAgg0
 z0:=Tryz.sizeOf0
 v0:=Tryz.zeroValue0
 t3:=Tryz.underlying3
 a3:=Tryz.isAgg3
 z3:=Tryz.sizeOf3
 v3:=Tryz.zeroValue3
 t4:=Tryz.underlying4
 a4:=Tryz.isAgg4
 z4:=Tryz.sizeOf4
 v4:=Tryz.zeroValue4
 t22:=Tryz.underlying22
 a22:=Tryz.isAgg22
 z22:=Tryz.sizeOf22
 v22:=Tryz.zeroValue22
 a23:=Tryz.isAgg3
 z23:=Tryz.sizeOf3
 t25:=Tryz.underlying91
 a25:=Tryz.isAgg91
 z25:=Tryz.sizeOf91
 v25:=Tryz.zeroValue91 }
open Go.RowKit Go.Lib in
theorem Tryz.slices_IndexFunc_empty {α:Type} [Inhabited α] (a:Option Addr) (c:Nat) (fv:Value) (w:World) :
 Calls Tryz.prog 200 #[.slice a 0 c,fv] w fun e w'=>e = .returned (.int .i64 (-1))∧w'=w:=AnyE.slices_IndexFunc_empty Tryz.laysSlH6_f200 a c fv w
def Tryz.laysSlH10_f167_ren:Go.Shelf.Ren:=⟨fun | 10=>167 | 6=>200 | n=>n,fun | 22=>22 | 23=>3 | 25=>91 | 3=>3 | 4=>4 | 0=>0 | n=>n,fun | n=>n⟩
theorem Tryz.laysSlH10_f167:Go.Proofs.SlLaysH.n10 Tryz.prog Tryz.laysSlH10_f167_ren:={
 mixed:=by kernel_rfl
 f6:=⟨Tryz.f200.name,by decide,Tryz.func200.trans (congrArg some (by kernel_rfl))⟩
 f10:=⟨Tryz.f167.name,by decide,Tryz.func167.trans (congrArg some (by kernel_rfl))⟩
 t0:=Tryz.underlying0
 a0:=Tryz.isAgg0
 z0:=Tryz.sizeOf0
 v0:=Tryz.zeroValue0
 t3:=Tryz.underlying3
 a3:=Tryz.isAgg3
 z3:=Tryz.sizeOf3
 v3:=Tryz.zeroValue3
 t4:=Tryz.underlying4
 a4:=Tryz.isAgg4
 z4:=Tryz.sizeOf4
 v4:=Tryz.zeroValue4
 t22:=Tryz.underlying22
 a22:=Tryz.isAgg22
 z22:=Tryz.sizeOf22
 v22:=Tryz.zeroValue22
 a23:=Tryz.isAgg3
 z23:=Tryz.sizeOf3
 t25:=Tryz.underlying91
 a25:=Tryz.isAgg91
 z25:=Tryz.sizeOf91
 v25:=Tryz.zeroValue91 }
open Go.RowKit Go.Lib Go.Sort in
theorem Tryz.slices_DeleteFunc {α:Type} [Inhabited α] (enc:α→Value) (hO:OneCell enc) (p:α→Bool) (g:Nat) (lb:Array Value) (eg:∀ args w,(callFunc g args).run Tryz.prog w = .ok (.enter g args) w) (zr:α) (v23:∀ w,(zeroValue 3).run Tryz.prog w = .ok (enc zr) w) (blk off cap:Nat) (d:Array α) (w:World) (hp:PredAt Tryz.prog g lb enc p w) (hpo:PredOver Tryz.prog g lb enc p blk off d.size w) (hH:Holds enc w blk off d) (hsz:d.size≤9223372036854775807) (hcap:d.size≤cap) :
 Calls Tryz.prog 167 #[.slice (some ⟨blk,off,none⟩) d.size cap,.func (.func g) #[] lb] w fun e w'=>e = .returned (.slice (some ⟨blk,off,none⟩) (d.toList.filter fun x=>!p x).length cap)∧∃ q,w'=putRow enc (Sort.ahead w q) blk off ((d.toList.filter fun x=>!p x)++List.replicate (d.size - (d.toList.filter fun x=>!p x).length) zr).toArray:=AnyE.slices_DeleteFunc Tryz.laysSlH10_f167 enc hO p g lb eg zr v23 blk off cap d w hp hpo hH hsz hcap
end Go.Proofs
namespace Go.FM
open Go Go.Proofs Go.RowKit Go.Sort Go.Lib
set_option maxHeartbeats 12800000 in
theorem yni (u:Nat) (hu64:u < 18446744073709551616) (w:World) (htab:Lib.TabIs Tryz.prog w "internal/strconv.uint64pow10" .u64 Lib.pow10Tab) :
  Calls Tryz.prog 129 #[.int .u64 u,.int .i64 10] w fun e w'=>e = .returned (.string ⟨(Lib.decDigits u).toArray⟩)∧∃ k os,w'=grow (w.drewN k) os:=by
 by_cases hs:u < 100
 ·have hwr:IntKind.i64.wrap (u:Int)=(u:Int):=by rw [IntKind.wrap_i64]; omega
  have iu:(u:Int) < 100:=by omega
  go_enter Tryz.func129,Tryz.ntmps129
  go_wp2_with (go_at_call 170; refine (Tryz.internal_strconv_small u hs _).mono ?_; rintro e w' ⟨rfl,rfl⟩)
  go_ret
  exact ⟨rfl,0,#[],by simp [World.drewN_zero]⟩
 ·have hu1:1≤u:=by omega
  have hnd20:Lib.nDigits u≤20:=by have:=Lib.numDigits_eq u hu1 hu64; split at this <;> omega
  have hal:Tryz.prog.arrayLen 225=24:=by simp [Program.arrayLen,Tryz.underlying225]
  have hsl:∀ W,(Instr.sliceAt 225 (.pointer (some ⟨w.heap.size,0,none⟩)) none (some (.int .i64 (Lib.nDigits u:Int))) none).run Tryz.prog W = .ok (.slice (some ⟨w.heap.size,0,none⟩) (Lib.nDigits u) 24) W:=fun W=>by
   rw [run_sliceAt_array_h W 225 ⟨w.heap.size,0,none⟩ (by simp [Program.arrayLen,Program.elem,Tryz.underlying225]) .i64 (Lib.nDigits u:Int) (by omega) (by rw [hal]; omega)]
   go_simp
  have hH0:=Lib.holds_zero0 w 225 (Lib.nDigits u) (by omega)
  have hfmt:=Tryz.internal_strconv_formatBase10 w.heap.size 0 24 u (Array.replicate (Lib.nDigits u) 0) (w.alloc (.cells Lib.zeros24 225)) hH0 (by rw [v3n]; exact Lib.lt_pow_nDigits u) hu64 (by rw [v3n]; omega)
  rw [v3n] at hfmt;have HH0:=Lib.hid hH0;have iu:¬ (u:Int) < 100:=by omega
  clear hH0 hal hs
  go_enter Tryz.func129,Tryz.ntmps129
  go_wp2_with (first
   | (go_at_call 171; refine (Tryz.internal_strconv_numDigits u hu1 hu64 _ (Lib.tabIs_alloc htab _)).mono ?_; rintro e w' ⟨rfl,rfl⟩))
  go_at_call 172
  refine hfmt.mono ?_
  rintro e w' ⟨rfl,k,v',dk,rfl,hF⟩
  have hcv:(convert 69 9 (.slice (some ⟨w.heap.size,0,none⟩) (Lib.nDigits u) 24)).run Tryz.prog ((putRow (fun (b:UInt8)=>Value.int .u8 (b.toNat:Int)) (w.alloc (.cells Lib.zeros24 225)) w.heap.size 0 dk).drewN k) = .ok (.string ⟨(Lib.decDigits u).toArray⟩) ((putRow (fun (b:UInt8)=>Value.int .u8 (b.toNat:Int)) (w.alloc (.cells Lib.zeros24 225)) w.heap.size 0 dk).drewN k):=by
   have h:=run_convert_bytes_back (P:=Tryz.prog) ((putRow (fun (b:UInt8)=>Value.int .u8 (b.toNat:Int)) (w.alloc (.cells Lib.zeros24 225)) w.heap.size 0 dk).drewN k) 69 9 5 ⟨w.heap.size,0,none⟩ 24 (Lib.decDigits u) Tryz.underlying69 Tryz.underlying5 Tryz.underlying9 (fun j hj=>by
    rw [Lib.row_is_numeral hF j hj,Lib.add_plain,World.cell?_drewN];exact cell?_putRow (fun (b:UInt8)=>Value.int .u8 (b.toNat:Int)) _ w.heap.size 0 _ dk HH0.out (by rw [hF.size,v3n]) j (by rw [hF.size]; rw [Lib.decDigits_length] at hj; exact hj))
   rw [Lib.decDigits_length] at h;exact h
  go_wp2
  go_ret
  obtain ⟨os,eo⟩:=Lib.fin_at w (.cells Lib.zeros24 225) dk k 0;exact ⟨rfl,k,os,eo⟩
set_option maxHeartbeats 1600000 in
theorem yvi (u:Nat) (hu64:u < 18446744073709551616) (w:World) (htab:Lib.TabIs Tryz.prog w "internal/strconv.uint64pow10" .u64 Lib.pow10Tab) :
  Calls Tryz.prog 83 #[.int .u64 u,.int .i64 10] w fun e w'=>e = .returned (.string ⟨(Lib.decDigits u).toArray⟩)∧∃ k os,w'=grow (w.drewN k) os:=by
 go_enter Tryz.func83,Tryz.ntmps83
 go_wp2_with (go_at_call 129; refine (yni u hu64 _ htab).mono ?_; rintro e w' ⟨rfl,hw⟩)
 go_ret
 exact ⟨rfl,hw⟩
theorem yoa:(PR.info? 9).map (fun i=>(i.zero,i.size,i.bytes))=some (some (.string .empty),1,16):=by kernel_rfl
set_option maxHeartbeats 4000000 in
theorem yjy (b:Addr) (n c:Nat) (news:List Value) (w:World) (hl:news.length=n) (hn:n≤maxLen) (hbig:n*16≤140737488355328)
  (hc:∀ j u,news[j]?=some u→w.cell? (b.add j)=some u) (h1:∀ u∈news,u.oneCell'=true) :
  Calls Tryz.prog 161 #[.slice (some b) n c] w fun e w'=>∃ v',e = .returned v'∧w'.ownsRow w.heap.size 9 1 v' n news∧Below w.heap.size w w':=by
 obtain ⟨i0,hi,hz0,hz1,hz2⟩:=info_parts yoa;have qS:∀ (w:World) (a:Option Addr) (n c n' c':Nat),(binOp .eql 66 (.slice a n c) (.slice none n' c')).run Tryz.prog w = .ok (.bool a.isNone) w:=fun w a n c n' c'=>Lib.run_eql_slice_nil w _ _ a n c n' c' Tryz.underlying66
 have A:Aside (∀ j u,news[j]?=some u→w.cell? (b.add j)=some u):=hc;clear hc
 go_enter Tryz.func161,Tryz.ntmps161
 go_wp2_with (at_builtin; refine wpList_append_own _ rfl _ _ 66 rfl w.heap.size 9 i0 (.string .empty) 1 16 Tryz.underlying66 hi hz0 hz1 hz2 rfl (by decide) _ _ _ rfl (World.ownsRow_made w #[] 0 (v0a _) (v0x _) (by simp)) b n c news rfl ?qc1 ?qc2 ?qc3 ?qc4 ?qc5 ?qc6 ?_)
 case qc1=>rw [v49]; exact hl
 case qc2=>
  intro j u hj;exact Lib.cell?_alloc_some _ (A.out j u hj)
 case qc3=>exact h1
 case qc4=>rw [v0p]; exact hn
 case qc5=>rw [v0p]; exact hbig
 case qc6=>simp
 intro v' w1 hown hgrow hnil
 go_wp2
 go_ret
 refine ⟨v',rfl,by simpa using hown,?_⟩
 exact ((Below.refl _ w).alloc (v0a _) _).grown hgrow (by simp) (by intro k hk; simp [Value.ownBlock] at hk; omega)
set_option maxHeartbeats 1000000 in
theorem ymv (n c:Nat) (w:World):Calls Tryz.prog 161 #[.slice none n c] w fun e w'=>e = .returned (.slice none 0 0)∧w'=w:=by
 have qS:∀ (w:World) (a:Option Addr) (n c n' c':Nat),(binOp .eql 66 (.slice a n c) (.slice none n' c')).run Tryz.prog w = .ok (.bool a.isNone) w:=fun w a n c n' c'=>Lib.run_eql_slice_nil w _ _ a n c n' c' Tryz.underlying66
 go_enter Tryz.func161,Tryz.ntmps161
 go_wp2
 go_ret
 exact ⟨rfl,rfl⟩
open Go Go.RowKit
def z49:z0o
 | [.list false [.str] l]=>.br (decide (l.length≤4294967296)) (.ok (.vec 9 false [.str] l) []) .no
 | _=>.no
def z2w:z0o
 | [.list false [.str] l,.str s]=>.ok (.int .i64 (zhq l s 0)) []
 | _=>.no
open Go Go.Proofs Go.RowKit
structure GF (h:Nat→Option Obj):Prop where
 unit:True
 gm:∃ c T fr m,h 1=some (.cells c T fr)∧c[0]?=some (.int .i64 m)
 gp:∃ T fr,h 0=some (.cells (Lib.pow10Tab.map fun z=>Value.int .u64 z).toArray T fr)
 gs:∃ c T fr te pe,h 2=some (.cells c T fr)∧c[0]?=some (.iface te pe)
 gr:∃ c T fr te pe,h 3=some (.cells c T fr)∧c[0]?=some (.iface te pe)
def B0:BT:={ T:=108,e:=5,ng:=4,F:=GF }
theorem zp2 {w:World} {h:Nat→Option Obj} (hh:h=fun b=>if b < B0.ng then w.heap[b]? else none) {g:Nat} (hg:g < 4) {o:Obj} (ho:h g=some o):w.heap[g]?=some o:=by
 rw [hh] at ho;simp only at ho;rw [v1b (show g < B0.ng from hg)] at ho
 exact ho
theorem yei {w:World} (h:Glob B0 w):∃ m,w.cell? ⟨1,0,none⟩=some (.int .i64 m):=by
 obtain ⟨c,T,fr,m,h1,h2⟩:=h.2.gm;exact ⟨m,by simp only [World.cell?,zp2 rfl (by decide) h1]; exact h2⟩
theorem yf3 {w:World} (h:Glob B0 w):Lib.TabIs Tryz.prog w "internal/strconv.uint64pow10" .u64 Lib.pow10Tab:=by
 obtain ⟨T,fr,h1⟩:=h.2.gp;have hn:Tryz.prog.globalNamed "internal/strconv.uint64pow10" = some 0:=by kernel_rfl
 unfold Lib.TabIs World.var?;rw [hn];simp only [Option.bind_some,zp2 rfl (by decide) h1]
theorem yez {w:World} (h:Glob B0 w):∃ ev,w.cell? ⟨2,0,none⟩=some ev∧(ev = .nilIface∨∃ te pe,ev = .iface te pe):=by
 obtain ⟨c,T,fr,te,pe,h1,h2⟩:=h.2.gs;exact ⟨_,by simp only [World.cell?,zp2 rfl (by decide) h1]; exact h2,.inr ⟨te,pe,rfl⟩⟩
theorem yf1 {w:World} (h:Glob B0 w):∃ ev,w.cell? ⟨3,0,none⟩=some ev∧(ev = .nilIface∨∃ te pe,ev = .iface te pe):=by
 obtain ⟨c,T,fr,te,pe,h1,h2⟩:=h.2.gr;exact ⟨_,by simp only [World.cell?,zp2 rfl (by decide) h1]; exact h2,.inr ⟨te,pe,rfl⟩⟩
theorem Keep.below {w w':World} (h:Below w.heap.size w w'):Keep (fun _=>False) w w':=⟨h.os,h.tape,h.output,h.size,fun b hb _=>h.block b hb⟩
theorem Keep.drewN {O:Nat→Prop} (w:World):∀ n,Keep O w (w.drewN n):=fun _=>⟨rfl,rfl,rfl,v0a _,fun _ _ _=>rfl⟩
theorem Keep.grow (w:World) (os:Array Obj):Keep (fun _=>False) w (Go.Sort.grow w os):=⟨rfl,rfl,rfl,by simp [Go.Sort.grow],fun b hb _=>by simp [Go.Sort.grow,v3i hb]⟩
theorem z4k:z32 PR B0 60 z14:=by
 intro w X γ vs xs r out hsp hg hx hR hV;unfold z14 at hsp;simp only at hsp
 split at hsp
 ·rename_i s t
  cases hc:decide (s.size+t.size≤strMax) with
  | false=>rw [hc] at hsp; simp [R.get] at hsp
  | true=>
   rw [hc] at hsp;simp only [R.get,v00,v06] at hsp;obtain ⟨rfl,rfl⟩:=hsp;have hle:s.size+t.size≤strMax:=v0c hc;refine ydm hR rfl rfl (fun γ' o w' O x h=>by
    simp only [VRel] at h ⊢
    obtain ⟨cs,rfl,h⟩:=h;refine ⟨cs,rfl,?_⟩
    match cs,h with
    | ⟨[a,b]⟩,h=>simp only [VRels,VRel] at h ⊢; exact h) (fun b v p hgm hB=>?_)
   obtain ⟨x0,x1,rfl⟩:∃ x0 x1,xs=[x0,x1]:=by
    have:=hV.length
    simp at this
    match xs,this with
    | [a,b],_=>exact ⟨a,b,rfl⟩
   simp only [v0d,v16,zab,VRels] at hV;have h0:=ydi hgm hV.1;have h1:=hV.2.1;simp only [VRel] at h1;obtain ⟨rfl,ht⟩:=h1;subst h0;refine Does.of_calls Tryz.func60 (by kernel_rfl) (by kernel_rfl) ((zvj b p v (Lib.strCells s) t w hB.self hB.heap (by rw [Lib.strCells_length]; exact hB.own) hB.ne (by rw [Lib.strCells_length]; unfold strMax at hle; omega)).mono ?_)
   rintro e w' ⟨rfl,v',q1,q2,q3,q4,q5⟩
   refine ⟨_,rfl,⟨_,v',⟨.inr rfl,q1,?_,q3,?_⟩,q4,q5⟩,fun O=>?_⟩
   ·have e1:Lib.strCells (s++t)=Lib.strCells s++Lib.strCells t:=by simp [Lib.strCells]
    have e2:(s++t).size=(Lib.strCells s++Lib.strCells t).length:=by simp [Lib.strCells_length]
    rw [e1,e2];exact q2
   ·simp only [v0f]; exact hle
   ·simp only [VRel]
    refine ⟨_,rfl,?_⟩;simp only [VRels,VRel,ic,v1c];refine ⟨trivial,?_,?_⟩
    ·have:IntKind.i64.min = -9223372036854775808:=rfl
     omega
    ·have:IntKind.i64.max=9223372036854775807:=rfl
     unfold strMax at hle;omega
 ·simp [R.get] at hsp
theorem ybj {c:Int} (h0:IntKind.u8.min≤c) (h1:c≤IntKind.u8.max):(Value.int .u8 ((zgd c).toNat:Int)) = .int .u8 c:=by
 have e1:IntKind.u8.min=0:=rfl;have e2:IntKind.u8.max=255:=rfl
 have:((zgd c).toNat:Int)=c:=by
  unfold zgd;rw [UInt8.toNat_ofNat_of_lt' (by simp [UInt8.size]; omega)]
  omega
 rw [this]
theorem z8h:z32 PR B0 97 z29:=by
 intro w X γ vs xs r out hsp hg hx hR hV;unfold z29 at hsp;simp only at hsp
 split at hsp
 ·rename_i s c
  cases hc:decide (s.size+1≤strMax) with
  | false=>rw [hc] at hsp; simp [R.get] at hsp
  | true=>
   rw [hc] at hsp;simp only [R.get,v00,v06] at hsp;obtain ⟨rfl,rfl⟩:=hsp;have hle:s.size+1≤strMax:=v0c hc;refine ydm hR rfl rfl (fun γ' o w' O x h=>by simp only [VRel] at h ⊢; exact h) (fun b v p hgm hB=>?_)
   obtain ⟨x0,x1,rfl⟩:∃ x0 x1,xs=[x0,x1]:=by
    have:=hV.length
    simp at this
    match xs,this with
    | [a,b],_=>exact ⟨a,b,rfl⟩
   simp only [v0d,v16,zab,VRels] at hV;have h0:=ydi hgm hV.1;have h1:=hV.2.1;simp only [VRel] at h1;obtain ⟨rfl,hc0,hc1⟩:=h1;subst h0;refine Does.of_calls Tryz.func97 (by kernel_rfl) (by kernel_rfl) ((y5p b p v (Lib.strCells s) c w hB.self hB.heap (by rw [Lib.strCells_length]; exact hB.own) hB.ne (by rw [Lib.strCells_length]; unfold strMax at hle; omega)).mono ?_)
   rintro e w' ⟨rfl,v',q1,q2,q3,q4,q5⟩
   refine ⟨_,rfl,⟨_,v',⟨.inr rfl,q1,?_,q3,?_⟩,q4,q5⟩,fun O=>by simp only [VRel]⟩
   ·have e1:Lib.strCells (s.push (zgd c))=Lib.strCells s++[.int .u8 c]:=by
     rw [← ybj hc0 hc1];simp [Lib.strCells]
    have e2:(s.push (zgd c)).size=(Lib.strCells s++[Value.int .u8 c]).length:=by simp [Lib.strCells_length]
    rw [e1,e2];exact q2
   ·simp only [v2u]; exact hle
 ·simp [R.get] at hsp
theorem z6d:z32 PR B0 56 z1l:=by
 intro w X γ vs xs r out hsp hg hx hR hV;unfold z1l at hsp;simp only at hsp
 split at hsp
 ·rename_i s
  simp only [R.get,v00,v06] at hsp;obtain ⟨rfl,rfl⟩:=hsp;refine ydm hR rfl rfl (fun γ' o w' O x h=>by simp only [VRel] at h ⊢; exact h) (fun b v p hgm hB=>?_)
  obtain ⟨x0,rfl⟩:∃ x0,xs=[x0]:=by
   have:=hV.length
   simp at this
   match xs,this with
   | [a],_=>exact ⟨a,rfl⟩
  simp only [v0d,v16,zab,VRels] at hV;have h0:=ydi hgm hV.1;subst h0;refine Does.of_calls Tryz.func56 (by kernel_rfl) (by kernel_rfl) ((yic b p v s w hB.heap hB.own hB.ne).mono ?_)
  rintro e w' ⟨rfl,q1,q2,q3⟩
  exact ⟨_,rfl,⟨p,v,⟨hB.self,q1,q2,hB.ne,hB.size⟩,q3,fun k hk=>.inl hk⟩,fun O=>by simp only [VRel]; exact ⟨trivial,hB.size⟩⟩
 ·simp [R.get] at hsp
theorem z8e:z32 PR B0 43 z2y:=by
 intro w X γ vs xs r out hsp hg hx hR hV;unfold z2y at hsp;simp only at hsp
 split at hsp
 ·rename_i n
  simp only [R.get,v00,v06] at hsp;obtain ⟨rfl,rfl⟩:=hsp;obtain ⟨x0,rfl⟩:∃ x0,xs=[x0]:=by
   have:=hV.length
   simp at this
   match xs,this with
   | [a],_=>exact ⟨a,rfl⟩
  simp only [v0d,v16,zab,VRels,VRel,v1c] at hV;obtain ⟨rfl,h0,h1⟩:=hV;refine z8r hR rfl rfl (Does.of_calls Tryz.func43 (by kernel_rfl) (by kernel_rfl) ((Tryz.strconv_Itoa n h0 h1 w (yf3 hg)).mono ?_))
  rintro e w' ⟨rfl,k,os,rfl⟩
  exact ⟨_,rfl,((Keep.drewN w k).trans (Keep.grow _ os) (fun _ _ h=>h)),fun O _=>by
   simp only [VRel];exact ⟨rfl,by have:=zey h0 h1; unfold strMax; omega⟩⟩
 ·simp [R.get] at hsp
theorem zao:z32 PR B0 90 z3w:=by
 intro w X γ vs xs r out hsp hg hx hR hV;unfold z3w at hsp;simp only at hsp
 split at hsp
 ·rename_i s
  simp only [R.get,v00,v06] at hsp;obtain ⟨rfl,rfl⟩:=hsp;obtain ⟨x0,rfl⟩:∃ x0,xs=[x0]:=by
   have:=hV.length
   simp at this
   match xs,this with
   | [a],_=>exact ⟨a,rfl⟩
  simp only [v0d,v16,zab,VRels,VRel,v1c] at hV;obtain ⟨rfl,hs⟩:=hV;unfold strMax at hs;have hb:=zvc s;refine z8r hR rfl rfl (Does.of_calls Tryz.func90 (by kernel_rfl) (by kernel_rfl) ?_)
  cases ha:Lib.atoiAll s.data.toList
  ·rename_i v
   refine (Tryz.strconv_Atoi_ok s (by omega) v ha w).mono ?_
   rintro e w' ⟨rfl,hw⟩
   have e1:z58 s=v:=by unfold z58; rw [ha]
   have e2:zmc s=true:=by unfold zmc; rw [ha]
   rw [e1] at hb ⊢
   rw [e2];refine ⟨_,rfl,?_,fun O _=>?_⟩
   ·rcases hw with rfl | ⟨t,rfl⟩
    ·exact Keep.refl _ _
    ·unfold Lib.bytesWorld
     have h1:=Keep.alloc (fun _=>False) w.drew (.cells (Lib.bytesCells w 5 t) 5)
     refine ((Keep.drew (fun _=>False) w).trans h1 (fun _ _ h=>h)).trans (Keep.freeze (O:=fun k=>k=w.heap.size) _ ⟨w.heap.size,_,none⟩ 1 rfl) (fun b hb h=>?_)
     subst h;exact absurd hb (Nat.lt_irrefl _)
   ·simp only [VRel]
    exact ⟨_,rfl,by simp only [VRels,VRel,v1c,v45]; exact hb⟩
  ·skip
   obtain ⟨ev,h1,h2⟩:=yez hg;refine (Tryz.strconv_Atoi_syntax s (by omega) ha ev w h1 h2).mono ?_
   rintro e w' ⟨N,rfl,_,_,hw⟩
   have e1:z58 s=0:=by unfold z58; rw [ha]
   have e2:zmc s=false:=by unfold zmc; rw [ha]
   rw [e1] at hb ⊢
   rw [e2];refine ⟨_,rfl,Keep.below hw,fun O _=>?_⟩
   simp only [VRel];exact ⟨_,rfl,by simp only [VRels,VRel,v1c]; exact ⟨⟨trivial,hb⟩,_,_,rfl⟩⟩
  ·skip
   obtain ⟨ev,h1,h2⟩:=yf1 hg;refine (Tryz.strconv_Atoi_range s (by omega) ha ev w h1 h2).mono ?_
   rintro e w' ⟨N,rfl,_,_,hw⟩
   have e1:z58 s=Lib.atoiSat s.data.toList:=by unfold z58; rw [ha]
   have e2:zmc s=false:=by unfold zmc; rw [ha]
   rw [e1] at hb ⊢
   rw [e2];refine ⟨_,rfl,Keep.below hw,fun O _=>?_⟩
   simp only [VRel];exact ⟨_,rfl,by simp only [VRels,VRel,v1c]; exact ⟨⟨trivial,hb⟩,_,_,rfl⟩⟩
 ·simp [R.get] at hsp
theorem zjp:z32 PR B0 83 z78:=by
 intro w X γ vs xs r out hsp hg hx hR hV;unfold z78 at hsp;simp only at hsp
 split at hsp
 ·rename_i n b
  cases hc:decide (b=10) with
  | false=>rw [hc] at hsp; simp [R.get] at hsp
  | true=>
   rw [hc] at hsp;have hb:=v0c hc;subst hb;simp only [R.get,v00,v06] at hsp;obtain ⟨rfl,rfl⟩:=hsp;obtain ⟨x0,x1,rfl⟩:∃ x0 x1,xs=[x0,x1]:=by
    have:=hV.length
    simp at this
    match xs,this with
    | [a,b],_=>exact ⟨a,b,rfl⟩
   simp only [v0d,v16,zab,VRels,VRel,v1c] at hV;obtain ⟨⟨rfl,h0,h1⟩,rfl,_⟩:=hV;have e0:IntKind.u64.min=0:=rfl;have e1:IntKind.u64.max=18446744073709551615:=rfl;rw [e0] at h0;rw [e1] at h1;obtain ⟨u,rfl⟩:∃ u:Nat,n=u:=⟨n.toNat,by omega⟩
   refine z8r hR rfl rfl (Does.of_calls Tryz.func83 (by kernel_rfl) (by kernel_rfl) ((yvi u (by omega) w (yf3 hg)).mono ?_))
   rintro e w' ⟨rfl,k,os,rfl⟩
   refine ⟨_,rfl,((Keep.drewN w k).trans (Keep.grow _ os) (fun _ _ h=>h)),fun O _=>?_⟩
   simp only [VRel];have hz:=zxx h0 h1;exact ⟨by simp [zce],by unfold strMax; omega⟩
 ·simp [R.get] at hsp
theorem zkp:z32 PR B0 189 z86:=by
 intro w X γ vs xs r out hsp hg hx hR hV;unfold z86 at hsp;simp only at hsp
 split at hsp
 ·rename_i s b c
  cases hc:(decide (b=10)&&decide (c=64)) with
  | false=>rw [hc] at hsp; simp [R.get] at hsp
  | true=>
   rw [hc] at hsp;simp only [v02,v07] at hc;obtain ⟨rfl,rfl⟩:=hc;simp only [R.get,v00,v06] at hsp;obtain ⟨rfl,rfl⟩:=hsp;obtain ⟨x0,x1,x2,rfl⟩:∃ x0 x1 x2,xs=[x0,x1,x2]:=by
    have:=hV.length
    simp at this
    match xs,this with
    | [a,b,c],_=>exact ⟨a,b,c,rfl⟩
   simp only [v0d,v16,zab,VRels,VRel,v1c] at hV;obtain ⟨⟨rfl,hs⟩,⟨rfl,_⟩,rfl,_⟩:=hV;unfold strMax at hs;have hb:=zw3 s;refine z8r hR rfl rfl (Does.of_calls Tryz.func189 (by kernel_rfl) (by kernel_rfl) ?_)
   cases ha:Lib.parseMag s.data.toList
   ·rename_i v
    refine (Tryz.strconv_ParseUint_10_at64_ok s (by omega) v (by rw [Lib.parseUintB_64]; exact ha) w).mono ?_
    rintro e w' ⟨rfl,hw⟩
    have e1:puV s=v:=by unfold puV; rw [ha]
    have e2:puN s=true:=by unfold puN; rw [ha]
    rw [e1] at hb ⊢
    rw [e2];refine ⟨_,rfl,?_,fun O _=>?_⟩
    ·rcases hw with rfl | rfl
     ·exact Keep.refl _ _
     ·unfold Lib.bytesWorld
      have h1:=Keep.alloc (fun _=>False) w.drew (.cells (Lib.bytesCells w 5 s) 5)
      refine ((Keep.drew (fun _=>False) w).trans h1 (fun _ _ h=>h)).trans (Keep.freeze (O:=fun k=>k=w.heap.size) _ ⟨w.heap.size,_,none⟩ 1 rfl) (fun b hb h=>?_)
      subst h;exact absurd hb (Nat.lt_irrefl _)
    ·simp only [VRel]
     exact ⟨_,rfl,by simp only [VRels,VRel,v1c,v45]; exact hb⟩
   ·skip
    obtain ⟨ev,h1,h2⟩:=yez hg;refine (Tryz.strconv_ParseUint_10_at64_syntax s (by omega) (by rw [Lib.parseUintB_64]; exact ha) ev w h1 h2).mono ?_
    rintro e w' ⟨N,rfl,_,_,hw⟩
    have e1:puV s=0:=by unfold puV; rw [ha]
    have e2:puN s=false:=by unfold puN; rw [ha]
    rw [e1] at hb ⊢
    rw [e2];refine ⟨_,rfl,Keep.below hw,fun O _=>?_⟩
    simp only [VRel];exact ⟨_,rfl,by simp only [VRels,VRel,v1c]; exact ⟨⟨trivial,hb⟩,_,_,rfl⟩⟩
   ·skip
    obtain ⟨ev,h1,h2⟩:=yf1 hg;refine (Tryz.strconv_ParseUint_10_at64_range s (by omega) (by rw [Lib.parseUintB_64]; exact ha) ev w h1 h2).mono ?_
    rintro e w' ⟨N,rfl,_,_,hw⟩
    have e1:puV s=18446744073709551615:=by unfold puV; rw [ha]
    have e2:puN s=false:=by unfold puN; rw [ha]
    rw [e1] at hb ⊢
    rw [e2];refine ⟨_,rfl,Keep.below hw,fun O _=>?_⟩
    simp only [VRel];exact ⟨_,rfl,by simp only [VRels,VRel,v1c]; exact ⟨⟨trivial,hb⟩,_,_,rfl⟩⟩
 ·simp [R.get] at hsp
theorem zjw:z32 PR B0 85 z83:=by
 intro w X γ vs xs r out hsp hg hx hR hV;unfold z83 at hsp;simp only at hsp
 split at hsp
 ·rename_i s cs
  cases hc:(decide (cs.size=1)&&decide ((cs.data.toList.headD 0).toNat < 128)) with
  | false=>rw [hc] at hsp; simp [R.get] at hsp
  | true=>
   rw [hc] at hsp;simp only [v02,v07] at hc;simp only [R.get,v00,v06] at hsp;obtain ⟨rfl,rfl⟩:=hsp;obtain ⟨c,rfl⟩:∃ c,cs=⟨#[c]⟩:=by
    obtain ⟨⟨l⟩⟩:=cs;have h1:l.length=1:=hc.1
    match l,h1 with
    | [c],_=>exact ⟨c,rfl⟩
   obtain ⟨x0,x1,rfl⟩:∃ x0 x1,xs=[x0,x1]:=by
    have:=hV.length
    simp at this
    match xs,this with
    | [a,b],_=>exact ⟨a,b,rfl⟩
   simp only [v0d,v16,zab,VRels,VRel,v1c] at hV;obtain ⟨⟨rfl,hs⟩,rfl,_⟩:=hV;have hz:=zwc s ⟨#[c]⟩;unfold strMax at hs;refine z8r hR rfl rfl (Does.of_calls Tryz.func85 (by kernel_rfl) (by kernel_rfl) ((Tryz.strings_TrimRight_one s c hc.2 w (by omega)).mono ?_))
   rintro e w' ⟨rfl,rfl⟩
   refine ⟨_,rfl,Keep.refl _ _,fun O _=>?_⟩
   simp only [VRel];exact ⟨rfl,by unfold strMax; omega⟩
 ·simp [R.get] at hsp
theorem zgn:z32 PR B0 86 z6f:=by
 intro w X γ vs xs r out hsp hg hx hR hV;unfold z6f at hsp;simp only at hsp
 split at hsp
 ·rename_i s n
  cases hc:(decide (0≤n)&&decide (s.size*n.toNat≤strMax)) with
  | false=>rw [hc] at hsp; simp [R.get] at hsp
  | true=>
   rw [hc] at hsp;simp only [v02,v07] at hc;simp only [R.get,v00,v06] at hsp;obtain ⟨rfl,rfl⟩:=hsp;obtain ⟨x0,x1,rfl⟩:∃ x0 x1,xs=[x0,x1]:=by
    have:=hV.length
    simp at this
    match xs,this with
    | [a,b],_=>exact ⟨a,b,rfl⟩
   simp only [v0d,v16,zab,VRels,VRel,v1c] at hV;obtain ⟨⟨rfl,hs⟩,rfl,_,hn1⟩:=hV;have e1:IntKind.i64.max=9223372036854775807:=rfl;rw [e1] at hn1;obtain ⟨c,rfl⟩:∃ c:Nat,n=c:=⟨n.toNat,by omega⟩
   have hz:=zvu s c;have hle:=hc.2;simp only [v0g] at hle ⊢
   unfold strMax at hle;refine z8r hR rfl rfl (Does.of_calls Tryz.func86 (by kernel_rfl) (by kernel_rfl) ((Tryz.strings_Repeat s c w (by omega) (by omega)).mono ?_))
   rintro e w' ⟨rfl,hw⟩
   refine ⟨_,rfl,Keep.below hw,fun O _=>?_⟩
   simp only [VRel];exact ⟨rfl,by rw [hz]; unfold strMax; omega⟩
 ·simp [R.get] at hsp
theorem ze7:z32 PR B0 57 z4l:=by
 intro w X γ vs xs r out hsp hg hx hR hV;unfold z4l at hsp;simp only at hsp
 split at hsp
 ·rename_i s p
  simp only [R.get,v00,v06] at hsp;obtain ⟨rfl,rfl⟩:=hsp;obtain ⟨x0,x1,rfl⟩:∃ x0 x1,xs=[x0,x1]:=by
   have:=hV.length
   simp at this
   match xs,this with
   | [a,b],_=>exact ⟨a,b,rfl⟩
  simp only [v0d,v16,zab,VRels,VRel,v1c] at hV;obtain ⟨⟨rfl,hs⟩,rfl,_⟩:=hV;have hz:=zq6 s p;refine z8r hR rfl rfl (Does.of_calls Tryz.func57 (by kernel_rfl) (by kernel_rfl) ((Tryz.strings_CutPrefix s p w).mono ?_))
  rintro e w' ⟨rfl,rfl⟩
  refine ⟨_,rfl,Keep.refl _ _,fun O _=>?_⟩
  simp only [VRel];exact ⟨_,rfl,by simp only [VRels,VRel,v1c]; exact ⟨⟨rfl,by omega⟩,rfl⟩⟩
 ·simp [R.get] at hsp
theorem zfq:z32 PR B0 104 z6g:=by
 intro w X γ vs xs r out hsp hg hx hR hV;unfold z6g at hsp;simp only at hsp
 split at hsp
 ·rename_i s sep
  cases hc:decide (s.size < 4294967281) with
  | false=>rw [hc] at hsp; simp [R.get] at hsp
  | true=>
   rw [hc] at hsp;simp only [R.get,v00,v06] at hsp;obtain ⟨rfl,rfl⟩:=hsp;obtain ⟨x0,x1,rfl⟩:∃ x0 x1,xs=[x0,x1]:=by
    have:=hV.length
    simp at this
    match xs,this with
    | [a,b],_=>exact ⟨a,b,rfl⟩
   simp only [v0d,v16,zab,VRels,VRel,v1c] at hV;obtain ⟨⟨rfl,hs⟩,rfl,hsep⟩:=hV;obtain ⟨m,hm⟩:=yei hg;refine z8r hR rfl rfl (Does.of_calls Tryz.func104 (by kernel_rfl) (by kernel_rfl) ((Tryz.strings_Cut s sep m w (v0c hc) hm).mono ?_))
   rintro e w' ⟨rfl,n,rfl⟩
   have hsz:=zoi s sep;refine ⟨_,rfl,Keep.drewN w n,fun O _=>?_⟩
   simp only [VRel];exact ⟨_,rfl,by simp only [VRels,VRel,v1c]; exact ⟨⟨rfl,by omega⟩,⟨rfl,by omega⟩,rfl⟩⟩
 ·simp [R.get] at hsp
theorem z5y:z32 PR B0 46 z1t:=by
 intro w X γ vs xs r out hsp hg hx hR hV;unfold z1t at hsp;simp only at hsp
 split at hsp
 ·rename_i s sep
  cases hc:(decide (s.size < 4294967281)&&decide (1≤sep.size)) with
  | false=>rw [hc] at hsp; simp [R.get] at hsp
  | true=>
   rw [hc] at hsp;simp only [v02,v07] at hc;simp only [R.get,v00,v06] at hsp;obtain ⟨rfl,rfl⟩:=hsp;obtain ⟨x0,x1,rfl⟩:∃ x0 x1,xs=[x0,x1]:=by
    have:=hV.length
    simp at this
    match xs,this with
    | [a,b],_=>exact ⟨a,b,rfl⟩
   simp only [v0d,v16,zab,VRels,VRel,v1c] at hV;obtain ⟨⟨rfl,hs⟩,rfl,hsep⟩:=hV;obtain ⟨m,hm⟩:=yei hg;have hlen:=Lib.splitB_all sep hc.2 0 _ s rfl;have hcnt:=Lib.countB_le sep hc.2 s.size s (v0a _);refine z8r hR rfl rfl (Does.of_calls Tryz.func46 (by kernel_rfl) (by kernel_rfl) ((Tryz.strings_Split s sep m w hc.1 hm hc.2).mono ?_))
   rintro e w' ⟨rfl,rfl⟩
   refine ⟨_,rfl,Keep.alloc _ w _,fun O hO=>?_⟩
   simp only [VRel]
   have:=ynf (w:=w) (w':=w.alloc (.cells ((z0d s sep).map Value.string).toArray 9)) hO (g:=w.heap.size) (v0a _) (heap_alloc_new w _) (l:=z0d s sep) (c:=Lib.countB s sep+1) (by unfold z0d; omega) (by unfold maxLen; omega) (by unfold z0d strMax; omega) (fun p hp=>v1n ((z9l sep _ s).2 p hp) hs)
   unfold z0d at this ⊢
   rw [hlen] at this;exact this
 ·simp [R.get] at hsp
theorem y79 {w:World} {O:Nat→Prop} {l:List IV} {x:Value} (h:Kd.Rel w O (.list false [.str]) (.list l) x):∃ p c,x = .slice p l.length c∧l.length≤c∧c≤maxLen∧l.length≤strMax∧∀ j y,l[j]?=some y→∃ b o,p=some ⟨b,o,none⟩∧b < w.heap.size∧w.cell? ⟨b,o+j,none⟩=some (.string y.toStr)∧y.toStr.size≤strMax:=by
 simp only [Kd.Rel,IV.toList] at h;obtain ⟨p,c,rfl,hc,hm,hl,hi⟩:=h;refine ⟨p,c,rfl,hc,hm,hl,fun j y hy=>?_⟩
 obtain ⟨b,o,rfl,_,hb,hr⟩:=hi j y hy;simp only [Kd.RelAll,v03,v0i,v0p,v49,v1s,v1c] at hr;obtain ⟨u,hu,hs⟩:=hr;simp only [Kd.Rel,z3r] at hs;obtain ⟨rfl,hs⟩:=hs;exact ⟨b,o,rfl,hb,hu,hs⟩
theorem zj0:z32 PR B0 45 z8l:=by
 intro w X γ vs xs r out hsp hg hx hR hV;unfold z8l at hsp;simp only at hsp
 split at hsp
 ·rename_i l sep
  cases hc:(decide (l.length≤strMax)&&decide ((zcb (l.map IV.toStr) sep).size≤strMax)) with
  | false=>rw [hc] at hsp; simp [R.get] at hsp
  | true=>
   rw [hc] at hsp;simp only [v02,v07] at hc;simp only [R.get,v00,v06] at hsp;obtain ⟨rfl,rfl⟩:=hsp;obtain ⟨x0,x1,rfl⟩:∃ x0 x1,xs=[x0,x1]:=by
    have:=hV.length
    simp at this
    match xs,this with
    | [a,b],_=>exact ⟨a,b,rfl⟩
   simp only [v0d,v16,zab,VRels,VRel,v1c] at hV;obtain ⟨h0,rfl,_⟩:=hV;obtain ⟨p,c,rfl,hc1,hc2,hc3,hcell⟩:=y79 h0;have hz:(zcb (l.map IV.toStr) sep).size=(Lib.join ((l.map IV.toStr).map (·.data.toList)) sep.data.toList).length:=by
    show (Array.size (List.toArray _))=_;rw [v1m]
   have hle:=hc.2;rw [hz] at hle;unfold strMax at hle hc3;refine z8r hR rfl rfl (Does.of_calls Tryz.func45 (by kernel_rfl) (by kernel_rfl) (Calls.mono (R:=fun e w'=>e = .returned (.string (zcb (l.map IV.toStr) sep))∧Below w.heap.size w w') ?_ ?_))
   ·cases l with
    | nil=>
     refine (Tryz.strings_Join_none p c sep w).mono ?_
     rintro e w' ⟨rfl,rfl⟩
     exact ⟨rfl,Below.refl _ _⟩
    | cons y r=>
     obtain ⟨b,o,rfl,hb,_⟩:=hcell 0 y rfl
     have:=Tryz.strings_Join b o c ((y :: r).map IV.toStr) sep w (fun j x hj=>by
      rw [v11,v1k] at hj;obtain ⟨y',hj,rfl⟩:=hj;obtain ⟨b',o',hp,_,hu,_⟩:=hcell j y' hj;simp only [v00,Addr.mk.injEq,v1c] at hp;obtain ⟨rfl,rfl⟩:=hp;exact hu) hb (by rw [v14]; omega) (by rw [v14]; omega) (by omega)
     rw [v14] at this;exact this
   ·rintro e w' ⟨rfl,hw⟩
    refine ⟨_,rfl,Keep.below hw,fun O _=>?_⟩
    simp only [VRel];exact ⟨trivial,by rw [hz]; unfold strMax; omega⟩
 ·simp [R.get] at hsp
theorem zea:z32 PR B0 161 z49:=by
 intro w X γ vs xs r out hsp hg hx hR hV;unfold z49 at hsp;simp only at hsp
 split at hsp
 ·rename_i l
  cases hc:decide (l.length≤4294967296) with
  | false=>rw [hc] at hsp; simp [R.get] at hsp
  | true=>
   rw [hc] at hsp;have hc:=v0c hc;simp only [R.get,v00,v06] at hsp;obtain ⟨rfl,rfl⟩:=hsp;obtain ⟨x0,rfl⟩:∃ x0,xs=[x0]:=by
    have:=hV.length
    simp at this
    match xs,this with
    | [a],_=>exact ⟨a,rfl⟩
   simp only [v0d,v16,zab,VRels,VRel,v1c] at hV;obtain ⟨p,c,rfl,hc1,hc2,hc3,hcell⟩:=y79 hV;have hel:∀ (w':World) (O:Nat→Prop) i y,l[i]?=some y→Kd.RelAll w' O [.str] (z3r false y) 0 (fun j u=>(l.map fun y=>Value.string y.toStr)[i*[Kd.str].length+j]?=some u):=fun w' O i y hy=>by
    obtain ⟨b,o,_,_,_,hs⟩:=hcell i y hy;simp only [Kd.RelAll,v03,v0i,v0p,v49,v1s,v1c];refine ⟨.string y.toStr,by rw [v11,hy]; rfl,?_⟩
    simp only [Kd.Rel,z3r];exact ⟨trivial,hs⟩
   refine y6u hR rfl (by decide) (by decide) hc3 (Does.of_calls Tryz.func161 (by kernel_rfl) (by kernel_rfl) ?_)
   cases p with
   | none=>
    have h0:l=[]:=by
     cases l with
     | nil=>rfl
     | cons y r=>
      obtain ⟨b,o,hp,_⟩:=hcell 0 y rfl;cases hp
    subst h0;refine (ymv _ c w).mono ?_
    rintro e w' ⟨rfl,rfl⟩
    exact ⟨_,[],rfl,Keep.refl _ _,⟨rfl,.inl ⟨rfl,rfl⟩⟩,hel _⟩
   | some a=>
    refine (yjy a l.length c (l.map fun y=>Value.string y.toStr) w (by rw [v14]) (by unfold maxLen; omega) (by omega) (fun j u hj=>?_) (fun u hu=>?_)).mono ?_
    ·rw [v11,v1k] at hj
     obtain ⟨y,hj,rfl⟩:=hj;obtain ⟨b,o,hp,_,hu,_⟩:=hcell j y hj;simp only [v00] at hp;subst hp;rw [Addr.add_lit];exact hu
    ·rw [List.mem_map] at hu
     obtain ⟨y,_,rfl⟩:=hu
     rfl
    ·rintro e w' ⟨v',rfl,hown,hw⟩
     exact ⟨v',_,rfl,Keep.below hw,hown,hel _⟩
 ·simp [R.get] at hsp
def SpsOK:List (Nat × z0o)→Prop
 | []=>True
 | (f,sp) :: r=>z32 PR B0 f sp∧SpsOK r
theorem SpsOK.get:∀ {l:List (Nat × z0o)},SpsOK l→∀ f sp,lk l f=some sp→z32 PR B0 f sp
 | [],_,f,sp,h=>by simp [lk] at h
 | (g,sg) :: r,hs,f,sp,h=>by
  simp only [lk] at h
  split at h
  ·rename_i hb
   simp only [v00] at h;subst h;rw [← z1w.1 hb];exact hs.1
  ·exact SpsOK.get hs.2 f sp h
theorem z0h {f:Nat} {fn:Func} {code:Code} {rs:List ResultVar} {nt:Nat} (sps:List (Nat × z0o)) (lp:List (Nat × KP)) (sp:z0o) (rks:List (List Kd)) (hf:PR.funcs[f]?=some fn)
  (hc:(fn.name == "runtime.NumGoroutine")=false∧fn.body=some code∧fn.ntmps=nt∧Nat.ble nt 900000=true∧fn.results.toList=rs) (hs:SpsOK sps)
  (h:∀ vs r,(zfa vs (z82 vs)→yn9 vs)→(sp vs).get=some r→∃ N,z0z (mkE sps lp nt N) code rs rks vs=some r):z32 PR B0 f sp:=
 yk8 (mkE sps lp nt) sp rks hf hc (fun _=>rfl) ytd (fun _=>ylv rfl ytl) (fun _=>ykm rfl ysm) (fun _=>hs.get) (fun _ f p hp=>by cases hp) (fun _ h=>ylr h) h
def IpsOK:List (Nat × Ip)→Prop
 | []=>True
 | (f,p) :: r=>y4e PR f p∧IpsOK r
theorem IpsOK.get:∀ {l:List (Nat × Ip)},IpsOK l→∀ f p,lk l f=some p→y4e PR f p
 | [],_,f,p,h=>by simp [lk] at h
 | (g,pg) :: r,hs,f,p,h=>by
  simp only [lk] at h
  split at h
  ·rename_i hb
   simp only [v00] at h;subst h;rw [← z1w.1 hb];exact hs.1
  ·exact IpsOK.get hs.2 f p h
theorem ym2 {f:Nat} {fn:Func} {code:Code} {rs:List ResultVar} {nt:Nat} (sps:List (Nat × z0o)) (ips:List (Nat × Ip)) (lp:List (Nat × KP)) (sp:z0o) (rks:List (List Kd)) (hf:PR.funcs[f]?=some fn)
  (hc:(fn.name == "runtime.NumGoroutine")=false∧fn.body=some code∧fn.ntmps=nt∧Nat.ble nt 900000=true∧fn.results.toList=rs) (hs:SpsOK sps) (hi:IpsOK ips)
  (h:∀ vs r,(zfa vs (z82 vs)→yn9 vs)→(sp vs).get=some r→∃ N,z0z (mkI sps ips lp nt N) code rs rks vs=some r):z32 PR B0 f sp:=
 yk8 (mkI sps ips lp nt) sp rks hf hc (fun _=>rfl) ytd (fun _=>ylv rfl ytl) (fun _=>ykm rfl ysm) (fun _=>hs.get) (fun _=>hi.get) (fun _ h=>ylr h) h
open Go Go.RowKit
theorem z0s {n:Int} (h0 : -9223372036854775808≤n) (h1:n≤9223372036854775807):IntKind.wrap .i64 n=n:=by
 have e:IntKind.wrap .i64 n=(n+9223372036854775808) % 18446744073709551616 - 9223372036854775808:=by
  simp [IntKind.wrap,IntKind.bits,IntKind.signed];omega
 rw [e];omega
theorem zbm {α:Type} {l:List α} {i:Nat} (h:i < l.length):decide ((i:Int) < ic l.length)=true:=by simp [ic]; omega
theorem zdj {α:Type} {l:List α} {i:Nat} (h:l.length≤i):decide ((i:Int) < ic l.length)=false:=by simp [ic]; omega
theorem zjl {i:Nat}:decide (0≤(i:Int))=true:=by simp
theorem z7r {i:Nat} (h:i < 9223372036854775807):IntKind.wrap .i64 ((i:Int)+1)=((i+1:Nat):Int):=by rw [z0s (by omega) (by omega)]; rfl
theorem zda {α:Type} [Inhabited α] {l:List α} {i:Nat} (h:i < l.length):l.getD (i:Int).toNat default=l[i]:=by simp [h]
theorem zrd (a b:Int):decide (a≤b)=!decide (b < a):=by rw [v2s]; simp
theorem ylw (a b:Int):decide (a > b)=decide (b < a):=rfl
theorem zl9 (a b:Int):(a==b)=decide (a=b):=rfl
theorem ym9 (a b:Int):(a != b)=!decide (a=b):=rfl
theorem z00 {α:Type _} (a b:α):cond true a b=a:=v4b (Eq.refl a) (Eq.refl a)
theorem z01 {α:Type _} (a b:α):cond false a b=b:=v4b (Eq.refl b) (Eq.refl b)
open Go
def zex (n:Int):Int:=IntKind.wrap .i64 n
def y59 (n:Int):Int:=IntKind.wrap .u64 n
def zcc (lo hi:Int):Int:=zex (zex (hi - lo)+1)
def z03 (n lo hi:Int):Int:=cond (decide (n.tmod (zcc lo hi) < 0)) (zex (lo+zex (zex (zex (n.tmod (zcc lo hi)+hi) - lo)+1))) (zex (lo+n.tmod (zcc lo hi)))
def z1s:z0o
 | [.int .i64 n,.int .i64 lo,.int .i64 hi]=>.br (decide (zcc lo hi=0)) .no (.ok (.int .i64 (z03 n lo hi)) [])
 | _=>.no
abbrev zyl:ByteArray:=⟨#[45]⟩
abbrev yj3:ByteArray:=⟨#[46]⟩
abbrev yo8:ByteArray:=⟨#[48]⟩
abbrev ygg:ByteArray:=⟨#[]⟩
def zct:z0o
 | []=>.ok (.int .u64 390625) []
 | _=>.no
def y03 (r:Nat):List UInt8:=Lib.trimRightB (Lib.repeatL [48] (8 - (Lib.decDigits (r*390625)).length)++Lib.decDigits (r*390625)) 48
def y0z (u:Nat):List UInt8:=Lib.decDigits (u / 256)++(if u % 256=0 then [] else 46 :: y03 (u % 256))
def zw9 (n:Int):List UInt8:=if n < 0 then 45 :: y0z n.natAbs else y0z n.natAbs
def z0i (n:Int):ByteArray:=⟨(zw9 n).toArray⟩
def z7y:z0o
 | [.int .i64 n]=>.ok (.str (z0i n)) []
 | _=>.no
def zdz:z0o
 | [.str s]=>.ok (.tup [.int .u64 (puV s),.bool (puN s)]) []
 | _=>.no
def zgl (s:ByteArray):ByteArray:=cutL (z1f s zyl) yj3
def z8s (s:ByteArray):ByteArray:=zgp (z1f s zyl) yj3
def zef (s:ByteArray):ByteArray:=z8s s++zqm yo8 (8 - (z8s s).size)
def zir (s:ByteArray):Int:=y59 (y59 (puV (zgl s)*256)+puV (zef s) / 390625)
def yje (s:ByteArray):Int:=zex (cond (zf6 s zyl) (y59 (0 - zir s)) (zir s))
def yow (s:ByteArray):Bool:=
 decide ((z8s s).size≤8)&&(puN (zgl s)&&(puN (zef s)&&(decide (puV (zgl s)≤36028797018963968)&&(decide (puV (zef s) % 390625=0)&&decide (z0i (yje s)=s)))))
def zm5 (s:ByteArray):Int:=cond (yow s) (yje s) 0
def zcr:z0o
 | [.str s]=>.br (decide (s.size < 4294967281)) (.ok (.tup [.int .i64 (zm5 s),.bool (yow s)]) []) .no
 | _=>.no
open Go Go.Proofs
def zqf (N:Nat):Env:=mkE [] [] 24 N
theorem znl (N:Nat) (n lo hi:Int):z0z (zqf N) zgr [.tmp 6] [[.int .i64]] [(.i n),(.i lo),(.i hi)] =
 (cond (decide (IntKind.wrap IntKind.i64 (IntKind.wrap IntKind.i64 (hi - lo)+1)=0))
 none
 (cond (decide (Int.tmod n (IntKind.wrap IntKind.i64 (IntKind.wrap IntKind.i64 (hi - lo)+1)) < 0))
 (some ((.i (IntKind.wrap IntKind.i64 (lo+IntKind.wrap IntKind.i64 (IntKind.wrap IntKind.i64 (IntKind.wrap IntKind.i64 (Int.tmod n (IntKind.wrap IntKind.i64 (IntKind.wrap IntKind.i64 (hi - lo)+1))+hi) - lo)+1)))),[]))
 (some ((.i (IntKind.wrap IntKind.i64 (lo+Int.tmod n (IntKind.wrap IntKind.i64 (IntKind.wrap IntKind.i64 (hi - lo)+1))))),[])))):=by kernel_rfl
def yi2 (N:Nat):Env:=mkE [] [(3,⟨[0,1,2],[],[]⟩)] 8 N
def y8q (N:Nat):Env:=mkE [(189,z86)] [] 19 N
theorem y36 (N:Nat) (s:ByteArray):z0z (y8q N) zsy [.tmp 2,.tmp 3] [[.int .u64],[.bool]] [(.str s)] =
 (cond (puN s)
 (cond (decide (0≤0)&&decide (0 < ic (ByteArray.size s)))
 (some ((.tup [(.int .u64 (puV s)),(.bool (ic (UInt8.toNat (List.getD (Array.toList (ByteArray.data s)) (Int.toNat 0) 0)) != 43))]),[]))
 none)
 (some ((.tup [(.int .u64 (puV s)),(.bool false)]),[]))):=by kernel_rfl
def ye2 (N:Nat):Env:=mkE [(84,zct),(83,z78),(86,z6f),(85,z83)] [] 38 N
theorem y7o (N:Nat) (n:Int):z0z (ye2 N) zyz [.tmp 2] [[.str]] [(.i n)] =
 (cond (decide (n < 0))
 (cond (decide (ByteArray.size { data:=#[45] }+ByteArray.size (zce (Int.fdiv (IntKind.wrap IntKind.u64 (0 - IntKind.wrap IntKind.u64 n)) (2 ^ min (Int.toNat 8) (IntKind.bits IntKind.u64))))≤strMax))
 (cond (IntKind.wrap IntKind.u64 (ic (BitVec.toNat (BitVec.ofInt (IntKind.bits IntKind.u64) (IntKind.wrap IntKind.u64 (0 - IntKind.wrap IntKind.u64 n)) &&& BitVec.ofInt (IntKind.bits IntKind.u64) 255)))==0)
 (some ((.str ({ data:=#[45] }++zce (Int.fdiv (IntKind.wrap IntKind.u64 (0 - IntKind.wrap IntKind.u64 n)) (2 ^ min (Int.toNat 8) (IntKind.bits IntKind.u64))))),[]))
 (cond (decide (ByteArray.size ({ data:=#[45] }++zce (Int.fdiv (IntKind.wrap IntKind.u64 (0 - IntKind.wrap IntKind.u64 n)) (2 ^ min (Int.toNat 8) (IntKind.bits IntKind.u64))))+ByteArray.size { data:=#[46] }≤strMax))
 (cond (decide (0≤IntKind.wrap IntKind.i64 (8 - ic (ByteArray.size (zce (IntKind.wrap IntKind.u64 (IntKind.wrap IntKind.u64 (ic (BitVec.toNat (BitVec.ofInt (IntKind.bits IntKind.u64) (IntKind.wrap IntKind.u64 (0 - IntKind.wrap IntKind.u64 n)) &&& BitVec.ofInt (IntKind.bits IntKind.u64) 255)))*390625))))))&&decide (ByteArray.size { data:=#[48] }*Int.toNat (IntKind.wrap IntKind.i64 (8 - ic (ByteArray.size (zce (IntKind.wrap IntKind.u64 (IntKind.wrap IntKind.u64 (ic (BitVec.toNat (BitVec.ofInt (IntKind.bits IntKind.u64) (IntKind.wrap IntKind.u64 (0 - IntKind.wrap IntKind.u64 n)) &&& BitVec.ofInt (IntKind.bits IntKind.u64) 255)))*390625))))))≤strMax))
 (cond (decide (ByteArray.size (zqm { data:=#[48] } (Int.toNat (IntKind.wrap IntKind.i64 (8 - ic (ByteArray.size (zce (IntKind.wrap IntKind.u64 (IntKind.wrap IntKind.u64 (ic (BitVec.toNat (BitVec.ofInt (IntKind.bits IntKind.u64) (IntKind.wrap IntKind.u64 (0 - IntKind.wrap IntKind.u64 n)) &&& BitVec.ofInt (IntKind.bits IntKind.u64) 255)))*390625))))))))+ByteArray.size (zce (IntKind.wrap IntKind.u64 (IntKind.wrap IntKind.u64 (ic (BitVec.toNat (BitVec.ofInt (IntKind.bits IntKind.u64) (IntKind.wrap IntKind.u64 (0 - IntKind.wrap IntKind.u64 n)) &&& BitVec.ofInt (IntKind.bits IntKind.u64) 255)))*390625)))≤strMax))
 (cond (decide (ByteArray.size ({ data:=#[45] }++zce (Int.fdiv (IntKind.wrap IntKind.u64 (0 - IntKind.wrap IntKind.u64 n)) (2 ^ min (Int.toNat 8) (IntKind.bits IntKind.u64)))++{ data:=#[46] })+ByteArray.size (zj9 (zqm { data:=#[48] } (Int.toNat (IntKind.wrap IntKind.i64 (8 - ic (ByteArray.size (zce (IntKind.wrap IntKind.u64 (IntKind.wrap IntKind.u64 (ic (BitVec.toNat (BitVec.ofInt (IntKind.bits IntKind.u64) (IntKind.wrap IntKind.u64 (0 - IntKind.wrap IntKind.u64 n)) &&& BitVec.ofInt (IntKind.bits IntKind.u64) 255)))*390625)))))))++zce (IntKind.wrap IntKind.u64 (IntKind.wrap IntKind.u64 (ic (BitVec.toNat (BitVec.ofInt (IntKind.bits IntKind.u64) (IntKind.wrap IntKind.u64 (0 - IntKind.wrap IntKind.u64 n)) &&& BitVec.ofInt (IntKind.bits IntKind.u64) 255)))*390625))) { data:=#[48] })≤strMax))
 (some ((.str ({ data:=#[45] }++zce (Int.fdiv (IntKind.wrap IntKind.u64 (0 - IntKind.wrap IntKind.u64 n)) (2 ^ min (Int.toNat 8) (IntKind.bits IntKind.u64)))++{ data:=#[46] }++zj9 (zqm { data:=#[48] } (Int.toNat (IntKind.wrap IntKind.i64 (8 - ic (ByteArray.size (zce (IntKind.wrap IntKind.u64 (IntKind.wrap IntKind.u64 (ic (BitVec.toNat (BitVec.ofInt (IntKind.bits IntKind.u64) (IntKind.wrap IntKind.u64 (0 - IntKind.wrap IntKind.u64 n)) &&& BitVec.ofInt (IntKind.bits IntKind.u64) 255)))*390625)))))))++zce (IntKind.wrap IntKind.u64 (IntKind.wrap IntKind.u64 (ic (BitVec.toNat (BitVec.ofInt (IntKind.bits IntKind.u64) (IntKind.wrap IntKind.u64 (0 - IntKind.wrap IntKind.u64 n)) &&& BitVec.ofInt (IntKind.bits IntKind.u64) 255)))*390625))) { data:=#[48] })),[]))
 none)
 none)
 none)
 none))
 none)
 (cond (decide (ByteArray.size { data:=#[] }+ByteArray.size (zce (Int.fdiv (IntKind.wrap IntKind.u64 n) (2 ^ min (Int.toNat 8) (IntKind.bits IntKind.u64))))≤strMax))
 (cond (IntKind.wrap IntKind.u64 (ic (BitVec.toNat (BitVec.ofInt (IntKind.bits IntKind.u64) (IntKind.wrap IntKind.u64 n) &&& BitVec.ofInt (IntKind.bits IntKind.u64) 255)))==0)
 (some ((.str ({ data:=#[] }++zce (Int.fdiv (IntKind.wrap IntKind.u64 n) (2 ^ min (Int.toNat 8) (IntKind.bits IntKind.u64))))),[]))
 (cond (decide (ByteArray.size ({ data:=#[] }++zce (Int.fdiv (IntKind.wrap IntKind.u64 n) (2 ^ min (Int.toNat 8) (IntKind.bits IntKind.u64))))+ByteArray.size { data:=#[46] }≤strMax))
 (cond (decide (0≤IntKind.wrap IntKind.i64 (8 - ic (ByteArray.size (zce (IntKind.wrap IntKind.u64 (IntKind.wrap IntKind.u64 (ic (BitVec.toNat (BitVec.ofInt (IntKind.bits IntKind.u64) (IntKind.wrap IntKind.u64 n) &&& BitVec.ofInt (IntKind.bits IntKind.u64) 255)))*390625))))))&&decide (ByteArray.size { data:=#[48] }*Int.toNat (IntKind.wrap IntKind.i64 (8 - ic (ByteArray.size (zce (IntKind.wrap IntKind.u64 (IntKind.wrap IntKind.u64 (ic (BitVec.toNat (BitVec.ofInt (IntKind.bits IntKind.u64) (IntKind.wrap IntKind.u64 n) &&& BitVec.ofInt (IntKind.bits IntKind.u64) 255)))*390625))))))≤strMax))
 (cond (decide (ByteArray.size (zqm { data:=#[48] } (Int.toNat (IntKind.wrap IntKind.i64 (8 - ic (ByteArray.size (zce (IntKind.wrap IntKind.u64 (IntKind.wrap IntKind.u64 (ic (BitVec.toNat (BitVec.ofInt (IntKind.bits IntKind.u64) (IntKind.wrap IntKind.u64 n) &&& BitVec.ofInt (IntKind.bits IntKind.u64) 255)))*390625))))))))+ByteArray.size (zce (IntKind.wrap IntKind.u64 (IntKind.wrap IntKind.u64 (ic (BitVec.toNat (BitVec.ofInt (IntKind.bits IntKind.u64) (IntKind.wrap IntKind.u64 n) &&& BitVec.ofInt (IntKind.bits IntKind.u64) 255)))*390625)))≤strMax))
 (cond (decide (ByteArray.size ({ data:=#[] }++zce (Int.fdiv (IntKind.wrap IntKind.u64 n) (2 ^ min (Int.toNat 8) (IntKind.bits IntKind.u64)))++{ data:=#[46] })+ByteArray.size (zj9 (zqm { data:=#[48] } (Int.toNat (IntKind.wrap IntKind.i64 (8 - ic (ByteArray.size (zce (IntKind.wrap IntKind.u64 (IntKind.wrap IntKind.u64 (ic (BitVec.toNat (BitVec.ofInt (IntKind.bits IntKind.u64) (IntKind.wrap IntKind.u64 n) &&& BitVec.ofInt (IntKind.bits IntKind.u64) 255)))*390625)))))))++zce (IntKind.wrap IntKind.u64 (IntKind.wrap IntKind.u64 (ic (BitVec.toNat (BitVec.ofInt (IntKind.bits IntKind.u64) (IntKind.wrap IntKind.u64 n) &&& BitVec.ofInt (IntKind.bits IntKind.u64) 255)))*390625))) { data:=#[48] })≤strMax))
 (some ((.str ({ data:=#[] }++zce (Int.fdiv (IntKind.wrap IntKind.u64 n) (2 ^ min (Int.toNat 8) (IntKind.bits IntKind.u64)))++{ data:=#[46] }++zj9 (zqm { data:=#[48] } (Int.toNat (IntKind.wrap IntKind.i64 (8 - ic (ByteArray.size (zce (IntKind.wrap IntKind.u64 (IntKind.wrap IntKind.u64 (ic (BitVec.toNat (BitVec.ofInt (IntKind.bits IntKind.u64) (IntKind.wrap IntKind.u64 n) &&& BitVec.ofInt (IntKind.bits IntKind.u64) 255)))*390625)))))))++zce (IntKind.wrap IntKind.u64 (IntKind.wrap IntKind.u64 (ic (BitVec.toNat (BitVec.ofInt (IntKind.bits IntKind.u64) (IntKind.wrap IntKind.u64 n) &&& BitVec.ofInt (IntKind.bits IntKind.u64) 255)))*390625))) { data:=#[48] })),[]))
 none)
 none)
 none)
 none))
 none)):=by kernel_rfl
open Go Go.Proofs
theorem z79:z32 PR B0 17 z1s:=by
 refine z0h [] [] z1s [[.int .i64]] Tryz.func17 zox trivial ?_;intro vs r hwf h;unfold z1s at h
 split at h
 ·rename_i n lo hi
  refine ⟨0,?_⟩;rw [← h];refine (znl 0 n lo hi).trans ?_;simp only [R.get_br,R.get_ok,R.get_no];unfold z03 zcc zex;cases decide (IntKind.wrap IntKind.i64 (IntKind.wrap IntKind.i64 (hi - lo)+1)=0) <;> cases decide (Int.tmod n (IntKind.wrap IntKind.i64 (IntKind.wrap IntKind.i64 (hi - lo)+1)) < 0) <;> rfl
 ·simp [R.get] at h
open Go
theorem zfm {s t:ByteArray} (h:s.data.toList=t.data.toList):s=t:=ByteArray.ext (Array.ext' h)
theorem zot (s t:ByteArray):(s.toList==t.toList)=decide (s=t):=by
 rw [Lib.toList_data,Lib.toList_data]
 by_cases h:s=t
 ·subst h; simp
 ·rw [v05 h,v0v]
  exact fun e=>h (zfm e)
theorem zgg (s:ByteArray):s.size=s.data.toList.length:=by rw [v19]; rfl
theorem yba (u:Nat):∀ c∈Lib.decDigits u,48≤c.toNat∧c.toNat≤57:=by
 induction u using Nat.strongRecOn with
 | _ u ih=>
  intro c hc;rw [Lib.decDigits] at hc
  split at hc
  ·rename_i h
   simp only [v1v] at hc;subst hc;rw [UInt8.toNat_ofNat_of_lt' (by simp [UInt8.size]; omega)]
   omega
  ·rename_i h
   rw [v0o,v1v] at hc;rcases hc with hc | hc
   ·exact ih (u / 10) (by omega) c hc
   ·subst hc
    rw [UInt8.toNat_ofNat_of_lt' (by simp [UInt8.size]; omega)]
    omega
theorem y7x (u:Nat):Lib.decDigits u≠[]:=by
 rw [Lib.decDigits]
 split <;> simp
open Go
theorem ynd {n m:Int} (h:0 < m) : -m < n.tmod m∧n.tmod m < m:=by
 constructor
 ·rcases Int.lt_or_le n 0 with hn | hn
  ·have e:n.tmod m = -((-n).tmod m):=by rw [Int.neg_tmod,Int.neg_neg]
   have:=Int.tmod_lt_of_pos (-n) h
   omega
  ·have:=Int.tmod_nonneg m hn
   omega
 ·exact Int.tmod_lt_of_pos n h
theorem z8c {n lo hi:Int} (h:lo≤hi) (h0 : -2000000000000000000≤lo) (h1:hi≤2000000000000000000):zcc lo hi=hi - lo+1∧lo≤z03 n lo hi∧z03 n lo hi≤hi:=by
 have e1:zex (hi - lo)=hi - lo:=z0s (by omega) (by omega)
 have e2:zcc lo hi=hi - lo+1:=by
  unfold zcc;rw [e1];exact z0s (by omega) (by omega)
 refine ⟨e2,?_⟩;unfold z03;rw [e2];obtain ⟨t0,t1⟩:=ynd (n:=n) (m:=hi - lo+1) (by omega)
 generalize n.tmod (hi - lo+1)=q at t0 t1 ⊢
 cases hq:decide (q < 0) with
 | true=>
  have hq:=v0c hq;simp only [v1e];have a1:zex (q+hi)=q+hi:=z0s (by omega) (by omega)
  have a2:zex (q+hi - lo)=q+hi - lo:=z0s (by omega) (by omega)
  have a3:zex (q+hi - lo+1)=q+hi - lo+1:=z0s (by omega) (by omega)
  have a4:zex (lo+(q+hi - lo+1))=lo+(q+hi - lo+1):=z0s (by omega) (by omega)
  rw [a1,a2,a3,a4];omega
 | false=>
  have hq:=v0r hq;simp only [v18];have a1:zex (lo+q)=lo+q:=z0s (by omega) (by omega)
  rw [a1];omega
theorem ynk (n:Int):IntKind.wrap .u64 n=n % 18446744073709551616:=by simp [IntKind.wrap,IntKind.bits,IntKind.signed]
abbrev InR (n:Int):Prop := -9223372036854775808≤n∧n≤9223372036854775807
theorem ytr {f:Nat→Bool} (h:(List.range 256).all f=true) {r:Nat} (hr:r < 256):f r=true:=v35.1 h r (List.mem_range.2 hr)
def ypm (r:Nat):Bool:=Nat.beq r 0||(Nat.ble (y03 r).length 8&&((y03 r).all (fun c=>Nat.ble 48 c.toNat&&Nat.ble c.toNat 57)&&(match (y03 r).reverse with | []=>false | c :: _=>!(Nat.beq c.toNat 48))))
theorem ynm:(List.range 256).all ypm=true:=by kernel_rfl
theorem yrn {r:Nat} (h0:r≠0) (h:r < 256):(y03 r).length≤8∧(∀ c∈y03 r,48≤c.toNat∧c.toNat≤57)∧∃ l c,y03 r=l++[c]∧c.toNat≠48:=by
 have:=ytr ynm h
 unfold ypm at this;simp only [v2n,v02,v35] at this;rcases this with h1 | ⟨h1,h2,h3⟩
 ·exact absurd (v2i h1) h0
 ·refine ⟨v04 h1,fun c hc=>⟨v04 (h2 c hc).1,v04 (h2 c hc).2⟩,?_⟩
  cases hr:(y03 r).reverse with
  | nil=>rw [hr] at h3; cases h3
  | cons c l=>
   rw [hr] at h3;refine ⟨l.reverse,c,?_,?_⟩
   ·have:=congrArg List.reverse hr
    simpa using this
   ·intro e
    have h3:(!c.toNat.beq 48)=true:=h3;rw [e] at h3;cases h3
theorem yfp (u:Nat):y0z u=Lib.decDigits (u / 256)++(if u % 256=0 then [] else 46 :: y03 (u % 256)):=rfl
theorem ylp (v:Nat):∃ c r,Lib.decDigits v=c :: r∧48≤c.toNat∧c.toNat≤57:=by
 cases h:Lib.decDigits v with
 | nil=>exact absurd h (y7x v)
 | cons c r=>exact ⟨c,r,rfl,yba v c (by rw [h]; exact v09 ..)⟩
theorem yhc (u:Nat):∃ c r,y0z u=c :: r∧48≤c.toNat∧c.toNat≤57:=by
 obtain ⟨c,r,h,h1⟩:=ylp (u / 256);exact ⟨c,r++_,by rw [yfp,h]; rfl,h1⟩
theorem ye4 (n:Int):∃ c r,(z0i n).data.toList=c :: r∧c.toNat≠43:=by
 show ∃ c r,zw9 n=c :: r∧c.toNat≠43;unfold zw9
 split
 ·exact ⟨45,_,rfl,by decide⟩
 ·obtain ⟨c,r,h,h1,_⟩:=yhc n.natAbs
  exact ⟨c,r,h,by omega⟩
theorem zh8 (n:Int) (hn:InR n):1≤(z0i n).size∧(z0i n).size≤40:=by
 obtain ⟨c,r,h,_⟩:=ye4 n;refine ⟨by rw [zgg,h]; simp,?_⟩
 rw [zgg];show (zw9 n).length≤40;have hs:(y0z n.natAbs).length≤30:=by
  rw [yfp,v08];have h1:(Lib.decDigits (n.natAbs / 256)).length≤20:=by
   have:=zxx (n:=((n.natAbs / 256:Nat):Int)) (by omega) (by obtain ⟨_,_⟩:=hn; omega)
   rw [zgg] at this;exact this
  split
  ·simp; omega
  ·rename_i h0
   have:=(yrn h0 (by omega:n.natAbs % 256 < 256)).1
   simp only [v03];omega
 unfold zw9
 split
 ·simp only [v03]; omega
 ·omega
open Go
structure Qy where
 k:Int
 c:Int
 a0:Int
 b0:Int
 a1:Int
 b1:Int
 a2:Int
 b2:Int
 a3:Int
 b3:Int
 a4:Int
 b4:Int
 lo:Int
 hi:Int
 ft:Int
 fl:Bool
 bu:Int
def Qy.V (q:Qy):V:=.agg [.int .i64 q.k,.int .i64 q.c,.int .i64 q.a0,.int .i64 q.b0,.int .i64 q.a1,.int .i64 q.b1,.int .i64 q.a2,.int .i64 q.b2,.int .i64 q.a3,.int .i64 q.b3,.int .i64 q.a4,.int .i64 q.b4,.int .i64 q.lo,.int .i64 q.hi,.int .i64 q.ft,.bool q.fl,.int .i64 q.bu]
def Qy.none:Qy:=⟨0,0,0,0,0,0,0,0,0,0,0,0,0,0,0,false,0⟩
def Qy.eq (p q:Qy):Bool:=
 (p.k==q.k)&&((p.c==q.c)&&((p.a0==q.a0)&&((p.b0==q.b0)&&((p.a1==q.a1)&&((p.b1==q.b1)&&((p.a2==q.a2)&&((p.b2==q.b2)&&((p.a3==q.a3)&&((p.b3==q.b3)&&((p.a4==q.a4)&&((p.b4==q.b4)&&((p.lo==q.lo)&&((p.hi==q.hi)&&((p.ft==q.ft)&&((p.fl==q.fl)&&((p.bu==q.bu)&&true))))))))))))))))
def zj2 (q:Qy) (d:Int):Qy:=
 ⟨q.k,q.c,cond (decide (0 < d)) q.a0 0,cond (decide (0 < d)) q.b0 0,cond (decide (1 < d)) q.a1 0,cond (decide (1 < d)) q.b1 0,cond (decide (2 < d)) q.a2 0,cond (decide (2 < d)) q.b2 0,cond (decide (3 < d)) q.a3 0,cond (decide (3 < d)) q.b3 0,cond (decide (4 < d)) q.a4 0,cond (decide (4 < d)) q.b4 0,
  cond (q.k==1) q.lo 0,cond (q.k==1) q.hi 0,cond (q.k==3) q.ft 0,cond (q.k==3) q.fl false,q.bu⟩
def zhc:z0o
 | [.agg [.int .i64 k,.int .i64 c,.int .i64 a0,.int .i64 b0,.int .i64 a1,.int .i64 b1,.int .i64 a2,.int .i64 b2,.int .i64 a3,.int .i64 b3,.int .i64 a4,.int .i64 b4,.int .i64 lo,.int .i64 hi,.int .i64 ft,.bool fl,.int .i64 bu],.int .i64 d]=>
  .br (decide (0≤d)&&decide (d≤5)) (.ok (.agg [.int .i64 (zj2 ⟨k,c,a0,b0,a1,b1,a2,b2,a3,b3,a4,b4,lo,hi,ft,fl,bu⟩ d).k,.int .i64 (zj2 ⟨k,c,a0,b0,a1,b1,a2,b2,a3,b3,a4,b4,lo,hi,ft,fl,bu⟩ d).c,
   .int .i64 (zj2 ⟨k,c,a0,b0,a1,b1,a2,b2,a3,b3,a4,b4,lo,hi,ft,fl,bu⟩ d).a0,.int .i64 (zj2 ⟨k,c,a0,b0,a1,b1,a2,b2,a3,b3,a4,b4,lo,hi,ft,fl,bu⟩ d).b0,
   .int .i64 (zj2 ⟨k,c,a0,b0,a1,b1,a2,b2,a3,b3,a4,b4,lo,hi,ft,fl,bu⟩ d).a1,.int .i64 (zj2 ⟨k,c,a0,b0,a1,b1,a2,b2,a3,b3,a4,b4,lo,hi,ft,fl,bu⟩ d).b1,
   .int .i64 (zj2 ⟨k,c,a0,b0,a1,b1,a2,b2,a3,b3,a4,b4,lo,hi,ft,fl,bu⟩ d).a2,.int .i64 (zj2 ⟨k,c,a0,b0,a1,b1,a2,b2,a3,b3,a4,b4,lo,hi,ft,fl,bu⟩ d).b2,
   .int .i64 (zj2 ⟨k,c,a0,b0,a1,b1,a2,b2,a3,b3,a4,b4,lo,hi,ft,fl,bu⟩ d).a3,.int .i64 (zj2 ⟨k,c,a0,b0,a1,b1,a2,b2,a3,b3,a4,b4,lo,hi,ft,fl,bu⟩ d).b3,
   .int .i64 (zj2 ⟨k,c,a0,b0,a1,b1,a2,b2,a3,b3,a4,b4,lo,hi,ft,fl,bu⟩ d).a4,.int .i64 (zj2 ⟨k,c,a0,b0,a1,b1,a2,b2,a3,b3,a4,b4,lo,hi,ft,fl,bu⟩ d).b4,
   .int .i64 (zj2 ⟨k,c,a0,b0,a1,b1,a2,b2,a3,b3,a4,b4,lo,hi,ft,fl,bu⟩ d).lo,.int .i64 (zj2 ⟨k,c,a0,b0,a1,b1,a2,b2,a3,b3,a4,b4,lo,hi,ft,fl,bu⟩ d).hi,
   .int .i64 (zj2 ⟨k,c,a0,b0,a1,b1,a2,b2,a3,b3,a4,b4,lo,hi,ft,fl,bu⟩ d).ft,.bool (zj2 ⟨k,c,a0,b0,a1,b1,a2,b2,a3,b3,a4,b4,lo,hi,ft,fl,bu⟩ d).fl,
   .int .i64 (zj2 ⟨k,c,a0,b0,a1,b1,a2,b2,a3,b3,a4,b4,lo,hi,ft,fl,bu⟩ d).bu]) []) .no
 | _=>.no
def zk6 (n:Int):Bool:=decide (0≤n)&&decide (n≤1073741824)
def zf2:z0o
 | [.int .i64 n]=>.ok (.bool (zk6 n)) []
 | _=>.no
def zb4:z0o
 | [.str s]=>.ok (.int .i64 (z58 s)) []
 | _=>.no
def zcu:z0o
 | [.str s]=>.br (decide (s.size < 4294967281)) (.ok (.int .i64 (zm5 s)) []) .no
 | _=>.no
abbrev zqp:ByteArray:=⟨#[114,97,110,103,101]⟩
abbrev y33:ByteArray:=⟨#[98,101,115,116]⟩
abbrev zr2:ByteArray:=⟨#[114,105,115,101,115]⟩
abbrev znr:ByteArray:=⟨#[102,97,108,108,115]⟩
abbrev ymw:ByteArray:=⟨#[102,114,111,109]⟩
abbrev yug:ByteArray:=⟨#[116,111]⟩
abbrev ysx:ByteArray:=⟨#[98,121]⟩
abbrev ypg:ByteArray:=⟨#[105,110]⟩
abbrev zhp:ByteArray:=⟨#[98,117,100,103,101,116]⟩
abbrev yey:ByteArray:=⟨#[46,46]⟩
abbrev z5a:ByteArray:=⟨#[32]⟩
def ygv (a b:Int):ByteArray:=z0i a++yey++z0i b
def yi4 (q:Qy):List ByteArray:=
 cond (q.k==1) [zqp,z0n q.c,ymw,z0i q.lo,yug,z0i q.hi]
 (cond (q.k==2) [y33,z0n q.c] [cond q.fl znr zr2,z0n q.c,ysx,z0n q.ft])
def Qy.spans (q:Qy):List (Int × Int):=[(q.a0,q.b0),(q.a1,q.b1),(q.a2,q.b2),(q.a3,q.b3),(q.a4,q.b4)]
def ymf (q:Qy) (d:Nat):List ByteArray:=yi4 q++ypg :: ((q.spans.take d).map fun s=>ygv s.1 s.2)++[zhp,z0n q.bu]
def okQ (q:Qy) (d:Int):Bool:=
 (!(decide (d < 1))&&!(decide (d > 4)))&&(q.eq (zj2 q d)&&(zk6 q.c&&(zk6 q.ft&&(zk6 q.bu&&((q.k==1)||((q.k==2)||(q.k==3)))))))
def y7j (q:Qy) (d:Int):ByteArray:=cond (okQ q d) (zcb (ymf q d.toNat) z5a) ygg
def zfz:z0o
 | [.agg [.int .i64 k,.int .i64 c,.int .i64 a0,.int .i64 b0,.int .i64 a1,.int .i64 b1,.int .i64 a2,.int .i64 b2,.int .i64 a3,.int .i64 b3,.int .i64 a4,.int .i64 b4,.int .i64 lo,.int .i64 hi,.int .i64 ft,.bool fl,.int .i64 bu],.int .i64 d]=>
  .ok (.str (y7j ⟨k,c,a0,b0,a1,b1,a2,b2,a3,b3,a4,b4,lo,hi,ft,fl,bu⟩ d)) []
 | _=>.no
def wAt (l:List IV) (i:Nat):ByteArray:=(l.getD i default).toStr
def z3v (l:List IV):Qy:=
 cond ((wAt l 0).toList==zqp.toList) ⟨1,z58 (wAt l 1),0,0,0,0,0,0,0,0,0,0,zm5 (wAt l 3),zm5 (wAt l 5),0,false,0⟩
 (cond ((wAt l 0).toList==y33.toList) ⟨2,z58 (wAt l 1),0,0,0,0,0,0,0,0,0,0,0,0,0,false,0⟩
 (cond ((wAt l 0).toList==zr2.toList||(wAt l 0).toList==znr.toList) ⟨3,z58 (wAt l 1),0,0,0,0,0,0,0,0,0,0,0,0,z58 (wAt l 3),(wAt l 0).toList==znr.toList,0⟩
 ⟨0,z58 (wAt l 1),0,0,0,0,0,0,0,0,0,0,0,0,0,false,0⟩))
def zhh:z0o
 | [.list false [.str] l]=>.br (decide (l.length≤4294967290)&&l.all (fun x=>decide (x.toStr.size < 4294967281)))
  (.ok (.agg [.int .i64 (z3v l).k,.int .i64 (z3v l).c,.int .i64 (z3v l).a0,.int .i64 (z3v l).b0,.int .i64 (z3v l).a1,.int .i64 (z3v l).b1,.int .i64 (z3v l).a2,.int .i64 (z3v l).b2,.int .i64 (z3v l).a3,.int .i64 (z3v l).b3,.int .i64 (z3v l).a4,.int .i64 (z3v l).b4,
   .int .i64 (z3v l).lo,.int .i64 (z3v l).hi,.int .i64 (z3v l).ft,.bool (z3v l).fl,.int .i64 (z3v l).bu]) []) .no
 | _=>.no
def spA (l:List IV) (i:Nat):Int:=zm5 (cutL (wAt l i) yey)
def spB (l:List IV) (i:Nat):Int:=zm5 (zgp (wAt l i) yey)
def yuz (l:List IV) (i d:Nat):Qy:=
 ⟨(
  z3v (l.take i)).k,(z3v (l.take i)).c,
  cond (Nat.blt 0 d) (spA l (i+1)) 0,cond (Nat.blt 0 d) (spB l (i+1)) 0,cond (Nat.blt 1 d) (spA l (i+2)) 0,cond (Nat.blt 1 d) (spB l (i+2)) 0,cond (Nat.blt 2 d) (spA l (i+3)) 0,cond (Nat.blt 2 d) (spB l (i+3)) 0,cond (Nat.blt 3 d) (spA l (i+4)) 0,cond (Nat.blt 3 d) (spB l (i+4)) 0,0,0,
  (z3v (l.take i)).lo,(z3v (l.take i)).hi,(z3v (l.take i)).ft,(z3v (l.take i)).fl,z58 (wAt l (l.length - 1))⟩
def zck (s:ByteArray):List IV:=(z0d s z5a).map IV.str
def zv2 (s:ByteArray):Int:=zhq (zck s) ypg 0
def zw8 (s:ByteArray):Int:=ic (zck s).length - 2 - zv2 s - 1
def yql (s:ByteArray):Qy:=yuz (zck s) (zv2 s).toNat (zw8 s).toNat
def y6g (s:ByteArray):Bool:=(!(decide (zv2 s < 0))&&(!(decide (zw8 s < 1))&&!(decide (zw8 s > 4))))&&(y7j (yql s) (zw8 s)).toList==s.toList
def zco (s:ByteArray):Qy:=cond (y6g s) (yql s) Qy.none
def ykf (s:ByteArray):Int:=cond (y6g s) (zw8 s) 0
def zar:z0o
 | [.str s]=>.br (decide (s.size < 4294967281))
  (.ok (.tup [.agg [.int .i64 (zco s).k,.int .i64 (zco s).c,.int .i64 (zco s).a0,.int .i64 (zco s).b0,.int .i64 (zco s).a1,.int .i64 (zco s).b1,.int .i64 (zco s).a2,.int .i64 (zco s).b2,.int .i64 (zco s).a3,.int .i64 (zco s).b3,.int .i64 (zco s).a4,.int .i64 (zco s).b4,
   .int .i64 (zco s).lo,.int .i64 (zco s).hi,.int .i64 (zco s).ft,.bool (zco s).fl,.int .i64 (zco s).bu],.int .i64 (ykf s),.bool (y6g s)]) []) .no
 | _=>.no
open Go
def z4z (l:List IV) (i:Int):Int:=cond (ic l.length==0) 0 (l.getD (i.tmod (ic l.length)).toNat default).toInt
def z3l:z0o
 | [.list false [.int .i64] l,.int .i64 i]=>.br (decide (0≤i)) (.ok (.int .i64 (z4z l i)) []) .no
 | _=>.no
def z2c (n:Int):Bool:=decide (-2147483648≤n)&&decide (n≤2147483647)
def z8g:z0o
 | [.int .i64 n,.int .i64 w]=>.br (decide (w=32)) (.ok (.bool (z2c n)) []) .no
 | _=>.no
def y9n (lf:Bool) (v f a l r:Int):Bool:=
 cond lf (z2c v&&((f==0)&&((a==0)&&((l==0)&&(r==0)))))
  ((v==0)&&(decide (0≤f)&&(decide (f < 4)&&(z2c a&&(decide (1≤l)&&(decide (l < 31)&&(decide (1≤r)&&decide (r < 31))))))))
def z4v:z0o
 | [.agg [.bool lf,.int .i64 v,.int .i64 f,.int .i64 a,.int .i64 l,.int .i64 r]]=>.ok (.bool (y9n lf v f a l r)) []
 | _=>.no
def yud (a b:Int):Int:=y59 (ic (BitVec.toNat (BitVec.ofInt (IntKind.bits IntKind.u64) a &&& BitVec.ofInt (IntKind.bits IntKind.u64) b)))
def orU (a b:Int):Int:=y59 (ic (BitVec.toNat (BitVec.ofInt (IntKind.bits IntKind.u64) a ||| BitVec.ofInt (IntKind.bits IntKind.u64) b)))
def yse (a:Int) (k:Nat):Int:=y59 (a*2 ^ k)
def zu0 (lf:Bool) (v f a l r:Int):Int:=
 cond (y9n lf v f a l r)
  (cond lf (orU 9223372036854775808 (yud (y59 v) 4294967295))
   (orU (orU (orU (yud (y59 a) 4294967295) (yse (y59 f) 32)) (yse (y59 l) 40)) (yse (y59 r) 48)))
  0
def z5b:z0o
 | [.agg [.bool lf,.int .i64 v,.int .i64 f,.int .i64 a,.int .i64 l,.int .i64 r]]=>.ok (.int .u64 (zu0 lf v f a l r)) []
 | _=>.no
def mkN (lf:Bool) (v f a l r:Int):IV:=.agg [.bool lf,.int v,.int f,.int a,.int l,.int r]
def yl1 (v:Int):IV:=mkN true v 0 0 0 0
def yrx (x:IV):IV:=.int (zu0 (x.cell 0).toBool (x.cell 1).toInt (x.cell 2).toInt (x.cell 3).toInt (x.cell 4).toInt (x.cell 5).toInt)
structure Ns where
 nodes:List IV
 leaves:List IV
def nsK (part:List IV) (i:Nat) (s:Ns):Int:=z03 (part.getD i default).toInt 0 (ic s.leaves.length - 1)
def yp9 (part:List IV) (i:Nat) (s:Ns):Int:=(s.leaves.getD (nsK part i s).toNat default).toInt
def zek (part byl atl val:List IV) (dim:Int) (i:Nat) (s:Ns):Ns:=
 ⟨s.nodes.set (yp9 part i s).toNat (mkN false 0 (z03 (z4z byl (i:Int)) 0 (dim - 1)) (z03 (z4z atl (i:Int)) 0 9) (ic s.nodes.length) (ic s.nodes.length+1)) ++
   [yl1 (z03 (z4z val (2*(i:Int)+1)) (-3000) 3000),yl1 (z03 (z4z val (2*(i:Int)+2)) (-3000) 3000)],
  s.leaves.take (nsK part i s).toNat++s.leaves.drop ((nsK part i s).toNat+1)++[.int (ic s.nodes.length),.int (ic s.nodes.length+1)]⟩
def ylg (part byl atl val:List IV) (dim:Int):Nat→Nat→Ns→Ns
 | 0,_,s=>s
 | d+1,i,s=>ylg part byl atl val dim d (i+1) (zek part byl atl val dim i s)
def ztf (part byl atl val:List IV) (dim:Int):Ns:=ylg part byl atl val dim (min part.length 7) 0 ⟨[yl1 (z03 (z4z val 0) (-3000) 3000)],[.int 0]⟩
def y2e (part byl atl val:List IV) (dim:Int):List IV:=(ztf part byl atl val dim).nodes.map yrx
def z4h:z0o
 | [.agg [.int .i64 _,.list false [.int .i64] part,.list false [.int .i64] byl,.list false [.int .i64] atl,.list false [.int .i64] val],.int .i64 dim]=>
  .br (decide (1≤dim)&&decide (dim≤4)) (.ok (.list false [.int .u64] (y2e part byl atl val dim)) []) .no
 | _=>.no
def yu7 (d:Int):Int:=z03 d 1 3
def yst (c:Int):Int:=z03 c 1 3
def yd1 (c:Int) (bias:List IV) (j:Int):Int:=cond (decide (j < yst c)) (z03 (z4z bias j) (-500) 500) 0
def yt6 (d c:Int) (t:IV):IV:=.agg [.int (z03 (t.cell 0).toInt 0 (yst c - 1)),.list (y2e (t.cell 1).toList (t.cell 2).toList (t.cell 3).toList (t.cell 4).toList (yu7 d))]
def ykt (d c:Int) (ts:List IV):List IV:=(ts.take 4).map (yt6 d c)
def z54:z0o
 | [.agg [.int .i64 d,.int .i64 c,.list false [.int .i64] bias,.list true [.int .i64,.list false [.int .i64],.list false [.int .i64],.list false [.int .i64],.list false [.int .i64]] ts]]=>
  .ok (.agg [.int .i64 (yu7 d),.int .i64 (yst c),.int .i64 (yd1 c bias 0),.int .i64 (yd1 c bias 1),.int .i64 (yd1 c bias 2),.list true [.int .i64,.list false [.int .u64]] (ykt d c ts)]) []
 | _=>.no
def zjt (d:Int) (l:List IV) (i:Int):Int:=cond (decide (i < d)) (z03 (z4z l (2*i)) (-2) 9) 0
def zju (d:Int) (l:List IV) (i:Int):Int:=cond (decide (i < d)) (z03 (z4z l (2*i)) (-2) 9+z03 (z4z l (2*i+1)) 0 11) 0
def z6o:z0o
 | [.agg [.int .i64 d,.int .i64 _,.int .i64 _,.int .i64 _,.int .i64 _,.list true [.int .i64,.list false [.int .u64]] _],.list false [.int .i64] l]=>
  .br (decide (0≤d)&&decide (d≤4)) (.ok (.agg [.int .i64 (zjt d l 0),.int .i64 (zju d l 0),.int .i64 (zjt d l 1),.int .i64 (zju d l 1),.int .i64 (zjt d l 2),.int .i64 (zju d l 2),.int .i64 (zjt d l 3),.int .i64 (zju d l 3),.int .i64 0,.int .i64 0]) []) .no
 | _=>.no
structure Ak where
 k:Int
 c:Int
 lo:Int
 size:Int
 ft:Int
 bu:Int
 fl:Bool
 sp:List IV
def yhs (a:Ak) (cls:Int):Int:=cond (z03 a.k 1 3==2&&decide (cls < 2)) 1 (z03 a.k 1 3)
def loA (a:Ak):Int:=z03 a.lo (-9000) 9000
def zc0 (a:Ak) (dim cls:Int):Qy:=
 ⟨yhs a cls,z03 a.c 0 (cls - 1),zjt dim a.sp 0,zju dim a.sp 0,zjt dim a.sp 1,zju dim a.sp 1,zjt dim a.sp 2,zju dim a.sp 2,zjt dim a.sp 3,zju dim a.sp 3,0,0,
  cond (yhs a cls==1) (loA a) 0,cond (yhs a cls==1) (loA a+z03 a.size 0 18000) 0,cond (yhs a cls==3) (z03 a.ft 0 (dim - 1)) 0,cond (yhs a cls==3) a.fl false,z03 a.bu 0 65536⟩
def z6l:z0o
 | [.agg [.int .i64 k,.int .i64 c,.int .i64 lo,.int .i64 size,.int .i64 ft,.int .i64 bu,.bool fl,.list false [.int .i64] sp],.agg [.int .i64 dim,.int .i64 cls,.int .i64 _,.int .i64 _,.int .i64 _,.list true [.int .i64,.list false [.int .u64]] _]]=>
  .br ((decide (1≤dim)&&decide (dim≤4))&&(decide (1≤cls)&&decide (cls≤3)))
   (.ok (.agg [.int .i64 (zc0 ⟨k,c,lo,size,ft,bu,fl,sp⟩ dim cls).k,.int .i64 (zc0 ⟨k,c,lo,size,ft,bu,fl,sp⟩ dim cls).c,
    .int .i64 (zc0 ⟨k,c,lo,size,ft,bu,fl,sp⟩ dim cls).a0,.int .i64 (zc0 ⟨k,c,lo,size,ft,bu,fl,sp⟩ dim cls).b0,.int .i64 (zc0 ⟨k,c,lo,size,ft,bu,fl,sp⟩ dim cls).a1,.int .i64 (zc0 ⟨k,c,lo,size,ft,bu,fl,sp⟩ dim cls).b1,
    .int .i64 (zc0 ⟨k,c,lo,size,ft,bu,fl,sp⟩ dim cls).a2,.int .i64 (zc0 ⟨k,c,lo,size,ft,bu,fl,sp⟩ dim cls).b2,.int .i64 (zc0 ⟨k,c,lo,size,ft,bu,fl,sp⟩ dim cls).a3,.int .i64 (zc0 ⟨k,c,lo,size,ft,bu,fl,sp⟩ dim cls).b3,
    .int .i64 (zc0 ⟨k,c,lo,size,ft,bu,fl,sp⟩ dim cls).a4,.int .i64 (zc0 ⟨k,c,lo,size,ft,bu,fl,sp⟩ dim cls).b4,.int .i64 (zc0 ⟨k,c,lo,size,ft,bu,fl,sp⟩ dim cls).lo,.int .i64 (zc0 ⟨k,c,lo,size,ft,bu,fl,sp⟩ dim cls).hi,
    .int .i64 (zc0 ⟨k,c,lo,size,ft,bu,fl,sp⟩ dim cls).ft,.bool (zc0 ⟨k,c,lo,size,ft,bu,fl,sp⟩ dim cls).fl,.int .i64 (zc0 ⟨k,c,lo,size,ft,bu,fl,sp⟩ dim cls).bu]) []) .no
 | _=>.no
open Go Go.Proofs
def ztz (N:Nat):Env:=mkE [] [] 15 N
theorem zrj (N:Nat) (l:List IV) (i:Int):z0z (ztz N) zje [.tmp 4] [[.int .i64]] [(.list false [.int .i64] l),(.i i)]=(cond (ic (List.length l)==0) (some ((.i 0),[])) (cond (decide (ic (List.length l)=0)) none (cond (decide (0≤Int.tmod i (ic (List.length l)))&&decide (Int.tmod i (ic (List.length l)) < ic (List.length l))) (some ((.i (IV.toInt (List.getD l (Int.toNat (Int.tmod i (ic (List.length l)))) default))),[])) none))):=by kernel_rfl
def zui (N:Nat):Env:=mkE [] [] 27 N
theorem zr0 (N:Nat) (n w:Int):z0z (zui N) ziu [.tmp 4] [[.bool]] [(.i n),(.i w)]=(cond (decide (w < 1)) (some ((.bool false),[])) (cond (decide (w > 64)) (some ((.bool false),[])) (cond (w==64) (some ((.bool true),[])) (cond (decide (IntKind.wrap IntKind.i64 (w - 1) < 0)) none (cond (decide (n≥IntKind.wrap IntKind.i64 (0 - IntKind.wrap IntKind.i64 (1*2 ^ min (Int.toNat (IntKind.wrap IntKind.i64 (w - 1))) (IntKind.bits IntKind.i64))))) (some ((.bool (decide (n≤IntKind.wrap IntKind.i64 (IntKind.wrap IntKind.i64 (1*2 ^ min (Int.toNat (IntKind.wrap IntKind.i64 (w - 1))) (IntKind.bits IntKind.i64)) - 1)))),[])) (some ((.bool false),[]))))))):=by kernel_rfl
def zl3 (N:Nat):Env:=mkE [(160,z8g)] [] 66 N
theorem zjk (N:Nat) (u01:Bool) (u04 u00 n_At u02 u03:Int):z0z (zl3 N) zdg [.tmp 2] [[.bool]] [(.agg [(.bool u01),(.i u04),(.i u00),(.i n_At),(.i u02),(.i u03)])]=(cond u01 (cond (z2c u04) (cond (u00==0) (cond (n_At==0) (cond (u02==0) (some ((.bool (u03==0)),[])) (some ((.bool false),[]))) (some ((.bool false),[]))) (some ((.bool false),[]))) (some ((.bool false),[]))) (cond (u04==0) (cond (decide (u00≥0)) (cond (decide (u00 < 4)) (cond (z2c n_At) (cond (decide (u02≥1)) (cond (decide (u02 < 31)) (cond (decide (u03≥1)) (some ((.bool (decide (u03 < 31))),[])) (some ((.bool false),[]))) (some ((.bool false),[]))) (some ((.bool false),[]))) (some ((.bool false),[]))) (some ((.bool false),[]))) (some ((.bool false),[]))) (some ((.bool false),[])))):=by kernel_rfl
def zu6 (N:Nat):Env:=mkE [(117,z4v)] [] 32 N
theorem zsi (N:Nat) (u01:Bool) (u04 u00 n_At u02 u03:Int):z0z (zu6 N) zjc [.tmp 2] [[.int .u64]] [(.agg [(.bool u01),(.i u04),(.i u00),(.i n_At),(.i u02),(.i u03)])]=(cond (!y9n u01 u04 u00 n_At u02 u03) (some ((.int .u64 0),[])) (cond u01 (some ((.int .u64 (IntKind.wrap IntKind.u64 (ic (BitVec.toNat (BitVec.ofInt (IntKind.bits IntKind.u64) 9223372036854775808 ||| BitVec.ofInt (IntKind.bits IntKind.u64) (IntKind.wrap IntKind.u64 (ic (BitVec.toNat (BitVec.ofInt (IntKind.bits IntKind.u64) (IntKind.wrap IntKind.u64 u04) &&& BitVec.ofInt (IntKind.bits IntKind.u64) 4294967295))))))))),[])) (some ((.int .u64 (IntKind.wrap IntKind.u64 (ic (BitVec.toNat (BitVec.ofInt (IntKind.bits IntKind.u64) (IntKind.wrap IntKind.u64 (ic (BitVec.toNat (BitVec.ofInt (IntKind.bits IntKind.u64) (IntKind.wrap IntKind.u64 (ic (BitVec.toNat (BitVec.ofInt (IntKind.bits IntKind.u64) (IntKind.wrap IntKind.u64 (ic (BitVec.toNat (BitVec.ofInt (IntKind.bits IntKind.u64) (IntKind.wrap IntKind.u64 n_At) &&& BitVec.ofInt (IntKind.bits IntKind.u64) 4294967295)))) ||| BitVec.ofInt (IntKind.bits IntKind.u64) (IntKind.wrap IntKind.u64 (IntKind.wrap IntKind.u64 u00*2 ^ min (Int.toNat 32) (IntKind.bits IntKind.u64))))))) ||| BitVec.ofInt (IntKind.bits IntKind.u64) (IntKind.wrap IntKind.u64 (IntKind.wrap IntKind.u64 u02*2 ^ min (Int.toNat 40) (IntKind.bits IntKind.u64))))))) ||| BitVec.ofInt (IntKind.bits IntKind.u64) (IntKind.wrap IntKind.u64 (IntKind.wrap IntKind.u64 u03*2 ^ min (Int.toNat 48) (IntKind.bits IntKind.u64)))))))),[])))):=by kernel_rfl
def z2p (N:Nat):Env:=mkE [(17,z1s),(38,z3l)] [(3,⟨[1,4,5,9,10],[4,5],[]⟩)] 32 N
abbrev z27 (l1:List IV) (x9 x10 u00 u01 u02 u03 u04 u05 u06 u07 u08 u09 u0a u0b u0c u0d u0e u0f u0g u0h u0i u0j:Int):St:=⟨[(1,(.list false [(.int .i64)] l1)),(4,(.ptr 4 0 0)),(5,(.ptr 5 0 0)),(9,(.i x9)),(10,(.i x10))],[(4,(some (.box [(.i u00),(.i u01),(.i u02),(.i u03),(.i u04),(.i u05),(.i u06),(.i u07),(.i u08),(.i u09)]))),(5,(some (.box [(.i u0a),(.i u0b),(.i u0c),(.i u0d),(.i u0e),(.i u0f),(.i u0g),(.i u0h),(.i u0i),(.i u0j)])))]⟩
theorem zni (N:Nat) (u04 u03 u00 u01 u02:Int) (u05 l:List IV):z0z (z2p N) z3d [.cell 4 36] [[.int .i64,.int .i64,.int .i64,.int .i64,.int .i64,.int .i64,.int .i64,.int .i64,.int .i64,.int .i64]] [(.agg [(.i u04),(.i u03),(.i u00),(.i u01),(.i u02),(.list true [.int .i64,.list false [.int .u64]] u05)]),(.list false [.int .i64] l)]=(lpE (z2p N) (z0f z3d [1,1,0,1,0,0]) ⟨[1,4,5,9,10],[4,5],[]⟩ N (z27 l u04 0 0 0 0 0 0 0 0 0 0 0 0 0 0 0 0 0 0 0 0 0) (z05 0 (kSq (z2p N) (z0f z3d [1,1,1]) (z2s (z2p N) none [(ResultVar.cell 4 36)] [[(.int .i64),(.int .i64),(.int .i64),(.int .i64),(.int .i64),(.int .i64),(.int .i64),(.int .i64),(.int .i64),(.int .i64)]])))):=by kernel_rfl
theorem zdo (N:Nat) (l1:List IV) (x9 x10 u00 u01 u02 u03 u04 u05 u06 u07 u08 u09 u0a u0b u0c u0d u0e u0f u0g u0h u0i u0j:Int) (again:St→Res) (k:Out→St→Res):rnd (z2p N) (z0f z3d [1,1,0,1,0,0]) (z27 l1 x9 x10 u00 u01 u02 u03 u04 u05 u06 u07 u08 u09 u0a u0b u0c u0d u0e u0f u0g u0h u0i u0j) (z3t again ⟨[1,4,5,9,10],[4,5],[]⟩ k)=(cond (decide (x10 < x9)) (cond (decide (0≤IntKind.wrap IntKind.i64 (2*x10))) (cond (decide (0≤IntKind.wrap IntKind.i64 (IntKind.wrap IntKind.i64 (2*x10)+1))) (cond (decide (x10=ic 0)) (again (z27 l1 x9 (IntKind.wrap IntKind.i64 (x10+1)) u00 u01 u02 u03 u04 u05 u06 u07 u08 u09 (z03 (z4z l1 (IntKind.wrap IntKind.i64 (2*x10))) (-2) 9) (IntKind.wrap IntKind.i64 (z03 (z4z l1 (IntKind.wrap IntKind.i64 (2*x10))) (-2) 9+z03 (z4z l1 (IntKind.wrap IntKind.i64 (IntKind.wrap IntKind.i64 (2*x10)+1))) 0 11)) u0c u0d u0e u0f u0g u0h u0i u0j)) (cond (decide (x10=ic 1)) (again (z27 l1 x9 (IntKind.wrap IntKind.i64 (x10+1)) u00 u01 u02 u03 u04 u05 u06 u07 u08 u09 u0a u0b (z03 (z4z l1 (IntKind.wrap IntKind.i64 (2*x10))) (-2) 9) (IntKind.wrap IntKind.i64 (z03 (z4z l1 (IntKind.wrap IntKind.i64 (2*x10))) (-2) 9+z03 (z4z l1 (IntKind.wrap IntKind.i64 (IntKind.wrap IntKind.i64 (2*x10)+1))) 0 11)) u0e u0f u0g u0h u0i u0j)) (cond (decide (x10=ic 2)) (again (z27 l1 x9 (IntKind.wrap IntKind.i64 (x10+1)) u00 u01 u02 u03 u04 u05 u06 u07 u08 u09 u0a u0b u0c u0d (z03 (z4z l1 (IntKind.wrap IntKind.i64 (2*x10))) (-2) 9) (IntKind.wrap IntKind.i64 (z03 (z4z l1 (IntKind.wrap IntKind.i64 (2*x10))) (-2) 9+z03 (z4z l1 (IntKind.wrap IntKind.i64 (IntKind.wrap IntKind.i64 (2*x10)+1))) 0 11)) u0g u0h u0i u0j)) (cond (decide (x10=ic 3)) (again (z27 l1 x9 (IntKind.wrap IntKind.i64 (x10+1)) u00 u01 u02 u03 u04 u05 u06 u07 u08 u09 u0a u0b u0c u0d u0e u0f (z03 (z4z l1 (IntKind.wrap IntKind.i64 (2*x10))) (-2) 9) (IntKind.wrap IntKind.i64 (z03 (z4z l1 (IntKind.wrap IntKind.i64 (2*x10))) (-2) 9+z03 (z4z l1 (IntKind.wrap IntKind.i64 (IntKind.wrap IntKind.i64 (2*x10)+1))) 0 11)) u0i u0j)) (cond (decide (x10=ic 4)) (again (z27 l1 x9 (IntKind.wrap IntKind.i64 (x10+1)) u00 u01 u02 u03 u04 u05 u06 u07 u08 u09 u0a u0b u0c u0d u0e u0f u0g u0h (z03 (z4z l1 (IntKind.wrap IntKind.i64 (2*x10))) (-2) 9) (IntKind.wrap IntKind.i64 (z03 (z4z l1 (IntKind.wrap IntKind.i64 (2*x10))) (-2) 9+z03 (z4z l1 (IntKind.wrap IntKind.i64 (IntKind.wrap IntKind.i64 (2*x10)+1))) 0 11)))) none))))) none) none) (k (.exit 0) (z27 l1 x9 x10 u00 u01 u02 u03 u04 u05 u06 u07 u08 u09 u0a u0b u0c u0d u0e u0f u0g u0h u0i u0j))):=by kernel_rfl
theorem zht (N:Nat) (l1:List IV) (x9 x10 u00 u01 u02 u03 u04 u05 u06 u07 u08 u09 u0a u0b u0c u0d u0e u0f u0g u0h u0i u0j:Int):(z05 0 (kSq (z2p N) (z0f z3d [1,1,1]) (z2s (z2p N) none [(ResultVar.cell 4 36)] [[(.int .i64),(.int .i64),(.int .i64),(.int .i64),(.int .i64),(.int .i64),(.int .i64),(.int .i64),(.int .i64),(.int .i64)]]))) (.exit 0) (z27 l1 x9 x10 u00 u01 u02 u03 u04 u05 u06 u07 u08 u09 u0a u0b u0c u0d u0e u0f u0g u0h u0i u0j)=(some ((.agg [(.i u0a),(.i u0b),(.i u0c),(.i u0d),(.i u0e),(.i u0f),(.i u0g),(.i u0h),(.i u0i),(.i u0j)]),[])):=by kernel_rfl
open Go Go.Proofs
def zkn (N:Nat):Env:=mkE [(17,z1s),(40,z6o)] [] 58 N
theorem zjs (N:Nat) (u04 u01 a_Lo u05 u03 u00:Int) (u02:Bool) (u06:List IV) (u0b u0a u07 u08 u09:Int) (u0c:List IV):z0z (zkn N) zdh [.cell 4 38] [[.int .i64,.int .i64,.int .i64,.int .i64,.int .i64,.int .i64,.int .i64,.int .i64,.int .i64,.int .i64,.int .i64,.int .i64,.int .i64,.int .i64,.int .i64,.bool,.int .i64]] [(.agg [(.i u04),(.i u01),(.i a_Lo),(.i u05),(.i u03),(.i u00),(.bool u02),(.list false [.int .i64] u06)]),(.agg [(.i u0b),(.i u0a),(.i u07),(.i u08),(.i u09),(.list true [.int .i64,.list false [.int .u64]] u0c)])]=(cond (decide (zcc 0 (IntKind.wrap IntKind.i64 (u0a - 1))=0)) none (cond (decide (0≤u0b)&&decide (u0b≤4)) (cond (z03 u04 1 3==2) (cond (decide (u0a < 2)) (some ((.agg [(.i 1),(.i (z03 u01 0 (IntKind.wrap IntKind.i64 (u0a - 1)))),(.i (zjt u0b u06 0)),(.i (zju u0b u06 0)),(.i (zjt u0b u06 1)),(.i (zju u0b u06 1)),(.i (zjt u0b u06 2)),(.i (zju u0b u06 2)),(.i (zjt u0b u06 3)),(.i (zju u0b u06 3)),(.i 0),(.i 0),(.i (z03 a_Lo (-9000) 9000)),(.i (IntKind.wrap IntKind.i64 (z03 a_Lo (-9000) 9000+z03 u05 0 18000))),(.i 0),(.bool false),(.i (z03 u00 0 65536))]),[])) (cond (z03 u04 1 3==1) (some ((.agg [(.i (z03 u04 1 3)),(.i (z03 u01 0 (IntKind.wrap IntKind.i64 (u0a - 1)))),(.i (zjt u0b u06 0)),(.i (zju u0b u06 0)),(.i (zjt u0b u06 1)),(.i (zju u0b u06 1)),(.i (zjt u0b u06 2)),(.i (zju u0b u06 2)),(.i (zjt u0b u06 3)),(.i (zju u0b u06 3)),(.i 0),(.i 0),(.i (z03 a_Lo (-9000) 9000)),(.i (IntKind.wrap IntKind.i64 (z03 a_Lo (-9000) 9000+z03 u05 0 18000))),(.i 0),(.bool false),(.i (z03 u00 0 65536))]),[])) (some ((.agg [(.i (z03 u04 1 3)),(.i (z03 u01 0 (IntKind.wrap IntKind.i64 (u0a - 1)))),(.i (zjt u0b u06 0)),(.i (zju u0b u06 0)),(.i (zjt u0b u06 1)),(.i (zju u0b u06 1)),(.i (zjt u0b u06 2)),(.i (zju u0b u06 2)),(.i (zjt u0b u06 3)),(.i (zju u0b u06 3)),(.i 0),(.i 0),(.i 0),(.i 0),(.i 0),(.bool false),(.i (z03 u00 0 65536))]),[])))) (cond (z03 u04 1 3==3) (cond (decide (zcc 0 (IntKind.wrap IntKind.i64 (u0b - 1))=0)) none (cond (z03 u04 1 3==1) (some ((.agg [(.i (z03 u04 1 3)),(.i (z03 u01 0 (IntKind.wrap IntKind.i64 (u0a - 1)))),(.i (zjt u0b u06 0)),(.i (zju u0b u06 0)),(.i (zjt u0b u06 1)),(.i (zju u0b u06 1)),(.i (zjt u0b u06 2)),(.i (zju u0b u06 2)),(.i (zjt u0b u06 3)),(.i (zju u0b u06 3)),(.i 0),(.i 0),(.i (z03 a_Lo (-9000) 9000)),(.i (IntKind.wrap IntKind.i64 (z03 a_Lo (-9000) 9000+z03 u05 0 18000))),(.i (z03 u03 0 (IntKind.wrap IntKind.i64 (u0b - 1)))),(.bool u02),(.i (z03 u00 0 65536))]),[])) (some ((.agg [(.i (z03 u04 1 3)),(.i (z03 u01 0 (IntKind.wrap IntKind.i64 (u0a - 1)))),(.i (zjt u0b u06 0)),(.i (zju u0b u06 0)),(.i (zjt u0b u06 1)),(.i (zju u0b u06 1)),(.i (zjt u0b u06 2)),(.i (zju u0b u06 2)),(.i (zjt u0b u06 3)),(.i (zju u0b u06 3)),(.i 0),(.i 0),(.i 0),(.i 0),(.i (z03 u03 0 (IntKind.wrap IntKind.i64 (u0b - 1)))),(.bool u02),(.i (z03 u00 0 65536))]),[])))) (cond (z03 u04 1 3==1) (some ((.agg [(.i (z03 u04 1 3)),(.i (z03 u01 0 (IntKind.wrap IntKind.i64 (u0a - 1)))),(.i (zjt u0b u06 0)),(.i (zju u0b u06 0)),(.i (zjt u0b u06 1)),(.i (zju u0b u06 1)),(.i (zjt u0b u06 2)),(.i (zju u0b u06 2)),(.i (zjt u0b u06 3)),(.i (zju u0b u06 3)),(.i 0),(.i 0),(.i (z03 a_Lo (-9000) 9000)),(.i (IntKind.wrap IntKind.i64 (z03 a_Lo (-9000) 9000+z03 u05 0 18000))),(.i 0),(.bool false),(.i (z03 u00 0 65536))]),[])) (some ((.agg [(.i (z03 u04 1 3)),(.i (z03 u01 0 (IntKind.wrap IntKind.i64 (u0a - 1)))),(.i (zjt u0b u06 0)),(.i (zju u0b u06 0)),(.i (zjt u0b u06 1)),(.i (zju u0b u06 1)),(.i (zjt u0b u06 2)),(.i (zju u0b u06 2)),(.i (zjt u0b u06 3)),(.i (zju u0b u06 3)),(.i 0),(.i 0),(.i 0),(.i 0),(.i 0),(.bool false),(.i (z03 u00 0 65536))]),[]))))) none)):=by kernel_rfl
open Go Go.Proofs
theorem zbz:z32 PR B0 38 z3l:=by
 refine z0h [] [] z3l [[.int .i64]] Tryz.func38 zuv trivial ?_;intro vs r hwf h;unfold z3l at h
 split at h
 ·rename_i l i
  cases hc:decide (0≤i) with
  | false=>rw [hc] at h; simp [R.get] at h
  | true=>
   rw [hc,R.get_br,z00,R.get_ok] at h;have hc:=v0c hc;refine ⟨0,?_⟩;rw [← h];refine (zrj 0 l i).trans ?_;unfold z4z;cases h0:(ic (List.length l)==0) with
   | true=>rfl
   | false=>
    rw [zl9] at h0;have h0':=v0r h0;have hl:0 < (l.length:Int):=by simp only [ic] at h0'; omega
    have t0:=Int.tmod_nonneg (l.length:Int) hc;have t1:=Int.tmod_lt_of_pos i hl;rw [z01,h0,z01,v01 (show 0≤Int.tmod i (ic (List.length l)) from t0),v01 (show Int.tmod i (ic (List.length l)) < ic (List.length l) from t1),v1d,z00,z01]
 ·simp [R.get] at h
theorem zpg:z32 PR B0 160 z8g:=by
 refine z0h [] [] z8g [[.bool]] Tryz.func160 zuh trivial ?_;intro vs r hwf h;unfold z8g at h
 split at h
 ·rename_i n w
  cases hc:decide (w=32) with
  | false=>rw [hc] at h; simp [R.get] at h
  | true=>
   rw [hc,R.get_br,z00,R.get_ok] at h;have hc:=v0c hc;subst hc;refine ⟨0,?_⟩;rw [← h];refine (zr0 0 n 32).trans ?_;have e1:IntKind.wrap IntKind.i64 (0 - IntKind.wrap IntKind.i64 (1*2 ^ min (Int.toNat (IntKind.wrap IntKind.i64 ((32:Int) - 1))) (IntKind.bits IntKind.i64))) = -2147483648:=by kernel_rfl
   have e2:IntKind.wrap IntKind.i64 (IntKind.wrap IntKind.i64 (1*2 ^ min (Int.toNat (IntKind.wrap IntKind.i64 ((32:Int) - 1))) (IntKind.bits IntKind.i64)) - 1)=2147483647:=by kernel_rfl
   have e3:decide (IntKind.wrap IntKind.i64 ((32:Int) - 1) < 0)=false:=by kernel_rfl
   rw [e1,e2,e3];unfold z2c;have e4:decide (n ≥ -2147483648)=decide (-2147483648≤n):=rfl;rw [e4];cases decide (-2147483648≤n) <;> rfl
 ·simp [R.get] at h
theorem y8o (a b:Bool):cond a (some (V.bool b,[])) (some (V.bool false,[]))=(some (V.bool (a&&b),[]):Res):=by cases a <;> rfl
theorem zis:z32 PR B0 117 z4v:=by
 refine z0h [(160,z8g)] [] z4v [[.bool]] Tryz.func117 zkv ⟨zpg,trivial⟩ ?_;intro vs r hwf h;unfold z4v at h
 split at h
 ·rename_i lf v f a l r'
  refine ⟨0,?_⟩;rw [← h];refine (zjk 0 lf v f a l r').trans ?_;simp only [R.get_ok,y8o];unfold y9n;cases lf with
  | true=>rfl
  | false=>rfl
 ·simp [R.get] at h
theorem zgq:z32 PR B0 71 z5b:=by
 refine z0h [(117,z4v)] [] z5b [[.int .u64]] Tryz.func71 zut ⟨zis,trivial⟩ ?_;intro vs r hwf h;unfold z5b at h
 split at h
 ·rename_i lf v f a l r'
  refine ⟨0,?_⟩;rw [← h];refine (zsi 0 lf v f a l r').trans ?_;unfold zu0;cases y9n lf v f a l r' with
  | false=>rfl
  | true=>cases lf <;> rfl
 ·simp [R.get] at h
def rgA (l:List IV) (j:Int):Int:=z03 (z4z l (2*j)) (-2) 9
def rgB (l:List IV) (j:Int):Int:=z03 (z4z l (2*j)) (-2) 9+z03 (z4z l (2*j+1)) 0 11
def rgC (l:List IV) (i:Nat):List V:=[.int .i64 (cond (Nat.blt 0 i) (rgA l 0) 0),.int .i64 (cond (Nat.blt 0 i) (rgB l 0) 0),.int .i64 (cond (Nat.blt 1 i) (rgA l 1) 0),.int .i64 (cond (Nat.blt 1 i) (rgB l 1) 0),.int .i64 (cond (Nat.blt 2 i) (rgA l 2) 0),.int .i64 (cond (Nat.blt 2 i) (rgB l 2) 0),.int .i64 (cond (Nat.blt 3 i) (rgA l 3) 0),.int .i64 (cond (Nat.blt 3 i) (rgB l 3) 0),.int .i64 0,.int .i64 0]
abbrev stG (l:List IV) (D:Int) (i:Nat) (x:Int):St:=⟨[(1,(.list false [(.int .i64)] l)),(4,(.ptr 4 0 0)),(5,(.ptr 5 0 0)),(9,(.int .i64 D)),(10,(.int .i64 x))],[(4,(some (.box [(.int .i64 0),(.int .i64 0),(.int .i64 0),(.int .i64 0),(.int .i64 0),(.int .i64 0),(.int .i64 0),(.int .i64 0),(.int .i64 0),(.int .i64 0)]))),(5,(some (.box (rgC l i))))]⟩
theorem ytk (l:List IV) (j:Int):IntKind.wrap IntKind.i64 (z03 (z4z l (2*j)) (-2) 9+z03 (z4z l (2*j+1)) 0 11)=rgB l j:=by
 obtain ⟨_,a1,a2⟩:=z8c (n:=z4z l (2*j)) (lo := -2) (hi:=9) (by omega) (by omega) (by omega)
 obtain ⟨_,b1,b2⟩:=z8c (n:=z4z l (2*j+1)) (lo:=0) (hi:=11) (by omega) (by omega) (by omega)
 exact z0s (by omega) (by omega)
theorem yay (N:Nat) (l:List IV) (D:Int) (i:Nat) (hi:(i:Int) < D) (h4:i < 4) (again:St→Res) (k:Out→St→Res) :
  rnd (z2p N) (z0f z3d [1,1,0,1,0,0]) (stG l D i (i:Int)) (z3t again ⟨[1,4,5,9,10],[4,5],[]⟩ k)=again (stG l D (i+1) ((i+1:Nat):Int)):=by
 refine (zdo N l D i 0 0 0 0 0 0 0 0 0 0 (cond (Nat.blt 0 i) (rgA l 0) 0) (cond (Nat.blt 0 i) (rgB l 0) 0) (cond (Nat.blt 1 i) (rgA l 1) 0) (cond (Nat.blt 1 i) (rgB l 1) 0) (cond (Nat.blt 2 i) (rgA l 2) 0) (cond (Nat.blt 2 i) (rgB l 2) 0) (cond (Nat.blt 3 i) (rgA l 3) 0) (cond (Nat.blt 3 i) (rgB l 3) 0) 0 0 again k).trans ?_;have w2:IntKind.wrap IntKind.i64 (2*(i:Int))=2*(i:Int):=z0s (by omega) (by omega)
 have w3:IntKind.wrap IntKind.i64 (2*(i:Int)+1)=2*(i:Int)+1:=z0s (by omega) (by omega)
 rw [v01 hi,z00,w2,w3,v01 (show 0≤2*(i:Int) by omega),z00,v01 (show 0≤2*(i:Int)+1 by omega),z00,ytk]
 have hi4:i=0∨i=1∨i=2∨i=3:=by omega
 rcases hi4 with rfl | rfl | rfl | rfl
 ·rw [show decide (((0:Nat):Int)=ic 0)=true from rfl,z00]
  rfl
 ·rw [show decide (((1:Nat):Int)=ic 0)=false from rfl,show decide (((1:Nat):Int)=ic 1)=true from rfl,z01,z00]
  rfl
 ·rw [show decide (((2:Nat):Int)=ic 0)=false from rfl,show decide (((2:Nat):Int)=ic 1)=false from rfl,show decide (((2:Nat):Int)=ic 2)=true from rfl,z01,z01,z00]
  rfl
 ·rw [show decide (((3:Nat):Int)=ic 0)=false from rfl,show decide (((3:Nat):Int)=ic 1)=false from rfl,show decide (((3:Nat):Int)=ic 2)=false from rfl,show decide (((3:Nat):Int)=ic 3)=true from rfl,z01,z01,z01,z00]
  rfl
theorem y2q (N:Nat) (l:List IV) (D:Nat) (hD:D≤4) (K:Out→St→Res):∀ (d i n:Nat),i+d=D→d < n →
  lpE (z2p N) (z0f z3d [1,1,0,1,0,0]) ⟨[1,4,5,9,10],[4,5],[]⟩ n (stG l D i (i:Int)) K=K (.exit 0) (stG l D D (D:Int))
 | 0,i,n+1,hd,hn=>by
  have hi:i=D:=by omega
  subst hi;rw [z06];refine (zdo N l _ _ 0 0 0 0 0 0 0 0 0 0 (cond (Nat.blt 0 i) (rgA l 0) 0) (cond (Nat.blt 0 i) (rgB l 0) 0) (cond (Nat.blt 1 i) (rgA l 1) 0) (cond (Nat.blt 1 i) (rgB l 1) 0) (cond (Nat.blt 2 i) (rgA l 2) 0) (cond (Nat.blt 2 i) (rgB l 2) 0) (cond (Nat.blt 3 i) (rgA l 3) 0) (cond (Nat.blt 3 i) (rgB l 3) 0) 0 0 _ _).trans ?_;rw [v05 (show ¬ (i:Int) < (i:Int) by omega),z01]
  rfl
 | d+1,i,n+1,hd,hn=>by
  rw [z06,yay N l D i (by omega) (by omega)]
  exact y2q N l D hD K d (i+1) n (by omega) (by omega)
 | _,_,0,_,h=>by omega
theorem zm7:z32 PR B0 40 z6o:=by
 refine z0h [(17,z1s),(38,z3l)] [(3,⟨[1,4,5,9,10],[4,5],[]⟩)] z6o [[.int .i64,.int .i64,.int .i64,.int .i64,.int .i64,.int .i64,.int .i64,.int .i64,.int .i64,.int .i64]] Tryz.func40 zq9
  ⟨z79,zbz,trivial⟩ ?_
 intro vs r hwf h;unfold z6o at h
 split at h
 ·rename_i d c b0 b1 b2 ts l
  cases hc:(decide (0≤d)&&decide (d≤4)) with
  | false=>rw [hc] at h; simp [R.get] at h
  | true=>
   rw [hc,R.get_br,z00,R.get_ok] at h;simp only [v02,v07] at hc;refine ⟨10,?_⟩;rw [← h];refine (zni 10 d c b0 b1 b2 ts l).trans ?_;obtain ⟨D,rfl⟩:∃ D:Nat,d=D:=⟨d.toNat,by omega⟩
   refine (y2q 10 l D (by omega) _ D 0 10 (by omega) (by omega)).trans ?_
   refine (zht 10 l D D 0 0 0 0 0 0 0 0 0 0 (cond (Nat.blt 0 D) (rgA l 0) 0) (cond (Nat.blt 0 D) (rgB l 0) 0) (cond (Nat.blt 1 D) (rgA l 1) 0) (cond (Nat.blt 1 D) (rgB l 1) 0) (cond (Nat.blt 2 D) (rgA l 2) 0) (cond (Nat.blt 2 D) (rgB l 2) 0) (cond (Nat.blt 3 D) (rgA l 3) 0) (cond (Nat.blt 3 D) (rgB l 3) 0) 0 0).trans ?_;have hD:D=0∨D=1∨D=2∨D=3∨D=4:=by omega
   rcases hD with rfl | rfl | rfl | rfl | rfl <;> rfl
 ·simp [R.get] at h
theorem zik:z32 PR B0 16 z6l:=by
 refine z0h [(17,z1s),(40,z6o)] [] z6l [[.int .i64,.int .i64,.int .i64,.int .i64,.int .i64,.int .i64,.int .i64,.int .i64,.int .i64,.int .i64,.int .i64,.int .i64,.int .i64,.int .i64,.int .i64,.bool,.int .i64]] Tryz.func16 zky
  ⟨z79,zm7,trivial⟩ ?_
 intro vs r hwf h;unfold z6l at h
 split at h
 ·rename_i k c lo size ft bu fl sp dim cls b0 b1 b2 ts
  cases hc:((decide (1≤dim)&&decide (dim≤4))&&(decide (1≤cls)&&decide (cls≤3))) with
  | false=>rw [hc] at h; simp [R.get] at h
  | true=>
   rw [hc,R.get_br,z00,R.get_ok] at h;simp only [v02,v07] at hc;obtain ⟨⟨d1,d4⟩,c1,c3⟩:=hc;refine ⟨0,?_⟩;rw [← h];refine (zjs 0 k c lo size ft bu fl sp dim cls b0 b1 b2 ts).trans ?_;have w1:IntKind.wrap IntKind.i64 (cls - 1)=cls - 1:=z0s (by omega) (by omega)
   have w2:IntKind.wrap IntKind.i64 (dim - 1)=dim - 1:=z0s (by omega) (by omega)
   obtain ⟨m1,_,_⟩:=z8c (n:=c) (lo:=0) (hi:=cls - 1) (by omega) (by omega) (by omega)
   obtain ⟨m2,_,_⟩:=z8c (n:=ft) (lo:=0) (hi:=dim - 1) (by omega) (by omega) (by omega)
   obtain ⟨_,l1,l2⟩:=z8c (n:=lo) (lo := -9000) (hi:=9000) (by omega) (by omega) (by omega)
   obtain ⟨_,s1,s2⟩:=z8c (n:=size) (lo:=0) (hi:=18000) (by omega) (by omega) (by omega)
   have w3:IntKind.wrap IntKind.i64 (z03 lo (-9000) 9000+z03 size 0 18000)=z03 lo (-9000) 9000+z03 size 0 18000:=z0s (by omega) (by omega)
   rw [w1,w2,w3,m1,m2,v05 (show ¬ (cls - 1 - 0+1=0) by omega),v05 (show ¬ (dim - 1 - 0+1=0) by omega),v01 (show 0≤dim by omega),v01 (show dim≤4 by omega)]
   unfold zc0 yhs loA;obtain ⟨_,k1,k2⟩:=z8c (n:=k) (lo:=1) (hi:=3) (by omega) (by omega) (by omega)
   generalize z03 k 1 3=K at k1 k2;have hK:K=1∨K=2∨K=3:=by omega
   simp only;generalize decide (cls < 2)=cl;rcases hK with rfl | rfl | rfl <;> cases cl <;> rfl
 ·simp [R.get] at h
open Go
def z7w:z0o
 | [.int .i64 n,.int .i64 w]=>.br (decide (w=32)) (.ok (.bool (z2c n)) []) .no
 | _=>.no
def z93:z0o
 | [.int .i64 a,.int .i64 w]=>.br (decide (0≤a)&&decide (a < 64)) (.ok (.bool (decide (1≤w)&&decide (w≤64 - a))) []) .no
 | _=>.no
def ydh (w:Int):Int:=(18446744073709551615:Int).fdiv (2 ^ (64 - w).toNat)
def zas:z0o
 | [.int .i64 w]=>.br (decide (1≤w)&&decide (w≤64)) (.ok (.int .u64 (ydh w)) []) .no
 | _=>.no
def yqw (a b:Int):Int:=y59 (ic (BitVec.toNat (BitVec.ofInt (IntKind.bits IntKind.u64) a &&& ~~~ (BitVec.ofInt (IntKind.bits IntKind.u64) b))))
def ylk (x a w y:Int):Int:=orU (yqw x (yse (ydh w) a.toNat)) (yud (yse y a.toNat) (yse (ydh w) a.toNat))
def zt3 (x a w:Int):Int:=yud (x.fdiv (2 ^ a.toNat)) (ydh w)
def zha:z0o
 | [.int .u64 x,.int .i64 a,.int .i64 w,.int .u64 y]=>.br (decide (0≤a)&&(decide (a < 64)&&(decide (1≤w)&&decide (w≤64 - a)))) (.ok (.int .u64 (ylk x a w y)) []) .no
 | _=>.no
def z9t:z0o
 | [.int .u64 x,.int .i64 a,.int .i64 w]=>.br (decide (0≤a)&&(decide (a < 64)&&(decide (1≤w)&&decide (w≤64 - a)))) (.ok (.int .u64 (zt3 x a w)) []) .no
 | _=>.no
def ylm (n:Int):Int:=(zex (n*2 ^ 32)).fdiv (2 ^ 32)
def zg1:z0o
 | [.int .i64 n,.int .i64 w]=>.br (decide (w=32)) (.ok (.int .i64 (ylm n)) []) .no
 | _=>.no
def zrw (x:Int):Int:=ylm (zex (zt3 x 0 32))
def zbs:z0o
 | [.int .u64 x,.int .i64 a,.int .i64 w]=>.br (decide (a=0)&&decide (w=32)) (.ok (.int .i64 (zrw x)) []) .no
 | _=>.no
structure Nd where
 lf:Bool
 v:Int
 f:Int
 a:Int
 l:Int
 r:Int
def Nd.eq (x y:Nd):Bool:=(x.lf==y.lf)&&((x.v==y.v)&&((x.f==y.f)&&((x.a==y.a)&&((x.l==y.l)&&((x.r==y.r)&&true)))))
def Nd.zero:Nd:=⟨false,0,0,0,0,0⟩
def zpw (n:Int):Bool:=decide (1≤n)&&decide (n < 31)
def zdf:z0o
 | [.int .i64 n]=>.ok (.bool (zpw n)) []
 | _=>.no
def zcy (x:Nd):Bool:=
 cond x.lf (x.eq ⟨true,x.v,0,0,0,0⟩&&z2c x.v)
  ((x.v==0)&&(decide (0≤x.f)&&(decide (x.f < 4)&&(z2c x.a&&(zpw x.l&&zpw x.r)))))
def zdn:z0o
 | [.agg [.bool lf,.int .i64 v,.int .i64 f,.int .i64 a,.int .i64 l,.int .i64 r]]=>.ok (.bool (zcy ⟨lf,v,f,a,l,r⟩)) []
 | _=>.no
def z9w (x:Nd):Int:=
 cond (zcy x)
  (cond x.lf (ylk 9223372036854775808 0 32 (y59 x.v))
   (ylk (ylk (ylk (ylk 0 0 32 (y59 x.a)) 32 4 (y59 x.f)) 40 8 (y59 x.l)) 48 8 (y59 x.r)))
  0
def zaw:z0o
 | [.agg [.bool lf,.int .i64 v,.int .i64 f,.int .i64 a,.int .i64 l,.int .i64 r]]=>.ok (.int .u64 (z9w ⟨lf,v,f,a,l,r⟩)) []
 | _=>.no
def zw1 (w:Int):Nd:=
 cond (zt3 w 63 1==0) ⟨false,0,zex (zt3 w 32 4),zrw w,zex (zt3 w 40 8),zex (zt3 w 48 8)⟩ ⟨true,zrw w,0,0,0,0⟩
def zbi (w:Int):Bool:=!(w==0)&&(z9w (zw1 w)==w)
def z07 (w:Int):Nd:=cond (zbi w) (zw1 w) Nd.zero
def z2i:z0o
 | [.int .u64 w]=>.ok (.tup [.agg [.bool (z07 w).lf,.int .i64 (z07 w).v,.int .i64 (z07 w).f,.int .i64 (z07 w).a,.int .i64 (z07 w).l,.int .i64 (z07 w).r],.bool (zbi w)]) []
 | _=>.no
def z9i:z0o
 | [.int .i64 a,.int .i64 w,.bor [.int .u64 x]]=>.br (decide (0≤a)&&(decide (a < 64)&&(decide (1≤w)&&decide (w≤64 - a)))) (.ok (.int .i64 (zex (zt3 x a w))) [[.int .u64 x]]) .no
 | _=>.no
def zgs (x:Nd) (j:Nat):Nat:=cond x.lf 0 ((if x.l=(j:Int) then 1 else 0)+(if x.r=(j:Int) then 1 else 0))
def z70 (l:List IV) (j:Nat):Nat:=(l.map fun w=>zgs (z07 w.toInt) j).sum
def y38 (dim n:Int) (i:Nat) (x:Nd):Bool:=
 cond x.lf true (!(decide (x.f≥dim))&&(!(x.l==x.r)&&(!(decide (min x.l x.r≤(i:Int)))&&!(decide (max x.l x.r≥n)))))
def zf5 (dim n:Int):Nat→List IV→Bool
 | _,[]=>true
 | i,w :: r=>(zbi w.toInt&&y38 dim n i (z07 w.toInt))&&zf5 dim n (i+1) r
def ym0 (l:List IV):Bool:=(List.range (l.length - 1)).all fun j=>z70 l (j+1)==1
def zav (l:List IV) (dim:Int):Bool:=(Nat.ble 1 l.length&&Nat.ble l.length 31)&&(zf5 dim (ic l.length) 0 l&&ym0 l)
def z97:z0o
 | [.list false [.int .u64] l,.int .i64 dim]=>.ok (.bool (zav l dim)) []
 | _=>.no
structure Md where
 d:Int
 c:Int
 b0:Int
 b1:Int
 b2:Int
 ts:List IV
def z9v (d c:Int) (t:IV):Bool:=!(decide ((t.cell 0).toInt < 0))&&(!(decide ((t.cell 0).toInt≥c))&&zav (t.cell 1).toList d)
def zjr (c j b:Int):Bool:=z2c b&&!(decide (j≥c)&&!(b==0))
def z2g (m:Md):Bool:=
 (!(decide (m.d < 1))&&(!(decide (m.d > 4))&&(!(decide (m.c < 1))&&(!(decide (m.c > 3))&&Nat.ble m.ts.length 8)))) &&
  ((zjr m.c 0 m.b0&&(zjr m.c 1 m.b1&&zjr m.c 2 m.b2))&&m.ts.all (z9v m.d m.c))
abbrev zns:List Kd:=[.int .i64,.list false [.int .u64]]
def z5z:z0o
 | [.agg [.int .i64 k,.list false [.int .u64] l],.bor [.int .i64 d,.int .i64 c,.int .i64 b0,.int .i64 b1,.int .i64 b2,.list true [.int .i64,.list false [.int .u64]] ts]]=>
  .ok (.bool (!(z9v d c (.agg [.int k,.list l])))) [[.int .i64 d,.int .i64 c,.int .i64 b0,.int .i64 b1,.int .i64 b2,.list true zns ts]]
 | _=>.no
def zy9 (d c:Int):List IV→Int→Int
 | [],_ => -1
 | t :: r,i=>cond (z9v d c t) (zy9 d c r (i+1)) i
def z1r:z0o
 | [.list true [.int .i64,.list false [.int .u64]] l,.clo 95 [.bor [.int .i64 d,.int .i64 c,.int .i64 b0,.int .i64 b1,.int .i64 b2,.list true [.int .i64,.list false [.int .u64]] ts]]]=>
  .ok (.int .i64 (zy9 d c l 0)) [[.int .i64 d,.int .i64 c,.int .i64 b0,.int .i64 b1,.int .i64 b2,.list true zns ts]]
 | _=>.no
def z1h:z0o
 | [.list true [.int .i64,.list false [.int .u64]] l,.clo 95 [.bor [.int .i64 d,.int .i64 c,.int .i64 b0,.int .i64 b1,.int .i64 b2,.list true [.int .i64,.list false [.int .u64]] ts]]]=>
  .ok (.bool (!(l.all (z9v d c)))) [[.int .i64 d,.int .i64 c,.int .i64 b0,.int .i64 b1,.int .i64 b2,.list true zns ts]]
 | _=>.no
def z2j:z0o
 | [.agg [.int .i64 d,.int .i64 c,.int .i64 b0,.int .i64 b1,.int .i64 b2,.list true [.int .i64,.list false [.int .u64]] ts]]=>.ok (.bool (z2g ⟨d,c,b0,b1,b2,ts⟩)) []
 | _=>.no
abbrev zd4:ByteArray:=⟨#[102,111,114,101,115,116]⟩
abbrev zgf:ByteArray:=⟨#[98,105,97,115]⟩
abbrev zml:ByteArray:=⟨#[116,114,101,101]⟩
abbrev ztt:ByteArray:=⟨#[108,101,97,102]⟩
abbrev ytc:ByteArray:=⟨#[105,102]⟩
abbrev yuc:ByteArray:=⟨#[60,61]⟩
abbrev yfx:ByteArray:=⟨#[116,104,101,110]⟩
abbrev yg0:ByteArray:=⟨#[101,108,115,101]⟩
abbrev yn0:ByteArray:=⟨#[10]⟩
def z69 (ws:List ByteArray):ByteArray:=zcb ws z5a++yn0
def zbe:List (List ByteArray)→ByteArray
 | []=>ByteArray.empty
 | l :: r=>z69 l++zbe r
def zzf (x:Nd):List ByteArray:=
 cond x.lf [ztt,z0i x.v] [ytc,z0n x.f,yuc,z0i x.a,yfx,z0n x.l,yg0,z0n x.r]
def ziw (l:List IV):List (List ByteArray):=l.map fun w=>zzf (z07 w.toInt)
def y6o (t:IV):List (List ByteArray):=[zml,z0n (t.cell 0).toInt,z0n (ic (t.cell 1).toList.length)] :: ziw (t.cell 1).toList
def zgi:List IV→List (List ByteArray)
 | []=>[]
 | t :: r=>y6o t++zgi r
def yid (m:Md):List (List ByteArray):=[[zd4,z0n m.d,z0n m.c],zgf :: ([m.b0,m.b1,m.b2].take m.c.toNat).map z0i]
def yal (m:Md):List (List ByteArray):=yid m++zgi m.ts
def zos (m:Md):ByteArray:=cond (z2g m) (zbe (yal m)) ygg
def zho (s:ByteArray) (most:Int):Int:=cond (zmc s&&(!(decide (z58 s < 0))&&!(decide (z58 s > most)))) (z58 s) 0
def z4i (ls:List IV):List IV:=match ls with | []=>[] | l :: _=>zck l.toStr
def yr8 (l:List IV):Nd:=
 cond ((wAt l 0).toList==ztt.toList) ⟨true,zm5 (wAt l 1),0,0,0,0⟩ ⟨false,0,zho (wAt l 1) 4,zm5 (wAt l 3),zho (wAt l 5) 31,zho (wAt l 7) 31⟩
def zei (ls:List IV) (k:Nat):List IV:=(List.range k).map fun i=>.int (z9w (yr8 (z4i (ls.drop i))))
def rdK (ls:List IV):Nat:=(zho (wAt (z4i ls) 2) 31).toNat
def yfi (ls:List IV):IV:=.agg [.int (zho (wAt (z4i ls) 1) 3),.list (zei (ls.drop 1) (rdK ls))]
def zcv:Nat→List IV→List IV
 | 0,_=>[]
 | n+1,ls=>match ls with
  | []=>[]
  | l :: r=>yfi (l :: r) :: zcv n (r.drop (rdK (l :: r)))
def zfi (ls:List IV) (c:Int) (j:Nat):Int:=cond (decide ((j:Int) < c)) (zm5 (wAt (z4i (ls.drop 1)) (1+j))) 0
def rdC (ls:List IV):Int:=zho (wAt (z4i ls) 2) 3
def yrm (ls:List IV):Md:=⟨zho (wAt (z4i ls) 1) 4,rdC ls,zfi ls (rdC ls) 0,zfi ls (rdC ls) 1,zfi ls (rdC ls) 2,zcv 9 (ls.drop 2)⟩
def zpz (s t:ByteArray):Bool:=decide (t.size≤s.size)&&(s.extract (s.size - t.size) s.size).toList==t.toList
def z2e (s t:ByteArray):ByteArray:=cond (zpz s t) (s.extract 0 (s.size - t.size)) s
def yaf (s:ByteArray):ByteArray:=z2e s yn0
def zyf (s:ByteArray):List IV:=(z0d (yaf s) yn0).map IV.str
def yp6 (s:ByteArray):Md:=yrm (zyf s)
def Md.zero:Md:=⟨0,0,0,0,0,[]⟩
def zak (s:ByteArray):Bool:=!(s.toList==ygg.toList)&&(zos (yp6 s)).toList==s.toList
def z7h (s:ByteArray):Md:=cond (zak s) (yp6 s) Md.zero
def z7x (l:List IV):Bool:=l.all fun x=>decide (x.toStr.size < 4294967281)
def zf7:z0o
 | [.bor [.bld s],.list false [.str] ws]=>.br (Nat.ble ws.length 1000&&decide (s.size+(z69 (ws.map IV.toStr)).size≤1000000000)) (.ok (.tup []) [[.bld (s++z69 (ws.map IV.toStr))]]) .no
 | _=>.no
def z99:z0o
 | [.agg [.int .i64 d,.int .i64 c,.int .i64 b0,.int .i64 b1,.int .i64 b2,.list true [.int .i64,.list false [.int .u64]] ts]]=>.ok (.str (zos ⟨d,c,b0,b1,b2,ts⟩)) []
 | _=>.no
def z40:z0o
 | [.bor [.list false [.str] ls]]=>.br (z7x ls) (.ok (.list false [.str] (z4i ls)) [[.list false [.str] (ls.drop 1)]]) .no
 | _=>.no
def zat:z0o
 | [.list false [.str] l,.int .i64 i]=>.br (decide (0≤i)) (.ok (.str (wAt l i.toNat)) []) .no
 | _=>.no
def z90:z0o
 | [.str s,.int .i64 most]=>.ok (.int .i64 (zho s most)) []
 | _=>.no
def zb3:z0o
 | [.str s]=>.br (decide (s.size < 4294967281)) (.ok (.int .i64 (zm5 s)) []) .no
 | _=>.no
def z6k:z0o
 | [.bor [.list false [.str] ls]]=>.br (z7x ls) (.ok (.int .u64 (z9w (yr8 (z4i ls)))) [[.list false [.str] (ls.drop 1)]]) .no
 | _=>.no
def z1v:z0o
 | [.str s,.str t]=>.ok (.bool (zpz s t)) []
 | _=>.no
def z1u:z0o
 | [.str s,.str t]=>.ok (.str (z2e s t)) []
 | _=>.no
def z1z:z0o
 | [.str s,.str t]=>.ok (.str (z2e s t)) []
 | _=>.no
def z6h:z0o
 | [.str s]=>.br (decide (s.size < 4294967281)) (.ok (.tup [.agg [.int .i64 (z7h s).d,.int .i64 (z7h s).c,.int .i64 (z7h s).b0,.int .i64 (z7h s).b1,.int .i64 (z7h s).b2,.list true zns (z7h s).ts],.bool (zak s)]) []) .no
 | _=>.no
open Go Go.Proofs
def yct (N:Nat):Env:=mkE [] [] 25 N
theorem y86 (N:Nat) (n w:Int):z0z (yct N) zz0 [.tmp 4] [[.bool]] [(.i n),(.i w)]=(cond (decide (w < 1)) (some ((.bool false),[])) (cond (decide (w > 64)) (some ((.bool false),[])) (cond (decide (IntKind.wrap IntKind.u64 (IntKind.wrap IntKind.i64 (w - 1)) < 0)) none (cond (Int.fdiv n (2 ^ min (Int.toNat (IntKind.wrap IntKind.u64 (IntKind.wrap IntKind.i64 (w - 1)))) (IntKind.bits IntKind.i64))==0) (some ((.bool true),[])) (cond (decide (IntKind.wrap IntKind.u64 (IntKind.wrap IntKind.i64 (w - 1)) < 0)) none (some ((.bool (Int.fdiv n (2 ^ min (Int.toNat (IntKind.wrap IntKind.u64 (IntKind.wrap IntKind.i64 (w - 1)))) (IntKind.bits IntKind.i64)) == -1)),[]))))))):=by kernel_rfl
def ybm (N:Nat):Env:=mkE [] [] 21 N
theorem y7q (N:Nat) (n w:Int):z0z (ybm N) zxu [.tmp 4] [[.int .i64]] [(.i n),(.i w)]=(cond (decide (w < 1)) (some ((.i n),[])) (cond (decide (w≥64)) (some ((.i n),[])) (cond (decide (IntKind.wrap IntKind.u64 (IntKind.wrap IntKind.i64 (64 - w)) < 0)) none (cond (decide (IntKind.wrap IntKind.u64 (IntKind.wrap IntKind.i64 (64 - w)) < 0)) none (some ((.i (Int.fdiv (IntKind.wrap IntKind.i64 (n*2 ^ min (Int.toNat (IntKind.wrap IntKind.u64 (IntKind.wrap IntKind.i64 (64 - w)))) (IntKind.bits IntKind.i64))) (2 ^ min (Int.toNat (IntKind.wrap IntKind.u64 (IntKind.wrap IntKind.i64 (64 - w)))) (IntKind.bits IntKind.i64)))),[])))))):=by kernel_rfl
def y9x (N:Nat):Env:=mkE [] [] 21 N
theorem y60 (N:Nat) (atv w:Int):z0z (y9x N) ztk [.tmp 4] [[.bool]] [(.i atv),(.i w)]=(cond (decide (atv≥0)) (cond (decide (atv < 64)) (cond (decide (w≥1)) (some ((.bool (decide (w≤IntKind.wrap IntKind.i64 (64 - atv)))),[])) (some ((.bool false),[]))) (some ((.bool false),[]))) (some ((.bool false),[]))):=by kernel_rfl
def ycy (N:Nat):Env:=mkE [] [] 7 N
theorem y73 (N:Nat) (w:Int):z0z (ycy N) zvy [.tmp 2] [[.int .u64]] [(.i w)]=(cond (decide (IntKind.wrap IntKind.u64 (IntKind.wrap IntKind.i64 (64 - w)) < 0)) none (some ((.int .u64 (Int.fdiv 18446744073709551615 (2 ^ min (Int.toNat (IntKind.wrap IntKind.u64 (IntKind.wrap IntKind.i64 (64 - w)))) (IntKind.bits IntKind.u64)))),[]))):=by kernel_rfl
def yh4 (N:Nat):Env:=mkE [(149,z93),(150,zas)] [] 30 N
theorem ybo (N:Nat) (x atv w y:Int):z0z (yh4 N) y18 [.tmp 8] [[.int .u64]] [(.int .u64 x),(.i atv),(.i w),(.int .u64 y)]=(cond (decide (0≤atv)&&decide (atv < 64)) (cond (! (decide (1≤w)&&decide (w≤64 - atv))) (some ((.int .u64 x),[])) (cond (decide (1≤w)&&decide (w≤64)) (cond (decide (IntKind.wrap IntKind.u64 atv < 0)) none (cond (decide (IntKind.wrap IntKind.u64 atv < 0)) none (some ((.int .u64 (IntKind.wrap IntKind.u64 (ic (BitVec.toNat (BitVec.ofInt (IntKind.bits IntKind.u64) (IntKind.wrap IntKind.u64 (ic (BitVec.toNat (BitVec.ofInt (IntKind.bits IntKind.u64) x &&& ~~~BitVec.ofInt (IntKind.bits IntKind.u64) (IntKind.wrap IntKind.u64 (ydh w*2 ^ min (Int.toNat (IntKind.wrap IntKind.u64 atv)) (IntKind.bits IntKind.u64))))))) ||| BitVec.ofInt (IntKind.bits IntKind.u64) (IntKind.wrap IntKind.u64 (ic (BitVec.toNat (BitVec.ofInt (IntKind.bits IntKind.u64) (IntKind.wrap IntKind.u64 (y*2 ^ min (Int.toNat (IntKind.wrap IntKind.u64 atv)) (IntKind.bits IntKind.u64))) &&& BitVec.ofInt (IntKind.bits IntKind.u64) (IntKind.wrap IntKind.u64 (ydh w*2 ^ min (Int.toNat (IntKind.wrap IntKind.u64 atv)) (IntKind.bits IntKind.u64)))))))))))),[])))) none)) none):=by kernel_rfl
def yhh (N:Nat):Env:=mkE [(149,z93),(150,zas)] [] 18 N
theorem yco (N:Nat) (x atv w:Int):z0z (yhh N) y2y [.tmp 6] [[.int .u64]] [(.int .u64 x),(.i atv),(.i w)]=(cond (decide (0≤atv)&&decide (atv < 64)) (cond (! (decide (1≤w)&&decide (w≤64 - atv))) (some ((.int .u64 0),[])) (cond (decide (IntKind.wrap IntKind.u64 atv < 0)) none (cond (decide (1≤w)&&decide (w≤64)) (some ((.int .u64 (IntKind.wrap IntKind.u64 (ic (BitVec.toNat (BitVec.ofInt (IntKind.bits IntKind.u64) (Int.fdiv x (2 ^ min (Int.toNat (IntKind.wrap IntKind.u64 atv)) (IntKind.bits IntKind.u64))) &&& BitVec.ofInt (IntKind.bits IntKind.u64) (ydh w)))))),[])) none))) none):=by kernel_rfl
def y3d (N:Nat):Env:=mkE [(99,z9t),(148,zg1)] [] 14 N
theorem zza (N:Nat) (x atv w:Int):z0z (y3d N) zpf [.tmp 6] [[.int .i64]] [(.int .u64 x),(.i atv),(.i w)]=(cond (decide (0≤atv)&&(decide (atv < 64)&&(decide (1≤w)&&decide (w≤64 - atv)))) (cond (decide (w=32)) (some ((.i (ylm (IntKind.wrap IntKind.i64 (zt3 x atv w)))),[])) none) none):=by kernel_rfl
def y88 (N:Nat):Env:=mkE [] [] 9 N
theorem y47 (N:Nat) (n:Int):z0z (y88 N) ztc [.tmp 2] [[.bool]] [(.i n)]=(cond (decide (n≥1)) (some ((.bool (decide (n < 31))),[])) (some ((.bool false),[]))):=by kernel_rfl
def y74 (N:Nat):Env:=mkE [(93,z7w),(190,zdf)] [] 43 N
theorem y6c (N:Nat) (u01:Bool) (u04 u00 n_At u02 u03:Int):z0z (y74 N) zss [.tmp 2] [[.bool]] [(.agg [(.bool u01),(.i u04),(.i u00),(.i n_At),(.i u02),(.i u03)])]=(cond u01 (cond (u01==true&&(u04==u04&&(u00==0&&(n_At==0&&(u02==0&&(u03==0&&true)))))) (some ((.bool (z2c u04)),[])) (some ((.bool false),[]))) (cond (u04==0) (cond (decide (u00≥0)) (cond (decide (u00 < 4)) (cond (z2c n_At) (cond (zpw u02) (some ((.bool (zpw u03)),[])) (some ((.bool false),[]))) (some ((.bool false),[]))) (some ((.bool false),[]))) (some ((.bool false),[]))) (some ((.bool false),[])))):=by kernel_rfl
def ycr (N:Nat):Env:=mkE [(146,zha),(145,zdn)] [] 32 N
theorem y8t (N:Nat) (u01:Bool) (u04 u00 n_At u02 u03:Int):z0z (ycr N) zvz [.tmp 2] [[.int .u64]] [(.agg [(.bool u01),(.i u04),(.i u00),(.i n_At),(.i u02),(.i u03)])]=(cond (!zcy {lf:=u01,v:=u04,f:=u00,a:=n_At,l:=u02,r:=u03}) (some ((.int .u64 0),[])) (cond u01 (some ((.int .u64 (ylk 9223372036854775808 0 32 (IntKind.wrap IntKind.u64 u04))),[])) (some ((.int .u64 (ylk (ylk (ylk (ylk 0 0 32 (IntKind.wrap IntKind.u64 n_At)) 32 4 (IntKind.wrap IntKind.u64 u00)) 40 8 (IntKind.wrap IntKind.u64 u02)) 48 8 (IntKind.wrap IntKind.u64 u03))),[])))):=by kernel_rfl
def zx1 (N:Nat):Env:=mkE [(99,z9t)] [] 11 N
theorem zu5 (N:Nat) (a w x:Int):z0z (zx1 N) zjy [.tmp 5] [[.int .i64]] [(.i a),(.i w),(.bor [.int .u64 x])]=(cond (decide (0≤a)&&(decide (a < 64)&&(decide (1≤w)&&decide (w≤64 - a)))) (some ((.i (IntKind.wrap IntKind.i64 (zt3 x a w))),[[(.int .u64 x)]])) none):=by kernel_rfl
def y5s (N:Nat):Env:=mkE [(99,z9t),(98,zbs),(92,zaw),(100,z9i)] [] 33 N
theorem zzt (N:Nat) (w:Int):z0z (y5s N) zoz [.cell 2 111,.tmp 3] [[.bool,.int .i64,.int .i64,.int .i64,.int .i64,.int .i64],[.bool]] [(.int .u64 w)]=(cond (zt3 w 63 1==0) (cond (w==0) (some ((.tup [(.agg [(.bool false),(.i 0),(.i 0),(.i 0),(.i 0),(.i 0)]),(.bool false)]),[])) (cond (z9w {lf:=false,v:=0,f:=zex (zt3 w 32 4),a:=zrw w,l:=zex (zt3 w 40 8),r:=zex (zt3 w 48 8)} != w) (some ((.tup [(.agg [(.bool false),(.i 0),(.i 0),(.i 0),(.i 0),(.i 0)]),(.bool false)]),[])) (some ((.tup [(.agg [(.bool false),(.i 0),(.i (zex (zt3 w 32 4))),(.i (zrw w)),(.i (zex (zt3 w 40 8))),(.i (zex (zt3 w 48 8)))]),(.bool true)]),[])))) (cond (w==0) (some ((.tup [(.agg [(.bool false),(.i 0),(.i 0),(.i 0),(.i 0),(.i 0)]),(.bool false)]),[])) (cond (z9w {lf:=true,v:=zrw w,f:=0,a:=0,l:=0,r:=0} != w) (some ((.tup [(.agg [(.bool false),(.i 0),(.i 0),(.i 0),(.i 0),(.i 0)]),(.bool false)]),[])) (some ((.tup [(.agg [(.bool true),(.i (zrw w)),(.i 0),(.i 0),(.i 0),(.i 0)]),(.bool true)]),[]))))):=by kernel_rfl
open Go Go.Proofs
theorem yjx {n:Int} (h0:0≤n) (h1:n < 18446744073709551616):IntKind.wrap IntKind.u64 n=n:=by
 rw [ynk];omega
theorem zim:z32 PR B0 93 z7w:=by
 refine z0h [] [] z7w [[.bool]] Tryz.func93 ybl trivial ?_;intro vs r hwf h;unfold z7w at h
 split at h
 ·rename_i n w
  cases hc:decide (w=32) with
  | false=>rw [hc] at h; simp [R.get] at h
  | true=>
   rw [hc,R.get_br,z00,R.get_ok] at h;have hc:=v0c hc;subst hc;refine ⟨0,?_⟩;rw [← h];refine (y86 0 n 32).trans ?_;have e3:decide (IntKind.wrap IntKind.u64 (IntKind.wrap IntKind.i64 ((32:Int) - 1)) < 0)=false:=by kernel_rfl
   have e4:(2:Int) ^ min (Int.toNat (IntKind.wrap IntKind.u64 (IntKind.wrap IntKind.i64 ((32:Int) - 1)))) (IntKind.bits IntKind.i64)=2147483648:=by kernel_rfl
   rw [e3,e4,v05 (show ¬ (32:Int) < 1 by omega),v05 (show ¬ (32:Int) > 64 by omega),z01,z01,z01,z01]
   have h0:=Int.fdiv_mul_add_fmod n 2147483648;have h1:=Int.fmod_nonneg_of_pos n (show (0:Int) < 2147483648 by omega)
   have h2:=Int.fmod_lt_of_pos n (show (0:Int) < 2147483648 by omega)
   generalize Int.fdiv n 2147483648=q at h0 ⊢
   generalize Int.fmod n 2147483648=m at h0 h1 h2;unfold z2c;rw [zl9,zl9];cases hq:decide (q=0) with
   | true=>
    have hq:=v0c hq;rw [v01 (show -2147483648≤n by omega),v01 (show n≤2147483647 by omega)]
    rfl
   | false=>
    have hq:=v0r hq;cases hp:decide (q = -1) with
    | true=>
     have hp:=v0c hp;rw [v01 (show -2147483648≤n by omega),v01 (show n≤2147483647 by omega)]
     rfl
    | false=>
     have hp:=v0r hp;rw [z01]
     congr 3
     symm
     rw [Bool.and_eq_false_iff,v15,v15];omega
 ·simp [R.get] at h
theorem y4x:z32 PR B0 148 zg1:=by
 refine z0h [] [] zg1 [[.int .i64]] Tryz.func148 ydu trivial ?_;intro vs r hwf h;unfold zg1 at h
 split at h
 ·rename_i n w
  cases hc:decide (w=32) with
  | false=>rw [hc] at h; simp [R.get] at h
  | true=>
   rw [hc,R.get_br,z00,R.get_ok] at h;have hc:=v0c hc;subst hc;refine ⟨0,?_⟩;rw [← h];refine (y7q 0 n 32).trans ?_;have e3:decide (IntKind.wrap IntKind.u64 (IntKind.wrap IntKind.i64 ((64:Int) - 32)) < 0)=false:=by kernel_rfl
   have e4:min (Int.toNat (IntKind.wrap IntKind.u64 (IntKind.wrap IntKind.i64 ((64:Int) - 32)))) (IntKind.bits IntKind.i64)=32:=by kernel_rfl
   rw [e3,e4,v05 (show ¬ (32:Int) < 1 by omega),v05 (show ¬ (32:Int)≥64 by omega),z01,z01,z01,z01]
   rfl
 ·simp [R.get] at h
theorem zmo:z32 PR B0 149 z93:=by
 refine z0h [] [] z93 [[.bool]] Tryz.func149 y87 trivial ?_;intro vs r hwf h;unfold z93 at h
 split at h
 ·rename_i a w
  cases hc:(decide (0≤a)&&decide (a < 64)) with
  | false=>rw [hc] at h; simp [R.get] at h
  | true=>
   rw [hc,R.get_br,z00,R.get_ok] at h;rw [v02,v07,v07] at hc;refine ⟨0,?_⟩;rw [← h];refine (y60 0 a w).trans ?_;have e:IntKind.wrap IntKind.i64 (64 - a)=64 - a:=z0s (by omega) (by omega)
   have e1:decide (w≥1)=decide (1≤w):=rfl;rw [v01 (show a≥0 by omega),v01 hc.2,z00,z00,e,e1]
   cases decide (1≤w) <;> rfl
 ·simp [R.get] at h
theorem zqi:z32 PR B0 150 zas:=by
 refine z0h [] [] zas [[.int .u64]] Tryz.func150 ydg trivial ?_;intro vs r hwf h;unfold zas at h
 split at h
 ·rename_i w
  cases hc:(decide (1≤w)&&decide (w≤64)) with
  | false=>rw [hc] at h; simp [R.get] at h
  | true=>
   rw [hc,R.get_br,z00,R.get_ok] at h;rw [v02,v07,v07] at hc;refine ⟨0,?_⟩;rw [← h];refine (y73 0 w).trans ?_;have e:IntKind.wrap IntKind.i64 (64 - w)=64 - w:=z0s (by omega) (by omega)
   have e2:IntKind.wrap IntKind.u64 (64 - w)=64 - w:=yjx (by omega) (by omega)
   have e3:min (64 - w).toNat (IntKind.bits IntKind.u64)=(64 - w).toNat:=by
    have:IntKind.bits IntKind.u64=64:=rfl
    omega
   rw [e,e2,e3,v05 (show ¬ (64 - w < 0) by omega),z01]
   rfl
 ·simp [R.get] at h
theorem y7z {a w:Int} (hc:(decide (0≤a)&&(decide (a < 64)&&(decide (1≤w)&&decide (w≤64 - a))))=true):0≤a∧a < 64∧1≤w∧w≤64 - a:=by
 simpa only [v02,v07] using hc
theorem ya1:z32 PR B0 146 zha:=by
 refine z0h [(149,z93),(150,zas)] [] zha [[.int .u64]] Tryz.func146 yiy ⟨zmo,zqi,trivial⟩ ?_;intro vs r hwf h;unfold zha at h
 split at h
 ·rename_i x a w y
  cases hc:(decide (0≤a)&&(decide (a < 64)&&(decide (1≤w)&&decide (w≤64 - a)))) with
  | false=>rw [hc] at h; simp [R.get] at h
  | true=>
   rw [hc,R.get_br,z00,R.get_ok] at h;obtain ⟨h1,h2,h3,h4⟩:=y7z hc;refine ⟨0,?_⟩;rw [← h];refine (ybo 0 x a w y).trans ?_;have e2:IntKind.wrap IntKind.u64 a=a:=yjx (by omega) (by omega)
   have e3:min a.toNat (IntKind.bits IntKind.u64)=a.toNat:=by
    have:IntKind.bits IntKind.u64=64:=rfl
    omega
   rw [e2,e3,v01 h1,v01 h2,v01 h3,v01 h4,v01 (show w≤64 by omega),v05 (show ¬ a < 0 by omega)]
   simp only [v0w,v0e,z00,z01]
   rfl
 ·simp [R.get] at h
theorem zkx:z32 PR B0 99 z9t:=by
 refine z0h [(149,z93),(150,zas)] [] z9t [[.int .u64]] Tryz.func99 yhz ⟨zmo,zqi,trivial⟩ ?_;intro vs r hwf h;unfold z9t at h
 split at h
 ·rename_i x a w
  cases hc:(decide (0≤a)&&(decide (a < 64)&&(decide (1≤w)&&decide (w≤64 - a)))) with
  | false=>rw [hc] at h; simp [R.get] at h
  | true=>
   rw [hc,R.get_br,z00,R.get_ok] at h;obtain ⟨h1,h2,h3,h4⟩:=y7z hc;refine ⟨0,?_⟩;rw [← h];refine (yco 0 x a w).trans ?_;have e2:IntKind.wrap IntKind.u64 a=a:=yjx (by omega) (by omega)
   have e3:min a.toNat (IntKind.bits IntKind.u64)=a.toNat:=by
    have:IntKind.bits IntKind.u64=64:=rfl
    omega
   rw [e2,e3,v01 h1,v01 h2,v01 h3,v01 h4,v01 (show w≤64 by omega),v05 (show ¬ a < 0 by omega)]
   simp only [v0w,v0e,z00,z01]
   rfl
 ·simp [R.get] at h
theorem zwo:z32 PR B0 98 zbs:=by
 refine z0h [(99,z9t),(148,zg1)] [] zbs [[.int .i64]] Tryz.func98 y4j ⟨zkx,y4x,trivial⟩ ?_;intro vs r hwf h;unfold zbs at h
 split at h
 ·rename_i x a w
  cases hc:(decide (a=0)&&decide (w=32)) with
  | false=>rw [hc] at h; simp [R.get] at h
  | true=>
   rw [hc,R.get_br,z00,R.get_ok] at h;rw [v02,v07,v07] at hc;obtain ⟨rfl,rfl⟩:=hc;refine ⟨0,?_⟩;rw [← h];refine (zza 0 x 0 32).trans ?_
   rfl
 ·simp [R.get] at h
theorem zz5:z32 PR B0 190 zdf:=by
 refine z0h [] [] zdf [[.bool]] Tryz.func190 y8z trivial ?_;intro vs r hwf h;unfold zdf at h
 split at h
 ·rename_i n
  refine ⟨0,?_⟩;rw [R.get_ok] at h;rw [← h];refine (y47 0 n).trans ?_;unfold zpw;have e1:decide (n≥1)=decide (1≤n):=rfl;rw [e1];cases decide (1≤n) <;> rfl
 ·simp [R.get] at h
theorem y06:z32 PR B0 145 zdn:=by
 refine z0h [(93,z7w),(190,zdf)] [] zdn [[.bool]] Tryz.func145 y9q ⟨zim,zz5,trivial⟩ ?_;intro vs r hwf h;unfold zdn at h
 split at h
 ·rename_i lf v f a l r'
  refine ⟨0,?_⟩;rw [← h];refine (y6c 0 lf v f a l r').trans ?_;simp only [R.get_ok,y8o];unfold zcy;cases lf with
  | true=>rfl
  | false=>rfl
 ·simp [R.get] at h
theorem zq8:z32 PR B0 92 zaw:=by
 refine z0h [(146,zha),(145,zdn)] [] zaw [[.int .u64]] Tryz.func92 yc2 ⟨ya1,y06,trivial⟩ ?_;intro vs r hwf h;unfold zaw at h
 split at h
 ·rename_i lf v f a l r'
  refine ⟨0,?_⟩;rw [← h];refine (y8t 0 lf v f a l r').trans ?_;unfold z9w;cases zcy ⟨lf,v,f,a,l,r'⟩ with
  | false=>rfl
  | true=>cases lf <;> rfl
 ·simp [R.get] at h
theorem zry:z32 PR B0 100 z9i:=by
 refine z0h [(99,z9t)] [] z9i [[.int .i64]] Tryz.func100 zwj ⟨zkx,trivial⟩ ?_;intro vs r hwf h;unfold z9i at h
 split at h
 ·rename_i a w x
  cases hc:(decide (0≤a)&&(decide (a < 64)&&(decide (1≤w)&&decide (w≤64 - a)))) with
  | false=>rw [hc] at h; simp [R.get] at h
  | true=>
   rw [hc,R.get_br,z00,R.get_ok] at h;refine ⟨0,?_⟩;rw [← h];refine (zu5 0 a w x).trans ?_;rw [hc]
   rfl
 ·simp [R.get] at h
theorem z7c:z32 PR B0 55 z2i:=by
 refine z0h [(99,z9t),(98,zbs),(92,zaw),(100,z9i)] [] z2i [[.bool,.int .i64,.int .i64,.int .i64,.int .i64,.int .i64],[.bool]] Tryz.func55 y5w ⟨zkx,zwo,zq8,zry,trivial⟩ ?_;intro vs r hwf h;unfold z2i at h
 split at h
 ·rename_i w
  refine ⟨0,?_⟩;rw [← h];refine (zzt 0 w).trans ?_;rw [R.get_ok];unfold z07 zbi zw1;cases (zt3 w 63 1==0) with
  | true=>
   simp only [v1e];cases hw:(w==0) with
   | true=>rfl
   | false=>
    simp only [v18,v0j,v0k];have e:(z9w ⟨false,0,zex (zt3 w 32 4),zrw w,zex (zt3 w 40 8),zex (zt3 w 48 8)⟩ != w)=!(z9w ⟨false,0,zex (zt3 w 32 4),zrw w,zex (zt3 w 40 8),zex (zt3 w 48 8)⟩==w):=rfl;rw [e];cases (z9w ⟨false,0,zex (zt3 w 32 4),zrw w,zex (zt3 w 40 8),zex (zt3 w 48 8)⟩==w) <;> rfl
  | false=>
   simp only [v18];cases hw:(w==0) with
   | true=>rfl
   | false=>
    simp only [v18,v0j,v0k];have e:(z9w ⟨true,zrw w,0,0,0,0⟩ != w)=!(z9w ⟨true,zrw w,0,0,0,0⟩==w):=rfl;rw [e];cases (z9w ⟨true,zrw w,0,0,0,0⟩==w) <;> rfl
 ·simp [R.get] at h
open Go Go.Proofs
def z0y (N:Nat):Env:=mkE [(55,z2i)] [(5,⟨[0,1,4,5,23,24,25],[22],[]⟩),(17,⟨[4,85,86,87],[22],[]⟩)] 94 N
abbrev z2z (l0:List IV) (x1:Int) (b4:Bool) (n5:Nat) (l23:List IV) (x24 x25:Int) (lo22:List IV):St:=⟨[(0,(.list false [(.int .u64)] l0)),(1,(.i x1)),(4,(.bool b4)),(5,(.row 22 0 n5)),(23,(.list false [(.int .u64)] l23)),(24,(.i x24)),(25,(.i x25))],[(22,(some (.row true 3 false [(.int .i64)] lo22)))]⟩
abbrev z6t (b4:Bool) (n85:Nat) (x86 x87:Int) (lo22:List IV):St:=⟨[(4,(.bool b4)),(85,(.row 22 1 n85)),(86,(.i x86)),(87,(.i x87))],[(22,(some (.row true 3 false [(.int .i64)] lo22)))]⟩
theorem y5h (N:Nat) (l:List IV) (a1:Int):z0z (z0y N) z2o [.tmp 4] [[.bool]] [(.list false [.int .u64] l),(.i a1)]=(cond (decide (ic (List.length l) < 1)) (some ((.bool false),[])) (cond (decide (ic (List.length l) > 31)) (some ((.bool false),[])) (cond (Nat.blt 0 (TI.size (Env.tyd (z0y N) 3))&&(Nat.blt 3 1000000&&decide (0≤ic (List.length l)))&&(decide (ic (List.length l)=ic (List.length l))&&decide (ic (List.length l)*ic (TI.bytes (Env.tyd (z0y N) 3))≤ic z08))) (lpE (z0y N) (z0f z2o [1,1,1,0,1,0,0]) ⟨[0,1,4,5,23,24,25],[22],[]⟩ N (z2z l a1 false (Int.toNat (ic (List.length l))) l (ic (List.length l)) 0 (List.replicate (Int.toNat (ic (List.length l))) (IV.int 0))) (z05 0 (kSq (z0y N) (z0f z2o [1,1,1,1]) (z2s (z0y N) none [(ResultVar.tmp 4)] [[.bool]])))) none))):=by kernel_rfl
theorem zki (N:Nat) (l0:List IV) (x1:Int) (b4:Bool) (n5:Nat) (l23:List IV) (x24 x25:Int) (lo22:List IV) (again:St→Res) (k:Out→St→Res):rnd (z0y N) (z0f z2o [1,1,1,0,1,0,0]) (z2z l0 x1 b4 n5 l23 x24 x25 lo22) (z3t again ⟨[0,1,4,5,23,24,25],[22],[]⟩ k)=(cond (decide (x25 < x24)) (cond (decide (0≤x25)&&decide (x25 < ic (List.length l23))) (cond (!zbi (IV.toInt (List.getD l23 (Int.toNat x25) default))) (k .ret (z2z l0 x1 false n5 l23 x24 x25 lo22)) (cond (Nd.lf (z07 (IV.toInt (List.getD l23 (Int.toNat x25) default)))) (again (z2z l0 x1 b4 n5 l23 x24 (IntKind.wrap IntKind.i64 (x25+1)) lo22)) (cond (decide (Nd.f (z07 (IV.toInt (List.getD l23 (Int.toNat x25) default)))≥x1)) (k .ret (z2z l0 x1 false n5 l23 x24 x25 lo22)) (cond (Nd.l (z07 (IV.toInt (List.getD l23 (Int.toNat x25) default)))==Nd.r (z07 (IV.toInt (List.getD l23 (Int.toNat x25) default)))) (k .ret (z2z l0 x1 false n5 l23 x24 x25 lo22)) (cond (decide (min (Nd.l (z07 (IV.toInt (List.getD l23 (Int.toNat x25) default)))) (Nd.r (z07 (IV.toInt (List.getD l23 (Int.toNat x25) default))))≤x25)) (k .ret (z2z l0 x1 false n5 l23 x24 x25 lo22)) (cond (decide (max (Nd.l (z07 (IV.toInt (List.getD l23 (Int.toNat x25) default)))) (Nd.r (z07 (IV.toInt (List.getD l23 (Int.toNat x25) default))))≥ic (List.length l0))) (k .ret (z2z l0 x1 false n5 l23 x24 x25 lo22)) (cond (decide (0≤Nd.l (z07 (IV.toInt (List.getD l23 (Int.toNat x25) default))))&&decide (Nd.l (z07 (IV.toInt (List.getD l23 (Int.toNat x25) default))) < ic (n5 - 0))) (cond (decide (0≤Nd.l (z07 (IV.toInt (List.getD l23 (Int.toNat x25) default))))&&decide (Nd.l (z07 (IV.toInt (List.getD l23 (Int.toNat x25) default))) < ic (n5 - 0))) (cond (decide (0≤Nd.r (z07 (IV.toInt (List.getD l23 (Int.toNat x25) default))))&&decide (Nd.r (z07 (IV.toInt (List.getD l23 (Int.toNat x25) default))) < ic (n5 - 0))) (cond (decide (0≤Nd.r (z07 (IV.toInt (List.getD l23 (Int.toNat x25) default))))&&decide (Nd.r (z07 (IV.toInt (List.getD l23 (Int.toNat x25) default))) < ic (n5 - 0))) (again (z2z l0 x1 b4 n5 l23 x24 (IntKind.wrap IntKind.i64 (x25+1)) (List.set (List.set lo22 (0+Int.toNat (Nd.l (z07 (IV.toInt (List.getD l23 (Int.toNat x25) default))))) (zqv false [Kd.int IntKind.i64] (List.getD lo22 (0+Int.toNat (Nd.l (z07 (IV.toInt (List.getD l23 (Int.toNat x25) default))))) default) 0 [IV.int (IntKind.wrap IntKind.i64 (IV.toInt (List.getD lo22 (0+Int.toNat (Nd.l (z07 (IV.toInt (List.getD l23 (Int.toNat x25) default))))) default)+1))])) (0+Int.toNat (Nd.r (z07 (IV.toInt (List.getD l23 (Int.toNat x25) default))))) (zqv false [Kd.int IntKind.i64] (List.getD (List.set lo22 (0+Int.toNat (Nd.l (z07 (IV.toInt (List.getD l23 (Int.toNat x25) default))))) (zqv false [Kd.int IntKind.i64] (List.getD lo22 (0+Int.toNat (Nd.l (z07 (IV.toInt (List.getD l23 (Int.toNat x25) default))))) default) 0 [IV.int (IntKind.wrap IntKind.i64 (IV.toInt (List.getD lo22 (0+Int.toNat (Nd.l (z07 (IV.toInt (List.getD l23 (Int.toNat x25) default))))) default)+1))])) (0+Int.toNat (Nd.r (z07 (IV.toInt (List.getD l23 (Int.toNat x25) default))))) default) 0 [IV.int (IntKind.wrap IntKind.i64 (IV.toInt (List.getD (List.set lo22 (0+Int.toNat (Nd.l (z07 (IV.toInt (List.getD l23 (Int.toNat x25) default))))) (zqv false [Kd.int IntKind.i64] (List.getD lo22 (0+Int.toNat (Nd.l (z07 (IV.toInt (List.getD l23 (Int.toNat x25) default))))) default) 0 [IV.int (IntKind.wrap IntKind.i64 (IV.toInt (List.getD lo22 (0+Int.toNat (Nd.l (z07 (IV.toInt (List.getD l23 (Int.toNat x25) default))))) default)+1))])) (0+Int.toNat (Nd.r (z07 (IV.toInt (List.getD l23 (Int.toNat x25) default))))) default)+1))])))) none) none) none) none))))))) none) (k (.exit 0) (z2z l0 x1 b4 n5 l23 x24 x25 lo22))):=by kernel_rfl
theorem zsa (N:Nat) (l0:List IV) (x1:Int) (b4:Bool) (n5:Nat) (l23:List IV) (x24 x25:Int) (lo22:List IV):(z05 0 (kSq (z0y N) (z0f z2o [1,1,1,1]) (z2s (z0y N) none [(ResultVar.tmp 4)] [[.bool]]))) (.exit 0) (z2z l0 x1 b4 n5 l23 x24 x25 lo22)=(cond (decide (0≤1)&&decide (1≤ic (n5 - 0))) (lpE (z0y N) (z0f z2o [1,1,1,1,0,1,0,0]) ⟨[4,85,86,87],[22],[]⟩ N (z6t b4 (0+(n5 - 0)) (ic (0+(n5 - 0) - 1)) 0 lo22) (z05 2 (kSq (z0y N) (z0f z2o [1,1,1,1,1]) (z2s (z0y N) none [(ResultVar.tmp 4)] [[.bool]])))) none):=by kernel_rfl
theorem zsk (N:Nat) (l0:List IV) (x1:Int) (b4:Bool) (n5:Nat) (l23:List IV) (x24 x25:Int) (lo22:List IV):(z05 0 (kSq (z0y N) (z0f z2o [1,1,1,1]) (z2s (z0y N) none [(ResultVar.tmp 4)] [[.bool]]))) .ret (z2z l0 x1 b4 n5 l23 x24 x25 lo22)=(some ((.bool b4),[])):=by kernel_rfl
theorem zl4 (N:Nat) (b4:Bool) (n85:Nat) (x86 x87:Int) (lo22:List IV) (again:St→Res) (k:Out→St→Res):rnd (z0y N) (z0f z2o [1,1,1,1,0,1,0,0]) (z6t b4 n85 x86 x87 lo22) (z3t again ⟨[4,85,86,87],[22],[]⟩ k)=(cond (decide (x87 < x86)) (cond (decide (0≤x87)&&decide (x87 < ic (n85 - 1))) (cond (IV.toInt (List.getD lo22 (1+Int.toNat x87) default) != 1) (k .ret (z6t false n85 x86 x87 lo22)) (again (z6t b4 n85 x86 (IntKind.wrap IntKind.i64 (x87+1)) lo22))) none) (k (.exit 2) (z6t b4 n85 x86 x87 lo22))):=by kernel_rfl
theorem zs5 (N:Nat) (b4:Bool) (n85:Nat) (x86 x87:Int) (lo22:List IV):(z05 2 (kSq (z0y N) (z0f z2o [1,1,1,1,1]) (z2s (z0y N) none [(ResultVar.tmp 4)] [[.bool]]))) (.exit 2) (z6t b4 n85 x86 x87 lo22)=(some ((.bool true),[])):=by kernel_rfl
theorem zrb (N:Nat) (b4:Bool) (n85:Nat) (x86 x87:Int) (lo22:List IV):(z05 2 (kSq (z0y N) (z0f z2o [1,1,1,1,1]) (z2s (z0y N) none [(ResultVar.tmp 4)] [[.bool]]))) .ret (z6t b4 n85 x86 x87 lo22)=(some ((.bool b4),[])):=by kernel_rfl
def zyx (N:Nat):Env:=mkE [(96,z97)] [] 22 N
theorem zua (N:Nat) (k:Int) (l:List IV) (d c b0 b1 b2:Int) (ts:List IV):z0z (zyx N) zkh [.tmp 3] [[.bool]] [(.agg [.int .i64 k,.list false [.int .u64] l]),(.bor [.int .i64 d,.int .i64 c,.int .i64 b0,.int .i64 b1,.int .i64 b2,.list true [.int .i64,.list false [.int .u64]] ts])]=(cond (decide (k < 0)) (some ((.bool true),[[(.i d),(.i c),(.i b0),(.i b1),(.i b2),(.list true [(.int .i64),(.list false [(.int .u64)])] ts)]])) (cond (decide (k≥c)) (some ((.bool true),[[(.i d),(.i c),(.i b0),(.i b1),(.i b2),(.list true [(.int .i64),(.list false [(.int .u64)])] ts)]])) (some ((.bool (!zav l d)),[[(.i d),(.i c),(.i b0),(.i b1),(.i b2),(.list true [(.int .i64),(.list false [(.int .u64)])] ts)]])))):=by kernel_rfl
def z0b (N:Nat):Env:=mkE [(95,z5z)] [(2,⟨[0,1,4,7,8],[900000],[]⟩)] 19 N
abbrev z0x (l0:List IV) (x4 x7 x8 u01 u02 u03 u04 u05:Int) (u00:List IV):St:=⟨[(0,(.list true [(.int .i64),(.list false [(.int .u64)])] l0)),(1,(.clo 95 [(.ptr 900000 0 0)])),(4,(.i x4)),(7,(.i x7)),(8,(.i x8))],[(900000,(some (.box [(.i u01),(.i u02),(.i u03),(.i u04),(.i u05),(.list true [(.int .i64),(.list false [(.int .u64)])] u00)])))]⟩
theorem zbf (N:Nat) (l:List IV) (d c b0 b1 b2:Int) (ts:List IV):z0z (z0b N) z0m [.tmp 4] [[.int .i64]] [(.list true [.int .i64,.list false [.int .u64]] l),(.clo 95 [.bor [.int .i64 d,.int .i64 c,.int .i64 b0,.int .i64 b1,.int .i64 b2,.list true [.int .i64,.list false [.int .u64]] ts]])]=(lpE (z0b N) (z0f z0m [1,0,1,0,0]) ⟨[0,1,4,7,8],[900000],[]⟩ N (z0x l 0 (ic (List.length l)) 0 d c b0 b1 b2 ts) (z05 0 (kSq (z0b N) (z0f z0m [1,1]) (z2s (z0b N) (some [(.i d),(.i c),(.i b0),(.i b1),(.i b2),(.list true [(.int .i64),(.list false [(.int .u64)])] ts)]) [(ResultVar.tmp 4)] [[(.int .i64)]])))):=by kernel_rfl
theorem z5v (N:Nat) (l0:List IV) (x4 x7 x8 u01 u02 u03 u04 u05:Int) (u00:List IV) (again:St→Res) (k:Out→St→Res):rnd (z0b N) (z0f z0m [1,0,1,0,0]) (z0x l0 x4 x7 x8 u01 u02 u03 u04 u05 u00) (z3t again ⟨[0,1,4,7,8],[900000],[]⟩ k)=(cond (decide (x8 < x7)) (cond (decide (0≤x8)&&decide (x8 < ic (List.length l0))) (cond (!z9v u01 u02 (IV.agg [IV.int (IV.toInt (IV.cell (List.getD l0 (Int.toNat x8) default) 0)),IV.list (IV.toList (IV.cell (List.getD l0 (Int.toNat x8) default) 1))])) (k .ret (z0x l0 x8 x7 x8 u01 u02 u03 u04 u05 u00)) (again (z0x l0 x4 x7 (IntKind.wrap IntKind.i64 (x8+1)) u01 u02 u03 u04 u05 u00))) none) (k (.exit 0) (z0x l0 x4 x7 x8 u01 u02 u03 u04 u05 u00))):=by kernel_rfl
theorem z9n (N:Nat) (d c b0 b1 b2:Int) (ts l0:List IV) (x4 x7 x8 u01 u02 u03 u04 u05:Int) (u00:List IV):(z05 0 (kSq (z0b N) (z0f z0m [1,1]) (z2s (z0b N) (some [(.i d),(.i c),(.i b0),(.i b1),(.i b2),(.list true [(.int .i64),(.list false [(.int .u64)])] ts)]) [(ResultVar.tmp 4)] [[(.int .i64)]]))) (.exit 0) (z0x l0 x4 x7 x8 u01 u02 u03 u04 u05 u00)=(some ((.i (-1)),[[(.i u01),(.i u02),(.i u03),(.i u04),(.i u05),(.list true [(.int .i64),(.list false [(.int .u64)])] u00)]])):=by kernel_rfl
theorem z9s (N:Nat) (d c b0 b1 b2:Int) (ts l0:List IV) (x4 x7 x8 u01 u02 u03 u04 u05:Int) (u00:List IV):(z05 0 (kSq (z0b N) (z0f z0m [1,1]) (z2s (z0b N) (some [(.i d),(.i c),(.i b0),(.i b1),(.i b2),(.list true [(.int .i64),(.list false [(.int .u64)])] ts)]) [(ResultVar.tmp 4)] [[(.int .i64)]]))) .ret (z0x l0 x4 x7 x8 u01 u02 u03 u04 u05 u00)=(some ((.i x4),[[(.i u01),(.i u02),(.i u03),(.i u04),(.i u05),(.list true [(.int .i64),(.list false [(.int .u64)])] u00)]])):=by kernel_rfl
def zal (N:Nat):Env:=mkE [(147,z1r)] [] 9 N
theorem z9z (N:Nat) (l:List IV) (d c b0 b1 b2:Int) (ts:List IV):z0z (zal N) z5m [.tmp 4] [[.bool]] [(.list true [.int .i64,.list false [.int .u64]] l),(.clo 95 [.bor [.int .i64 d,.int .i64 c,.int .i64 b0,.int .i64 b1,.int .i64 b2,.list true [.int .i64,.list false [.int .u64]] ts]])]=(some ((.bool (decide (zy9 d c l 0≥0))),[[(.i d),(.i c),(.i b0),(.i b1),(.i b2),(.list true [(.int .i64),(.list false [(.int .u64)])] ts)]])):=by kernel_rfl
def z35 (N:Nat):Env:=mkE [(93,z7w),(95,z5z),(94,z1h)] [(4,⟨[1,2,30,31],[1,53005],[]⟩)] 54 N
abbrev z1b (b2:Bool) (u01 u02 u03 x31 u04 u05 u06 u07 u08:Int) (u00:List IV):St:=⟨[(1,(.ptr 1 0 0)),(2,(.bool b2)),(30,(.agg [(.i u01),(.i u02),(.i u03)])),(31,(.i x31))],[(1,(some (.box [(.i u04),(.i u05),(.i u06),(.i u07),(.i u08),(.list true [(.int .i64),(.list false [(.int .u64)])] u00)]))),(53005,none)]⟩
theorem y0j (N:Nat) (u04 u03 u00 u01 u02:Int) (u05:List IV):z0z (z35 N) z4s [.tmp 2] [[.bool]] [(.agg [(.i u04),(.i u03),(.i u00),(.i u01),(.i u02),(.list true [.int .i64,.list false [.int .u64]] u05)])]=(cond (decide (u04 < 1)) (some ((.bool false),[])) (cond (decide (u04 > 4)) (some ((.bool false),[])) (cond (decide (u03 < 1)) (some ((.bool false),[])) (cond (decide (u03 > 3)) (some ((.bool false),[])) (cond (decide (ic (List.length u05) > 8)) (some ((.bool false),[])) (lpE (z35 N) (z0f z4s [1,1,0,1,0,0]) ⟨[1,2,30,31],[1,53005],[]⟩ N (z1b false u00 u01 u02 0 u04 u03 u00 u01 u02 u05) (z05 0 (kSq (z35 N) (z0f z4s [1,1,1]) (z2s (z35 N) none [(ResultVar.tmp 2)] [[.bool]]))))))))):=by kernel_rfl
theorem zjg (N:Nat) (b2:Bool) (u01 u02 u03 x31 u04 u05 u06 u07 u08:Int) (u00:List IV) (again:St→Res) (k:Out→St→Res):rnd (z35 N) (z0f z4s [1,1,0,1,0,0]) (z1b b2 u01 u02 u03 x31 u04 u05 u06 u07 u08 u00) (z3t again ⟨[1,2,30,31],[1,53005],[]⟩ k)=(cond (decide (x31 < 3)) (cond (decide (x31=ic 0)) (cond (!z2c u01) (k .ret (z1b false u01 u02 u03 x31 u04 u05 u06 u07 u08 u00)) (cond (decide (x31≥u05)) (cond (u01 != 0) (k .ret (z1b false u01 u02 u03 x31 u04 u05 u06 u07 u08 u00)) (again (z1b b2 u01 u02 u03 (IntKind.wrap IntKind.i64 (x31+1)) u04 u05 u06 u07 u08 u00))) (again (z1b b2 u01 u02 u03 (IntKind.wrap IntKind.i64 (x31+1)) u04 u05 u06 u07 u08 u00)))) (cond (decide (x31=ic 1)) (cond (!z2c u02) (k .ret (z1b false u01 u02 u03 x31 u04 u05 u06 u07 u08 u00)) (cond (decide (x31≥u05)) (cond (u02 != 0) (k .ret (z1b false u01 u02 u03 x31 u04 u05 u06 u07 u08 u00)) (again (z1b b2 u01 u02 u03 (IntKind.wrap IntKind.i64 (x31+1)) u04 u05 u06 u07 u08 u00))) (again (z1b b2 u01 u02 u03 (IntKind.wrap IntKind.i64 (x31+1)) u04 u05 u06 u07 u08 u00)))) (cond (decide (x31=ic 2)) (cond (!z2c u03) (k .ret (z1b false u01 u02 u03 x31 u04 u05 u06 u07 u08 u00)) (cond (decide (x31≥u05)) (cond (u03 != 0) (k .ret (z1b false u01 u02 u03 x31 u04 u05 u06 u07 u08 u00)) (again (z1b b2 u01 u02 u03 (IntKind.wrap IntKind.i64 (x31+1)) u04 u05 u06 u07 u08 u00))) (again (z1b b2 u01 u02 u03 (IntKind.wrap IntKind.i64 (x31+1)) u04 u05 u06 u07 u08 u00)))) none))) (k (.exit 0) (z1b b2 u01 u02 u03 x31 u04 u05 u06 u07 u08 u00))):=by kernel_rfl
theorem zpx (N:Nat) (b2:Bool) (u01 u02 u03 x31 u04 u05 u06 u07 u08:Int) (u00:List IV):(z05 0 (kSq (z35 N) (z0f z4s [1,1,1]) (z2s (z35 N) none [(ResultVar.tmp 2)] [[.bool]]))) (.exit 0) (z1b b2 u01 u02 u03 x31 u04 u05 u06 u07 u08 u00)=(some ((.bool (!!List.all u00 (z9v u04 u05))),[])):=by kernel_rfl
theorem zp6 (N:Nat) (b2:Bool) (u01 u02 u03 x31 u04 u05 u06 u07 u08:Int) (u00:List IV):(z05 0 (kSq (z35 N) (z0f z4s [1,1,1]) (z2s (z35 N) none [(ResultVar.tmp 2)] [[.bool]]))) .ret (z1b b2 u01 u02 u03 x31 u04 u05 u06 u07 u08 u00)=(some ((.bool b2),[])):=by kernel_rfl
open Go Go.Proofs
theorem y1r {l:List IV} {i:Nat} {w:IV} (h:l[i]?=some w) (j:Nat):z70 (l.take (i+1)) j=z70 (l.take i) j+zgs (z07 w.toInt) j:=by
 unfold z70;rw [List.take_add_one,h];simp
theorem yk0 (x:Nd) (j:Nat):zgs x j≤2:=by
 unfold zgs;cases x.lf
 ·simp only [v18]
  split <;> split <;> omega
 ·simp only [v1e]
  omega
theorem yft:∀ (l:List IV) (j:Nat),z70 l j≤2*l.length
 | [],_=>v0a _
 | w :: l,j=>by
  have:=yft l j
  have:=yk0 (z07 w.toInt) j
  unfold z70 at *;simp only [v0d,v3t,v03];omega
def NM (l:List IV) (i:Nat):List IV:=(List.range l.length).map fun j=>IV.int (z70 (l.take i) j:Nat)
theorem y85 (l:List IV) (i:Nat):(NM l i).length=l.length:=by simp [NM]
theorem y2r (l:List IV) (i:Nat) {j:Nat} (h:j < l.length):(NM l i)[j]?=some (IV.int (z70 (l.take i) j:Nat)):=by
 unfold NM;rw [v11,List.getElem?_range h]
 rfl
theorem ys3 (l:List IV):NM l 0=List.replicate l.length (IV.int 0):=by
 apply List.ext_getElem?;intro j
 by_cases h:j < l.length
 ·rw [y2r l 0 h,v3e,v1b h]
  simp [z70]
 ·rw [v0t (by rw [y85]; omega),v0t (by simp; omega)]
theorem yru {l:List IV} {i:Nat} {w:IV} (h:l[i]?=some w) (hl:(z07 w.toInt).lf=true):NM l (i+1)=NM l i:=by
 unfold NM
 congr 1
 funext j
 rw [y1r h];unfold zgs;rw [hl]
 rfl
theorem yqr {l:List IV} {i:Nat} {w:IV} (h:l[i]?=some w) (hl:(z07 w.toInt).lf=false) (hn:l.length≤31) {a b:Nat} (ha:(z07 w.toInt).l=(a:Int)) (hb:(z07 w.toInt).r=(b:Int)) (hab:a≠b) (al:a < l.length) (bl:b < l.length) :
  ((NM l i).set a (IV.int (IntKind.wrap IntKind.i64 (((NM l i).getD a default).toInt+1)))).set b (IV.int (IntKind.wrap IntKind.i64 ((((NM l i).set a (IV.int (IntKind.wrap IntKind.i64 (((NM l i).getD a default).toInt+1)))).getD b default).toInt+1)))=NM l (i+1):=by
 have hil:i < l.length:=(List.getElem?_eq_some_iff.1 h).1;have hsm:∀ j,z70 (l.take i) j≤62:=fun j=>by
  have:=yft (l.take i) j
  rw [v0l] at this;omega
 have ga:((NM l i).getD a default).toInt=(z70 (l.take i) a:Nat):=by
  rw [v0n,y2r l i al]
  rfl
 have gb:(((NM l i).set a (IV.int (IntKind.wrap IntKind.i64 (((NM l i).getD a default).toInt+1)))).getD b default).toInt=(z70 (l.take i) b:Nat):=by
  rw [v0n,List.getElem?_set_ne hab,y2r l i bl]
  rfl
 rw [gb,ga,z0s (by omega) (by have:=hsm a; omega),z0s (by omega) (by have:=hsm b; omega)]
 apply List.ext_getElem?;intro j
 by_cases hj:j < l.length
 ·rw [y2r l (i+1) hj,y1r h]
  have e:zgs (z07 w.toInt) j=(if a=j then 1 else 0)+(if b=j then 1 else 0):=by
   unfold zgs;rw [hl,ha,hb,v18];have e1:((a:Int)=(j:Int))↔a=j:=by omega
   have e2:((b:Int)=(j:Int))↔b=j:=by omega
   simp only [e1,e2]
  rw [e]
  by_cases h1:b=j
  ·subst h1
   rw [List.getElem?_set_self (by rw [v2l,y85]; exact bl),v0y hab,v1b rfl]
   congr 2
  ·rw [List.getElem?_set_ne h1]
   by_cases h2:a=j
   ·subst h2
    rw [List.getElem?_set_self (by rw [y85]; exact al),v1b rfl,v0y h1]
    congr 2
   ·rw [List.getElem?_set_ne h2,y2r l i hj,v0y h1,v0y h2]
    congr 2
 ·rw [v0t (by rw [v2l,v2l,y85]; omega),v0t (by rw [y85]; omega)]
abbrev yu2 (l:List IV) (dim:Int) (b:Bool) (i:Int) (nm:List IV):St:=
 ⟨[(0,(.list false [(.int .u64)] l)),(1,(.int .i64 dim)),(4,(.bool b)),(5,(.row 22 0 l.length)),(23,(.list false [(.int .u64)] l)),(24,(.int .i64 (ic l.length))),(25,(.int .i64 i))],[(22,(some (.row true 3 false [(.int .i64)] nm)))]⟩
theorem y56 (N:Nat) (l:List IV) (dim:Int) (hl:l.length≤31) (K:Out→St→Res) (hK:∀ i nm,K .ret (yu2 l dim false i nm)=some (.bool false,[])):∀ (d i n:Nat),i+d=l.length→d < n →
  lpE (z0y N) (z0f z2o [1,1,1,0,1,0,0]) ⟨[0,1,4,5,23,24,25],[22],[]⟩ n (yu2 l dim false (i:Int) (NM l i)) K =
   cond (zf5 dim (ic l.length) i (l.drop i)) (K (.exit 0) (yu2 l dim false (ic l.length) (NM l l.length))) (some (.bool false,[]))
 | d,i,0,_,h=>absurd h (by omega)
 | 0,i,n+1,hd,_=>by
  have hi:i=l.length:=by omega
  subst hi;rw [z06,zki];rw [v05 (show ¬ ((l.length:Nat):Int) < ic l.length by simp only [ic]; omega),z01,v2e]
  rfl
 | d+1,i,n+1,hd,hn=>by
  have hil:i < l.length:=by omega
  have hw:l[i]?=some l[i]:=v0h hil;rw [z06,zki,v0m hil];have hg:l.getD (Int.toNat (i:Int)) default=l[i]:=by
   rw [v0g,v0n,hw]
   rfl
  rw [hg];generalize l[i]=w at hw ⊢
  have ei:IntKind.wrap IntKind.i64 ((i:Int)+1)=((i+1:Nat):Int):=by
   rw [z0s (by omega) (by omega)]
   omega
  rw [ei,v01 (show (i:Int) < ic l.length by simp only [ic]; omega),z00,v01 (show (0:Int)≤(i:Int) by omega),v0w,z00]
  unfold zf5;cases hb:zbi w.toInt with
  | false=>
   simp only [v0j,z00,v0u,z01];exact hK (i:Int) (NM l i)
  | true=>
   simp only [v0e,z01,v0k];unfold y38;cases hlf:(z07 w.toInt).lf with
   | true=>
    simp only [z00,v0k];rw [← yru hw hlf];exact y56 N l dim hl K hK d (i+1) n (by omega) (by omega)
   | false=>
    simp only [z01];cases h1:decide ((z07 w.toInt).f≥dim) with
    | true=>
     simp only [z00,v0e,v0u,z01];exact hK (i:Int) (NM l i)
    | false=>
    cases h2:((z07 w.toInt).l==(z07 w.toInt).r) with
    | true=>
     simp only [z00,z01,v0e,v0j,v0u,v2o];exact hK (i:Int) (NM l i)
    | false=>
    cases h3:decide (min (z07 w.toInt).l (z07 w.toInt).r≤(i:Int)) with
    | true=>
     simp only [z00,z01,v0e,v0j,v0u,v2o];exact hK (i:Int) (NM l i)
    | false=>
    cases h4:decide (max (z07 w.toInt).l (z07 w.toInt).r≥ic l.length) with
    | true=>
     simp only [z00,z01,v0e,v0j,v0u,v2o];exact hK (i:Int) (NM l i)
    | false=>
     have g2:(z07 w.toInt).l≠(z07 w.toInt).r:=v0v.1 h2;have g3:=v0r h3;have g4:=v0r h4;simp only [ic] at g4;obtain ⟨a,ha⟩:∃ a:Nat,(z07 w.toInt).l=(a:Int):=⟨(z07 w.toInt).l.toNat,by omega⟩
     obtain ⟨b,hb'⟩:∃ b:Nat,(z07 w.toInt).r=(b:Int):=⟨(z07 w.toInt).r.toNat,by omega⟩
     have hab:a≠b:=fun e=>g2 (by rw [ha,hb',e])
     have al:a < l.length:=by omega
     have bl:b < l.length:=by omega
     have hN:=yqr hw hlf hl ha hb' hab al bl;rw [ha,hb'];rw [v01 (show (0:Int)≤(a:Int) by omega),v01 (show (0:Int)≤(b:Int) by omega),v01 (show (a:Int) < ic (l.length - 0) by simp only [ic]; omega),v01 (show (b:Int) < ic (l.length - 0) by simp only [ic]; omega)]
     simp only [z00,z01,v0j,v0w,v0k,v0g,v0p];refine v4b ?_ (y56 N l dim hl K hK d (i+1) n (by omega) (by omega))
     rw [← hN]
     rfl
abbrev yvg (l:List IV) (b:Bool) (j:Int):St:=
 ⟨[(4,(.bool b)),(85,(.row 22 1 (0+(l.length - 0)))),(86,(.int .i64 (ic (0+(l.length - 0) - 1)))),(87,(.int .i64 j))],[(22,(some (.row true 3 false [(.int .i64)] (NM l l.length))))]⟩
theorem yg6 (N:Nat) (l:List IV) (hl:l.length≤31):∀ (d j n:Nat),j+d=l.length - 1→d < n →
  lpE (z0y N) (z0f z2o [1,1,1,1,0,1,0,0]) ⟨[4,85,86,87],[22],[]⟩ n (yvg l false (j:Int)) (z05 2 (kSq (z0y N) (z0f z2o [1,1,1,1,1]) (z2s (z0y N) none [(ResultVar.tmp 4)] [[.bool]]))) =
   some (.bool ((List.range' j d).all fun j=>z70 l (j+1)==1),[])
 | d,j,0,_,h=>absurd h (by omega)
 | 0,j,n+1,hd,_=>by
  rw [z06,zl4,v05 (show ¬ (j:Int) < ic (0+(l.length - 0) - 1) by simp only [ic]; omega),z01]
  exact zs5 N false _ _ _ _
 | d+1,j,n+1,hd,hn=>by
  have ej:IntKind.wrap IntKind.i64 ((j:Int)+1)=((j+1:Nat):Int):=by
   rw [z0s (by omega) (by omega)]
   omega
  rw [z06,zl4,ej,v01 (show (j:Int) < ic (0+(l.length - 0) - 1) by simp only [ic]; omega),z00,v01 (show (0:Int)≤(j:Int) by omega),v0w,z00]
  have hg:((NM l l.length).getD (1+Int.toNat (j:Int)) default).toInt=(z70 l (j+1):Nat):=by
   rw [v0g,Nat.add_comm 1 j,v0n,y2r l l.length (by omega),v0q]
   rfl
  rw [hg,List.range'_succ,v30];have e:(((z70 l (j+1):Nat):Int) != 1)=!(z70 l (j+1)==1):=by
   show (!(((z70 l (j+1):Nat):Int)==1))=_
   congr 1
   rw [v2s,v1h,v1h];omega
  rw [e];cases (z70 l (j+1)==1) with
  | false=>
   rw [v0j,z00];exact zrb N false _ _ _ _
  | true=>
   rw [v0e,z01,v0k];exact yg6 N l hl d (j+1) n (by omega) (by omega)
theorem yj8 (N:Nat) (l:List IV) (dim:Int) (hl:l.length≤31) (h1:1≤l.length) (hN:40≤N) (i:Int) :
  (z05 0 (kSq (z0y N) (z0f z2o [1,1,1,1]) (z2s (z0y N) none [(ResultVar.tmp 4)] [[.bool]]))) (.exit 0) (yu2 l dim false i (NM l l.length))=some (.bool (ym0 l),[]):=by
 refine (zsa N l dim false l.length l (ic l.length) i (NM l l.length)).trans ?_;rw [v01 (show (0:Nat)≤1 by omega),v01 (show (1:Int)≤ic (l.length - 0) by simp only [ic]; omega),v0w,z00]
 have:=yg6 N l hl (l.length - 1) 0 N (by omega) (by omega)
 refine this.trans ?_;unfold ym0;rw [v3z]
theorem zn6:z32 PR B0 96 z97:=by
 refine z0h [(55,z2i)] [(5,⟨[0,1,4,5,23,24,25],[22],[]⟩),(17,⟨[4,85,86,87],[22],[]⟩)] z97 [[.bool]] Tryz.func96 ya9 ⟨z7c,trivial⟩ ?_;intro vs r hwf h;unfold z97 at h
 split at h
 ·rename_i l dim
  refine ⟨40,?_⟩;rw [R.get_ok] at h;rw [← h];refine (y5h 40 l dim).trans ?_;unfold zav
  by_cases h1:1≤l.length
  ·by_cases h2:l.length≤31
   ·have eb:ic (TI.bytes (Env.tyd (z0y 40) 3))=8:=rfl
    rw [v05 (show ¬ ic l.length < 1 by simp only [ic]; omega),v05 (show ¬ ic l.length > 31 by simp only [ic]; omega),z01,z01,eb,
     v01 (show (0:Int)≤ic l.length by simp only [ic]; omega),v01 (show ic l.length=ic l.length from rfl),v01 (show ic l.length*8≤ic z08 by unfold z08; simp only [ic]; omega)]
    have e0:(Nat.blt 0 (TI.size (Env.tyd (z0y 40) 3))&&(Nat.blt 3 1000000&&true)&&(true&&true))=true:=rfl;have e1:Int.toNat (ic l.length)=l.length:=by simp only [ic]; omega
    rw [e0,z00,e1,← ys3,v1o h1,v1o h2];refine (y56 40 l dim h2 _ (fun i nm=>?_) l.length 0 40 (by omega) (by omega)).trans ?_
    ·exact zsk 40 l dim false l.length l (ic l.length) i nm
    ·rw [v0z,yj8 40 l dim h2 h1 (by omega)]
     cases zf5 dim (ic l.length) 0 l <;> rfl
   ·have e:Nat.ble l.length 31=false:=by
     cases hb:Nat.ble l.length 31 with
     | false=>rfl
     | true=>exact absurd (v04 hb) h2
    rw [v05 (show ¬ ic l.length < 1 by simp only [ic]; omega),v01 (show ic l.length > 31 by simp only [ic]; omega),z01,z00,e,v2o,v0u]
  ·have e:Nat.ble 1 l.length=false:=by
    cases hb:Nat.ble 1 l.length with
    | false=>rfl
    | true=>exact absurd (v04 hb) h1
   rw [v01 (show ic l.length < 1 by simp only [ic]; omega),z00,e,v0u,v0u]
 ·simp [R.get] at h
theorem zhi:z32 PR B0 95 z5z:=by
 refine z0h [(96,z97)] [] z5z [[.bool]] Tryz.func95 zy3 ⟨zn6,trivial⟩ ?_;intro vs r hwf h;unfold z5z at h
 split at h
 ·rename_i k l d c b0 b1 b2 ts
  refine ⟨0,?_⟩;rw [R.get_ok] at h;rw [← h];refine (zua 0 k l d c b0 b1 b2 ts).trans ?_;have e:z9v d c (.agg [.int k,.list l])=(!(decide (k < 0))&&(!(decide (k≥c))&&zav l d)):=rfl;rw [e];cases decide (k < 0) with
  | true=>rfl
  | false=>
   cases decide (k≥c) with
   | true=>rfl
   | false=>rfl
 ·simp [R.get] at h
abbrev yvj (l:List IV) (d c b0 b1 b2:Int) (ts:List IV) (r i:Int):St:=
 ⟨[(0,(.list true [(.int .i64),(.list false [(.int .u64)])] l)),(1,(.clo 95 [(.ptr 900000 0 0)])),(4,(.int .i64 r)),(7,(.int .i64 (ic l.length))),(8,(.int .i64 i))],[(900000,(some (.box [(.int .i64 d),(.int .i64 c),(.int .i64 b0),(.int .i64 b1),(.int .i64 b2),(.list true [(.int .i64),(.list false [(.int .u64)])] ts)])))]⟩
theorem yhk (d c:Int) (t:IV):z9v d c (.agg [.int (IV.toInt (IV.cell t 0)),.list (IV.toList (IV.cell t 1))])=z9v d c t:=rfl
theorem y9u (N:Nat) (l:List IV) (hl:l.length≤strMax) (d c b0 b1 b2:Int) (ts:List IV):∀ (m i n:Nat),i+m=l.length→m < n →
  lpE (z0b N) (z0f z0m [1,0,1,0,0]) ⟨[0,1,4,7,8],[900000],[]⟩ n (yvj l d c b0 b1 b2 ts 0 (i:Int)) (z05 0 (kSq (z0b N) (z0f z0m [1,1]) (z2s (z0b N) (some [(.int .i64 d),(.int .i64 c),(.int .i64 b0),(.int .i64 b1),(.int .i64 b2),(.list true [(.int .i64),(.list false [(.int .u64)])] ts)]) [(ResultVar.tmp 4)] [[(.int .i64)]]))) =
   some (.int .i64 (zy9 d c (l.drop i) (i:Int)),[[(.int .i64 d),(.int .i64 c),(.int .i64 b0),(.int .i64 b1),(.int .i64 b2),(.list true zns ts)]])
 | m,i,0,_,h=>absurd h (by omega)
 | 0,i,n+1,hd,_=>by
  have hi:i=l.length:=by omega
  subst hi;rw [z06,z5v,v05 (show ¬ ((l.length:Nat):Int) < ic l.length by simp only [ic]; omega),z01,v2e]
  exact z9n N d c b0 b1 b2 ts l 0 (ic l.length) (l.length:Int) d c b0 b1 b2 ts
 | m+1,i,n+1,hd,hn=>by
  have hil:i < l.length:=by omega
  have m':strMax=140737488355327:=rfl;have ei:IntKind.wrap IntKind.i64 ((i:Int)+1)=((i+1:Nat):Int):=by
   rw [z0s (by omega) (by omega)]
   omega
  have hg:l.getD (Int.toNat (i:Int)) default=l[i]:=by
   rw [v0g,v0n,v0h hil]
   rfl
  rw [z06,z5v,ei,hg,yhk,v01 (show (i:Int) < ic l.length by simp only [ic]; omega),z00,v01 (show (0:Int)≤(i:Int) by omega),v0w,z00,v0m hil,zy9]
  cases z9v d c l[i] with
  | true=>
   rw [v0e,z01,z00];exact y9u N l hl d c b0 b1 b2 ts m (i+1) n (by omega) (by omega)
  | false=>
   rw [v0j,z00,z01];exact z9s N d c b0 b1 b2 ts l (i:Int) (ic l.length) (i:Int) d c b0 b1 b2 ts
theorem zay:z32 PR B0 147 z1r:=by
 refine z0h [(95,z5z)] [(2,⟨[0,1,4,7,8],[900000],[]⟩)] z1r [[.int .i64]] Tryz.func147 zc4 ⟨zhi,trivial⟩ ?_;intro vs r hwf h;unfold z1r at h
 split at h
 ·rename_i l d c b0 b1 b2 ts
  refine ⟨l.length+1,?_⟩;rw [R.get_ok] at h;rw [← h];refine (zbf (l.length+1) l d c b0 b1 b2 ts).trans ?_;have hl:l.length≤strMax:=by
   have hb:=hwf (by simp [zfa])
   have:=hb.1
   simp only [wfV,wfL] at this;exact this.1
  exact y9u (l.length+1) l hl d c b0 b1 b2 ts l.length 0 (l.length+1) (by omega) (by omega)
 ·simp [R.get] at h
theorem yl2 (d c:Int):∀ (l:List IV) (i:Nat),decide (zy9 d c l (i:Int)≥0)=!(l.all (z9v d c))
 | [],i=>rfl
 | t :: l,i=>by
  unfold zy9;rw [v30];cases z9v d c t with
  | true=>
   rw [z00,v0k];exact yl2 d c l (i+1)
  | false=>
   rw [z01,v0u,v01 (show (i:Int)≥0 by omega)]
   rfl
theorem z9r:z32 PR B0 94 z1h:=by
 refine z0h [(147,z1r)] [] z1h [[.bool]] Tryz.func94 zaf ⟨zay,trivial⟩ ?_;intro vs r hwf h;unfold z1h at h
 split at h
 ·rename_i l d c b0 b1 b2 ts
  refine ⟨0,?_⟩;rw [R.get_ok] at h;rw [← h];refine (z9z 0 l d c b0 b1 b2 ts).trans ?_
  have:=yl2 d c l 0
  rw [show ((0:Nat):Int)=0 from rfl] at this
  rw [this]
 ·simp [R.get] at h
abbrev ysb (d c b0 b1 b2:Int) (ts:List IV) (b:Bool) (i:Int):St:=
 ⟨[(1,(.ptr 1 0 0)),(2,(.bool b)),(30,(.agg [(.int .i64 b0),(.int .i64 b1),(.int .i64 b2)])),(31,(.int .i64 i))],[(1,(some (.box [(.int .i64 d),(.int .i64 c),(.int .i64 b0),(.int .i64 b1),(.int .i64 b2),(.list true [(.int .i64),(.list false [(.int .u64)])] ts)]))),(53005,none)]⟩
theorem yka (c j b:Int) {α:Type _} (x y:α):cond (!z2c b) y (cond (decide (j≥c)) (cond (b != 0) y x) x)=cond (zjr c j b) x y:=by
 unfold zjr;have e:(b != 0)=!(b==0):=rfl;rw [e];cases z2c b <;> cases decide (j≥c) <;> cases (b==0) <;> rfl
theorem zrm (N:Nat) (d c b0 b1 b2:Int) (ts:List IV) (j:Nat) (b:Int) (h:(j=0∧b=b0)∨(j=1∧b=b1)∨(j=2∧b=b2)) (again:St→Res) (k:Out→St→Res) :
  rnd (z35 N) (z0f z4s [1,1,0,1,0,0]) (ysb d c b0 b1 b2 ts false (j:Int)) (z3t again ⟨[1,2,30,31],[1,53005],[]⟩ k) =
   cond (zjr c (j:Int) b) (again (ysb d c b0 b1 b2 ts false ((j+1:Nat):Int))) (k .ret (ysb d c b0 b1 b2 ts false (j:Int))):=by
 rw [zjg];have ej:IntKind.wrap IntKind.i64 ((j:Int)+1)=((j+1:Nat):Int):=by
  rw [z0s (by omega) (by omega)]
  omega
 rw [ej,← yka,v01 (show (j:Int) < 3 by omega),z00]
 rcases h with ⟨rfl,rfl⟩ | ⟨rfl,rfl⟩ | ⟨rfl,rfl⟩ <;> rfl
theorem z7e:z32 PR B0 53 z2j:=by
 refine z0h [(93,z7w),(95,z5z),(94,z1h)] [(4,⟨[1,2,30,31],[1,53005],[]⟩)] z2j [[.bool]] Tryz.func53 y55 ⟨zim,zhi,z9r,trivial⟩ ?_;intro vs r hwf h;unfold z2j at h
 split at h
 ·rename_i d c b0 b1 b2 ts
  refine ⟨6,?_⟩;rw [R.get_ok] at h;rw [← h];refine (y0j 6 d c b0 b1 b2 ts).trans ?_;have run:lpE (z35 6) (z0f z4s [1,1,0,1,0,0]) ⟨[1,2,30,31],[1,53005],[]⟩ 6 (ysb d c b0 b1 b2 ts false 0) (z05 0 (kSq (z35 6) (z0f z4s [1,1,1]) (z2s (z35 6) none [(ResultVar.tmp 2)] [[.bool]]))) =
    some (.bool ((zjr c 0 b0&&(zjr c 1 b1&&zjr c 2 b2))&&ts.all (z9v d c)),[]):=by
   have e0:ysb d c b0 b1 b2 ts false 0=ysb d c b0 b1 b2 ts false ((0:Nat):Int):=rfl;have R2:=fun j=>zp6 6 false b0 b1 b2 j d c b0 b1 b2 ts
   have R1:=fun j=>zpx 6 false b0 b1 b2 j d c b0 b1 b2 ts
   rw [e0,z06,zrm 6 d c b0 b1 b2 ts 0 b0 (by simp),R2]
   cases h0:zjr c ((0:Nat):Int) b0 with
   | false=>rfl
   | true=>
    rw [z00,z06,zrm 6 d c b0 b1 b2 ts 1 b1 (by simp),R2]
    cases h1:zjr c ((1:Nat):Int) b1 with
    | false=>rfl
    | true=>
     rw [z00,z06,zrm 6 d c b0 b1 b2 ts 2 b2 (by simp),R2]
     cases h2:zjr c ((2:Nat):Int) b2 with
     | false=>rfl
     | true=>
      rw [z00,z06,zjg,v05 (show ¬ ((2+1:Nat):Int) < 3 by omega),z01,R1,Bool.not_not]
      rfl
  unfold z2g;cases decide (d < 1) with
  | true=>rfl
  | false=>
  cases decide (d > 4) with
  | true=>rfl
  | false=>
  cases decide (c < 1) with
  | true=>rfl
  | false=>
  cases decide (c > 3) with
  | true=>rfl
  | false=>
   simp only [z01,v0j,v0k]
   by_cases h8:ts.length≤8
   ·rw [v05 (show ¬ ic ts.length > 8 by simp only [ic]; omega),z01,v1o h8,v0k]
    exact run
   ·have e:Nat.ble ts.length 8=false:=by
     cases hb:Nat.ble ts.length 8 with
     | false=>rfl
     | true=>exact absurd (v04 hb) h8
    rw [v01 (show ic ts.length > 8 by simp only [ic]; omega),z00,e,v0u]
 ·simp [R.get] at h
open Go Go.Proofs
def yia (N:Nat):Env:=mkE [(44,z7y),(144,zdz),(84,zct),(104,z6g),(57,z4l),(86,z6f)] [] 76 N
theorem ybx (N:Nat) (s:ByteArray):z0z (yia N) y21 [.tmp 2,.tmp 3] [[.int .i64],[.bool]] [(.str s)] =
 (cond (decide (ByteArray.size (z1f s { data:=#[45] }) < 4294967281))
 (cond (decide (ic (ByteArray.size (zgp (z1f s { data:=#[45] }) { data:=#[46] })) > 8))
 (some ((.tup [(.i 0),(.bool false)]),[]))
 (cond (decide (0≤IntKind.wrap IntKind.i64 (8 - ic (ByteArray.size (zgp (z1f s { data:=#[45] }) { data:=#[46] }))))&&decide (ByteArray.size { data:=#[48] }*Int.toNat (IntKind.wrap IntKind.i64 (8 - ic (ByteArray.size (zgp (z1f s { data:=#[45] }) { data:=#[46] }))))≤strMax))
 (cond (decide (ByteArray.size (zgp (z1f s { data:=#[45] }) { data:=#[46] })+ByteArray.size (zqm { data:=#[48] } (Int.toNat (IntKind.wrap IntKind.i64 (8 - ic (ByteArray.size (zgp (z1f s { data:=#[45] }) { data:=#[46] }))))))≤strMax))
 (cond (!puN (cutL (z1f s { data:=#[45] }) { data:=#[46] }))
 (some ((.tup [(.i 0),(.bool false)]),[]))
 (cond (!puN (zgp (z1f s { data:=#[45] }) { data:=#[46] }++zqm { data:=#[48] } (Int.toNat (IntKind.wrap IntKind.i64 (8 - ic (ByteArray.size (zgp (z1f s { data:=#[45] }) { data:=#[46] })))))))
 (some ((.tup [(.i 0),(.bool false)]),[]))
 (cond (decide (puV (cutL (z1f s { data:=#[45] }) { data:=#[46] }) > 36028797018963968))
 (some ((.tup [(.i 0),(.bool false)]),[]))
 (cond (Int.tmod (puV (zgp (z1f s { data:=#[45] }) { data:=#[46] }++zqm { data:=#[48] } (Int.toNat (IntKind.wrap IntKind.i64 (8 - ic (ByteArray.size (zgp (z1f s { data:=#[45] }) { data:=#[46] }))))))) 390625 != 0)
 (some ((.tup [(.i 0),(.bool false)]),[]))
 (cond (zf6 s { data:=#[45] })
 (cond (ByteArray.toList (z0i (IntKind.wrap IntKind.i64 (IntKind.wrap IntKind.u64 (0 - IntKind.wrap IntKind.u64 (IntKind.wrap IntKind.u64 (puV (cutL (z1f s { data:=#[45] }) { data:=#[46] })*2 ^ min (Int.toNat 8) (IntKind.bits IntKind.u64))+IntKind.wrap IntKind.u64 (Int.tdiv (puV (zgp (z1f s { data:=#[45] }) { data:=#[46] }++zqm { data:=#[48] } (Int.toNat (IntKind.wrap IntKind.i64 (8 - ic (ByteArray.size (zgp (z1f s { data:=#[45] }) { data:=#[46] }))))))) 390625))))))==ByteArray.toList s)
 (some ((.tup [(.i (IntKind.wrap IntKind.i64 (IntKind.wrap IntKind.u64 (0 - IntKind.wrap IntKind.u64 (IntKind.wrap IntKind.u64 (puV (cutL (z1f s { data:=#[45] }) { data:=#[46] })*2 ^ min (Int.toNat 8) (IntKind.bits IntKind.u64))+IntKind.wrap IntKind.u64 (Int.tdiv (puV (zgp (z1f s { data:=#[45] }) { data:=#[46] }++zqm { data:=#[48] } (Int.toNat (IntKind.wrap IntKind.i64 (8 - ic (ByteArray.size (zgp (z1f s { data:=#[45] }) { data:=#[46] }))))))) 390625)))))),(.bool true)]),[]))
 (some ((.tup [(.i 0),(.bool false)]),[])))
 (cond (ByteArray.toList (z0i (IntKind.wrap IntKind.i64 (IntKind.wrap IntKind.u64 (IntKind.wrap IntKind.u64 (puV (cutL (z1f s { data:=#[45] }) { data:=#[46] })*2 ^ min (Int.toNat 8) (IntKind.bits IntKind.u64))+IntKind.wrap IntKind.u64 (Int.tdiv (puV (zgp (z1f s { data:=#[45] }) { data:=#[46] }++zqm { data:=#[48] } (Int.toNat (IntKind.wrap IntKind.i64 (8 - ic (ByteArray.size (zgp (z1f s { data:=#[45] }) { data:=#[46] }))))))) 390625)))))==ByteArray.toList s)
 (some ((.tup [(.i (IntKind.wrap IntKind.i64 (IntKind.wrap IntKind.u64 (IntKind.wrap IntKind.u64 (puV (cutL (z1f s { data:=#[45] }) { data:=#[46] })*2 ^ min (Int.toNat 8) (IntKind.bits IntKind.u64))+IntKind.wrap IntKind.u64 (Int.tdiv (puV (zgp (z1f s { data:=#[45] }) { data:=#[46] }++zqm { data:=#[48] } (Int.toNat (IntKind.wrap IntKind.i64 (8 - ic (ByteArray.size (zgp (z1f s { data:=#[45] }) { data:=#[46] }))))))) 390625))))),(.bool true)]),[]))
 (some ((.tup [(.i 0),(.bool false)]),[]))))))))
 none)
 none))
 none):=by kernel_rfl
open Go Go.Proofs
theorem zt9:z32 PR B0 84 zct:=by
 refine z0h [] [(3,⟨[0,1,2],[],[]⟩)] zct [[.int .u64]] Tryz.func84 yhi trivial ?_;intro vs r hwf h;unfold zct at h
 split at h
 ·refine ⟨9,?_⟩
  rw [← h];show z0z (yi2 9) y13 [.tmp 0] [[.int .u64]] []=_
  kernel_rfl
 ·simp [R.get] at h
theorem yrw {s:ByteArray} (h:puN s=true):0 < s.size:=by
 unfold puN at h
 split at h
 ·rename_i v hv
  have:s.data.toList≠[]:=fun e=>by rw [e] at hv; cases hv
  rw [zgg];exact List.length_pos_iff.2 this
 ·cases h
theorem yld {s:ByteArray} (h:puN s=true):(List.getD s.data.toList 0 0).toNat≠43:=by
 unfold puN at h
 split at h
 ·rename_i v hv
  revert hv
  cases s.data.toList with
  | nil=>intro _; decide
  | cons c r=>
   intro hv he;have he:c.toNat=43:=he;unfold Lib.parseMag at hv;rw [v0y (by simp),Lib.parseUint10,v0y (by omega)] at hv
   cases hv
 ·cases h
theorem y0p:z32 PR B0 144 zdz:=by
 refine z0h [(189,z86)] [] zdz [[.int .u64],[.bool]] Tryz.func144 y90 ⟨zkp,trivial⟩ ?_;intro vs r hwf h;unfold zdz at h
 split at h
 ·rename_i s
  refine ⟨0,?_⟩;rw [← h];refine (y36 0 s).trans ?_;simp only [R.get_ok];cases hp:puN s with
  | false=>simp only [z01]
  | true=>
   have h1:(decide (0≤0)&&decide (0 < ic (ByteArray.size s)))=true:=by
    have:=yrw hp
    simp [ic]; omega
   have h2:(ic (UInt8.toNat (List.getD (Array.toList (ByteArray.data s)) (Int.toNat 0) 0)) != 43)=true:=by
    have:=yld hp
    rw [ym9];simp only [ic,Int.toNat_zero];simp only [v12,v15];omega
   rw [h1,h2];simp only [z00]
 ·simp [R.get] at h
theorem yl3 {n:Int} (h0:0≤n) (h1:n < 18446744073709551616):IntKind.wrap .u64 n=n:=by rw [IntKind.wrap_u64]; omega
theorem yol {n:Int} (h0:n < 0) (h1 : -9223372036854775808≤n):IntKind.wrap .u64 (0 - IntKind.wrap .u64 n)=(n.natAbs:Int):=by rw [IntKind.wrap_u64,IntKind.wrap_u64]; omega
theorem yo7 {n:Int} (h0:¬ n < 0) (h1:n≤9223372036854775807):IntKind.wrap .u64 n=(n.natAbs:Int):=by rw [IntKind.wrap_u64]; omega
theorem ylb (u:Nat) (h:u < 18446744073709551616):IntKind.wrap .u64 (ic (BitVec.toNat (BitVec.ofInt (IntKind.bits IntKind.u64) (u:Int) &&& BitVec.ofInt (IntKind.bits IntKind.u64) 255)))=((u % 256:Nat):Int):=by
 have e:BitVec.toNat (BitVec.ofInt (IntKind.bits IntKind.u64) (u:Int) &&& BitVec.ofInt (IntKind.bits IntKind.u64) 255)=u % 256:=by
  have h1:(BitVec.ofInt (IntKind.bits IntKind.u64) (u:Int)).toNat=u:=by
   show (BitVec.ofInt 64 (u:Int)).toNat=u;rw [BitVec.toNat_ofInt];omega
  have h2:(BitVec.ofInt (IntKind.bits IntKind.u64) 255).toNat=2 ^ 8 - 1:=by rfl
  rw [BitVec.toNat_and,h1,h2,Nat.and_two_pow_sub_one_eq_mod]
 rw [e];exact yl3 (by simp [ic]; omega) (by simp [ic]; omega)
theorem yt4 (u:Nat):Int.fdiv (u:Int) (2 ^ min (Int.toNat 8) (IntKind.bits IntKind.u64))=((u / 256:Nat):Int):=by
 have e:(2:Int) ^ min (Int.toNat 8) (IntKind.bits IntKind.u64)=((256:Nat):Int):=rfl;rw [e,Int.fdiv_eq_ediv_of_nonneg _ (by omega)]
 rfl
theorem yfy {r:Nat} (h:r < 256):IntKind.wrap .u64 ((r:Int)*390625)=((r*390625:Nat):Int):=by
 rw [yl3 (by omega) (by omega)]
 omega
theorem y4v (u:Nat):zce (u:Int)=⟨(Lib.decDigits u).toArray⟩:=rfl
theorem ymm:(List.range 256).all (fun r=>Nat.ble (Lib.decDigits (r*390625)).length 8)=true:=by kernel_rfl
theorem yo5 {r:Nat} (h:r < 256):(Lib.decDigits (r*390625)).length≤8:=by
 have:=v35.1 ymm r (List.mem_range.2 h)
 exact v04 this
theorem yk1 (l:List UInt8):(⟨l.toArray⟩:ByteArray).data.toList=l:=rfl
theorem zq4 (s t:ByteArray):(s++t).data.toList=s.data.toList++t.data.toList:=by simp
theorem yq9 (l:List UInt8):(⟨l.toArray⟩:ByteArray).size=l.length:=by rw [zgg]
theorem y2m {u:Nat} (hu:u < 18446744073709551616) (sg:ByteArray) (hsg:sg.size≤1) (K:ByteArray) (hK:K=sg++⟨(y0z u).toArray⟩) :
  (cond (decide (ByteArray.size sg+ByteArray.size (zce ((u / 256:Nat):Int))≤strMax))
   (cond (((u % 256:Nat):Int)==0)
    (some ((.str (sg++zce ((u / 256:Nat):Int))),[]))
    (cond (decide (ByteArray.size (sg++zce ((u / 256:Nat):Int))+ByteArray.size { data:=#[46] }≤strMax))
     (cond (decide (0≤IntKind.wrap IntKind.i64 (8 - ic (ByteArray.size (zce ((u % 256*390625:Nat):Int)))))&&decide (ByteArray.size { data:=#[48] }*Int.toNat (IntKind.wrap IntKind.i64 (8 - ic (ByteArray.size (zce ((u % 256*390625:Nat):Int)))))≤strMax))
      (cond (decide (ByteArray.size (zqm { data:=#[48] } (Int.toNat (IntKind.wrap IntKind.i64 (8 - ic (ByteArray.size (zce ((u % 256*390625:Nat):Int)))))))+ByteArray.size (zce ((u % 256*390625:Nat):Int))≤strMax))
       (cond (decide (ByteArray.size (sg++zce ((u / 256:Nat):Int)++{ data:=#[46] })+ByteArray.size (zj9 (zqm { data:=#[48] } (Int.toNat (IntKind.wrap IntKind.i64 (8 - ic (ByteArray.size (zce ((u % 256*390625:Nat):Int))))))++zce ((u % 256*390625:Nat):Int)) { data:=#[48] })≤strMax))
        (some ((.str (sg++zce ((u / 256:Nat):Int)++{ data:=#[46] }++zj9 (zqm { data:=#[48] } (Int.toNat (IntKind.wrap IntKind.i64 (8 - ic (ByteArray.size (zce ((u % 256*390625:Nat):Int))))))++zce ((u % 256*390625:Nat):Int)) { data:=#[48] })),[]))
        none)
       none)
      none)
     none))
   none)=(some (V.str K,[]):Res):=by
 have hr:u % 256 < 256:=by omega
 have l1:(zce ((u / 256:Nat):Int)).size≤20:=zxx (by omega) (by omega)
 have l2:(zce ((u % 256*390625:Nat):Int)).size=(Lib.decDigits (u % 256*390625)).length:=by rw [y4v,yq9]
 have l3:=yo5 hr;generalize hD:Lib.decDigits (u % 256*390625)=D at l2 l3;have e8:IntKind.wrap IntKind.i64 (8 - ic (ByteArray.size (zce ((u % 256*390625:Nat):Int))))=((8 - D.length:Nat):Int):=by
  rw [l2,z0s (by simp [ic]; omega) (by simp [ic]; omega)]
  simp only [ic];omega
 rw [e8];simp only [v0g];have s46:ByteArray.size { data:=#[46] }=1:=rfl;have s48:ByteArray.size { data:=#[48] }=1:=rfl;have l4:(zqm { data:=#[48] } (8 - D.length)).size=8 - D.length:=by rw [zvu,s48]; omega
 have l5:=zwc (zqm { data:=#[48] } (8 - D.length)++zce ((u % 256*390625:Nat):Int)) { data:=#[48] };rw [v0f,l4,l2] at l5;rw [v01 (show ByteArray.size sg+ByteArray.size (zce ((u / 256:Nat):Int))≤strMax by unfold strMax; omega),
  v01 (show ByteArray.size (sg++zce ((u / 256:Nat):Int))+ByteArray.size { data:=#[46] }≤strMax by rw [v0f,s46]; unfold strMax; omega),
  v01 (show (0:Int)≤((8 - D.length:Nat):Int) by omega),
  v01 (show ByteArray.size { data:=#[48] }*(8 - D.length)≤strMax by rw [s48]; unfold strMax; omega),
  v01 (show ByteArray.size (zqm { data:=#[48] } (8 - D.length))+ByteArray.size (zce ((u % 256*390625:Nat):Int))≤strMax by rw [l4,l2]; unfold strMax; omega),
  v01 (show ByteArray.size (sg++zce ((u / 256:Nat):Int)++{ data:=#[46] })+ByteArray.size (zj9 (zqm { data:=#[48] } (8 - D.length)++zce ((u % 256*390625:Nat):Int)) { data:=#[48] })≤strMax by rw [v0f,v0f,s46]; unfold strMax; omega)]
 simp only [z00,v1d];subst hK
 by_cases h0:u % 256=0
 ·have e0:(((u % 256:Nat):Int)==0)=true:=by rw [zl9]; exact v01 (by omega)
  rw [e0,z00]
  have:sg++zce ((u / 256:Nat):Int)=sg++⟨(y0z u).toArray⟩:=by
   apply zfm;rw [zq4,zq4,y4v,yk1,yk1,y0z,v1b h0,v2a]
  rw [this]
 ·have e0:(((u % 256:Nat):Int)==0)=false:=by rw [zl9]; exact v05 (by omega)
  rw [e0,z01]
  have:sg++zce ((u / 256:Nat):Int)++{ data:=#[46] }++zj9 (zqm { data:=#[48] } (8 - D.length)++zce ((u % 256*390625:Nat):Int)) { data:=#[48] }=sg++⟨(y0z u).toArray⟩:=by
   apply zfm;simp only [zq4,y4v,y0z,v0y h0,zj9,zqm,y03,hD,v2w]
   rfl
  rw [this]
theorem zie:z32 PR B0 44 z7y:=by
 refine z0h [(84,zct),(83,z78),(86,z6f),(85,z83)] [] z7y [[.str]] Tryz.func44 ye0 ⟨zt9,zjp,zgn,zjw,trivial⟩ ?_;intro vs r hwf h;unfold z7y at h
 split at h
 ·rename_i n
  refine ⟨0,?_⟩;rw [← h];refine (y7o 0 n).trans ?_;simp only [R.get_ok];have hb:=(hwf (by simp [zfa])).1
  simp only [wfV,wfL] at hb;obtain ⟨h0,h1⟩:=hb;have e0:IntKind.i64.min = -9223372036854775808:=rfl;have e1:IntKind.i64.max=9223372036854775807:=rfl;rw [e0] at h0;rw [e1] at h1;have hu:n.natAbs < 18446744073709551616:=by omega
  by_cases hn:n < 0
  ·rw [v01 hn,z00,yol hn h0,yt4,ylb _ hu,yfy (by omega)]
   exact y2m hu ⟨#[45]⟩ (by decide) _ (by apply zfm; rw [zq4]; unfold z0i zw9; rw [v1b hn]; rfl)
  ·rw [v05 hn,z01,yo7 hn h1,yt4,ylb _ hu,yfy (by omega)]
   exact y2m hu ⟨#[]⟩ (by decide) _ (by apply zfm; rw [zq4]; unfold z0i zw9; rw [v0y hn]; rfl)
 ·simp [R.get] at h
open Go Go.Proofs
theorem zts:z32 PR B0 91 zcr:=by
 refine z0h [(44,z7y),(144,zdz),(84,zct),(104,z6g),(57,z4l),(86,z6f)] [] zcr [[.int .i64],[.bool]] Tryz.func91 yhy
  ⟨zie,y0p,zt9,zfq,ze7,zgn,trivial⟩ ?_
 intro vs r hwf h;unfold zcr at h
 split at h
 ·rename_i s
  refine ⟨0,?_⟩;cases hs:decide (s.size < 4294967281) with
  | false=>rw [hs] at h; simp [R.get] at h
  | true=>
   rw [hs,R.get_br,z00,R.get_ok] at h;have hs:=v0c hs;rw [← h];refine (ybx 0 s).trans ?_;have hz:=zq6 s { data:=#[45] };rw [v01 (show ByteArray.size (z1f s { data:=#[45] }) < 4294967281 by omega),z00]
   have eW:cutL (z1f s { data:=#[45] }) { data:=#[46] }=zgl s:=rfl;have eP:zgp (z1f s { data:=#[45] }) { data:=#[46] }=z8s s:=rfl;have eM:zf6 s { data:=#[45] }=zf6 s zyl:=rfl;rw [eW,eP,eM];unfold zm5
   by_cases h8:(z8s s).size≤8
   ·have c1:decide (ic (ByteArray.size (z8s s)) > 8)=false:=v05 (by simp only [ic]; omega)
    have e8:IntKind.wrap IntKind.i64 (8 - ic (ByteArray.size (z8s s)))=((8 - (z8s s).size:Nat):Int):=by
     rw [z0s (by simp only [ic]; omega) (by simp only [ic]; omega)]
     simp only [ic];omega
    rw [c1,z01,e8];simp only [v0g];have s48:ByteArray.size { data:=#[48] }=1:=rfl;have eF:z8s s++zqm { data:=#[48] } (8 - (z8s s).size)=zef s:=rfl;have l4:(zqm { data:=#[48] } (8 - (z8s s).size)).size=8 - (z8s s).size:=by rw [zvu,s48]; omega
    rw [v01 (show (0:Int)≤((8 - (z8s s).size:Nat):Int) by omega),v01 (show ByteArray.size { data:=#[48] }*(8 - (z8s s).size)≤strMax by rw [s48]; unfold strMax; omega),v1d,z00,
     v01 (show ByteArray.size (z8s s)+ByteArray.size (zqm { data:=#[48] } (8 - (z8s s).size))≤strMax by rw [l4]; unfold strMax; omega),z00,eF]
    have hw:=zw3 (zgl s);have hf:=zw3 (zef s);have b0:IntKind.u64.min=0:=rfl;have b1:IntKind.u64.max=18446744073709551615:=rfl;rw [b0,b1] at hw hf;have em:Int.tmod (puV (zef s)) 390625=puV (zef s) % 390625:=Int.tmod_eq_emod_of_nonneg hf.1;have ed:IntKind.wrap IntKind.u64 (Int.tdiv (puV (zef s)) 390625)=puV (zef s) / 390625:=by
     rw [Int.tdiv_eq_ediv_of_nonneg hf.1,yl3 (by omega) (by omega)]
    have e2:(2:Int) ^ min (Int.toNat 8) (IntKind.bits IntKind.u64)=256:=rfl;rw [em,ed,e2];have eS:IntKind.wrap IntKind.u64 (IntKind.wrap IntKind.u64 (puV (zgl s)*256)+puV (zef s) / 390625)=zir s:=rfl;rw [eS];unfold yow;rw [v01 h8,ylw,zrd,ym9];cases hp1:puN (zgl s) with
    | false=>simp only [v0j,z00,z01,v0u,v2o]
    | true=>
     cases hp2:puN (zef s) with
     | false=>simp only [v0j,v0e,z00,z01,v0u,v2o]
     | true=>
      simp only [v0e,z01,v0k];cases hc:decide (36028797018963968 < puV (zgl s)) with
      | true=>simp only [v0e,z00,z01,v0u]
      | false=>
       cases hd:decide (puV (zef s) % 390625=0) with
       | false=>simp only [v0j,z00,z01,v0u,v0k]
       | true=>
        simp only [v0j,v0e,z01,v0k];unfold yje;cases hm:zf6 s zyl with
        | false=>
         simp only [z01];rw [show IntKind.wrap IntKind.i64 (zir s)=zex (zir s) from rfl,zot]
         cases decide (z0i (zex (zir s))=s) <;> simp only [z00,z01]
        | true=>
         simp only [z00];rw [show IntKind.wrap IntKind.i64 (IntKind.wrap IntKind.u64 (0 - zir s))=zex (y59 (0 - zir s)) from rfl,zot]
         cases decide (z0i (zex (y59 (0 - zir s)))=s) <;> simp only [z00,z01]
   ·have c1:decide (ic (ByteArray.size (z8s s)) > 8)=true:=v01 (by simp only [ic]; omega)
    rw [c1,z00];unfold yow;rw [v05 h8,v0u,z01]
 ·simp [R.get] at h
open Go Go.Proofs
def z13 (N:Nat):Env:=mkE [(44,z7y),(53,z2j),(55,z2i),(43,z2y),(56,z1l),(54,zf7)] [(7,⟨[1,2,3,4,28,29,30],[1,3,500],[⟨.tmp 4,500,9,false,[.str]⟩]⟩),(13,⟨[2,3,43,44,45],[3],[]⟩),(17,⟨[2,3,43,44,45,59,60,61],[3],[]⟩)] 94 N
abbrev z6z (s2:ByteArray) (n4 n28:Nat) (x29 x30 u02 u03 u04 u05 u06:Int) (u00:List IV) (so3:ByteArray) (u01:List IV):St:=⟨[(1,(.ptr 1 0 0)),(2,(.str s2)),(3,(.ptr 3 0 0)),(4,(.row 500 0 n4)),(28,(.bview 1 2 3 1 n28)),(29,(.i x29)),(30,(.i x30))],[(1,(some (.box [(.i u02),(.i u03),(.i u04),(.i u05),(.i u06),(.list true [(.int .i64),(.list false [(.int .u64)])] u00)]))),(3,(some (.bld so3))),(500,(some (.row true 9 false [.str] u01)))]⟩
abbrev za7 (s2:ByteArray) (l43:List IV) (x44 x45:Int) (so3:ByteArray):St:=⟨[(2,(.str s2)),(3,(.ptr 3 0 0)),(43,(.list true [(.int .i64),(.list false [(.int .u64)])] l43)),(44,(.i x44)),(45,(.i x45))],[(3,(some (.bld so3)))]⟩
abbrev z8n (s2:ByteArray) (l43:List IV) (x44 x45:Int) (l59:List IV) (x60 x61:Int) (so3:ByteArray):St:=⟨[(2,(.str s2)),(3,(.ptr 3 0 0)),(43,(.list true [(.int .i64),(.list false [(.int .u64)])] l43)),(44,(.i x44)),(45,(.i x45)),(59,(.list false [(.int .u64)] l59)),(60,(.i x60)),(61,(.i x61))],[(3,(some (.bld so3)))]⟩
theorem y4t (N:Nat) (u04 u03 u00 u01 u02:Int) (u05:List IV):z0z (z13 N) z1x [.tmp 2] [[.str]] [(.agg [(.i u04),(.i u03),(.i u00),(.i u01),(.i u02),(.list true [.int .i64,.list false [.int .u64]] u05)])]=(cond (!z2g {d:=u04,c:=u03,b0:=u00,b1:=u01,b2:=u02,ts:=u05}) (some ((.str ({data:=#[]})),[])) (cond (Nat.ble (List.length (List.drop 0 (List.take 3 [IV.str {data:=#[102,111,114,101,115,116]},IV.str (z0n u04),IV.str (z0n u03)]))) 1000&&decide (ByteArray.size ByteArray.empty+ByteArray.size (z69 (List.map IV.toStr (List.drop 0 (List.take 3 [IV.str {data:=#[102,111,114,101,115,116]},IV.str (z0n u04),IV.str (z0n u03)]))))≤1000000000)) (cond (decide (0≤u03)&&decide (u03≤ic 3)) (lpE (z13 N) (z0f z1x [1,1,1,1,1,0,1,0,0]) ⟨[1,2,3,4,28,29,30],[1,3,500],[⟨(.tmp 4),500,9,false,[.str]⟩]⟩ N (z6z ({data:=#[]}) 1 (Int.toNat u03) (ic (Int.toNat u03)) 0 u04 u03 u00 u01 u02 u05 (ByteArray.empty++z69 (List.map IV.toStr (List.drop 0 (List.take 3 [IV.str {data:=#[102,111,114,101,115,116]},IV.str (z0n u04),IV.str (z0n u03)])))) [(IV.str {data:=#[98,105,97,115]})]) (z05 0 (kSq (z13 N) (z0f z1x [1,1,1,1,1,1]) (z2s (z13 N) none [(ResultVar.tmp 2)] [[.str]])))) none) none)):=by kernel_rfl
theorem zc9 (N:Nat) (s2:ByteArray) (n4 n28:Nat) (x29 x30 u02 u03 u04 u05 u06:Int) (u00:List IV) (so3:ByteArray) (u01:List IV) (again:St→Res) (k:Out→St→Res):rnd (z13 N) (z0f z1x [1,1,1,1,1,0,1,0,0]) (z6z s2 n4 n28 x29 x30 u02 u03 u04 u05 u06 u00 so3 u01) (z3t again ⟨[1,2,3,4,28,29,30],[1,3,500],[⟨(.tmp 4),500,9,false,[.str]⟩]⟩ k)=(cond (decide (x30 < x29)) (cond (decide (x30 < ic n28)) (cond (decide (x30=ic 0)) (cond (decide ((n4+List.length (List.drop 0 (List.take 1 [IV.str (z0i u04)])))*TI.bytes (Env.tyd (z13 N) 9)≤z08)) (again (z6z s2 (n4+List.length (List.drop 0 (List.take 1 [IV.str (z0i u04)]))) n28 x29 (IntKind.wrap IntKind.i64 (x30+1)) u02 u03 u04 u05 u06 u00 so3 (List.take n4 u01++List.drop 0 (List.take 1 [IV.str (z0i u04)])))) none) (cond (decide (x30=ic 1)) (cond (decide ((n4+List.length (List.drop 0 (List.take 1 [IV.str (z0i u05)])))*TI.bytes (Env.tyd (z13 N) 9)≤z08)) (again (z6z s2 (n4+List.length (List.drop 0 (List.take 1 [IV.str (z0i u05)]))) n28 x29 (IntKind.wrap IntKind.i64 (x30+1)) u02 u03 u04 u05 u06 u00 so3 (List.take n4 u01++List.drop 0 (List.take 1 [IV.str (z0i u05)])))) none) (cond (decide (x30=ic 2)) (cond (decide ((n4+List.length (List.drop 0 (List.take 1 [IV.str (z0i u06)])))*TI.bytes (Env.tyd (z13 N) 9)≤z08)) (again (z6z s2 (n4+List.length (List.drop 0 (List.take 1 [IV.str (z0i u06)]))) n28 x29 (IntKind.wrap IntKind.i64 (x30+1)) u02 u03 u04 u05 u06 u00 so3 (List.take n4 u01++List.drop 0 (List.take 1 [IV.str (z0i u06)])))) none) none))) none) (k (.exit 0) (z6z s2 n4 n28 x29 x30 u02 u03 u04 u05 u06 u00 so3 u01))):=by kernel_rfl
theorem zsl (N:Nat) (s2:ByteArray) (n4 n28:Nat) (x29 x30 u02 u03 u04 u05 u06:Int) (u00:List IV) (so3:ByteArray) (u01:List IV):(z05 0 (kSq (z13 N) (z0f z1x [1,1,1,1,1,1]) (z2s (z13 N) none [(ResultVar.tmp 2)] [[.str]]))) (.exit 0) (z6z s2 n4 n28 x29 x30 u02 u03 u04 u05 u06 u00 so3 u01)=(cond (Nat.ble (List.length (List.drop 0 (List.take n4 u01))) 1000&&decide (ByteArray.size so3+ByteArray.size (z69 (List.map IV.toStr (List.drop 0 (List.take n4 u01))))≤1000000000)) (lpE (z13 N) (z0f z1x [1,1,1,1,1,1,1,0,1,0,0]) ⟨[2,3,43,44,45],[3],[]⟩ N (za7 s2 u00 (ic (List.length u00)) 0 (so3++z69 (List.map IV.toStr (List.drop 0 (List.take n4 u01))))) (z05 2 (kSq (z13 N) (z0f z1x [1,1,1,1,1,1,1,1]) (z2s (z13 N) none [(ResultVar.tmp 2)] [[.str]])))) none):=by kernel_rfl
theorem zk8 (N:Nat) (s2:ByteArray) (l43:List IV) (x44 x45:Int) (so3:ByteArray) (again:St→Res) (k:Out→St→Res):rnd (z13 N) (z0f z1x [1,1,1,1,1,1,1,0,1,0,0]) (za7 s2 l43 x44 x45 so3) (z3t again ⟨[2,3,43,44,45],[3],[]⟩ k)=(cond (decide (x45 < x44)) (cond (decide (0≤x45)&&decide (x45 < ic (List.length l43))) (cond (Nat.ble (List.length (List.drop 0 (List.take 3 [IV.str {data:=#[116,114,101,101]},IV.str (z0n (IV.toInt (IV.cell (List.getD l43 (Int.toNat x45) default) 0))),IV.str (z0n (ic (List.length (IV.toList (IV.cell (List.getD l43 (Int.toNat x45) default) 1)))))]))) 1000&&decide (ByteArray.size so3+ByteArray.size (z69 (List.map IV.toStr (List.drop 0 (List.take 3 [IV.str {data:=#[116,114,101,101]},IV.str (z0n (IV.toInt (IV.cell (List.getD l43 (Int.toNat x45) default) 0))),IV.str (z0n (ic (List.length (IV.toList (IV.cell (List.getD l43 (Int.toNat x45) default) 1)))))]))))≤1000000000)) (lpE (z13 N) (z0f z1x [1,1,1,1,1,1,1,0,1,0,0,1,1,0,0,1,1,1,0,0]) ⟨[2,3,43,44,45,59,60,61],[3],[]⟩ N (z8n s2 l43 x44 x45 (IV.toList (IV.cell (List.getD l43 (Int.toNat x45) default) 1)) (ic (List.length (IV.toList (IV.cell (List.getD l43 (Int.toNat x45) default) 1)))) 0 (so3++z69 (List.map IV.toStr (List.drop 0 (List.take 3 [IV.str {data:=#[116,114,101,101]},IV.str (z0n (IV.toInt (IV.cell (List.getD l43 (Int.toNat x45) default) 0))),IV.str (z0n (ic (List.length (IV.toList (IV.cell (List.getD l43 (Int.toNat x45) default) 1)))))]))))) (z05 4 (z05 3 (kSq (z13 N) (z0f z1x [1,1,1,1,1,1,1,0,1,0,0,1,1,1]) (z3t again ⟨[2,3,43,44,45],[3],[]⟩ k))))) none) none) (k (.exit 2) (za7 s2 l43 x44 x45 so3))):=by kernel_rfl
theorem zlc (N:Nat) (s2:ByteArray) (l43:List IV) (x44 x45:Int) (l59:List IV) (x60 x61:Int) (so3:ByteArray) (again:St→Res) (k:Out→St→Res):rnd (z13 N) (z0f z1x [1,1,1,1,1,1,1,0,1,0,0,1,1,0,0,1,1,1,0,0]) (z8n s2 l43 x44 x45 l59 x60 x61 so3) (z3t again ⟨[2,3,43,44,45,59,60,61],[3],[]⟩ k)=(cond (decide (x61 < x60)) (cond (decide (0≤x61)&&decide (x61 < ic (List.length l59))) (cond (Nd.lf (z07 (IV.toInt (List.getD l59 (Int.toNat x61) default)))) (cond (Nat.ble (List.length (List.drop 0 (List.take 2 [IV.str {data:=#[108,101,97,102]},IV.str (z0i (Nd.v (z07 (IV.toInt (List.getD l59 (Int.toNat x61) default)))))]))) 1000&&decide (ByteArray.size so3+ByteArray.size (z69 (List.map IV.toStr (List.drop 0 (List.take 2 [IV.str {data:=#[108,101,97,102]},IV.str (z0i (Nd.v (z07 (IV.toInt (List.getD l59 (Int.toNat x61) default)))))]))))≤1000000000)) (again (z8n s2 l43 x44 x45 l59 x60 (IntKind.wrap IntKind.i64 (x61+1)) (so3++z69 (List.map IV.toStr (List.drop 0 (List.take 2 [IV.str {data:=#[108,101,97,102]},IV.str (z0i (Nd.v (z07 (IV.toInt (List.getD l59 (Int.toNat x61) default)))))])))))) none) (cond (Nat.ble (List.length (List.drop 0 (List.take 8 [IV.str {data:=#[105,102]},IV.str (z0n (Nd.f (z07 (IV.toInt (List.getD l59 (Int.toNat x61) default))))),IV.str {data:=#[60,61]},IV.str (z0i (Nd.a (z07 (IV.toInt (List.getD l59 (Int.toNat x61) default))))),IV.str {data:=#[116,104,101,110]},IV.str (z0n (Nd.l (z07 (IV.toInt (List.getD l59 (Int.toNat x61) default))))),IV.str {data:=#[101,108,115,101]},IV.str (z0n (Nd.r (z07 (IV.toInt (List.getD l59 (Int.toNat x61) default)))))]))) 1000&&decide (ByteArray.size so3+ByteArray.size (z69 (List.map IV.toStr (List.drop 0 (List.take 8 [IV.str {data:=#[105,102]},IV.str (z0n (Nd.f (z07 (IV.toInt (List.getD l59 (Int.toNat x61) default))))),IV.str {data:=#[60,61]},IV.str (z0i (Nd.a (z07 (IV.toInt (List.getD l59 (Int.toNat x61) default))))),IV.str {data:=#[116,104,101,110]},IV.str (z0n (Nd.l (z07 (IV.toInt (List.getD l59 (Int.toNat x61) default))))),IV.str {data:=#[101,108,115,101]},IV.str (z0n (Nd.r (z07 (IV.toInt (List.getD l59 (Int.toNat x61) default)))))]))))≤1000000000)) (again (z8n s2 l43 x44 x45 l59 x60 (IntKind.wrap IntKind.i64 (x61+1)) (so3++z69 (List.map IV.toStr (List.drop 0 (List.take 8 [IV.str {data:=#[105,102]},IV.str (z0n (Nd.f (z07 (IV.toInt (List.getD l59 (Int.toNat x61) default))))),IV.str {data:=#[60,61]},IV.str (z0i (Nd.a (z07 (IV.toInt (List.getD l59 (Int.toNat x61) default))))),IV.str {data:=#[116,104,101,110]},IV.str (z0n (Nd.l (z07 (IV.toInt (List.getD l59 (Int.toNat x61) default))))),IV.str {data:=#[101,108,115,101]},IV.str (z0n (Nd.r (z07 (IV.toInt (List.getD l59 (Int.toNat x61) default)))))])))))) none)) none) (k (.exit 4) (z8n s2 l43 x44 x45 l59 x60 x61 so3))):=by kernel_rfl
theorem zqu (N:Nat) (s2:ByteArray) (l43:List IV) (x44 x45:Int) (so3:ByteArray):(z05 2 (kSq (z13 N) (z0f z1x [1,1,1,1,1,1,1,1]) (z2s (z13 N) none [(ResultVar.tmp 2)] [[.str]]))) (.exit 2) (za7 s2 l43 x44 x45 so3)=(some ((.str so3),[])):=by kernel_rfl
theorem zqz (N:Nat) (again:St→Res) (k:Out→St→Res) (s2:ByteArray) (l43:List IV) (x44 x45:Int) (l59:List IV) (x60 x61:Int) (so3:ByteArray):(z05 4 (z05 3 (kSq (z13 N) (z0f z1x [1,1,1,1,1,1,1,0,1,0,0,1,1,1]) (z3t again ⟨[2,3,43,44,45],[3],[]⟩ k)))) (.exit 4) (z8n s2 l43 x44 x45 l59 x60 x61 so3)=(again (za7 s2 l43 x44 (IntKind.wrap IntKind.i64 (x45+1)) so3)):=by kernel_rfl
def ybs (N:Nat):Env:=mkE [(97,z29),(60,z14),(45,z8l)] [] 10 N
theorem y7b (N:Nat) (b:ByteArray) (u00:List IV):z0z (ybs N) zxa [] [] [(.bor [.bld b]),(.list false [.str] u00)]=(cond (decide (List.length u00≤strMax)&&decide (ByteArray.size (zcb (List.map IV.toStr u00) {data:=#[32]})≤strMax)) (cond (decide (ByteArray.size b+ByteArray.size (zcb (List.map IV.toStr u00) {data:=#[32]})≤strMax)) (cond (decide (ByteArray.size (b++zcb (List.map IV.toStr u00) {data:=#[32]})+1≤strMax)) (some ((.tup []),[[(.bld (ByteArray.push (b++zcb (List.map IV.toStr u00) {data:=#[32]}) (zgd 10)))]])) none) none) none):=by kernel_rfl
def zpu (N:Nat):Env:=mkE [(46,z1t)] [] 26 N
theorem znj (N:Nat) (u00:List IV):z0z (zpu N) zgb [.tmp 2] [[.list false [.str]]] [(.bor [(.list false [.str] u00)])]=(cond (ic (List.length u00)==0) (some ((.list false [.str] []),[[(.list false [.str] u00)]])) (cond (decide (0≤0)&&decide (0 < ic (List.length u00))) (cond (decide (0≤1)&&decide (1≤ic (List.length u00))) (cond (decide (ByteArray.size (IV.toStr (List.getD u00 (Int.toNat 0) default)) < 4294967281)&&decide (1≤ByteArray.size {data:=#[32]})) (some ((.list false [.str] (List.map IV.str (z0d (IV.toStr (List.getD u00 (Int.toNat 0) default)) {data:=#[32]}))),[[(.list false [.str] (List.drop (Int.toNat 1) (List.take (List.length u00) u00)))]])) none) none) none)):=by kernel_rfl
def ybq (N:Nat):Env:=mkE [] [] 13 N
theorem y9h (N:Nat) (l:List IV) (i:Int):z0z (ybq N) zwk [.tmp 4] [[.str]] [(.list false [.str] l),(.i i)]=(cond (decide (i≥ic (List.length l))) (some ((.str ({data:=#[]})),[])) (cond (decide (0≤i)&&decide (i < ic (List.length l))) (some ((.str (IV.toStr (List.getD l (Int.toNat i) default))),[])) none)):=by kernel_rfl
def ybd (N:Nat):Env:=mkE [(90,z3w)] [] 24 N
theorem y3z (N:Nat) (s:ByteArray) (most:Int):z0z (ybd N) zt0 [.tmp 4] [[.int .i64]] [(.str s),(.i most)]=(cond (!zmc s) (some ((.i 0),[])) (cond (decide (z58 s < 0)) (some ((.i 0),[])) (cond (decide (z58 s > most)) (some ((.i 0),[])) (some ((.i (z58 s)),[]))))):=by kernel_rfl
def ybg (N:Nat):Env:=mkE [(91,zcr)] [] 11 N
theorem y9r (N:Nat) (s:ByteArray):z0z (ybg N) zye [.tmp 2] [[.int .i64]] [(.str s)]=(cond (decide (ByteArray.size s < 4294967281)) (some ((.i (zm5 s)),[])) none):=by kernel_rfl
def zoo (N:Nat):Env:=mkE [(92,zaw),(49,z90),(48,z40),(51,zb3),(50,zat)] [] 28 N
theorem zn7 (N:Nat) (u00:List IV):z0z (zoo N) zge [.tmp 2] [[.int .u64]] [(.bor [(.list false [.str] u00)])]=(cond (z7x u00) (cond (ByteArray.toList (wAt (z4i u00) (Int.toNat 0))==ByteArray.toList {data:=#[108,101,97,102]}) (cond (decide (ByteArray.size (wAt (z4i u00) (Int.toNat 1)) < 4294967281)) (some ((.int .u64 (z9w {lf:=true,v:=zm5 (wAt (z4i u00) (Int.toNat 1)),f:=0,a:=0,l:=0,r:=0})),[[(.list false [.str] (List.drop 1 u00))]])) none) (cond (decide (ByteArray.size (wAt (z4i u00) (Int.toNat 3)) < 4294967281)) (some ((.int .u64 (z9w {lf:=false,v:=0,f:=zho (wAt (z4i u00) (Int.toNat 1)) 4,a:=zm5 (wAt (z4i u00) (Int.toNat 3)),l:=zho (wAt (z4i u00) (Int.toNat 5)) 31,r:=zho (wAt (z4i u00) (Int.toNat 7)) 31})),[[(.list false [.str] (List.drop 1 u00))]])) none)) none):=by kernel_rfl
def zcf (N:Nat):Env:=mkE [] [] 21 N
theorem zc2 (N:Nat) (s u00:ByteArray):z0z (zcf N) z73 [.tmp 4] [[.bool]] [(.str s),(.str u00)]=(cond (decide (ic (ByteArray.size s)≥ic (ByteArray.size u00))) (cond (decide (0≤IntKind.wrap IntKind.i64 (ic (ByteArray.size s) - ic (ByteArray.size u00)))&&decide (IntKind.wrap IntKind.i64 (ic (ByteArray.size s) - ic (ByteArray.size u00))≤ic (ByteArray.size s))) (some ((.bool (ByteArray.toList (ByteArray.extract s (Int.toNat (IntKind.wrap IntKind.i64 (ic (ByteArray.size s) - ic (ByteArray.size u00)))) (ByteArray.size s))==ByteArray.toList u00)),[])) none) (some ((.bool false),[]))):=by kernel_rfl
def zbp (N:Nat):Env:=mkE [(141,z1v)] [] 16 N
theorem zbg (N:Nat) (s u00:ByteArray):z0z (zbp N) z6m [.tmp 4] [[.str]] [(.str s),(.str u00)]=(cond (zpz s u00) (cond (decide (0≤IntKind.wrap IntKind.i64 (ic (ByteArray.size s) - ic (ByteArray.size u00)))&&decide (IntKind.wrap IntKind.i64 (ic (ByteArray.size s) - ic (ByteArray.size u00))≤ic (ByteArray.size s))) (some ((.str (ByteArray.extract s 0 (Int.toNat (IntKind.wrap IntKind.i64 (ic (ByteArray.size s) - ic (ByteArray.size u00)))))),[])) none) (some ((.str s),[]))):=by kernel_rfl
def zmb (N:Nat):Env:=mkE [(89,z1u)] [] 8 N
theorem zk1 (N:Nat) (s u00:ByteArray):z0z (zmb N) zen [.tmp 4] [[.str]] [(.str s),(.str u00)]=(some ((.str (z2e s u00)),[])):=by kernel_rfl
open Go Go.Proofs
theorem ygu (l:List ByteArray) (h:∀ w∈l,w.size≤100):(zcb l z5a).size≤101*l.length:=by
 have hs:(zcb l z5a).size=(Lib.join (l.map (·.data.toList)) [32]).length:=by
  show (Array.size (List.toArray _))=_;rw [v1m]
 rw [hs];cases l with
 | nil=>simp [Lib.join_nil]
 | cons x r=>
  rw [v0d,Lib.join_length]
  have:∀ (r:List ByteArray),(∀ w∈r,w.size≤100)→Lib.lens (r.map (·.data.toList))≤100*r.length:=fun r=>by
   induction r with
   | nil=>intro _; simp [Lib.lens]
   | cons y r ih=>
    intro h;have h1:=h y (v09 ..);rw [zgg] at h1;have h2:=ih (fun w hw=>h w (v0b _ hw))
    rw [v0d,v03];simp only [Lib.lens,v0d,v3t] at h2 ⊢
    omega
  have:=this (x :: r) h
  rw [v0d] at this;simp only [v03,v14,v0i] at this ⊢
  omega
theorem zkc (ws:List ByteArray) (hl:ws.length≤8) (h:∀ w∈ws,w.size≤100):(z69 ws).size≤809:=by
 unfold z69
 have:=ygu ws h
 rw [v0f];have e:ByteArray.size yn0=1:=rfl;rw [e];omega
theorem zxo:∀ (a b:List (List ByteArray)),zbe (a++b)=zbe a++zbe b
 | [],b=>by
  show zbe b=ByteArray.empty++zbe b;rw [ByteArray.empty_append]
 | l :: a,b=>by
  rw [v1u,zbe,zbe,zxo a b,v2r]
theorem yb6:∀ (L:List (List ByteArray)),(∀ l∈L,l.length≤8∧∀ w∈l,w.size≤100)→(zbe L).size≤809*L.length
 | [],_=>by
  have:ByteArray.size (zbe [])=0:=rfl
  omega
 | l :: L,h=>by
  have h1:=zkc l (h l (v09 ..)).1 (h l (v09 ..)).2;have h2:=yb6 L fun x hx=>h x (v0b _ hx)
  rw [zbe,v0f,v03];omega
theorem zfb {n:Int} (h:InR n):(z0n n).size≤100:=by
 have:=zey h.1 h.2
 omega
theorem zjz {n:Int} (h:InR n):(z0i n).size≤100:=by
 have:=(zh8 n h).2
 omega
theorem yc0 {n:Int} (h:z2c n=true) : -2147483648≤n∧n≤2147483647:=by
 unfold z2c at h
 rwa [v02,v07,v07] at h
structure Nd.In (x:Nd):Prop where
 v : -2147483648≤x.v∧x.v≤2147483647
 f:0≤x.f∧x.f < 4
 a : -2147483648≤x.a∧x.a≤2147483647
 l:0≤x.l∧x.l < 31
 r:0≤x.r∧x.r < 31
 lf:x.lf=true→x.f=0∧x.a=0∧x.l=0∧x.r=0
 fk:x.lf=false→x.v=0
theorem ynn {x:Nd} (h:zcy x=true):x.In:=by
 obtain ⟨lf,v,f,a,l,r⟩:=x;unfold zcy at h;cases lf with
 | true=>
  simp only [v1e,v02,Nd.eq,v1h] at h;obtain ⟨⟨_,_,h1,h2,h3,h4,_⟩,hv⟩:=h;subst h1 h2 h3 h4;have z4:(0:Int)≤0∧(0:Int) < 4:=by decide
  have z31:(0:Int)≤0∧(0:Int) < 31:=by decide
  have zf:(-2147483648:Int)≤0∧(0:Int)≤2147483647:=by decide
  exact ⟨yc0 hv,z4,zf,z31,z31,fun _=>⟨rfl,rfl,rfl,rfl⟩,fun h=>Bool.noConfusion h⟩
 | false=>
  simp only [v18,v02,v1h,v07,zpw] at h;obtain ⟨hv,hf0,hf1,ha,⟨hl0,hl1⟩,hr0,hr1⟩:=h;subst hv;have zf:(-2147483648:Int)≤0∧(0:Int)≤2147483647:=by decide
  have l0:(0:Int)≤l:=by omega
  have r0:(0:Int)≤r:=by omega
  exact ⟨zf,⟨hf0,hf1⟩,yc0 ha,⟨l0,hl1⟩,⟨r0,hr1⟩,fun h=>Bool.noConfusion h,fun _=>rfl⟩
theorem yfn {x:Nd} (h:x.In):(zzf x).length≤8∧∀ w∈zzf x,w.size≤100:=by
 have hv:InR x.v:=by have:=h.v; unfold InR; omega
 have hf:InR x.f:=by have:=h.f; unfold InR; omega
 have ha:InR x.a:=by have:=h.a; unfold InR; omega
 have hl:InR x.l:=by have:=h.l; unfold InR; omega
 have hr:InR x.r:=by have:=h.r; unfold InR; omega
 unfold zzf;cases x.lf with
 | true=>
  refine ⟨by simp,fun w hw=>?_⟩
  simp only [v1e,v17,v1w,v3f] at hw;rcases hw with rfl | rfl
  ·decide
  ·exact zjz hv
 | false=>
  refine ⟨by simp,fun w hw=>?_⟩
  simp only [v18,v17,v1w,v3f] at hw;rcases hw with rfl | rfl | rfl | rfl | rfl | rfl | rfl | rfl
  ·decide
  ·exact zfb hf
  ·decide
  ·exact zjz ha
  ·decide
  ·exact zfb hl
  ·decide
  ·exact zfb hr
theorem yf6 {dim n:Int}:∀ {l:List IV} {i:Nat},zf5 dim n i l=true→∀ w∈l,zbi w.toInt=true
 | [],_,_,w,hw=>by cases hw
 | x :: l,i,h,w,hw=>by
  unfold zf5 at h;rw [v02,v02] at h;rcases v17.1 hw with rfl | hw
  ·exact h.1.1
  ·exact yf6 h.2 w hw
theorem yfm {w:Int} (h:zbi w=true):(z07 w).In:=by
 have hn:z07 w=zw1 w:=by unfold z07; rw [h]; rfl
 unfold zbi at h;simp only [v02,v12,v1h,v0v] at h;rw [hn];apply ynn;cases hr:zcy (zw1 w) with
 | true=>rfl
 | false=>
  have:=h.2
  unfold z9w at this;rw [hr] at this;exact absurd this.symm h.1
theorem y4d:z32 PR B0 54 zf7:=by
 refine z0h [(97,z29),(60,z14),(45,z8l)] [] zf7 [] Tryz.func54 ye7 ⟨z8h,z4k,zj0,trivial⟩ ?_;intro vs r hwf h;unfold zf7 at h
 split at h
 ·rename_i s ws
  cases hc:(Nat.ble ws.length 1000&&decide (s.size+(z69 (ws.map IV.toStr)).size≤1000000000)) with
  | false=>rw [hc] at h; simp [R.get] at h
  | true=>
   rw [hc,R.get_br,z00,R.get_ok] at h;rw [v02,v07] at hc;have h1:=v04 hc.1;have h2:=hc.2;have m:strMax=140737488355327:=rfl;refine ⟨0,?_⟩;rw [← h];refine (y7b 0 s ws).trans ?_;have e:ByteArray.push (s++zcb (ws.map IV.toStr) z5a) (zgd 10)=s++z69 (ws.map IV.toStr):=by
    apply zfm;unfold z69;simp
    rfl
   have e2:(z69 (ws.map IV.toStr)).size=(zcb (ws.map IV.toStr) z5a).size+1:=by
    unfold z69;rw [v0f]
    rfl
   rw [e2] at h2;rw [v01 (show ws.length≤strMax by omega),v01 (show (zcb (ws.map IV.toStr) z5a).size≤strMax by omega),v01 (show s.size+(zcb (ws.map IV.toStr) z5a).size≤strMax by omega),
    v01 (show ByteArray.size (s++zcb (ws.map IV.toStr) z5a)+1≤strMax by rw [v0f]; omega),v0w,z00,z00,z00,e]
 ·simp [R.get] at h
theorem yd9 (s:ByteArray) (hs:s.size < 4294967281):∀ i,(wAt (zck s) i).size < 4294967281:=by
 intro i;unfold wAt;rw [v0n];cases h:(zck s)[i]? with
 | none=>decide
 | some x=>
  have hx:x∈zck s:=v1r h;unfold zck at hx;obtain ⟨w,hw,rfl⟩:=List.mem_map.1 hx
  have:=(z9l z5a _ s).2 w hw
  exact v3b this hs
theorem zra {ls:List IV} (h:z7x ls=true) (i:Nat):(wAt (z4i ls) i).size < 4294967281:=by
 unfold z7x at h;cases ls with
 | nil=>
  show ByteArray.size (IV.toStr (List.getD [] i default)) < _;rw [List.getD_nil]
  decide
 | cons l r=>
  rw [v30,v02,v07] at h;exact yd9 _ h.1 i
theorem z9e {ls:List IV} (h:z7x ls=true) (k:Nat):z7x (ls.drop k)=true:=by
 unfold z7x at h ⊢
 rw [v35] at h ⊢
 exact fun x hx=>h x (v32 hx)
theorem zeo:z32 PR B0 48 z40:=by
 refine z0h [(46,z1t)] [] z40 [[.list false [.str]]] Tryz.func48 zpe ⟨z5y,trivial⟩ ?_;intro vs r hwf h;unfold z40 at h
 split at h
 ·rename_i ls
  cases hc:z7x ls with
  | false=>rw [hc] at h; simp [R.get] at h
  | true=>
   rw [hc,R.get_br,z00,R.get_ok] at h;refine ⟨0,?_⟩;rw [← h];refine (znj 0 ls).trans ?_;cases ls with
   | nil=>rfl
   | cons l r=>
    unfold z7x at hc;rw [v30,v02] at hc;have e0:(ic (List.length (l :: r))==0)=false:=by
     rw [zl9];exact v05 (by simp only [ic,v03]; omega)
    have e1:IV.toStr (List.getD (l :: r) (Int.toNat 0) default)=l.toStr:=rfl;have e2:List.drop (Int.toNat 1) (List.take (List.length (l :: r)) (l :: r))=List.drop 1 (l :: r):=by rw [v0q]; rfl
    have e3:decide (1≤ByteArray.size z5a)=true:=rfl;rw [e0,e1,e2,e3,hc.1,z01];simp only [v01 (show (0:Int) < ic (List.length (l :: r)) by simp only [ic,v03]; omega),v01 (show (1:Int)≤ic (List.length (l :: r)) by simp only [ic,v03]; omega)]
    rfl
 ·simp [R.get] at h
theorem zoc:z32 PR B0 50 zat:=by
 refine z0h [] [] zat [[.str]] Tryz.func50 ybk trivial ?_;intro vs r hwf h;unfold zat at h
 split at h
 ·rename_i l i
  cases hc:decide (0≤i) with
  | false=>rw [hc] at h; simp [R.get] at h
  | true=>
   rw [hc,R.get_br,z00,R.get_ok] at h;have h0:=v0c hc;refine ⟨0,?_⟩;rw [← h];refine (y9h 0 l i).trans ?_;cases hi:decide (i≥ic l.length) with
   | true=>
    have hi:=v0c hi;simp only [ic] at hi;have e:wAt l i.toNat=ByteArray.empty:=by
     unfold wAt;rw [v0n,v0t (by omega)]
     rfl
    rw [e,z00]
    rfl
   | false=>
    have hi:=v0r hi;rw [z01,v01 h0,v01 (show i < ic l.length by omega),v0w,z00]
    rfl
 ·simp [R.get] at h
theorem zmg:z32 PR B0 49 z90:=by
 refine z0h [(90,z3w)] [] z90 [[.int .i64]] Tryz.func49 y94 ⟨zao,trivial⟩ ?_;intro vs r hwf h;unfold z90 at h
 split at h
 ·rename_i s most
  refine ⟨0,?_⟩;rw [R.get_ok] at h;rw [← h];refine (y3z 0 s most).trans ?_;unfold zho;cases zmc s <;> cases decide (z58 s < 0) <;> cases decide (z58 s > most) <;> rfl
 ·simp [R.get] at h
theorem zpl:z32 PR B0 51 zb3:=by
 refine z0h [(91,zcr)] [] zb3 [[.int .i64]] Tryz.func51 ydf ⟨zts,trivial⟩ ?_;intro vs r hwf h;unfold zb3 at h
 split at h
 ·rename_i s
  cases hc:decide (s.size < 4294967281) with
  | false=>rw [hc] at h; simp [R.get] at h
  | true=>
   rw [hc,R.get_br,z00,R.get_ok] at h;refine ⟨0,?_⟩;rw [← h];refine (y9r 0 s).trans ?_;rw [hc,z00]
 ·simp [R.get] at h
theorem zma:z32 PR B0 52 z6k:=by
 refine z0h [(92,zaw),(49,z90),(48,z40),(51,zb3),(50,zat)] [] z6k [[.int .u64]] Tryz.func52 zoq ⟨zq8,zmg,zeo,zpl,zoc,trivial⟩ ?_;intro vs r hwf h;unfold z6k at h
 split at h
 ·rename_i ls
  cases hc:z7x ls with
  | false=>rw [hc] at h; simp [R.get] at h
  | true=>
   rw [hc,R.get_br,z00,R.get_ok] at h;refine ⟨0,?_⟩;rw [← h];refine (zn7 0 ls).trans ?_;rw [hc,z00,v01 (zra hc (Int.toNat 1)),v01 (zra hc (Int.toNat 3)),z00,z00];unfold yr8;have e:(ByteArray.toList (wAt (z4i ls) (Int.toNat 0))==ByteArray.toList { data:=#[108,101,97,102] })=((wAt (z4i ls) 0).toList==ztt.toList):=rfl;rw [e];cases ((wAt (z4i ls) 0).toList==ztt.toList) <;> rfl
 ·simp [R.get] at h
theorem zbd:z32 PR B0 141 z1v:=by
 refine z0h [] [] z1v [[.bool]] Tryz.func141 zcg trivial ?_;intro vs r hwf h;unfold z1v at h
 split at h
 ·rename_i s t
  refine ⟨0,?_⟩;rw [R.get_ok] at h;rw [← h];refine (zc2 0 s t).trans ?_;have hb:=hwf (by simp [zfa])
  have hs:s.size≤strMax:=hb.1;have m:strMax=140737488355327:=rfl;unfold zpz
  by_cases hl:t.size≤s.size
  ·have e:IntKind.wrap IntKind.i64 (ic s.size - ic t.size)=((s.size - t.size:Nat):Int):=by
    rw [z0s (by simp only [ic]; omega) (by simp only [ic]; omega)]
    simp only [ic];omega
   rw [e,v01 (show ic s.size≥ic t.size by simp only [ic]; omega),z00,v01 (show (0:Int)≤((s.size - t.size:Nat):Int) by omega),v01 (show ((s.size - t.size:Nat):Int)≤ic s.size by simp only [ic]; omega),v0w,z00,v01 hl,v0k,v0g]
  ·rw [v05 (show ¬ ic s.size≥ic t.size by simp only [ic]; omega),z01,v05 hl,v0u]
 ·simp [R.get] at h
theorem zax:z32 PR B0 89 z1u:=by
 refine z0h [(141,z1v)] [] z1u [[.str]] Tryz.func89 zbw ⟨zbd,trivial⟩ ?_;intro vs r hwf h;unfold z1u at h
 split at h
 ·rename_i s t
  refine ⟨0,?_⟩;rw [R.get_ok] at h;rw [← h];refine (zbg 0 s t).trans ?_;have hb:=hwf (by simp [zfa])
  have hs:s.size≤strMax:=hb.1;have m:strMax=140737488355327:=rfl;unfold z2e;cases hh:zpz s t with
  | false=>rfl
  | true=>
   have hl:t.size≤s.size:=by
    unfold zpz at hh;rw [v02,v07] at hh;exact hh.1
   have e:IntKind.wrap IntKind.i64 (ic s.size - ic t.size)=((s.size - t.size:Nat):Int):=by
    rw [z0s (by simp only [ic]; omega) (by simp only [ic]; omega)]
    simp only [ic];omega
   rw [e,z00,z00,v01 (show (0:Int)≤((s.size - t.size:Nat):Int) by omega),v01 (show ((s.size - t.size:Nat):Int)≤ic s.size by simp only [ic]; omega),v0w,z00,v0g]
 ·simp [R.get] at h
theorem z8p:z32 PR B0 47 z1z:=by
 refine z0h [(89,z1u)] [] z1z [[.str]] Tryz.func47 zmf ⟨zax,trivial⟩ ?_;intro vs r hwf h;unfold z1z at h
 split at h
 ·rename_i s t
  refine ⟨0,?_⟩;rw [R.get_ok] at h;rw [← h];exact zk1 0 s t
 ·simp [R.get] at h
abbrev yv8 (ts:List IV) (i:Int) (l:List IV) (j:Int) (so:ByteArray):St:=
 ⟨[(2,(.str { data:=#[] })),(3,(.ptr 3 0 0)),(43,(.list true [(.int .i64),(.list false [(.int .u64)])] ts)),(44,(.int .i64 (ic ts.length))),(45,(.int .i64 i)),(59,(.list false [(.int .u64)] l)),(60,(.int .i64 (ic l.length))),(61,(.int .i64 j))],[(3,(some (.bld so)))]⟩
theorem zyn (N:Nat) (ts:List IV) (i:Int) (l:List IV) (hl:l.length≤31) (hn:∀ w∈l,zbi w.toInt=true) (K:Out→St→Res):∀ (d j n:Nat) (so:ByteArray),j+d=l.length→d < n→so.size+809*d≤1000000000 →
  lpE (z13 N) (z0f z1x [1,1,1,1,1,1,1,0,1,0,0,1,1,0,0,1,1,1,0,0]) ⟨[2,3,43,44,45,59,60,61],[3],[]⟩ n (yv8 ts i l (j:Int) so) K =
   K (.exit 4) (yv8 ts i l (ic l.length) (so++zbe (ziw (l.drop j))))
 | d,j,0,_,_,h,_=>absurd h (by omega)
 | 0,j,n+1,so,hd,_,_=>by
  have hj:j=l.length:=by omega
  subst hj;rw [z06,zlc,v05 (show ¬ ((l.length:Nat):Int) < ic l.length by simp only [ic]; omega),z01,v2e]
  have e:so++zbe (ziw [])=so:=by
   show so++ByteArray.empty=so;rw [v3v]
  rw [e]
 | d+1,j,n+1,so,hd,hn',hz=>by
  have hjl:j < l.length:=by omega
  have ej:IntKind.wrap IntKind.i64 ((j:Int)+1)=((j+1:Nat):Int):=by
   rw [z0s (by omega) (by omega)]
   omega
  have hg:l.getD (Int.toNat (j:Int)) default=l[j]:=by
   rw [v0g,v0n,v0h hjl]
   rfl
  have hin:=yfm (hn l[j] (v1x hjl));have hw:=yfn hin;have hls:=zkc _ hw.1 hw.2;rw [z06,zlc,ej,hg,v01 (show (j:Int) < ic l.length by simp only [ic]; omega),z00,v01 (show (0:Int)≤(j:Int) by omega),v0w,z00,v0m hjl]
  have hr:zbe (ziw (l[j] :: l.drop (j+1)))=z69 (zzf (z07 l[j].toInt))++zbe (ziw (l.drop (j+1))):=rfl;rw [hr,← v2r];have ih:=zyn N ts i l hl hn K d (j+1) n (so++z69 (zzf (z07 l[j].toInt))) (by omega) (by omega) (by rw [v0f]; omega)
  rw [← ih];have hsz:decide (so.size+(z69 (zzf (z07 l[j].toInt))).size≤1000000000)=true:=v01 (by omega)
  revert hsz
  unfold zzf;cases (z07 l[j].toInt).lf with
  | true=>
   intro hsz;have hsz:decide (ByteArray.size so+ByteArray.size (z69 [ztt,z0i (z07 l[j].toInt).v])≤1000000000)=true:=hsz;have e:List.map IV.toStr (List.drop 0 (List.take 2 [IV.str { data:=#[108,101,97,102] },IV.str (z0i (Nd.v (z07 (IV.toInt l[j]))))]))=[ztt,z0i (z07 l[j].toInt).v]:=rfl;rw [z00,e,hsz]
   rfl
  | false=>
   intro hsz;have hsz:decide (ByteArray.size so+ByteArray.size (z69 [ytc,z0n (z07 l[j].toInt).f,yuc,z0i (z07 l[j].toInt).a,yfx,z0n (z07 l[j].toInt).l,yg0,z0n (z07 l[j].toInt).r])≤1000000000)=true:=hsz;have e:List.map IV.toStr (List.drop 0 (List.take 8 [IV.str { data:=#[105,102] },IV.str (z0n (Nd.f (z07 (IV.toInt l[j])))),IV.str { data:=#[60,61] },IV.str (z0i (Nd.a (z07 (IV.toInt l[j])))),IV.str { data:=#[116,104,101,110] },IV.str (z0n (Nd.l (z07 (IV.toInt l[j])))),IV.str { data:=#[101,108,115,101] },IV.str (z0n (Nd.r (z07 (IV.toInt l[j]))))]))=[ytc,z0n (z07 l[j].toInt).f,yuc,z0i (z07 l[j].toInt).a,yfx,z0n (z07 l[j].toInt).l,yg0,z0n (z07 l[j].toInt).r]:=rfl;rw [z01,e,hsz]
   rfl
theorem y2l {d c:Int} {t:IV} (h:z9v d c t=true):0≤(t.cell 0).toInt∧(t.cell 0).toInt < c∧1≤(t.cell 1).toList.length∧(t.cell 1).toList.length≤31∧∀ w∈(t.cell 1).toList,zbi w.toInt=true:=by
 unfold z9v zav at h;simp only [v02,v12,v15] at h;obtain ⟨h1,h2,⟨h3,h4⟩,h5,_⟩:=h;exact ⟨by omega,by omega,v04 h3,v04 h4,yf6 h5⟩
theorem yo6 {d c:Int} {t:IV} (hc:c≤3) (h:z9v d c t=true):(∀ l∈y6o t,l.length≤8∧∀ w∈l,w.size≤100)∧(y6o t).length≤32:=by
 obtain ⟨h1,h2,h3,h4,h5⟩:=y2l h;constructor
 ·intro l hl
  unfold y6o at hl;rcases v17.1 hl with rfl | hl
  ·refine ⟨by simp,fun w hw=>?_⟩
   simp only [v17,v1w,v3f] at hw;rcases hw with rfl | rfl | rfl
   ·decide
   ·exact zfb (by unfold InR; omega)
   ·exact zfb (by unfold InR; simp only [ic]; omega)
  ·unfold ziw at hl
   obtain ⟨w,hw,rfl⟩:=List.mem_map.1 hl;exact yfn (yfm (h5 w hw))
 ·unfold y6o ziw
  rw [v03,v14];omega
abbrev yta (ts:List IV) (i:Int) (so:ByteArray):St:=
 ⟨[(2,(.str { data:=#[] })),(3,(.ptr 3 0 0)),(43,(.list true [(.int .i64),(.list false [(.int .u64)])] ts)),(44,(.int .i64 (ic ts.length))),(45,(.int .i64 i))],[(3,(some (.bld so)))]⟩
theorem zwm (N:Nat) (hN:40≤N) (d c:Int) (hc:c≤3) (ts:List IV) (hl:ts.length≤8) (ht:ts.all (z9v d c)=true) (K:Out→St→Res):∀ (m i n:Nat) (so:ByteArray),i+m=ts.length→m < n→so.size+30000*m≤1000000000 →
  lpE (z13 N) (z0f z1x [1,1,1,1,1,1,1,0,1,0,0]) ⟨[2,3,43,44,45],[3],[]⟩ n (yta ts (i:Int) so) K =
   K (.exit 2) (yta ts (ic ts.length) (so++zbe (zgi (ts.drop i))))
 | m,i,0,_,_,h,_=>absurd h (by omega)
 | 0,i,n+1,so,hd,_,_=>by
  have hi:i=ts.length:=by omega
  subst hi;rw [z06,zk8,v05 (show ¬ ((ts.length:Nat):Int) < ic ts.length by simp only [ic]; omega),z01,v2e]
  have e:so++zbe (zgi [])=so:=by
   show so++ByteArray.empty=so;rw [v3v]
  rw [e]
 | m+1,i,n+1,so,hd,hn,hz=>by
  have hil:i < ts.length:=by omega
  have ei:IntKind.wrap IntKind.i64 ((i:Int)+1)=((i+1:Nat):Int):=by
   rw [z0s (by omega) (by omega)]
   omega
  have hg:ts.getD (Int.toNat (i:Int)) default=ts[i]:=by
   rw [v0g,v0n,v0h hil]
   rfl
  have hok:=v35.1 ht ts[i] (v1x hil);have hw:=yo6 hc hok;have hts:=yb6 _ hw.1;obtain ⟨h1,h2,h3,h4,h5⟩:=y2l hok;have hh:∀ w∈[zml,z0n (ts[i].cell 0).toInt,z0n (ic (ts[i].cell 1).toList.length)],w.size≤100:=(hw.1 _ (by unfold y6o; exact v09 ..)).2
  have hls:=zkc _ (by simp) hh
  have e:List.map IV.toStr (List.drop 0 (List.take 3 [IV.str { data:=#[116,114,101,101] },IV.str (z0n (IV.toInt (IV.cell ts[i] 0))),IV.str (z0n (ic (List.length (IV.toList (IV.cell ts[i] 1)))))]))=[zml,z0n (ts[i].cell 0).toInt,z0n (ic (ts[i].cell 1).toList.length)]:=rfl;have el:Nat.ble (List.length (List.drop 0 (List.take 3 [IV.str { data:=#[116,114,101,101] },IV.str (z0n (IV.toInt (IV.cell ts[i] 0))),IV.str (z0n (ic (List.length (IV.toList (IV.cell ts[i] 1)))))]))) 1000=true:=rfl;rw [z06,zk8,hg,e,el,v01 (show (i:Int) < ic ts.length by simp only [ic]; omega),z00,v01 (show (0:Int)≤(i:Int) by omega),v0w,z00,
   v01 (show so.size+(z69 [zml,z0n (ts[i].cell 0).toInt,z0n (ic (ts[i].cell 1).toList.length)]).size≤1000000000 by omega),v0w,z00]
  refine (zyn N ts (i:Int) (ts[i].cell 1).toList h4 h5 _ (ts[i].cell 1).toList.length 0 N (so++z69 [zml,z0n (ts[i].cell 0).toInt,z0n (ic (ts[i].cell 1).toList.length)]) (by omega) (by omega) (by rw [v0f]; omega)).trans ?_
  rw [zqz,ei,v0z,v0m hil];have hr:zbe (zgi (ts[i] :: ts.drop (i+1)))=(z69 [zml,z0n (ts[i].cell 0).toInt,z0n (ic (ts[i].cell 1).toList.length)]++zbe (ziw (ts[i].cell 1).toList))++zbe (zgi (ts.drop (i+1))):=by
   rw [zgi,zxo]
   rfl
  rw [hr,← v2r (a:=so),← v2r (a:=so)];have hsz:(z69 [zml,z0n (ts[i].cell 0).toInt,z0n (ic (ts[i].cell 1).toList.length)]++zbe (ziw (ts[i].cell 1).toList)).size≤26000:=by
   have:zbe (y6o ts[i])=z69 [zml,z0n (ts[i].cell 0).toInt,z0n (ic (ts[i].cell 1).toList.length)]++zbe (ziw (ts[i].cell 1).toList):=rfl
   rw [← this]
   have:=hw.2
   omega
  exact zwm N hN d c hc ts hl ht K m (i+1) n _ (by omega) (by omega) (by rw [v2r,v0f]; omega)
abbrev ysa (d c b0 b1 b2:Int) (ts:List IV) (C:Nat) (so:ByteArray) (ws:List IV) (n:Nat) (i:Int):St:=
 ⟨[(1,(.ptr 1 0 0)),(2,(.str { data:=#[] })),(3,(.ptr 3 0 0)),(4,(.row 500 0 n)),(28,(.bview 1 2 3 1 C)),(29,(.int .i64 (ic C))),(30,(.int .i64 i))],[(1,(some (.box [(.int .i64 d),(.int .i64 c),(.int .i64 b0),(.int .i64 b1),(.int .i64 b2),(.list true [(.int .i64),(.list false [(.int .u64)])] ts)]))),(3,(some (.bld so))),(500,(some (.row true 9 false [.str] ws)))]⟩
theorem zlz (N:Nat) (d c b0 b1 b2:Int) (ts:List IV) (C:Nat) (so:ByteArray) (ws:List IV) (n i:Nat) (b:Int) (hi:i < C) (hn:n≤10) (h:(i=0∧b=b0)∨(i=1∧b=b1)∨(i=2∧b=b2)) (again:St→Res) (k:Out→St→Res) :
  rnd (z13 N) (z0f z1x [1,1,1,1,1,0,1,0,0]) (ysa d c b0 b1 b2 ts C so ws n (i:Int)) (z3t again ⟨[1,2,3,4,28,29,30],[1,3,500],[⟨.tmp 4,500,9,false,[.str]⟩]⟩ k) =
   again (ysa d c b0 b1 b2 ts C so (ws.take n++[.str (z0i b)]) (n+1) ((i+1:Nat):Int)):=by
 rw [zc9];have ei:IntKind.wrap IntKind.i64 ((i:Int)+1)=((i+1:Nat):Int):=by
  rw [z0s (by omega) (by omega)]
  omega
 have eb:TI.bytes (Env.tyd (z13 N) 9)=16:=rfl;have e1:∀ x:IV,List.length (List.drop 0 (List.take 1 [x]))=1:=fun x=>rfl
 rw [ei,eb,e1,e1,e1,v01 (show (i:Int) < ic C by simp only [ic]; omega),z00,z00,v01 (show (n+1)*16≤z08 by unfold z08; omega)]
 rcases h with ⟨rfl,rfl⟩ | ⟨rfl,rfl⟩ | ⟨rfl,rfl⟩ <;> rfl
theorem ybp (N:Nat) (hN:10≤N) (d b0 b1 b2:Int) (ts:List IV) (C:Nat) (h1:1≤C) (h3:C≤3) (so:ByteArray) (K:Out→St→Res) :
  lpE (z13 N) (z0f z1x [1,1,1,1,1,0,1,0,0]) ⟨[1,2,3,4,28,29,30],[1,3,500],[⟨.tmp 4,500,9,false,[.str]⟩]⟩ N (ysa d (C:Int) b0 b1 b2 ts C so [.str zgf] 1 0) K =
   K (.exit 0) (ysa d (C:Int) b0 b1 b2 ts C so ((zgf :: (([b0,b1,b2].take C).map z0i)).map IV.str) (1+C) (C:Int)):=by
 obtain ⟨M,rfl⟩:∃ M,N=M+4:=⟨N - 4,by omega⟩
 have e0:ysa d (C:Int) b0 b1 b2 ts C so [.str zgf] 1 0=ysa d (C:Int) b0 b1 b2 ts C so [.str zgf] 1 ((0:Nat):Int):=rfl;rw [e0,z06,zlz (M+4) d (C:Int) b0 b1 b2 ts C so _ 1 0 b0 (by omega) (by omega) (by simp)]
 match C,h1,h3 with
 | 1,_,_=>
  rw [z06,zc9,v05 (show ¬ ((0+1:Nat):Int) < ic 1 by decide),z01]
  rfl
 | 2,_,_=>
  rw [z06,zlz (M+4) d _ b0 b1 b2 ts 2 so _ _ 1 b1 (by omega) (by omega) (by simp),z06,zc9,v05 (show ¬ ((1+1:Nat):Int) < ic 2 by decide),z01]
  rfl
 | 3,_,_=>
  rw [z06,zlz (M+4) d _ b0 b1 b2 ts 3 so _ _ 1 b1 (by omega) (by omega) (by simp),z06,zlz (M+4) d _ b0 b1 b2 ts 3 so _ _ 2 b2 (by omega) (by omega) (by simp),z06,zc9,v05 (show ¬ ((2+1:Nat):Int) < ic 3 by decide),z01]
  rfl
theorem yab {m:Md} (h:z2g m=true):(1≤m.d∧m.d≤4)∧(1≤m.c∧m.c≤3)∧m.ts.length≤8∧(zjr m.c 0 m.b0=true∧zjr m.c 1 m.b1=true∧zjr m.c 2 m.b2=true)∧m.ts.all (z9v m.d m.c)=true:=by
 unfold z2g at h;simp only [v02,v12,v15] at h;obtain ⟨⟨h1,h2,h3,h4,h5⟩,⟨h6,h7,h8⟩,h9⟩:=h;exact ⟨⟨by omega,by omega⟩,⟨by omega,by omega⟩,v04 h5,⟨h6,h7,h8⟩,h9⟩
theorem y3o {c j b:Int} (h:zjr c j b=true):(-2147483648≤b∧b≤2147483647)∧(c≤j→b=0):=by
 unfold zjr at h;rw [v02] at h;refine ⟨yc0 h.1,fun hj=>?_⟩
 have:=h.2
 rw [v01 (show j≥c from hj)] at this
 simpa using this
theorem ynh {m:Md} (h:z2g m=true):∀ l∈yid m,l.length≤8∧∀ w∈l,w.size≤100:=by
 obtain ⟨hd,hc,_,⟨g0,g1,g2⟩,_⟩:=yab h;have i0:=(y3o g0).1;have i1:=(y3o g1).1;have i2:=(y3o g2).1;intro l hl;unfold yid at hl;simp only [v17,v1w,v3f] at hl;rcases hl with rfl | rfl
 ·refine ⟨by simp,fun w hw=>?_⟩
  simp only [v17,v1w,v3f] at hw;rcases hw with rfl | rfl | rfl
  ·decide
  ·exact zfb (by unfold InR; omega)
  ·exact zfb (by unfold InR; omega)
 ·refine ⟨by simp only [v03,v14,v0l,v0i]; omega,fun w hw=>?_⟩
  rcases v17.1 hw with rfl | hw
  ·decide
  ·obtain ⟨b,hb,rfl⟩:=List.mem_map.1 hw
   have hb:=v33 hb;simp only [v17,v1w,v3f] at hb;rcases hb with rfl | rfl | rfl
   ·exact zjz (by unfold InR; omega)
   ·exact zjz (by unfold InR; omega)
   ·exact zjz (by unfold InR; omega)
set_option maxHeartbeats 1000000 in
theorem zmx:z32 PR B0 20 z99:=by
 refine z0h [(44,z7y),(53,z2j),(55,z2i),(43,z2y),(56,z1l),(54,zf7)] [(7,⟨[1,2,3,4,28,29,30],[1,3,500],[⟨.tmp 4,500,9,false,[.str]⟩]⟩),(13,⟨[2,3,43,44,45],[3],[]⟩),(17,⟨[2,3,43,44,45,59,60,61],[3],[]⟩)] z99 [[.str]] Tryz.func20 y76 ⟨zie,z7e,z7c,z8e,z6d,y4d,trivial⟩ ?_;intro vs r hwf h;unfold z99 at h
 split at h
 ·rename_i d c b0 b1 b2 ts
  refine ⟨40,?_⟩;rw [R.get_ok] at h;rw [← h];refine (y4t 40 d c b0 b1 b2 ts).trans ?_;unfold zos;cases hm:z2g ⟨d,c,b0,b1,b2,ts⟩ with
  | false=>rfl
  | true=>
   obtain ⟨hd,hc,hl,_,ht⟩:=yab hm;simp only at hd hc hl ht;have hh:=ynh hm;have hh1:=hh _ (v09 ..);have hh2:=hh _ (v0b _ (v09 ..));have z1:=zkc _ hh1.1 hh1.2;have z2:=zkc _ hh2.1 hh2.2;obtain ⟨C,rfl⟩:∃ C:Nat,c=(C:Int):=⟨c.toNat,by omega⟩
   have e1:List.map IV.toStr (List.drop 0 (List.take 3 [IV.str { data:=#[102,111,114,101,115,116] },IV.str (z0n d),IV.str (z0n (C:Int))]))=[zd4,z0n d,z0n (C:Int)]:=rfl;have e2:Nat.ble (List.length (List.drop 0 (List.take 3 [IV.str { data:=#[102,111,114,101,115,116] },IV.str (z0n d),IV.str (z0n (C:Int))]))) 1000=true:=rfl;have e3:ByteArray.size ByteArray.empty=0:=rfl;have z1:(z69 [zd4,z0n d,z0n (C:Int)]).size≤809:=z1;rw [v0e,z01,z00,e1,e2,e3,v01 (show 0+(z69 [zd4,z0n d,z0n (C:Int)]).size≤1000000000 by omega),v0w,z00,v01 (show (0:Int)≤(C:Int) by omega),v01 (show (C:Int)≤ic 3 by simp only [ic]; omega),v0w,z00,v0g,ByteArray.empty_append]
   refine (ybp 40 (by omega) d b0 b1 b2 ts C (by omega) (by omega) (z69 [zd4,z0n d,z0n (C:Int)]) _).trans ?_
   rw [zsl];have e4:List.map IV.toStr (List.drop 0 (List.take (1+C) ((zgf :: (([b0,b1,b2].take C).map z0i)).map IV.str)))=zgf :: (([b0,b1,b2].take C).map z0i):=by
    match C,hc with
    | 0,hc=>exact absurd hc.1 (by decide)
    | 1,_=>rfl
    | 2,_=>rfl
    | 3,_=>rfl
    | C+4,hc=>exact absurd hc.2 (by omega)
   have e5:Nat.ble (List.length (List.drop 0 (List.take (1+C) ((zgf :: (([b0,b1,b2].take C).map z0i)).map IV.str)))) 1000=true:=by
    apply v1o;rw [v1g,v0l];omega
   have z2:(z69 (zgf :: (([b0,b1,b2].take C).map z0i))).size≤809:=by
    have:(([b0,b1,b2].take (C:Int).toNat).map z0i)=(([b0,b1,b2].take C).map z0i):=by rw [v0g]
    rw [← this];exact z2
   rw [e4,e5,v01 (show (z69 [zd4,z0n d,z0n (C:Int)]).size+(z69 (zgf :: (([b0,b1,b2].take C).map z0i))).size≤1000000000 by omega),v0w,z00]
   refine (zwm 40 (by omega) d (C:Int) (by omega) ts hl ht _ ts.length 0 40 _ (by omega) (by omega) (by rw [v0f]; omega)).trans ?_
   rw [zqu,v0z];have e6:zbe (yal ⟨d,(C:Int),b0,b1,b2,ts⟩)=z69 [zd4,z0n d,z0n (C:Int)]++z69 (zgf :: (([b0,b1,b2].take C).map z0i))++zbe (zgi ts):=by
    show zbe (yid ⟨d,(C:Int),b0,b1,b2,ts⟩++zgi ts)=_;rw [zxo];show z69 [zd4,z0n d,z0n (C:Int)]++(z69 (zgf :: (([b0,b1,b2].take (C:Int).toNat).map z0i))++ByteArray.empty)++zbe (zgi ts)=_;rw [v3v,v0g]
   rw [e6]
 ·simp [R.get] at h
open Go Go.Proofs
def z0t (N:Nat):Env:=mkE [(46,z1t),(47,z1z),(20,z99),(49,z90),(48,z40),(52,z6k),(51,zb3),(50,zat)] [(6,⟨[0,2,3,4,6,7,28,29],[2,6,15],[]⟩),(10,⟨[0,2,3,4,6],[2,6,15,500],[⟨.cell 6 5,500,88,true,[.int .i64,.list false [.int .u64]]⟩]⟩),(14,⟨[0,2,3,4,6,10,61,62],[2,6,10,15,500,501],[⟨.cell 6 5,500,88,true,[.int .i64,.list false [.int .u64]]⟩,⟨.cell 10 1,501,103,false,[.int .u64]⟩]⟩)] 88 N
abbrev z6v (s0:ByteArray) (b3:Bool) (l7:List IV) (x28 x29 u01 u02 u03 u04 u05 u06 u07 u08 u09 u0a:Int) (u00:List IV):St:=⟨[(0,(.str s0)),(2,(.ptr 2 0 0)),(3,(.bool b3)),(4,(.ptr 15 0 0)),(6,(.ptr 6 0 0)),(7,(.list false [.str] l7)),(28,(.i x28)),(29,(.i x29))],[(2,(some (.box [(.i u01),(.i u02),(.i u03),(.i u04),(.i u05),.zs]))),(6,(some (.box [(.i u06),(.i u07),(.i u08),(.i u09),(.i u0a),.zs]))),(15,(some (.box [(.list false [.str] u00)])))]⟩
abbrev z8k (s0:ByteArray) (b3:Bool) (u03 u04 u05 u06 u07 u08 u09 u0a u0b u0c:Int) (u02:Nat) (u00 u01:List IV):St:=⟨[(0,(.str s0)),(2,(.ptr 2 0 0)),(3,(.bool b3)),(4,(.ptr 15 0 0)),(6,(.ptr 6 0 0))],[(2,(some (.box [(.i u03),(.i u04),(.i u05),(.i u06),(.i u07),.zs]))),(6,(some (.box [(.i u08),(.i u09),(.i u0a),(.i u0b),(.i u0c),(.row 500 0 u02)]))),(15,(some (.box [(.list false [.str] u00)]))),(500,(some (.row true 88 true [(.int .i64),(.list false [(.int .u64)])] u01)))]⟩
abbrev za6 (s0:ByteArray) (b3:Bool) (x61 x62 u06 u07 u08 u09 u0a u0b u0c u0d u0e u0f:Int) (u04:Nat) (u05:Int) (u03:Nat) (u00 u01 u02:List IV):St:=⟨[(0,(.str s0)),(2,(.ptr 2 0 0)),(3,(.bool b3)),(4,(.ptr 15 0 0)),(6,(.ptr 6 0 0)),(10,(.ptr 10 0 0)),(61,(.i x61)),(62,(.i x62))],[(2,(some (.box [(.i u06),(.i u07),(.i u08),(.i u09),(.i u0a),.zs]))),(6,(some (.box [(.i u0b),(.i u0c),(.i u0d),(.i u0e),(.i u0f),(.row 500 0 u04)]))),(10,(some (.box [(.i u05),(.row 501 0 u03)]))),(15,(some (.box [(.list false [.str] u00)]))),(500,(some (.row true 88 true [(.int .i64),(.list false [(.int .u64)])] u01))),(501,(some (.row true 103 false [(.int .u64)] u02)))]⟩
theorem y6n (N:Nat) (s:ByteArray):z0z (z0t N) z1g [.cell 2 30,.tmp 3] [[.int .i64,.int .i64,.int .i64,.int .i64,.int .i64,.list true [.int .i64,.list false [.int .u64]]],[.bool]] [(.str s)]=(cond (decide (ByteArray.size (z2e s {data:=#[10]}) < 4294967281)&&decide (1≤ByteArray.size {data:=#[10]})) (cond (z7x (List.map IV.str (z0d (z2e s {data:=#[10]}) {data:=#[10]}))) (cond (z7x (List.drop 1 (List.map IV.str (z0d (z2e s {data:=#[10]}) {data:=#[10]})))) (lpE (z0t N) (z0f z1g [1,1,1,1,1,0,1,0,0]) ⟨[0,2,3,4,6,7,28,29],[2,6,15],[]⟩ N (z6v s false (z4i (List.drop 1 (List.map IV.str (z0d (z2e s {data:=#[10]}) {data:=#[10]})))) (zho (wAt (z4i (List.map IV.str (z0d (z2e s {data:=#[10]}) {data:=#[10]}))) (Int.toNat 2)) 3) 0 0 0 0 0 0 (zho (wAt (z4i (List.map IV.str (z0d (z2e s {data:=#[10]}) {data:=#[10]}))) (Int.toNat 1)) 4) (zho (wAt (z4i (List.map IV.str (z0d (z2e s {data:=#[10]}) {data:=#[10]}))) (Int.toNat 2)) 3) 0 0 0 (List.drop 1 (List.drop 1 (List.map IV.str (z0d (z2e s {data:=#[10]}) {data:=#[10]}))))) (z05 0 (kSq (z0t N) (z0f z1g [1,1,1,1,1,1]) (z2s (z0t N) none [(ResultVar.cell 2 30),(ResultVar.tmp 3)] [[(.int .i64),(.int .i64),(.int .i64),(.int .i64),(.int .i64),(.list true [(.int .i64),(.list false [(.int .u64)])])],[.bool]])))) none) none) none):=by kernel_rfl
theorem z96 (N:Nat) (s0:ByteArray) (b3:Bool) (l7:List IV) (x28 x29 u01 u02 u03 u04 u05 u06 u07 u08 u09 u0a:Int) (u00:List IV) (again:St→Res) (k:Out→St→Res):rnd (z0t N) (z0f z1g [1,1,1,1,1,0,1,0,0]) (z6v s0 b3 l7 x28 x29 u01 u02 u03 u04 u05 u06 u07 u08 u09 u0a u00) (z3t again ⟨[0,2,3,4,6,7,28,29],[2,6,15],[]⟩ k)=(cond (decide (x29 < x28)) (cond (decide (0≤IntKind.wrap IntKind.i64 (1+x29))) (cond (decide (ByteArray.size (wAt l7 (Int.toNat (IntKind.wrap IntKind.i64 (1+x29)))) < 4294967281)) (cond (decide (x29=ic 0)) (again (z6v s0 b3 l7 x28 (IntKind.wrap IntKind.i64 (x29+1)) u01 u02 u03 u04 u05 u06 u07 (zm5 (wAt l7 (Int.toNat (IntKind.wrap IntKind.i64 (1+x29))))) u09 u0a u00)) (cond (decide (x29=ic 1)) (again (z6v s0 b3 l7 x28 (IntKind.wrap IntKind.i64 (x29+1)) u01 u02 u03 u04 u05 u06 u07 u08 (zm5 (wAt l7 (Int.toNat (IntKind.wrap IntKind.i64 (1+x29))))) u0a u00)) (cond (decide (x29=ic 2)) (again (z6v s0 b3 l7 x28 (IntKind.wrap IntKind.i64 (x29+1)) u01 u02 u03 u04 u05 u06 u07 u08 u09 (zm5 (wAt l7 (Int.toNat (IntKind.wrap IntKind.i64 (1+x29))))) u00)) none))) none) none) (k (.exit 0) (z6v s0 b3 l7 x28 x29 u01 u02 u03 u04 u05 u06 u07 u08 u09 u0a u00))):=by kernel_rfl
theorem zsb (N:Nat) (s0:ByteArray) (b3:Bool) (l7:List IV) (x28 x29 u01 u02 u03 u04 u05 u06 u07 u08 u09 u0a:Int) (u00:List IV):(z05 0 (kSq (z0t N) (z0f z1g [1,1,1,1,1,1]) (z2s (z0t N) none [(ResultVar.cell 2 30),(ResultVar.tmp 3)] [[(.int .i64),(.int .i64),(.int .i64),(.int .i64),(.int .i64),(.list true [(.int .i64),(.list false [(.int .u64)])])],[.bool]]))) (.exit 0) (z6v s0 b3 l7 x28 x29 u01 u02 u03 u04 u05 u06 u07 u08 u09 u0a u00)=(lpE (z0t N) (z0f z1g [1,1,1,1,1,1,0,0,0]) ⟨[0,2,3,4,6],[2,6,15,500],[⟨(.cell 6 5),500,88,true,[(.int .i64),(.list false [(.int .u64)])]⟩]⟩ N (z8k s0 b3 u01 u02 u03 u04 u05 u06 u07 u08 u09 u0a 0 u00 []) (z05 2 (kSq (z0t N) (z0f z1g [1,1,1,1,1,1,1]) (z2s (z0t N) none [(ResultVar.cell 2 30),(ResultVar.tmp 3)] [[(.int .i64),(.int .i64),(.int .i64),(.int .i64),(.int .i64),(.list true [(.int .i64),(.list false [(.int .u64)])])],[.bool]])))):=by kernel_rfl
theorem zfh (N:Nat) (s0:ByteArray) (b3:Bool) (u03 u04 u05 u06 u07 u08 u09 u0a u0b u0c:Int) (u02:Nat) (u00 u01:List IV) (again:St→Res) (k:Out→St→Res):rnd (z0t N) (z0f z1g [1,1,1,1,1,1,0,0,0]) (z8k s0 b3 u03 u04 u05 u06 u07 u08 u09 u0a u0b u0c u02 u00 u01) (z3t again ⟨[0,2,3,4,6],[2,6,15,500],[⟨(.cell 6 5),500,88,true,[(.int .i64),(.list false [(.int .u64)])]⟩]⟩ k)=(cond (decide (ic (List.length u00) > 0)) (cond (decide (ic (u02 - 0)≤8)) (cond (z7x u00) (lpE (z0t N) (z0f z1g [1,1,1,1,1,1,0,0,0,1,0,1,1,0,1,0,0]) ⟨[0,2,3,4,6,10,61,62],[2,6,10,15,500,501],[⟨(.cell 6 5),500,88,true,[(.int .i64),(.list false [(.int .u64)])]⟩,⟨(.cell 10 1),501,103,false,[(.int .u64)]⟩]⟩ N (za6 s0 b3 (zho (wAt (z4i u00) (Int.toNat 2)) 31) 0 u03 u04 u05 u06 u07 u08 u09 u0a u0b u0c u02 (zho (wAt (z4i u00) (Int.toNat 1)) 3) 0 (List.drop 1 u00) u01 []) (z05 4 (kSq (z0t N) (z0f z1g [1,1,1,1,1,1,0,0,0,1,0,1,1,1]) (z05 3 (z3t again ⟨[0,2,3,4,6],[2,6,15,500],[⟨(.cell 6 5),500,88,true,[(.int .i64),(.list false [(.int .u64)])]⟩]⟩ k))))) none) (k (.exit 2) (z8k s0 b3 u03 u04 u05 u06 u07 u08 u09 u0a u0b u0c u02 u00 u01))) (k (.exit 2) (z8k s0 b3 u03 u04 u05 u06 u07 u08 u09 u0a u0b u0c u02 u00 u01))):=by kernel_rfl
theorem zk3 (N:Nat) (s0:ByteArray) (b3:Bool) (x61 x62 u06 u07 u08 u09 u0a u0b u0c u0d u0e u0f:Int) (u04:Nat) (u05:Int) (u03:Nat) (u00 u01 u02:List IV) (again:St→Res) (k:Out→St→Res):rnd (z0t N) (z0f z1g [1,1,1,1,1,1,0,0,0,1,0,1,1,0,1,0,0]) (za6 s0 b3 x61 x62 u06 u07 u08 u09 u0a u0b u0c u0d u0e u0f u04 u05 u03 u00 u01 u02) (z3t again ⟨[0,2,3,4,6,10,61,62],[2,6,10,15,500,501],[⟨(.cell 6 5),500,88,true,[(.int .i64),(.list false [(.int .u64)])]⟩,⟨(.cell 10 1),501,103,false,[(.int .u64)]⟩]⟩ k)=(cond (decide (x62 < x61)) (cond (z7x u00) (cond (decide ((u03+List.length (List.drop 0 (List.take 1 [IV.int (z9w (yr8 (z4i u00)))])))*TI.bytes (Env.tyd (z0t N) 103)≤z08)) (again (za6 s0 b3 x61 (IntKind.wrap IntKind.i64 (x62+1)) u06 u07 u08 u09 u0a u0b u0c u0d u0e u0f u04 u05 (u03+List.length (List.drop 0 (List.take 1 [IV.int (z9w (yr8 (z4i u00)))]))) (List.drop 1 u00) u01 (List.take u03 u02++List.drop 0 (List.take 1 [IV.int (z9w (yr8 (z4i u00)))])))) none) none) (k (.exit 4) (za6 s0 b3 x61 x62 u06 u07 u08 u09 u0a u0b u0c u0d u0e u0f u04 u05 u03 u00 u01 u02))):=by kernel_rfl
theorem zqo (N:Nat) (s0:ByteArray) (b3:Bool) (u03 u04 u05 u06 u07 u08 u09 u0a u0b u0c:Int) (u02:Nat) (u00 u01:List IV):(z05 2 (kSq (z0t N) (z0f z1g [1,1,1,1,1,1,1]) (z2s (z0t N) none [(ResultVar.cell 2 30),(ResultVar.tmp 3)] [[(.int .i64),(.int .i64),(.int .i64),(.int .i64),(.int .i64),(.list true [(.int .i64),(.list false [(.int .u64)])])],[.bool]]))) (.exit 2) (z8k s0 b3 u03 u04 u05 u06 u07 u08 u09 u0a u0b u0c u02 u00 u01)=(cond (ByteArray.toList s0==ByteArray.toList {data:=#[]}) (some ((.tup [(.agg [(.i 0),(.i 0),(.i 0),(.i 0),(.i 0),(.list true [(.int .i64),(.list false [(.int .u64)])] [])]),(.bool false)]),[])) (cond (!ByteArray.toList (zos {d:=u08,c:=u09,b0:=u0a,b1:=u0b,b2:=u0c,ts:=List.drop 0 (List.take u02 u01)})==ByteArray.toList s0) (some ((.tup [(.agg [(.i 0),(.i 0),(.i 0),(.i 0),(.i 0),(.list true [(.int .i64),(.list false [(.int .u64)])] [])]),(.bool false)]),[])) (some ((.tup [(.agg [(.i u08),(.i u09),(.i u0a),(.i u0b),(.i u0c),(.list true [(.int .i64),(.list false [(.int .u64)])] (List.drop 0 (List.take u02 u01)))]),(.bool true)]),[])))):=by kernel_rfl
theorem zrk (N:Nat) (again:St→Res) (k:Out→St→Res) (s0:ByteArray) (b3:Bool) (x61 x62 u06 u07 u08 u09 u0a u0b u0c u0d u0e u0f:Int) (u04:Nat) (u05:Int) (u03:Nat) (u00 u01 u02:List IV):(z05 4 (kSq (z0t N) (z0f z1g [1,1,1,1,1,1,0,0,0,1,0,1,1,1]) (z05 3 (z3t again ⟨[0,2,3,4,6],[2,6,15,500],[⟨(.cell 6 5),500,88,true,[(.int .i64),(.list false [(.int .u64)])]⟩]⟩ k)))) (.exit 4) (za6 s0 b3 x61 x62 u06 u07 u08 u09 u0a u0b u0c u0d u0e u0f u04 u05 u03 u00 u01 u02)=(cond (decide ((u04+List.length (List.drop 0 (List.take 1 [IV.agg [IV.int u05,IV.list (List.drop 0 (List.take u03 u02))]])))*TI.bytes (Env.tyd (z0t N) 88)≤z08)) (again (z8k s0 b3 u06 u07 u08 u09 u0a u0b u0c u0d u0e u0f (u04+List.length (List.drop 0 (List.take 1 [IV.agg [IV.int u05,IV.list (List.drop 0 (List.take u03 u02))]]))) u00 (List.take u04 u01++List.drop 0 (List.take 1 [IV.agg [IV.int u05,IV.list (List.drop 0 (List.take u03 u02))]])))) none):=by kernel_rfl
open Go Go.Proofs
theorem yle (s:ByteArray) {most:Int} (h:0≤most):0≤zho s most∧zho s most≤most:=by
 unfold zho;cases ha:zmc s <;> cases h1:decide (z58 s < 0) <;> cases h2:decide (z58 s > most)
 all_goals simp only [v0e,v0j,v0w,v1d,v2o,v0u,v0k,v1e,v18]
 all_goals first
  | exact ⟨by omega,by omega⟩
  | (have h1:=v0r h1; have h2:=v0r h2; omega)
theorem zh2 (s t:ByteArray):(z2e s t).size≤s.size:=by
 unfold z2e;cases zpz s t with
 | true=>
  rw [z00,v2q];omega
 | false=>exact v0a _
theorem yoi {s:ByteArray} (h:s.size < 4294967281):z7x (zyf s)=true:=by
 unfold z7x zyf;rw [v35];intro x hx;obtain ⟨w,hw,rfl⟩:=List.mem_map.1 hx
 have:=(z9l yn0 _ (yaf s)).2 w hw
 have h2:(yaf s).size≤s.size:=zh2 s yn0;refine v01 ?_;show w.size < 4294967281;omega
abbrev kpA:KP:=⟨[0,2,3,4,6,7,28,29],[2,6,15],[]⟩
abbrev kpB:KP:=⟨[0,2,3,4,6],[2,6,15,500],[⟨.cell 6 5,500,88,true,[.int .i64,.list false [.int .u64]]⟩]⟩
abbrev kpC:KP:=⟨[0,2,3,4,6,10,61,62],[2,6,10,15,500,501],[⟨.cell 6 5,500,88,true,[.int .i64,.list false [.int .u64]]⟩,⟨.cell 10 1,501,103,false,[.int .u64]⟩]⟩
abbrev ys9 (s:ByteArray) (W:List IV) (C i d c b0 b1 b2:Int) (L:List IV):St:=
 ⟨[(0,(.str s)),(2,(.ptr 2 0 0)),(3,(.bool false)),(4,(.ptr 15 0 0)),(6,(.ptr 6 0 0)),(7,(.list false [.str] W)),(28,(.int .i64 C)),(29,(.int .i64 i))],[(2,(some (.box [(.int .i64 0),(.int .i64 0),(.int .i64 0),(.int .i64 0),(.int .i64 0),.zs]))),(6,(some (.box [(.int .i64 d),(.int .i64 c),(.int .i64 b0),(.int .i64 b1),(.int .i64 b2),.zs]))),(15,(some (.box [(.list false [.str] L)])))]⟩
theorem zhd (N:Nat) (s:ByteArray) (W:List IV) (hW:∀ i,(wAt W i).size < 4294967281) (C:Int) (i:Nat) (hi:(i:Int) < C) (h3:i < 3) (d c b0 b1 b2:Int) (L:List IV) (again:St→Res) (k:Out→St→Res) :
  rnd (z0t N) (z0f z1g [1,1,1,1,1,0,1,0,0]) (ys9 s W C (i:Int) d c b0 b1 b2 L) (z3t again kpA k) =
   again (ys9 s W C ((i+1:Nat):Int) d c (cond (Nat.beq i 0) (zm5 (wAt W (1+i))) b0) (cond (Nat.beq i 1) (zm5 (wAt W (1+i))) b1) (cond (Nat.beq i 2) (zm5 (wAt W (1+i))) b2) L):=by
 rw [z96];have ei:IntKind.wrap IntKind.i64 ((i:Int)+1)=((i+1:Nat):Int):=by
  rw [z0s (by omega) (by omega)]
  omega
 have ei':IntKind.wrap IntKind.i64 (1+(i:Int))=((1+i:Nat):Int):=by
  rw [z0s (by omega) (by omega)]
  omega
 rw [ei,ei',v0g,v01 hi,z00,v01 (show (0:Int)≤((1+i:Nat):Int) by omega),z00,v01 (hW (1+i)),z00]
 match i,h3 with
 | 0,_=>rfl
 | 1,_=>rfl
 | 2,_=>rfl
theorem yby (N:Nat) (s:ByteArray) (LS W:List IV) (hWe:W=z4i (LS.drop 1)) (hW:∀ i,(wAt W i).size < 4294967281) (C:Int) (h0:0≤C) (h3:C≤3) (hN:10≤N) (d c:Int) (L:List IV) (K:Out→St→Res) :
  lpE (z0t N) (z0f z1g [1,1,1,1,1,0,1,0,0]) kpA N (ys9 s W C 0 d c 0 0 0 L) K=K (.exit 0) (ys9 s W C C d c (zfi LS C 0) (zfi LS C 1) (zfi LS C 2) L):=by
 obtain ⟨M,rfl⟩:∃ M,N=M+4:=⟨N - 4,by omega⟩
 obtain ⟨n,rfl⟩:∃ n:Nat,C=(n:Int):=⟨C.toNat,by omega⟩
 subst hWe;have e0:ys9 s (z4i (LS.drop 1)) (n:Int) 0 d c 0 0 0 L=ys9 s (z4i (LS.drop 1)) (n:Int) ((0:Nat):Int) d c 0 0 0 L:=rfl;rw [e0]
 match n,h3 with
 | 0,_=>
  rw [z06,z96,v05 (show ¬ ((0:Nat):Int) < ((0:Nat):Int) by omega),z01]
  rfl
 | 1,_=>
  rw [z06,zhd (M+4) s _ hW _ 0 (by omega) (by omega),z06,z96,v05 (show ¬ ((0+1:Nat):Int) < ((1:Nat):Int) by omega),z01]
  rfl
 | 2,_=>
  rw [z06,zhd (M+4) s _ hW _ 0 (by omega) (by omega),z06,zhd (M+4) s _ hW _ 1 (by omega) (by omega),z06,z96,v05 (show ¬ ((1+1:Nat):Int) < ((2:Nat):Int) by omega),z01]
  rfl
 | 3,_=>
  rw [z06,zhd (M+4) s _ hW _ 0 (by omega) (by omega),z06,zhd (M+4) s _ hW _ 1 (by omega) (by omega),z06,zhd (M+4) s _ hW _ 2 (by omega) (by omega),z06,z96,v05 (show ¬ ((2+1:Nat):Int) < ((3:Nat):Int) by omega),z01]
  rfl
 | n+4,h3=>exact absurd h3 (by omega)
abbrev yuq (s:ByteArray) (d c b0 b1 b2:Int) (L T:List IV) (cl k j:Int) (NL:List IV):St:=
 ⟨[(0,(.str s)),(2,(.ptr 2 0 0)),(3,(.bool false)),(4,(.ptr 15 0 0)),(6,(.ptr 6 0 0)),(10,(.ptr 10 0 0)),(61,(.int .i64 k)),(62,(.int .i64 j))],[(2,(some (.box [(.int .i64 0),(.int .i64 0),(.int .i64 0),(.int .i64 0),(.int .i64 0),.zs]))),(6,(some (.box [(.int .i64 d),(.int .i64 c),(.int .i64 b0),(.int .i64 b1),(.int .i64 b2),(.row 500 0 T.length)]))),(10,(some (.box [(.int .i64 cl),(.row 501 0 NL.length)]))),(15,(some (.box [(.list false [.str] L)]))),(500,(some (.row true 88 true [(.int .i64),(.list false [(.int .u64)])] T))),(501,(some (.row true 103 false [(.int .u64)] NL)))]⟩
theorem y6t (L:List IV) (j:Nat):zei L (j+1)=zei L j++[.int (z9w (yr8 (z4i (L.drop j))))]:=by
 unfold zei;rw [List.range_succ,v3x]
 rfl
theorem zf0 (L:List IV) (j:Nat):(zei L j).length=j:=by
 unfold zei;rw [v14,List.length_range]
theorem y29 (N:Nat) (s:ByteArray) (d c b0 b1 b2:Int) (T L:List IV) (hL:z7x L=true) (cl:Int) (k:Nat) (hk:k≤31) (K:Out→St→Res):∀ (m j n:Nat),j+m=k→m < n →
  lpE (z0t N) (z0f z1g [1,1,1,1,1,1,0,0,0,1,0,1,1,0,1,0,0]) kpC n (yuq s d c b0 b1 b2 (L.drop j) T cl (k:Int) (j:Int) (zei L j)) K =
   K (.exit 4) (yuq s d c b0 b1 b2 (L.drop k) T cl (k:Int) (k:Int) (zei L k))
 | m,j,0,_,h=>absurd h (by omega)
 | 0,j,n+1,hd,_=>by
  have hj:j=k:=by omega
  subst hj;rw [z06,zk3,v05 (show ¬ (j:Int) < (j:Int) by omega),z01]
 | m+1,j,n+1,hd,hn=>by
  have ej:IntKind.wrap IntKind.i64 ((j:Int)+1)=((j+1:Nat):Int):=by
   rw [z0s (by omega) (by omega)]
   omega
  have eb:TI.bytes (Env.tyd (z0t N) 103)=8:=rfl;have e1:∀ x:IV,List.length (List.drop 0 (List.take 1 [x]))=1:=fun x=>rfl
  have e2:∀ x:IV,List.drop 0 (List.take 1 [x])=[x]:=fun x=>rfl
  rw [z06,zk3,ej,eb,e1,e2,v01 (show (j:Int) < (k:Int) by omega),z00,z9e hL j,z00,zf0,v01 (show (j+1)*8≤z08 by unfold z08; omega),z00]
  have e3:List.take j (zei L j)=zei L j:=v13 (by rw [zf0]; omega)
  rw [e3,← y6t,v41];have ih:=y29 N s d c b0 b1 b2 T L hL cl k hk K m (j+1) n (by omega) (by omega)
  unfold yuq at ih ⊢
  rw [zf0] at ih;exact ih
abbrev yub (s:ByteArray) (d c b0 b1 b2:Int) (L T:List IV):St:=
 ⟨[(0,(.str s)),(2,(.ptr 2 0 0)),(3,(.bool false)),(4,(.ptr 15 0 0)),(6,(.ptr 6 0 0))],[(2,(some (.box [(.int .i64 0),(.int .i64 0),(.int .i64 0),(.int .i64 0),(.int .i64 0),.zs]))),(6,(some (.box [(.int .i64 d),(.int .i64 c),(.int .i64 b0),(.int .i64 b1),(.int .i64 b2),(.row 500 0 T.length)]))),(15,(some (.box [(.list false [.str] L)]))),(500,(some (.row true 88 true [(.int .i64),(.list false [(.int .u64)])] T)))]⟩
theorem y1d (N:Nat) (hN:40≤N) (s:ByteArray) (d c b0 b1 b2:Int) (K:Out→St→Res):∀ (m n:Nat) (L T:List IV),z7x L=true→T.length+m=9→m < n →
  ∃ L',lpE (z0t N) (z0f z1g [1,1,1,1,1,1,0,0,0]) kpB n (yub s d c b0 b1 b2 L T) K=K (.exit 2) (yub s d c b0 b1 b2 L' (T++zcv m L))
 | m,0,L,T,_,_,h=>absurd h (by omega)
 | m,n+1,[],T,hL,hT,hn=>by
  refine ⟨[],?_⟩;have e:zcv m []=[]:=by cases m <;> rfl
  rw [z06,zfh,v05 (show ¬ ic (List.length ([]:List IV)) > 0 by decide),z01,e,v2a]
 | 0,n+1,l :: L,T,hL,hT,hn=>by
  refine ⟨l :: L,?_⟩;rw [z06,zfh,v01 (show ic (List.length (l :: L)) > 0 by simp only [ic,v03]; omega),z00,v05 (show ¬ ic (T.length - 0)≤8 by simp only [ic]; omega),z01]
  show K (.exit 2) _=K (.exit 2) (yub s d c b0 b1 b2 (l :: L) (T++[]));rw [v2a]
 | m+1,n+1,l :: L,T,hL,hT,hn=>by
  obtain ⟨k0,k1⟩:=yle (wAt (z4i (l :: L)) 2) (most:=31) (by omega)
  have hk:zho (wAt (z4i (l :: L)) 2) 31=((rdK (l :: L):Nat):Int):=by unfold rdK; omega
  have hLd:=z9e hL 1;have hk31:rdK (l :: L)≤31:=by unfold rdK; omega
  have e2:Int.toNat 2=2:=rfl;have e1:Int.toNat 1=1:=rfl;rw [z06,zfh,v01 (show ic (List.length (l :: L)) > 0 by simp only [ic,v03]; omega),z00,v01 (show ic (T.length - 0)≤8 by simp only [ic]; omega),z00,hL,z00,e2,e1,hk]
  have run:=y29 N s d c b0 b1 b2 T (List.drop 1 (l :: L)) hLd (zho (wAt (z4i (l :: L)) 1) 3) (rdK (l :: L)) hk31
   (z05 4 (kSq (z0t N) (z0f z1g [1,1,1,1,1,1,0,0,0,1,0,1,1,1]) (z05 3 (z3t (fun s'=>lpE (z0t N) (z0f z1g [1,1,1,1,1,1,0,0,0]) kpB n s' K) kpB K)))) (rdK (l :: L)) 0 N (by omega) (by omega)
  have eb:TI.bytes (Env.tyd (z0t N) 88)=32:=rfl;have e3:∀ x:IV,List.length (List.drop 0 (List.take 1 [x]))=1:=fun x=>rfl
  have e4:∀ x:IV,List.drop 0 (List.take 1 [x])=[x]:=fun x=>rfl
  rw [zrk,eb,e3,e4,v01 (show (T.length+1)*32≤z08 by unfold z08; omega),z00,zf0] at run
  have e5:List.take T.length T=T:=v13 (v0a _);have e6:List.drop 0 (List.take (rdK (l :: L)) (zei (List.drop 1 (l :: L)) (rdK (l :: L))))=zei (List.drop 1 (l :: L)) (rdK (l :: L)):=by
   rw [v0z,v13 (by rw [zf0]; omega)]
  rw [e5,e6] at run;obtain ⟨L',hL'⟩:=y1d N hN s d c b0 b1 b2 K m n (List.drop (rdK (l :: L)) (List.drop 1 (l :: L))) (T++[yfi (l :: L)]) (z9e hLd _) (by rw [v08,v03,v0i]; omega) (by omega)
  refine ⟨L',?_⟩;have e7:T++zcv (m+1) (l :: L)=T++[yfi (l :: L)]++zcv m (List.drop (rdK (l :: L)) (List.drop 1 (l :: L))):=by
   rw [v2w]
   rfl
  rw [e7,← hL'];refine v4b ?_ (run.trans ?_)
  ·rfl
  ·have e8:(T++[yfi (l :: L)]).length=T.length+1:=by rw [v08]; rfl
   unfold yub;rw [e8]
   rfl
set_option maxHeartbeats 1000000 in
theorem zgu:z32 PR B0 19 z6h:=by
 refine z0h [(46,z1t),(47,z1z),(20,z99),(49,z90),(48,z40),(52,z6k),(51,zb3),(50,zat)] [(6,kpA),(10,kpB),(14,kpC)] z6h [[.int .i64,.int .i64,.int .i64,.int .i64,.int .i64,.list true [.int .i64,.list false [.int .u64]]],[.bool]] Tryz.func19 y72 ⟨z5y,z8p,zmx,zmg,zeo,zma,zpl,zoc,trivial⟩ ?_;intro vs r hwf h;unfold z6h at h
 split at h
 ·rename_i s
  cases hc:decide (s.size < 4294967281) with
  | false=>rw [hc] at h; simp [R.get] at h
  | true=>
   rw [hc,R.get_br,z00,R.get_ok] at h;have hs:=v0c hc;refine ⟨40,?_⟩;rw [← h];refine (y6n 40 s).trans ?_;have hok:=yoi hs;have e0:List.map IV.str (z0d (z2e s { data:=#[10] }) { data:=#[10] })=zyf s:=rfl;have e1:decide (1≤ByteArray.size { data:=#[10] })=true:=rfl;have ts:=zh2 s yn0;have e2:Int.toNat 2=2:=rfl;have e3:Int.toNat 1=1:=rfl;rw [e0,e1,e2,e3,v01 (show ByteArray.size (z2e s { data:=#[10] }) < 4294967281 from v3b ts hs),v0w,z00,hok,z00,z9e hok 1,z00]
   generalize hLS:zyf s=LS at hok ⊢
   obtain ⟨c0,c3⟩:=yle (wAt (z4i LS) 2) (most:=3) (by omega)
   refine (yby 40 s LS (z4i (LS.drop 1)) rfl (zra (z9e hok 1)) (zho (wAt (z4i LS) 2) 3) c0 c3 (by omega) (zho (wAt (z4i LS) 1) 4) (zho (wAt (z4i LS) 2) 3) (List.drop 1 (List.drop 1 LS)) _).trans ?_
   rw [zsb];obtain ⟨L',hL'⟩:=y1d 40 (by omega) s (zho (wAt (z4i LS) 1) 4) (zho (wAt (z4i LS) 2) 3) (zfi LS (zho (wAt (z4i LS) 2) 3) 0) (zfi LS (zho (wAt (z4i LS) 2) 3) 1) (zfi LS (zho (wAt (z4i LS) 2) 3) 2)
    (z05 2 (kSq (z0t 40) (z0f z1g [1,1,1,1,1,1,1]) (z2s (z0t 40) none [(ResultVar.cell 2 30),(ResultVar.tmp 3)] [[(.int .i64),(.int .i64),(.int .i64),(.int .i64),(.int .i64),(.list true [(.int .i64),(.list false [(.int .u64)])])],[.bool]])))
    9 40 (List.drop 1 (List.drop 1 LS)) [] (z9e (z9e hok 1) 1) rfl (by omega)
   refine hL'.trans ?_;rw [zqo];have e4:([]:List IV)++zcv 9 (List.drop 1 (List.drop 1 LS))=zcv 9 (LS.drop 2):=by
    rw [v29,v41]
   have e5:List.drop 0 (List.take (([]:List IV)++zcv 9 (List.drop 1 (List.drop 1 LS))).length (([]:List IV)++zcv 9 (List.drop 1 (List.drop 1 LS))))=zcv 9 (LS.drop 2):=by
    rw [v0z,v13 (v0a _),e4]
   rw [e5];have e6:(⟨zho (wAt (z4i LS) 1) 4,zho (wAt (z4i LS) 2) 3,zfi LS (zho (wAt (z4i LS) 2) 3) 0,zfi LS (zho (wAt (z4i LS) 2) 3) 1,zfi LS (zho (wAt (z4i LS) 2) 3) 2,zcv 9 (LS.drop 2)⟩:Md)=yp6 s:=by
    unfold yp6;rw [hLS]
    rfl
   unfold z7h zak;rw [← e6];cases (ByteArray.toList s==ByteArray.toList ygg) with
   | true=>rfl
   | false=>
    rw [z01,v0j,v0k];cases (ByteArray.toList (zos ⟨zho (wAt (z4i LS) 1) 4,zho (wAt (z4i LS) 2) 3,zfi LS (zho (wAt (z4i LS) 2) 3) 0,zfi LS (zho (wAt (z4i LS) 2) 3) 1,zfi LS (zho (wAt (z4i LS) 2) 3) 2,zcv 9 (LS.drop 2)⟩)==ByteArray.toList s) <;> rfl
 ·simp [R.get] at h
open Go Go.Proofs
def yh3 (N:Nat):Env:=mkE [] [] 39 N
theorem ybn (N:Nat) (u04 u01 u06 u05 u08 u07 u0a u09 u0c u0b u0e u0d q_Lo q_Hi u03:Int) (u02:Bool) (u00 dim:Int):z0z (yh3 N) y2t [.cell 4 38] [[.int .i64,.int .i64,.int .i64,.int .i64,.int .i64,.int .i64,.int .i64,.int .i64,.int .i64,.int .i64,.int .i64,.int .i64,.int .i64,.int .i64,.int .i64,.bool,.int .i64]] [(.agg [(.i u04),(.i u01),(.i u06),(.i u05),(.i u08),(.i u07),(.i u0a),(.i u09),(.i u0c),(.i u0b),(.i u0e),(.i u0d),(.i q_Lo),(.i q_Hi),(.i u03),(.bool u02),(.i u00)]),(.i dim)]=(cond (decide (0≤dim)&&decide (dim≤ic 5)) (cond (decide (0≤dim)&&decide (dim≤ic 5)) (cond (decide (ic (min (Int.toNat dim) (Int.toNat dim))=ic 0)) (cond (u04==1) (some ((.agg [(.i u04),(.i u01),(.i 0),(.i 0),(.i 0),(.i 0),(.i 0),(.i 0),(.i 0),(.i 0),(.i 0),(.i 0),(.i q_Lo),(.i q_Hi),(.i 0),(.bool false),(.i u00)]),[])) (cond (u04==3) (some ((.agg [(.i u04),(.i u01),(.i 0),(.i 0),(.i 0),(.i 0),(.i 0),(.i 0),(.i 0),(.i 0),(.i 0),(.i 0),(.i 0),(.i 0),(.i u03),(.bool u02),(.i u00)]),[])) (some ((.agg [(.i u04),(.i u01),(.i 0),(.i 0),(.i 0),(.i 0),(.i 0),(.i 0),(.i 0),(.i 0),(.i 0),(.i 0),(.i 0),(.i 0),(.i 0),(.bool false),(.i u00)]),[])))) (cond (decide (ic (min (Int.toNat dim) (Int.toNat dim))=ic 1)) (cond (u04==1) (some ((.agg [(.i u04),(.i u01),(.i u06),(.i u05),(.i 0),(.i 0),(.i 0),(.i 0),(.i 0),(.i 0),(.i 0),(.i 0),(.i q_Lo),(.i q_Hi),(.i 0),(.bool false),(.i u00)]),[])) (cond (u04==3) (some ((.agg [(.i u04),(.i u01),(.i u06),(.i u05),(.i 0),(.i 0),(.i 0),(.i 0),(.i 0),(.i 0),(.i 0),(.i 0),(.i 0),(.i 0),(.i u03),(.bool u02),(.i u00)]),[])) (some ((.agg [(.i u04),(.i u01),(.i u06),(.i u05),(.i 0),(.i 0),(.i 0),(.i 0),(.i 0),(.i 0),(.i 0),(.i 0),(.i 0),(.i 0),(.i 0),(.bool false),(.i u00)]),[])))) (cond (decide (ic (min (Int.toNat dim) (Int.toNat dim))=ic 2)) (cond (u04==1) (some ((.agg [(.i u04),(.i u01),(.i u06),(.i u05),(.i u08),(.i u07),(.i 0),(.i 0),(.i 0),(.i 0),(.i 0),(.i 0),(.i q_Lo),(.i q_Hi),(.i 0),(.bool false),(.i u00)]),[])) (cond (u04==3) (some ((.agg [(.i u04),(.i u01),(.i u06),(.i u05),(.i u08),(.i u07),(.i 0),(.i 0),(.i 0),(.i 0),(.i 0),(.i 0),(.i 0),(.i 0),(.i u03),(.bool u02),(.i u00)]),[])) (some ((.agg [(.i u04),(.i u01),(.i u06),(.i u05),(.i u08),(.i u07),(.i 0),(.i 0),(.i 0),(.i 0),(.i 0),(.i 0),(.i 0),(.i 0),(.i 0),(.bool false),(.i u00)]),[])))) (cond (decide (ic (min (Int.toNat dim) (Int.toNat dim))=ic 3)) (cond (u04==1) (some ((.agg [(.i u04),(.i u01),(.i u06),(.i u05),(.i u08),(.i u07),(.i u0a),(.i u09),(.i 0),(.i 0),(.i 0),(.i 0),(.i q_Lo),(.i q_Hi),(.i 0),(.bool false),(.i u00)]),[])) (cond (u04==3) (some ((.agg [(.i u04),(.i u01),(.i u06),(.i u05),(.i u08),(.i u07),(.i u0a),(.i u09),(.i 0),(.i 0),(.i 0),(.i 0),(.i 0),(.i 0),(.i u03),(.bool u02),(.i u00)]),[])) (some ((.agg [(.i u04),(.i u01),(.i u06),(.i u05),(.i u08),(.i u07),(.i u0a),(.i u09),(.i 0),(.i 0),(.i 0),(.i 0),(.i 0),(.i 0),(.i 0),(.bool false),(.i u00)]),[])))) (cond (decide (ic (min (Int.toNat dim) (Int.toNat dim))=ic 4)) (cond (u04==1) (some ((.agg [(.i u04),(.i u01),(.i u06),(.i u05),(.i u08),(.i u07),(.i u0a),(.i u09),(.i u0c),(.i u0b),(.i 0),(.i 0),(.i q_Lo),(.i q_Hi),(.i 0),(.bool false),(.i u00)]),[])) (cond (u04==3) (some ((.agg [(.i u04),(.i u01),(.i u06),(.i u05),(.i u08),(.i u07),(.i u0a),(.i u09),(.i u0c),(.i u0b),(.i 0),(.i 0),(.i 0),(.i 0),(.i u03),(.bool u02),(.i u00)]),[])) (some ((.agg [(.i u04),(.i u01),(.i u06),(.i u05),(.i u08),(.i u07),(.i u0a),(.i u09),(.i u0c),(.i u0b),(.i 0),(.i 0),(.i 0),(.i 0),(.i 0),(.bool false),(.i u00)]),[])))) (cond (decide (ic (min (Int.toNat dim) (Int.toNat dim))=ic 5)) (cond (u04==1) (some ((.agg [(.i u04),(.i u01),(.i u06),(.i u05),(.i u08),(.i u07),(.i u0a),(.i u09),(.i u0c),(.i u0b),(.i u0e),(.i u0d),(.i q_Lo),(.i q_Hi),(.i 0),(.bool false),(.i u00)]),[])) (cond (u04==3) (some ((.agg [(.i u04),(.i u01),(.i u06),(.i u05),(.i u08),(.i u07),(.i u0a),(.i u09),(.i u0c),(.i u0b),(.i u0e),(.i u0d),(.i 0),(.i 0),(.i u03),(.bool u02),(.i u00)]),[])) (some ((.agg [(.i u04),(.i u01),(.i u06),(.i u05),(.i u08),(.i u07),(.i u0a),(.i u09),(.i u0c),(.i u0b),(.i u0e),(.i u0d),(.i 0),(.i 0),(.i 0),(.bool false),(.i u00)]),[])))) none)))))) none) none):=by kernel_rfl
def ycw (N:Nat):Env:=mkE [] [] 9 N
theorem y98 (N:Nat) (n:Int):z0z (ycw N) zy8 [.tmp 2] [[.bool]] [(.i n)]=(cond (decide (n≥0)) (some ((.bool (decide (n≤1073741824))),[])) (some ((.bool false),[]))):=by kernel_rfl
def ycn (N:Nat):Env:=mkE [(90,z3w)] [] 11 N
theorem yak (N:Nat) (s:ByteArray):z0z (ycn N) zvp [.tmp 2] [[.int .i64]] [(.str s)]=(some ((.i (z58 s)),[])):=by kernel_rfl
def yhx (N:Nat):Env:=mkE [(91,zcr)] [] 11 N
theorem ydw (N:Nat) (s:ByteArray):z0z (yhx N) y30 [.tmp 2] [[.int .i64]] [(.str s)]=(cond (decide (ByteArray.size s < 4294967281)) (some ((.i (zm5 s)),[])) none):=by kernel_rfl
def z0w (N:Nat):Env:=mkE [] [(2,⟨[0,1,4,7,8],[],[]⟩)] 19 N
abbrev z1d (l0:List IV) (s1:ByteArray) (x4 x7 x8:Int):St:=⟨[(0,(.list false [.str] l0)),(1,(.str s1)),(4,(.i x4)),(7,(.i x7)),(8,(.i x8))],[]⟩
theorem zev (N:Nat) (s:List IV) (v:ByteArray):z0z (z0w N) z1a [.tmp 4] [[.int .i64]] [(.list false [.str] s),(.str v)]=(lpE (z0w N) (z0f z1a [1,0,1,0,0]) ⟨[0,1,4,7,8],[],[]⟩ N (z1d s v 0 (ic (List.length s)) 0) (z05 0 (kSq (z0w N) (z0f z1a [1,1]) (z2s (z0w N) none [(ResultVar.tmp 4)] [[(.int .i64)]])))):=by kernel_rfl
theorem z7n (N:Nat) (l0:List IV) (s1:ByteArray) (x4 x7 x8:Int) (again:St→Res) (k:Out→St→Res):rnd (z0w N) (z0f z1a [1,0,1,0,0]) (z1d l0 s1 x4 x7 x8) (z3t again ⟨[0,1,4,7,8],[],[]⟩ k)=(cond (decide (x8 < x7)) (cond (decide (0≤x8)&&decide (x8 < ic (List.length l0))) (cond (ByteArray.toList s1==ByteArray.toList (IV.toStr (List.getD l0 (Int.toNat x8) default))) (k .ret (z1d l0 s1 x8 x7 x8)) (again (z1d l0 s1 x4 x7 (IntKind.wrap IntKind.i64 (x8+1))))) none) (k (.exit 0) (z1d l0 s1 x4 x7 x8))):=by kernel_rfl
theorem zci (N:Nat) (l0:List IV) (s1:ByteArray) (x4 x7 x8:Int):(z05 0 (kSq (z0w N) (z0f z1a [1,1]) (z2s (z0w N) none [(ResultVar.tmp 4)] [[(.int .i64)]]))) (.exit 0) (z1d l0 s1 x4 x7 x8)=(some ((.i (-1)),[])):=by kernel_rfl
theorem zcj (N:Nat) (l0:List IV) (s1:ByteArray) (x4 x7 x8:Int):(z05 0 (kSq (z0w N) (z0f z1a [1,1]) (z2s (z0w N) none [(ResultVar.tmp 4)] [[(.int .i64)]]))) .ret (z1d l0 s1 x4 x7 x8)=(some ((.i x4),[])):=by kernel_rfl
def zre (N:Nat):Env:=mkE [(121,zb4),(120,zcu),(161,z49)] [] 46 N
theorem ydl (N:Nat) (l:List IV):z0z (zre N) y1h [.cell 2 38] [[.int .i64,.int .i64,.int .i64,.int .i64,.int .i64,.int .i64,.int .i64,.int .i64,.int .i64,.int .i64,.int .i64,.int .i64,.int .i64,.int .i64,.int .i64,.bool,.int .i64]] [(.list false [.str] l)]=(cond (decide (List.length l≤4294967296)) (cond (decide ((List.length l+List.length (List.replicate (Int.toNat 6) (IV.str {data:=#[]})))*TI.bytes (Env.tyd (zre N) 9)≤z08)) (cond (decide (0≤1)&&decide (1 < ic (List.length l+List.length (List.replicate (Int.toNat 6) (IV.str {data:=#[]})) - 0))) (cond (decide (0≤0)&&decide (0 < ic (List.length l+List.length (List.replicate (Int.toNat 6) (IV.str {data:=#[]})) - 0))) (cond (ByteArray.toList (IV.toStr (List.getD (List.take (List.length l) l++List.replicate (Int.toNat 6) (IV.str {data:=#[]})) 0 default))==ByteArray.toList {data:=#[114,97,110,103,101]}) (cond (decide (0≤3)&&decide (3 < ic (List.length l+List.length (List.replicate (Int.toNat 6) (IV.str {data:=#[]})) - 0))) (cond (decide (ByteArray.size (IV.toStr (List.getD (List.take (List.length l) l++List.replicate (Int.toNat 6) (IV.str {data:=#[]})) 3 default)) < 4294967281)) (cond (decide (0≤5)&&decide (5 < ic (List.length l+List.length (List.replicate (Int.toNat 6) (IV.str {data:=#[]})) - 0))) (cond (decide (ByteArray.size (IV.toStr (List.getD (List.take (List.length l) l++List.replicate (Int.toNat 6) (IV.str {data:=#[]})) 5 default)) < 4294967281)) (some ((.agg [(.i 1),(.i (z58 (IV.toStr (List.getD (List.take (List.length l) l++List.replicate (Int.toNat 6) (IV.str {data:=#[]})) 1 default)))),(.i 0),(.i 0),(.i 0),(.i 0),(.i 0),(.i 0),(.i 0),(.i 0),(.i 0),(.i 0),(.i (zm5 (IV.toStr (List.getD (List.take (List.length l) l++List.replicate (Int.toNat 6) (IV.str {data:=#[]})) 3 default)))),(.i (zm5 (IV.toStr (List.getD (List.take (List.length l) l++List.replicate (Int.toNat 6) (IV.str {data:=#[]})) 5 default)))),(.i 0),(.bool false),(.i 0)]),[])) none) none) none) none) (cond (ByteArray.toList (IV.toStr (List.getD (List.take (List.length l) l++List.replicate (Int.toNat 6) (IV.str {data:=#[]})) 0 default))==ByteArray.toList {data:=#[98,101,115,116]}) (some ((.agg [(.i 2),(.i (z58 (IV.toStr (List.getD (List.take (List.length l) l++List.replicate (Int.toNat 6) (IV.str {data:=#[]})) 1 default)))),(.i 0),(.i 0),(.i 0),(.i 0),(.i 0),(.i 0),(.i 0),(.i 0),(.i 0),(.i 0),(.i 0),(.i 0),(.i 0),(.bool false),(.i 0)]),[])) (cond (ByteArray.toList (IV.toStr (List.getD (List.take (List.length l) l++List.replicate (Int.toNat 6) (IV.str {data:=#[]})) 0 default))==ByteArray.toList {data:=#[114,105,115,101,115]}) (cond (decide (0≤3)&&decide (3 < ic (List.length l+List.length (List.replicate (Int.toNat 6) (IV.str {data:=#[]})) - 0))) (cond (decide (0≤0)&&decide (0 < ic (List.length l+List.length (List.replicate (Int.toNat 6) (IV.str {data:=#[]})) - 0))) (some ((.agg [(.i 3),(.i (z58 (IV.toStr (List.getD (List.take (List.length l) l++List.replicate (Int.toNat 6) (IV.str {data:=#[]})) 1 default)))),(.i 0),(.i 0),(.i 0),(.i 0),(.i 0),(.i 0),(.i 0),(.i 0),(.i 0),(.i 0),(.i 0),(.i 0),(.i (z58 (IV.toStr (List.getD (List.take (List.length l) l++List.replicate (Int.toNat 6) (IV.str {data:=#[]})) 3 default)))),(.bool (ByteArray.toList (IV.toStr (List.getD (List.take (List.length l) l++List.replicate (Int.toNat 6) (IV.str {data:=#[]})) 0 default))==ByteArray.toList {data:=#[102,97,108,108,115]})),(.i 0)]),[])) none) none) (cond (ByteArray.toList (IV.toStr (List.getD (List.take (List.length l) l++List.replicate (Int.toNat 6) (IV.str {data:=#[]})) 0 default))==ByteArray.toList {data:=#[102,97,108,108,115]}) (cond (decide (0≤3)&&decide (3 < ic (List.length l+List.length (List.replicate (Int.toNat 6) (IV.str {data:=#[]})) - 0))) (cond (decide (0≤0)&&decide (0 < ic (List.length l+List.length (List.replicate (Int.toNat 6) (IV.str {data:=#[]})) - 0))) (some ((.agg [(.i 3),(.i (z58 (IV.toStr (List.getD (List.take (List.length l) l++List.replicate (Int.toNat 6) (IV.str {data:=#[]})) 1 default)))),(.i 0),(.i 0),(.i 0),(.i 0),(.i 0),(.i 0),(.i 0),(.i 0),(.i 0),(.i 0),(.i 0),(.i 0),(.i (z58 (IV.toStr (List.getD (List.take (List.length l) l++List.replicate (Int.toNat 6) (IV.str {data:=#[]})) 3 default)))),(.bool (ByteArray.toList (IV.toStr (List.getD (List.take (List.length l) l++List.replicate (Int.toNat 6) (IV.str {data:=#[]})) 0 default))==ByteArray.toList {data:=#[102,97,108,108,115]})),(.i 0)]),[])) none) none) (some ((.agg [(.i 0),(.i (z58 (IV.toStr (List.getD (List.take (List.length l) l++List.replicate (Int.toNat 6) (IV.str {data:=#[]})) 1 default)))),(.i 0),(.i 0),(.i 0),(.i 0),(.i 0),(.i 0),(.i 0),(.i 0),(.i 0),(.i 0),(.i 0),(.i 0),(.i 0),(.bool false),(.i 0)]),[])))))) none) none) none) none):=by kernel_rfl
open Go Go.Proofs
theorem y3p:z32 PR B0 42 zf2:=by
 refine z0h [] [] zf2 [[.bool]] Tryz.func42 ydk trivial ?_;intro vs r hwf h;unfold zf2 at h
 split at h
 ·rename_i n
  refine ⟨0,?_⟩;rw [← h];refine (y98 0 n).trans ?_;simp only [R.get_ok];unfold zk6
  have:decide (n≥0)=decide (0≤n):=rfl
  rw [this];cases decide (0≤n) <;> rfl
 ·simp [R.get] at h
theorem zoa:z32 PR B0 121 zb4:=by
 refine z0h [(90,z3w)] [] zb4 [[.int .i64]] Tryz.func121 yea ⟨zao,trivial⟩ ?_;intro vs r hwf h;unfold zb4 at h
 split at h
 ·rename_i s
  refine ⟨0,?_⟩;rw [← h];exact yak 0 s
 ·simp [R.get] at h
theorem zsr:z32 PR B0 120 zcu:=by
 refine z0h [(91,zcr)] [] zcu [[.int .i64]] Tryz.func120 yim ⟨zts,trivial⟩ ?_;intro vs r hwf h;unfold zcu at h
 split at h
 ·rename_i s
  refine ⟨0,?_⟩;rw [← h];refine (ydw 0 s).trans ?_;simp only [R.get_br,R.get_ok,R.get_no]
 ·simp [R.get] at h
theorem y75:z32 PR B0 41 zhc:=by
 refine z0h [] [] zhc [[.int .i64,.int .i64,.int .i64,.int .i64,.int .i64,.int .i64,.int .i64,.int .i64,.int .i64,.int .i64,.int .i64,.int .i64,.int .i64,.int .i64,.int .i64,.bool,.int .i64]] Tryz.func41 yi1 trivial ?_;intro vs r hwf h;unfold zhc at h
 split at h
 ·rename_i k c a0 b0 a1 b1 a2 b2 a3 b3 a4 b4 lo hi ft fl bu d
  refine ⟨0,?_⟩;cases hc:(decide (0≤d)&&decide (d≤5)) with
  | false=>rw [hc] at h; simp [R.get] at h
  | true=>
   rw [hc,R.get_br,z00,R.get_ok] at h;rw [← h];refine (ybn 0 k c a0 b0 a1 b1 a2 b2 a3 b3 a4 b4 lo hi ft fl bu d).trans ?_;have e5:(decide (0≤d)&&decide (d≤ic 5))=true:=hc;rw [e5,z00,z00];simp only [v02,v07] at hc;obtain ⟨n,rfl⟩:∃ n:Nat,d=n:=⟨d.toNat,by omega⟩
   simp only [v0g,Nat.min_self];unfold zj2;have hn:n=0∨n=1∨n=2∨n=3∨n=4∨n=5:=by omega
   have h13:(k==1)=true→(k==3)=false:=fun h1=>by
    rw [zl9] at h1 ⊢
    have:=v0c h1
    exact v05 (by omega)
   generalize (k==1)=e1 at h13 ⊢
   generalize (k==3)=e3 at h13 ⊢
   rcases hn with rfl | rfl | rfl | rfl | rfl | rfl <;> cases e1 <;> cases e3 <;> first | rfl | exact absurd (h13 rfl) (by decide)
 ·simp [R.get] at h
theorem y26 (N:Nat) (l:List IV) (s:ByteArray) (hl:l.length≤strMax) (K:Out→St→Res)
  (hx:∀ l0 s1 x4 x7 x8,K (.exit 0) ⟨[(0,(.list false [.str] l0)),(1,(.str s1)),(4,(.int .i64 x4)),(7,(.int .i64 x7)),(8,(.int .i64 x8))],[]⟩=some (.int .i64 (-1),[]))
  (hr:∀ l0 s1 x4 x7 x8,K .ret ⟨[(0,(.list false [.str] l0)),(1,(.str s1)),(4,(.int .i64 x4)),(7,(.int .i64 x7)),(8,(.int .i64 x8))],[]⟩=some (.int .i64 x4,[])) :
  ∀ (d i n:Nat) (x4:Int),i+d=l.length→d < n →
   lpE (z0w N) (z0f z1a [1,0,1,0,0]) ⟨[0,1,4,7,8],[],[]⟩ n ⟨[(0,(.list false [.str] l)),(1,(.str s)),(4,(.int .i64 x4)),(7,(.int .i64 (ic l.length))),(8,(.int .i64 (i:Int)))],[]⟩ K=some (.int .i64 (zhq (l.drop i) s (i:Int)),[])
 | 0,i,n+1,x4,hd,hn=>by
  rw [z06,z7n,zdj (by omega),z01,hx,v1i (by omega)]
  rfl
 | d+1,i,n+1,x4,hd,hn=>by
  have hi:i < l.length:=by omega
  unfold strMax at hl;have ih:=y26 N l s (by unfold strMax; omega) K hx hr d (i+1) n x4 (by omega) (by omega)
  rw [z06,z7n,zbm hi,zjl,v1d,z00,z00,zda hi,z7r (by omega),v0m hi]
  unfold zhq;cases (ByteArray.toList s==ByteArray.toList (IV.toStr l[i])) with
  | true=>rw [z00,z00,hr]
  | false=>
   rw [z01,z01,ih]
   rfl
 | _,_,0,_,_,h=>by omega
theorem zec:z32 PR B0 118 z2w:=by
 refine z0h [] [(2,⟨[0,1,4,7,8],[],[]⟩)] z2w [[.int .i64]] Tryz.func118 zf3 trivial ?_;intro vs r hwf h;unfold z2w at h
 split at h
 ·rename_i l s
  refine ⟨l.length+1,?_⟩;rw [← h];refine (zev (l.length+1) l s).trans ?_;simp only [R.get_ok];have hl:=(hwf (by simp [zfa])).1
  simp only [wfV,wfL] at hl
  have:=y26 (l.length+1) l s hl.1 _ (fun l0 s1 x4 x7 x8=>zci (l.length+1) l0 s1 x4 x7 x8) (fun l0 s1 x4 x7 x8=>zcj (l.length+1) l0 s1 x4 x7 x8) l.length 0 (l.length+1) 0 (by omega) (by omega)
  rw [v0z] at this;exact this
 ·simp [R.get] at h
theorem yqz (l:List IV) (i m:Nat) (x:IV) (hx:x.toStr=ByteArray.empty):IV.toStr (List.getD (l++List.replicate m x) i default)=wAt l i:=by
 unfold wAt
 by_cases h:i < l.length
 ·simp [List.getD,v1q,h]
 ·have e0:(List.getD l i default).toStr=ByteArray.empty:=by simp [List.getD,h]; rfl
  rw [e0]
  by_cases h6:i - l.length < m
  ·have e:List.getD (l++List.replicate m x) i default=x:=by simp [List.getD,v1q,h,v3e,h6]
   rw [e,hx]
  ·have e:List.getD (l++List.replicate m x) i default=default:=by simp [List.getD,v1q,h,v3e,h6]
   rw [e]
   rfl
theorem yrf (l:List IV) (i:Nat):IV.toStr (List.getD (List.take (List.length l) l++List.replicate (Int.toNat 6) (IV.str { data:=#[] })) i default)=wAt l i:=by
 rw [v0q];exact yqz l i _ _ rfl
theorem yav:z32 PR B0 119 zhh:=by
 refine z0h [(121,zb4),(120,zcu),(161,z49)] [] zhh [[.int .i64,.int .i64,.int .i64,.int .i64,.int .i64,.int .i64,.int .i64,.int .i64,.int .i64,.int .i64,.int .i64,.int .i64,.int .i64,.int .i64,.int .i64,.bool,.int .i64]] Tryz.func119 yit
  ⟨zoa,zsr,zea,trivial⟩ ?_
 intro vs r hwf h;unfold zhh at h
 split at h
 ·rename_i l
  refine ⟨0,?_⟩;cases hc:(decide (l.length≤4294967290)&&l.all (fun x=>decide (x.toStr.size < 4294967281))) with
  | false=>rw [hc] at h; simp [R.get] at h
  | true=>
   rw [hc,R.get_br,z00,R.get_ok] at h;rw [← h];refine (ydl 0 l).trans ?_;simp only [v02,v07,v35] at hc;obtain ⟨hl,hz⟩:=hc;have hw:∀ i,(wAt l i).size < 4294967281:=fun i=>by
    unfold wAt
    by_cases hi:i < l.length
    ·have:List.getD l i default=l[i]:=by simp [hi]
     rw [this];exact hz _ (v1x hi)
    ·have:List.getD l i default=default:=by simp [List.getD,hi]
     rw [this]
     decide
   have hb:TI.bytes (Env.tyd (zre 0) 9)=16:=by rfl
   have hr6:(List.replicate (Int.toNat 6) (IV.str { data:=#[] })).length=6:=rfl;simp only [yrf];rw [hb,hr6];have ge:∀ k:Nat,k < 6→decide ((k:Int) < ic (List.length l+6 - 0))=true:=fun k hk=>v01 (by simp only [ic]; omega)
   have g0:=ge 0 (by omega)
   have g1:=ge 1 (by omega)
   have g3:=ge 3 (by omega)
   have g5:=ge 5 (by omega)
   rw [v01 (show List.length l≤4294967296 by omega),z00,v01 (show (List.length l+6)*16≤z08 by unfold z08; omega),z00]
   have n0:decide ((0:Nat)≤0)=true:=rfl;have d1:(decide (0≤1)&&decide (1 < ic (List.length l+6 - 0)))=true:=by simpa using g1
   have d0:(decide (0≤0)&&decide (0 < ic (List.length l+6 - 0)))=true:=by simpa using g0
   have d3:(decide (0≤3)&&decide (3 < ic (List.length l+6 - 0)))=true:=by simpa using g3
   have d5:(decide (0≤5)&&decide (5 < ic (List.length l+6 - 0)))=true:=by simpa using g5
   rw [d1,d0,d3,d5,v01 (hw 3),v01 (hw 5)];simp only [z00];unfold z3v;cases ((wAt l 0).toList==zqp.toList) with
   | true=>rfl
   | false=>
    cases ((wAt l 0).toList==y33.toList) with
    | true=>rfl
    | false=>
     cases ((wAt l 0).toList==zr2.toList) <;> cases ((wAt l 0).toList==znr.toList) <;> rfl
 ·simp [R.get] at h
open Go Go.Proofs
def z10 (N:Nat):Env:=mkE [(42,zf2),(41,zhc),(44,z7y),(43,z2y),(45,z8l)] [(18,⟨[2,4,6,75,76,77],[2,500],[⟨.tmp 6,500,9,false,[.str]⟩]⟩)] 100 N
abbrev z3m (s4:ByteArray) (n6 n75:Nat) (x76 x77 u02 u03 u0a u0b u0c u0d u0e u0f u0g u0h u04 u05 u06 u07 u08:Int) (u00:Bool) (u09:Int) (u01:List IV):St:=⟨[(2,(.ptr 2 0 0)),(4,(.str s4)),(6,(.row 500 0 n6)),(75,(.bview 2 2 5 2 n75)),(76,(.i x76)),(77,(.i x77))],[(2,(some (.box [(.i u02),(.i u03),(.i u0a),(.i u0b),(.i u0c),(.i u0d),(.i u0e),(.i u0f),(.i u0g),(.i u0h),(.i u04),(.i u05),(.i u06),(.i u07),(.i u08),(.bool u00),(.i u09)]))),(500,(some (.row true 9 false [.str] u01)))]⟩
theorem y8h (N:Nat) (u04 u01 u06 u05 u08 u07 u0a u09 u0c u0b u0e u0d q_Lo q_Hi u03:Int) (u02:Bool) (u00 a1:Int):z0z (z10 N) z3b [.tmp 4] [[.str]] [(.agg [(.i u04),(.i u01),(.i u06),(.i u05),(.i u08),(.i u07),(.i u0a),(.i u09),(.i u0c),(.i u0b),(.i u0e),(.i u0d),(.i q_Lo),(.i q_Hi),(.i u03),(.bool u02),(.i u00)]),(.i a1)]=(cond (decide (a1 < 1)) (some ((.str ({data:=#[]})),[])) (cond (decide (a1 > 4)) (some ((.str ({data:=#[]})),[])) (cond (decide (0≤a1)&&decide (a1≤5)) (cond (! (u04==Qy.k (zj2 {k:=u04,c:=u01,a0:=u06,b0:=u05,a1:=u08,b1:=u07,a2:=u0a,b2:=u09,a3:=u0c,b3:=u0b,a4:=u0e,b4:=u0d,lo:=q_Lo,hi:=q_Hi,ft:=u03,fl:=u02,bu:=u00} a1)&&(u01==Qy.c (zj2 {k:=u04,c:=u01,a0:=u06,b0:=u05,a1:=u08,b1:=u07,a2:=u0a,b2:=u09,a3:=u0c,b3:=u0b,a4:=u0e,b4:=u0d,lo:=q_Lo,hi:=q_Hi,ft:=u03,fl:=u02,bu:=u00} a1)&&(u06==Qy.a0 (zj2 {k:=u04,c:=u01,a0:=u06,b0:=u05,a1:=u08,b1:=u07,a2:=u0a,b2:=u09,a3:=u0c,b3:=u0b,a4:=u0e,b4:=u0d,lo:=q_Lo,hi:=q_Hi,ft:=u03,fl:=u02,bu:=u00} a1)&&(u05==Qy.b0 (zj2 {k:=u04,c:=u01,a0:=u06,b0:=u05,a1:=u08,b1:=u07,a2:=u0a,b2:=u09,a3:=u0c,b3:=u0b,a4:=u0e,b4:=u0d,lo:=q_Lo,hi:=q_Hi,ft:=u03,fl:=u02,bu:=u00} a1)&&(u08==Qy.a1 (zj2 {k:=u04,c:=u01,a0:=u06,b0:=u05,a1:=u08,b1:=u07,a2:=u0a,b2:=u09,a3:=u0c,b3:=u0b,a4:=u0e,b4:=u0d,lo:=q_Lo,hi:=q_Hi,ft:=u03,fl:=u02,bu:=u00} a1)&&(u07==Qy.b1 (zj2 {k:=u04,c:=u01,a0:=u06,b0:=u05,a1:=u08,b1:=u07,a2:=u0a,b2:=u09,a3:=u0c,b3:=u0b,a4:=u0e,b4:=u0d,lo:=q_Lo,hi:=q_Hi,ft:=u03,fl:=u02,bu:=u00} a1)&&(u0a==Qy.a2 (zj2 {k:=u04,c:=u01,a0:=u06,b0:=u05,a1:=u08,b1:=u07,a2:=u0a,b2:=u09,a3:=u0c,b3:=u0b,a4:=u0e,b4:=u0d,lo:=q_Lo,hi:=q_Hi,ft:=u03,fl:=u02,bu:=u00} a1)&&(u09==Qy.b2 (zj2 {k:=u04,c:=u01,a0:=u06,b0:=u05,a1:=u08,b1:=u07,a2:=u0a,b2:=u09,a3:=u0c,b3:=u0b,a4:=u0e,b4:=u0d,lo:=q_Lo,hi:=q_Hi,ft:=u03,fl:=u02,bu:=u00} a1)&&(u0c==Qy.a3 (zj2 {k:=u04,c:=u01,a0:=u06,b0:=u05,a1:=u08,b1:=u07,a2:=u0a,b2:=u09,a3:=u0c,b3:=u0b,a4:=u0e,b4:=u0d,lo:=q_Lo,hi:=q_Hi,ft:=u03,fl:=u02,bu:=u00} a1)&&(u0b==Qy.b3 (zj2 {k:=u04,c:=u01,a0:=u06,b0:=u05,a1:=u08,b1:=u07,a2:=u0a,b2:=u09,a3:=u0c,b3:=u0b,a4:=u0e,b4:=u0d,lo:=q_Lo,hi:=q_Hi,ft:=u03,fl:=u02,bu:=u00} a1)&&(u0e==Qy.a4 (zj2 {k:=u04,c:=u01,a0:=u06,b0:=u05,a1:=u08,b1:=u07,a2:=u0a,b2:=u09,a3:=u0c,b3:=u0b,a4:=u0e,b4:=u0d,lo:=q_Lo,hi:=q_Hi,ft:=u03,fl:=u02,bu:=u00} a1)&&(u0d==Qy.b4 (zj2 {k:=u04,c:=u01,a0:=u06,b0:=u05,a1:=u08,b1:=u07,a2:=u0a,b2:=u09,a3:=u0c,b3:=u0b,a4:=u0e,b4:=u0d,lo:=q_Lo,hi:=q_Hi,ft:=u03,fl:=u02,bu:=u00} a1)&&(q_Lo==Qy.lo (zj2 {k:=u04,c:=u01,a0:=u06,b0:=u05,a1:=u08,b1:=u07,a2:=u0a,b2:=u09,a3:=u0c,b3:=u0b,a4:=u0e,b4:=u0d,lo:=q_Lo,hi:=q_Hi,ft:=u03,fl:=u02,bu:=u00} a1)&&(q_Hi==Qy.hi (zj2 {k:=u04,c:=u01,a0:=u06,b0:=u05,a1:=u08,b1:=u07,a2:=u0a,b2:=u09,a3:=u0c,b3:=u0b,a4:=u0e,b4:=u0d,lo:=q_Lo,hi:=q_Hi,ft:=u03,fl:=u02,bu:=u00} a1)&&(u03==Qy.ft (zj2 {k:=u04,c:=u01,a0:=u06,b0:=u05,a1:=u08,b1:=u07,a2:=u0a,b2:=u09,a3:=u0c,b3:=u0b,a4:=u0e,b4:=u0d,lo:=q_Lo,hi:=q_Hi,ft:=u03,fl:=u02,bu:=u00} a1)&&(u02==Qy.fl (zj2 {k:=u04,c:=u01,a0:=u06,b0:=u05,a1:=u08,b1:=u07,a2:=u0a,b2:=u09,a3:=u0c,b3:=u0b,a4:=u0e,b4:=u0d,lo:=q_Lo,hi:=q_Hi,ft:=u03,fl:=u02,bu:=u00} a1)&&(u00==Qy.bu (zj2 {k:=u04,c:=u01,a0:=u06,b0:=u05,a1:=u08,b1:=u07,a2:=u0a,b2:=u09,a3:=u0c,b3:=u0b,a4:=u0e,b4:=u0d,lo:=q_Lo,hi:=q_Hi,ft:=u03,fl:=u02,bu:=u00} a1)&&true)))))))))))))))))) (some ((.str ({data:=#[]})),[])) (cond (!zk6 u01) (some ((.str ({data:=#[]})),[])) (cond (!zk6 u03) (some ((.str ({data:=#[]})),[])) (cond (!zk6 u00) (some ((.str ({data:=#[]})),[])) (cond (u04==1) (cond (decide (0≤a1)&&decide (a1≤ic 5)) (lpE (z10 N) (z0f z3b [1,1,1,1,1,1,0,1,0,0]) ⟨[2,4,6,75,76,77],[2,500],[⟨(.tmp 6),500,9,false,[.str]⟩]⟩ N (z3m ({data:=#[]}) 7 (Int.toNat a1) (ic (Int.toNat a1)) 0 u04 u01 u06 u05 u08 u07 u0a u09 u0c u0b u0e u0d q_Lo q_Hi u03 u02 u00 [(IV.str {data:=#[114,97,110,103,101]}),(IV.str (z0n u01)),(IV.str {data:=#[102,114,111,109]}),(IV.str (z0i q_Lo)),(IV.str {data:=#[116,111]}),(IV.str (z0i q_Hi)),(IV.str {data:=#[105,110]})]) (z05 1 (kSq (z10 N) (z0f z3b [1,1,1,1,1,1,1]) (z2s (z10 N) none [(ResultVar.tmp 4)] [[.str]])))) none) (cond (u04==2) (cond (decide (0≤a1)&&decide (a1≤ic 5)) (lpE (z10 N) (z0f z3b [1,1,1,1,1,1,0,1,0,0]) ⟨[2,4,6,75,76,77],[2,500],[⟨(.tmp 6),500,9,false,[.str]⟩]⟩ N (z3m ({data:=#[]}) 3 (Int.toNat a1) (ic (Int.toNat a1)) 0 u04 u01 u06 u05 u08 u07 u0a u09 u0c u0b u0e u0d q_Lo q_Hi u03 u02 u00 [(IV.str {data:=#[98,101,115,116]}),(IV.str (z0n u01)),(IV.str {data:=#[105,110]})]) (z05 1 (kSq (z10 N) (z0f z3b [1,1,1,1,1,1,1]) (z2s (z10 N) none [(ResultVar.tmp 4)] [[.str]])))) none) (cond (u04==3) (cond u02 (cond (decide (0≤a1)&&decide (a1≤ic 5)) (lpE (z10 N) (z0f z3b [1,1,1,1,1,1,0,1,0,0]) ⟨[2,4,6,75,76,77],[2,500],[⟨(.tmp 6),500,9,false,[.str]⟩]⟩ N (z3m ({data:=#[]}) 5 (Int.toNat a1) (ic (Int.toNat a1)) 0 u04 u01 u06 u05 u08 u07 u0a u09 u0c u0b u0e u0d q_Lo q_Hi u03 u02 u00 [(IV.str {data:=#[102,97,108,108,115]}),(IV.str (z0n u01)),(IV.str {data:=#[98,121]}),(IV.str (z0n u03)),(IV.str {data:=#[105,110]})]) (z05 1 (kSq (z10 N) (z0f z3b [1,1,1,1,1,1,1]) (z2s (z10 N) none [(ResultVar.tmp 4)] [[.str]])))) none) (cond (decide (0≤a1)&&decide (a1≤ic 5)) (lpE (z10 N) (z0f z3b [1,1,1,1,1,1,0,1,0,0]) ⟨[2,4,6,75,76,77],[2,500],[⟨(.tmp 6),500,9,false,[.str]⟩]⟩ N (z3m ({data:=#[]}) 5 (Int.toNat a1) (ic (Int.toNat a1)) 0 u04 u01 u06 u05 u08 u07 u0a u09 u0c u0b u0e u0d q_Lo q_Hi u03 u02 u00 [(IV.str {data:=#[114,105,115,101,115]}),(IV.str (z0n u01)),(IV.str {data:=#[98,121]}),(IV.str (z0n u03)),(IV.str {data:=#[105,110]})]) (z05 1 (kSq (z10 N) (z0f z3b [1,1,1,1,1,1,1]) (z2s (z10 N) none [(ResultVar.tmp 4)] [[.str]])))) none)) (some ((.str ({data:=#[]})),[]))))))))) none))):=by kernel_rfl
theorem zn3 (N:Nat) (s4:ByteArray) (n6 n75:Nat) (x76 x77 u02 u03 u0a u0b u0c u0d u0e u0f u0g u0h u04 u05 u06 u07 u08:Int) (u00:Bool) (u09:Int) (u01:List IV) (again:St→Res) (k:Out→St→Res):rnd (z10 N) (z0f z3b [1,1,1,1,1,1,0,1,0,0]) (z3m s4 n6 n75 x76 x77 u02 u03 u0a u0b u0c u0d u0e u0f u0g u0h u04 u05 u06 u07 u08 u00 u09 u01) (z3t again ⟨[2,4,6,75,76,77],[2,500],[⟨(.tmp 6),500,9,false,[.str]⟩]⟩ k)=(cond (decide (x77 < x76)) (cond (decide (x77 < ic n75)) (cond (decide (x77=ic 0)) (cond (decide (ByteArray.size (z0i u0a)+ByteArray.size {data:=#[46,46]}≤strMax)) (cond (decide (ByteArray.size (z0i u0a++{data:=#[46,46]})+ByteArray.size (z0i u0b)≤strMax)) (cond (decide ((n6+List.length (List.drop 0 (List.take 1 [IV.str (z0i u0a++{data:=#[46,46]}++z0i u0b)])))*TI.bytes (Env.tyd (z10 N) 9)≤z08)) (again (z3m s4 (n6+List.length (List.drop 0 (List.take 1 [IV.str (z0i u0a++{data:=#[46,46]}++z0i u0b)]))) n75 x76 (IntKind.wrap IntKind.i64 (x77+1)) u02 u03 u0a u0b u0c u0d u0e u0f u0g u0h u04 u05 u06 u07 u08 u00 u09 (List.take n6 u01++List.drop 0 (List.take 1 [IV.str (z0i u0a++{data:=#[46,46]}++z0i u0b)])))) none) none) none) (cond (decide (x77=ic 1)) (cond (decide (ByteArray.size (z0i u0c)+ByteArray.size {data:=#[46,46]}≤strMax)) (cond (decide (ByteArray.size (z0i u0c++{data:=#[46,46]})+ByteArray.size (z0i u0d)≤strMax)) (cond (decide ((n6+List.length (List.drop 0 (List.take 1 [IV.str (z0i u0c++{data:=#[46,46]}++z0i u0d)])))*TI.bytes (Env.tyd (z10 N) 9)≤z08)) (again (z3m s4 (n6+List.length (List.drop 0 (List.take 1 [IV.str (z0i u0c++{data:=#[46,46]}++z0i u0d)]))) n75 x76 (IntKind.wrap IntKind.i64 (x77+1)) u02 u03 u0a u0b u0c u0d u0e u0f u0g u0h u04 u05 u06 u07 u08 u00 u09 (List.take n6 u01++List.drop 0 (List.take 1 [IV.str (z0i u0c++{data:=#[46,46]}++z0i u0d)])))) none) none) none) (cond (decide (x77=ic 2)) (cond (decide (ByteArray.size (z0i u0e)+ByteArray.size {data:=#[46,46]}≤strMax)) (cond (decide (ByteArray.size (z0i u0e++{data:=#[46,46]})+ByteArray.size (z0i u0f)≤strMax)) (cond (decide ((n6+List.length (List.drop 0 (List.take 1 [IV.str (z0i u0e++{data:=#[46,46]}++z0i u0f)])))*TI.bytes (Env.tyd (z10 N) 9)≤z08)) (again (z3m s4 (n6+List.length (List.drop 0 (List.take 1 [IV.str (z0i u0e++{data:=#[46,46]}++z0i u0f)]))) n75 x76 (IntKind.wrap IntKind.i64 (x77+1)) u02 u03 u0a u0b u0c u0d u0e u0f u0g u0h u04 u05 u06 u07 u08 u00 u09 (List.take n6 u01++List.drop 0 (List.take 1 [IV.str (z0i u0e++{data:=#[46,46]}++z0i u0f)])))) none) none) none) (cond (decide (x77=ic 3)) (cond (decide (ByteArray.size (z0i u0g)+ByteArray.size {data:=#[46,46]}≤strMax)) (cond (decide (ByteArray.size (z0i u0g++{data:=#[46,46]})+ByteArray.size (z0i u0h)≤strMax)) (cond (decide ((n6+List.length (List.drop 0 (List.take 1 [IV.str (z0i u0g++{data:=#[46,46]}++z0i u0h)])))*TI.bytes (Env.tyd (z10 N) 9)≤z08)) (again (z3m s4 (n6+List.length (List.drop 0 (List.take 1 [IV.str (z0i u0g++{data:=#[46,46]}++z0i u0h)]))) n75 x76 (IntKind.wrap IntKind.i64 (x77+1)) u02 u03 u0a u0b u0c u0d u0e u0f u0g u0h u04 u05 u06 u07 u08 u00 u09 (List.take n6 u01++List.drop 0 (List.take 1 [IV.str (z0i u0g++{data:=#[46,46]}++z0i u0h)])))) none) none) none) (cond (decide (x77=ic 4)) (cond (decide (ByteArray.size (z0i u04)+ByteArray.size {data:=#[46,46]}≤strMax)) (cond (decide (ByteArray.size (z0i u04++{data:=#[46,46]})+ByteArray.size (z0i u05)≤strMax)) (cond (decide ((n6+List.length (List.drop 0 (List.take 1 [IV.str (z0i u04++{data:=#[46,46]}++z0i u05)])))*TI.bytes (Env.tyd (z10 N) 9)≤z08)) (again (z3m s4 (n6+List.length (List.drop 0 (List.take 1 [IV.str (z0i u04++{data:=#[46,46]}++z0i u05)]))) n75 x76 (IntKind.wrap IntKind.i64 (x77+1)) u02 u03 u0a u0b u0c u0d u0e u0f u0g u0h u04 u05 u06 u07 u08 u00 u09 (List.take n6 u01++List.drop 0 (List.take 1 [IV.str (z0i u04++{data:=#[46,46]}++z0i u05)])))) none) none) none) none))))) none) (k (.exit 1) (z3m s4 n6 n75 x76 x77 u02 u03 u0a u0b u0c u0d u0e u0f u0g u0h u04 u05 u06 u07 u08 u00 u09 u01))):=by kernel_rfl
theorem zv1 (N:Nat) (s4:ByteArray) (n6 n75:Nat) (x76 x77 u02 u03 u0a u0b u0c u0d u0e u0f u0g u0h u04 u05 u06 u07 u08:Int) (u00:Bool) (u09:Int) (u01:List IV):(z05 1 (kSq (z10 N) (z0f z3b [1,1,1,1,1,1,1]) (z2s (z10 N) none [(ResultVar.tmp 4)] [[.str]]))) (.exit 1) (z3m s4 n6 n75 x76 x77 u02 u03 u0a u0b u0c u0d u0e u0f u0g u0h u04 u05 u06 u07 u08 u00 u09 u01)=(cond (decide ((n6+List.length (List.drop 0 (List.take 2 [IV.str {data:=#[98,117,100,103,101,116]},IV.str (z0n u09)])))*TI.bytes (Env.tyd (z10 N) 9)≤z08)) (cond (decide (List.length (List.drop 0 (List.take (n6+List.length (List.drop 0 (List.take 2 [IV.str {data:=#[98,117,100,103,101,116]},IV.str (z0n u09)]))) (List.take n6 u01++List.drop 0 (List.take 2 [IV.str {data:=#[98,117,100,103,101,116]},IV.str (z0n u09)]))))≤strMax)&&decide (ByteArray.size (zcb (List.map IV.toStr (List.drop 0 (List.take (n6+List.length (List.drop 0 (List.take 2 [IV.str {data:=#[98,117,100,103,101,116]},IV.str (z0n u09)]))) (List.take n6 u01++List.drop 0 (List.take 2 [IV.str {data:=#[98,117,100,103,101,116]},IV.str (z0n u09)]))))) {data:=#[32]})≤strMax)) (some ((.str (zcb (List.map IV.toStr (List.drop 0 (List.take (n6+List.length (List.drop 0 (List.take 2 [IV.str {data:=#[98,117,100,103,101,116]},IV.str (z0n u09)]))) (List.take n6 u01++List.drop 0 (List.take 2 [IV.str {data:=#[98,117,100,103,101,116]},IV.str (z0n u09)]))))) {data:=#[32]})),[])) none) none):=by kernel_rfl
open Go
theorem ymo (l:List ByteArray) (h:∀ w∈l,w.size≤100):(zcb l z5a).size≤101*l.length:=by
 have hs:(zcb l z5a).size=(Lib.join (l.map (·.data.toList)) [32]).length:=by
  show (Array.size (List.toArray _))=_;rw [v1m]
 rw [hs];cases l with
 | nil=>simp [Lib.join_nil]
 | cons x r=>
  rw [v0d,Lib.join_length]
  have:∀ (r:List ByteArray),(∀ w∈r,w.size≤100)→Lib.lens (r.map (·.data.toList))≤100*r.length:=fun r=>by
   induction r with
   | nil=>intro _; simp [Lib.lens]
   | cons y r ih=>
    intro h;have h1:=h y (v09 ..);rw [zgg] at h1;have h2:=ih (fun w hw=>h w (v0b _ hw))
    rw [v0d,v03];simp only [Lib.lens,v0d,v3t] at h2 ⊢
    omega
  have:=this (x :: r) h
  rw [v0d] at this;simp only [v03,v14,v0i] at this ⊢
  omega
theorem yiv {a b:Int} (ha:InR a) (hb:InR b):(ygv a b).size≤82:=by
 unfold ygv;have h1:=(zh8 a ha).2;have h2:=(zh8 b hb).2;have h3:ByteArray.size yey=2:=rfl;rw [v0f,v0f,h3];omega
theorem yf0 {n:Int} (h:InR n):(z0n n).size≤21:=zey h.1 h.2
structure Qy.In (q:Qy):Prop where
 k:InR q.k
 c:InR q.c
 a0:InR q.a0
 b0:InR q.b0
 a1:InR q.a1
 b1:InR q.b1
 a2:InR q.a2
 b2:InR q.b2
 a3:InR q.a3
 b3:InR q.b3
 a4:InR q.a4
 b4:InR q.b4
 lo:InR q.lo
 hi:InR q.hi
 ft:InR q.ft
 bu:InR q.bu
end Go.FM
