/-
  A small machine that reads a function of the program and reckons what a call of it comes to; what Go's library on the road comes to; the functions of the program, one by one. No conditions beyond each specification's own. (DERIVED: THE SHELF's CONTRACTS AT THIS DUMP, IN PLAIN WORDS , THE LIBRARY's strconv.FormatUint AT BASE 10: the number's de, WHAT THE LIBRARY's FUNCTIONS OVER SLICES OF STRINGS COME TO,, and so on.)
-/
import Derived.Shelf.Strings.Builder1
import Derived.Shelf.Strings.Builder2
import Derived.Shelf.Strings.OnBuilder
import Derived.Shelf.Strings.Trim
import Derived.Shelf.Small.Utf8
import Derived.Shelf.Small.Bits
import Derived.Shelf.Small.Strs
import Derived.Shelf.Small.Wraps
import Derived.Shelf.Strings.BuilderF
import Derived.Shelf.Strings.BuilderK
import Derived.Shelf.Utf8.RuneCount
import Derived.Shelf.Strconv.Atoi
import Derived.Shelf.Strconv.Itoa0
import Derived.Shelf.Strconv.Itoa1
import Derived.Shelf.LaysM
import Derived.Shelf.Strconv.Itoa2
import Derived.Shelf.Strconv.Itoa3
import Derived.Shelf.Strconv.AtoiErrFast
import Derived.Shelf.Strconv.ParseIntEmpty
import Derived.Shelf.Strconv.AtoiFail
import Derived.Shelf.Strconv.Clone
import Derived.Shelf.Strconv.SyntaxError
import Derived.Shelf.LaysC
import Derived.Shelf.Strconv.ToError
import Derived.Shelf.Strconv.Lower
import Derived.Shelf.Strconv.ParseUint10
import Derived.Shelf.Strconv.ParseUint10Empty
import Derived.Shelf.Strconv.ParseUint10Any
import Derived.Shelf.Strconv.ParseInt10
import Derived.Shelf.Strconv.AtoiLong
import Derived.Shelf.Strconv.AtoiInnerAll
import Derived.Shelf.Strconv.RangeError
import Derived.Shelf.Strconv.ToErrorRange
import Derived.Shelf.Strconv.AtoiAll
import Derived.Shelf.Strconv.ErrVarAll
import Derived.Shelf.Strconv.ParseUint10b64
import Derived.Ground.MpProg
import Derived.Shelf.Pu.ParseUintPublic10
import Derived.Shelf.Pu.ErrVarParseUint
import Derived.Shelf.Strings.Search1
import Derived.Shelf.Strings.Search2
import Derived.Shelf.Strings.Search3
import Derived.Shelf.Strings.Cut
import Derived.Shelf.Strings.Count
import Derived.Shelf.Strings.Shaped
import Derived.Shelf.Sort.Plain
import Derived.Shelf.Strings.Prefix
import Derived.Shelf.Strings.Split
import Derived.Shelf.Strings.SplitShaped
import Derived.Shelf.Unicode.Decode
import Derived.Shelf.Strings.Runes
import Derived.Shelf.Strings.RuneCount
import Derived.Shelf.Strings.AsciiSet
import Derived.Shelf.Strings.Explode
import Derived.Shelf.Bits.Mul64
import Derived.Shelf.Strings.Repeat
import Derived.Shelf.Unicode.DecodeSlow
import Derived.Shelf.Unicode.DecodeAny
import Derived.Shelf.Unicode.DecodeLast
import Derived.Shelf.Slices.Turned
import Derived.Ground.Names2Prog
import Derived.Shelf.Slices.Clone
import Derived.Shelf.Slices.CompactI
import Derived.Shelf.Slices.SearchI
import Derived.Shelf.Slices.Cells
import Derived.Shelf.Slices.In.SortNone
import Derived.Ground.SlgnProg
import Derived.Shelf.SlicesE.Compact
import Derived.Shelf.SlicesE.Clone
import Derived.Ground.SlgfProg
import Derived.Shelf.SlicesE.IndexFunc
import Derived.Shelf.SlicesE.DeleteFunc
import Derived.Test.YtehhekmihbaghaaGreatDoorProg
import Derived.Test.YtehhekmihbaghaaGreatDoorSb
import Derived.Lib.AppendIntMem
import Derived.Deep.LoopGhost
import Derived.Lib.Walk
import Derived.Lib.SliceRun
set_option linter.all false
set_option maxRecDepth 100000
namespace Go.Proofs
open Go.Shelf
def Tryz.lays156_ren:Go.Shelf.Ren:=⟨fun | 156=>45 | 165=>87 | 166=>60 | 169=>56 | 240=>103 | 241=>137 | 276=>153 | 277=>179 | n=>n,fun | 31=>66 | 9=>9 | 3=>3 | 4=>4 | 0=>0 | 20=>20 | 72=>108 | 76=>121 | 70=>106 | 37=>69 | 75=>120 | 127=>165 | 164=>211 | 5=>5 | 80=>114 | n=>n,fun | n=>n⟩
theorem Tryz.lays156:Go.Proofs.Lays.n156 Tryz.prog Tryz.lays156_ren:= by constructor <;> first | kernel_rfl | (intro _; kernel_rfl)
theorem Tryz.Builder_Extra_156:Builder.Extra Tryz.prog Tryz.lays156_ren:={
 sizeBuilder:=by kernel_rfl
 liesBuilder:=by kernel_rfl
 t5:=Tryz.underlying5
 a5:=Tryz.isAgg5
 z5:=Tryz.sizeOf5
 v5:=Tryz.zeroValue5
 infoByte:=by kernel_rfl
 cellsByte:=by kernel_rfl
 sizeByte:=by kernel_rfl
 neB5:=by decide }
open Go.RowKit in
theorem Tryz.strings_Join_none (a:Option Addr) (c:Nat) (sep:ByteArray) (w:World) :
 Calls Tryz.prog 45 #[.slice a 0 c,.string sep] w fun e w'=>e = .returned (.string ⟨#[]⟩)∧w'=w:=Any.strings_Join_none Tryz.lays156 Tryz.Builder_Extra_156 a c sep w
open Go.RowKit in
theorem Tryz.strings_Join (bk o c:Nat) (xs:List ByteArray) (sep:ByteArray) (w:World) (hcells:∀ (j:Nat) x,xs[j]?=some x→w.cell? ⟨bk,o+j,none⟩=some (.string x)) (hbk:bk < w.heap.size) (hN:xs.length≤140737488355328) (hcap:xs.length≤c) (hlen:(Lib.join (xs.map (·.data.toList)) sep.data.toList).length≤140737488355328) :
 Calls Tryz.prog 45 #[.slice (some ⟨bk,o,none⟩) xs.length c,.string sep] w fun e w'=>e = .returned (.string ⟨(Lib.join (xs.map (·.data.toList)) sep.data.toList).toArray⟩)∧Below w.heap.size w w':=Any.strings_Join Tryz.lays156 Tryz.Builder_Extra_156 bk o c xs sep w hcells hbk hN hcap hlen
def Tryz.lays162_ren:Go.Shelf.Ren:=⟨fun | 162=>85 | 232=>130 | 227=>131 | 234=>132 | 236=>133 | 228=>174 | 271=>175 | 151=>176 | 120=>208 | 197=>181 | 152=>209 | 260=>210 | 137=>102 | 119=>223 | 224=>212 | 225=>211 | 217=>152 | 266=>191 | n=>n,fun | 9=>9 | 4=>4 | 3=>3 | 5=>5 | 117=>195 | 116=>194 | 0=>0 | 124=>198 | 21=>21 | 105=>231 | 46=>152 | 119=>279 | 139=>282 | 138=>281 | n=>n,fun | 3=>4 | 4=>5 | n=>n⟩
theorem Tryz.lays162:Go.Proofs.Lays.n162 Tryz.prog Tryz.lays162_ren:={
 mixed:=by kernel_rfl
 f119:=Tryz.func223.trans (congrArg some (by kernel_rfl))
 f120:=Tryz.func208.trans (congrArg some (by kernel_rfl))
 f137:=Tryz.func102.trans (congrArg some (by kernel_rfl))
 f151:=Tryz.func176.trans (congrArg some (by kernel_rfl))
 f152:=Tryz.func209.trans (congrArg some (by kernel_rfl))
 f162:=Tryz.func85.trans (congrArg some (by kernel_rfl))
 f197:=Tryz.func181.trans (congrArg some (by kernel_rfl))
 f217:=Tryz.func152.trans (congrArg some (by kernel_rfl))
 f224:=Tryz.func212.trans (congrArg some (by kernel_rfl))
 f225:=Tryz.func211.trans (congrArg some (by kernel_rfl))
 f227:=Tryz.func131.trans (congrArg some (by kernel_rfl))
 f228:=Tryz.func174.trans (congrArg some (by kernel_rfl))
 f232:=Tryz.func130.trans (congrArg some (by kernel_rfl))
 f234:=Tryz.func132.trans (congrArg some (by kernel_rfl))
 f236:=Tryz.func133.trans (congrArg some (by kernel_rfl))
 f260:=Tryz.func210.trans (congrArg some (by kernel_rfl))
 f266:=Tryz.func191.trans (congrArg some (by kernel_rfl))
 f271:=Tryz.func175.trans (congrArg some (by kernel_rfl))
 t0:=Tryz.underlying0
 a0:=Tryz.isAgg0
 z0:=Tryz.sizeOf0
 v0:=Tryz.zeroValue0
 t3:=Tryz.underlying3
 a3:=Tryz.isAgg3
 z3:=Tryz.sizeOf3
 v3:=Tryz.zeroValue3
 t4:=Tryz.underlying4
 a4:=Tryz.isAgg4
 z4:=Tryz.sizeOf4
 v4:=Tryz.zeroValue4
 t5:=Tryz.underlying5
 a5:=Tryz.isAgg5
 z5:=Tryz.sizeOf5
 v5:=Tryz.zeroValue5
 t9:=Tryz.underlying9
 a9:=Tryz.isAgg9
 z9:=Tryz.sizeOf9
 v9:=Tryz.zeroValue9
 t21:=Tryz.underlying21
 a21:=Tryz.isAgg21
 z21:=Tryz.sizeOf21
 v21:=Tryz.zeroValue21
 t46:=Tryz.underlying152
 a46:=Tryz.isAgg152
 z46:=Tryz.sizeOf152
 v46:=Tryz.zeroValue152
 t105:=Tryz.underlying231
 a105:=Tryz.isAgg231
 z105:=Tryz.sizeOf231
 v105:=Tryz.zeroValue231
 t116:=Tryz.underlying194
 a116:=Tryz.isAgg194
 z116:=Tryz.sizeOf194
 t117:=Tryz.underlying195
 a117:=Tryz.isAgg195
 z117:=Tryz.sizeOf195
 v117:=Tryz.zeroValue195
 t119:=Tryz.underlying279
 a119:=Tryz.isAgg279
 z119:=Tryz.sizeOf279
 t124:=Tryz.underlying198
 a124:=Tryz.isAgg198
 z124:=Tryz.sizeOf198
 v124:=Tryz.zeroValue198
 t138:=Tryz.underlying281
 a138:=Tryz.isAgg281
 z138:=Tryz.sizeOf281
 v138:=Tryz.zeroValue281
 t139:=Tryz.underlying282
 a139:=Tryz.isAgg282
 z139:=Tryz.sizeOf282
 v139:=Tryz.zeroValue282
 g3:=by kernel_rfl
 g4:=by kernel_rfl }
open Go.RowKit in
theorem Tryz.strings_TrimRight_one (s:ByteArray) (c:UInt8) (hc:c.toNat < 128) (w:World) (hs:s.size≤9223372036854775807) :
 Calls Tryz.prog 85 #[.string s,.string ⟨#[c]⟩] w fun e w'=>e = .returned (.string ⟨(Lib.trimRightB s.data.toList c).toArray⟩)∧w'=w:=Any.strings_TrimRight_one Tryz.lays162 s c hc w hs
def Tryz.lays103_ren:Go.Shelf.Ren:=⟨fun | 103=>57 | 210=>101 | 206=>151 | n=>n,fun | 9=>9 | 4=>4 | 24=>115 | 3=>3 | n=>n,fun | n=>n⟩
theorem Tryz.lays103:Go.Proofs.Lays.n103 Tryz.prog Tryz.lays103_ren:= by constructor <;> first | kernel_rfl | (intro _; kernel_rfl)
open Go.RowKit in
theorem Tryz.strings_CutPrefix (s p:ByteArray) (w:World) :
 Calls Tryz.prog 57 #[.string s,.string p] w fun e w'=>e = .returned (.tuple #[.string ⟨(Lib.trimPrefix s.data.toList p.data.toList).toArray⟩,.bool (Lib.hasPrefix s.data.toList p.data.toList)])∧w'=w:=Any.strings_CutPrefix Tryz.lays103 s p w
def Tryz.lays283_ren:Go.Shelf.Ren:=⟨fun | 283=>170 | n=>n,fun | 3=>3 | 9=>9 | 4=>4 | n=>n,fun | n=>n⟩
theorem Tryz.lays283:Go.Proofs.Lays.n283 Tryz.prog Tryz.lays283_ren:= by constructor <;> first | kernel_rfl | (intro _; kernel_rfl)
open Go.Lib in
theorem Tryz.internal_strconv_small (i:Nat) (h:i < 100) (w:World) :
 Calls Tryz.prog 170 #[.int .i64 i] w fun e w'=>e = .returned (.string ⟨(Lib.decDigits i).toArray⟩)∧w'=w:=Any.internal_strconv_small Tryz.lays283 i h w
def Tryz.laysM284_ren:Go.Shelf.Ren:=⟨fun | 284=>171 | 129=>204 | 317=>203 | 318=>205 | n=>n,fun | 53=>103 | 3=>3 | 212=>262 | 0=>0 | 4=>4 | 46=>152 | 5=>5 | 9=>9 | n=>n,fun | 17=>0 | n=>n⟩
theorem Tryz.laysM284:Go.Proofs.LaysM.n284 Tryz.prog Tryz.laysM284_ren:={
 mixed:=by kernel_rfl
 f129:=Tryz.func204.trans (congrArg some (by kernel_rfl))
 f284:=Tryz.func171.trans (congrArg some (by kernel_rfl))
 f317:=Tryz.func203.trans (congrArg some (by kernel_rfl))
 f318:=Tryz.func205.trans (congrArg some (by kernel_rfl))
 t0:=Tryz.underlying0
 a0:=Tryz.isAgg0
 z0:=Tryz.sizeOf0
 v0:=Tryz.zeroValue0
 t3:=Tryz.underlying3
 a3:=Tryz.isAgg3
 z3:=Tryz.sizeOf3
 v3:=Tryz.zeroValue3
 t4:=Tryz.underlying4
 a4:=Tryz.isAgg4
 z4:=Tryz.sizeOf4
 v4:=Tryz.zeroValue4
 t5:=Tryz.underlying5
 a5:=Tryz.isAgg5
 z5:=Tryz.sizeOf5
 v5:=Tryz.zeroValue5
 t9:=Tryz.underlying9
 a9:=Tryz.isAgg9
 z9:=Tryz.sizeOf9
 v9:=Tryz.zeroValue9
 t46:=Tryz.underlying152
 a46:=Tryz.isAgg152
 z46:=Tryz.sizeOf152
 v46:=Tryz.zeroValue152
 t53:=Tryz.underlying103
 a53:=Tryz.isAgg103
 z53:=Tryz.sizeOf103
 v53:=Tryz.zeroValue103
 t212:=Tryz.underlying262
 a212:=Tryz.isAgg262
 z212:=Tryz.sizeOf262
 v212:=Tryz.zeroValue262
 g17:=by kernel_rfl
 i0:=by kernel_rfl
 i3:=by kernel_rfl
 i4:=by kernel_rfl
 i5:=by kernel_rfl
 i9:=by kernel_rfl
 i46:=by kernel_rfl
 i53:=by kernel_rfl
 i212:=by kernel_rfl
 m17:=by kernel_rfl }
open Go.Lib in
theorem Tryz.internal_strconv_numDigits (u:Nat) (h1:1≤u) (h2:u < 18446744073709551616) (w:World) (htab:Lib.TabIs Tryz.prog w "internal/strconv.uint64pow10" .u64 Lib.pow10Tab) :
 Calls Tryz.prog 171 #[.int .u64 u] w fun e w'=>e = .returned (.int .i64 (Lib.nDigits u))∧w'=w:=Any.internal_strconv_numDigits Tryz.laysM284 u h1 h2 w htab
def Tryz.lays285_ren:Go.Shelf.Ren:=⟨fun | 285=>172 | n=>n,fun | 37=>69 | 53=>103 | 3=>3 | 4=>4 | 51=>234 | 9=>9 | 5=>5 | 0=>0 | n=>n,fun | n=>n⟩
theorem Tryz.lays285:Go.Proofs.Lays.n285 Tryz.prog Tryz.lays285_ren:= by constructor <;> first | kernel_rfl | (intro _; kernel_rfl)
open Go.RowKit Go.Sort Go.Lib in
theorem Tryz.internal_strconv_formatBase10 (blk off cap:Nat) (u:Nat) (d:Array UInt8) (w:World) (hH:Holds (fun (b:UInt8)=>Value.int .u8 (b.toNat:Int)) w blk off d) (hu:u < 10 ^ d.size) (hu64:u < 18446744073709551616) (hsz:d.size < 4611686018427387904) :
 Calls Tryz.prog 172 #[.slice (some ⟨blk,off,none⟩) d.size cap,.int .u64 u] w fun e w'=>
  e = .returned (.tuple #[])∧∃ (n v':Nat) (dk:Array UInt8),w'=(putRow (fun (b:UInt8)=>Value.int .u8 (b.toNat:Int)) w blk off dk).drewN n∧FmtInv d.size u 0 v' dk:=Any.internal_strconv_formatBase10 Tryz.lays285 blk off cap u d w hH hu hu64 hsz
def Tryz.laysM171_ren:Go.Shelf.Ren:=⟨fun | 171=>43 | 243=>82 | 246=>128 | 283=>170 | 284=>171 | 285=>172 | 286=>173 | 129=>204 | 317=>203 | 318=>205 | 319=>206 | 320=>207 | 337=>221 | 338=>222 | n=>n,fun | 3=>3 | 9=>9 | 2=>2 | 4=>4 | 171=>225 | 0=>0 | 53=>103 | 37=>69 | 5=>5 | 173=>228 | 212=>262 | 51=>234 | 20=>20 | 213=>263 | 46=>152 | 232=>296 | 233=>297 | n=>n,fun | 17=>0 | 18=>6 | 19=>7 | n=>n⟩
theorem Tryz.laysM171:Go.Proofs.LaysM.n171 Tryz.prog Tryz.laysM171_ren:={
 mixed:=by kernel_rfl
 f129:=Tryz.func204.trans (congrArg some (by kernel_rfl))
 f171:=Tryz.func43.trans (congrArg some (by kernel_rfl))
 f243:=Tryz.func82.trans (congrArg some (by kernel_rfl))
 f246:=Tryz.func128.trans (congrArg some (by kernel_rfl))
 f283:=Tryz.func170.trans (congrArg some (by kernel_rfl))
 f284:=Tryz.func171.trans (congrArg some (by kernel_rfl))
 f285:=Tryz.func172.trans (congrArg some (by kernel_rfl))
 f286:=Tryz.func173.trans (congrArg some (by kernel_rfl))
 f317:=Tryz.func203.trans (congrArg some (by kernel_rfl))
 f318:=Tryz.func205.trans (congrArg some (by kernel_rfl))
 f319:=Tryz.func206.trans (congrArg some (by kernel_rfl))
 f320:=Tryz.func207.trans (congrArg some (by kernel_rfl))
 f337:=Tryz.func221.trans (congrArg some (by kernel_rfl))
 f338:=Tryz.func222.trans (congrArg some (by kernel_rfl))
 t0:=Tryz.underlying0
 a0:=Tryz.isAgg0
 z0:=Tryz.sizeOf0
 v0:=Tryz.zeroValue0
 t2:=Tryz.underlying2
 a2:=Tryz.isAgg2
 z2:=Tryz.sizeOf2
 v2:=Tryz.zeroValue2
 t3:=Tryz.underlying3
 a3:=Tryz.isAgg3
 z3:=Tryz.sizeOf3
 v3:=Tryz.zeroValue3
 t4:=Tryz.underlying4
 a4:=Tryz.isAgg4
 z4:=Tryz.sizeOf4
 v4:=Tryz.zeroValue4
 t5:=Tryz.underlying5
 a5:=Tryz.isAgg5
 z5:=Tryz.sizeOf5
 v5:=Tryz.zeroValue5
 t9:=Tryz.underlying9
 a9:=Tryz.isAgg9
 z9:=Tryz.sizeOf9
 v9:=Tryz.zeroValue9
 t20:=Tryz.underlying20
 a20:=Tryz.isAgg20
 z20:=Tryz.sizeOf20
 v20:=Tryz.zeroValue20
 t37:=Tryz.underlying69
 a37:=Tryz.isAgg69
 z37:=Tryz.sizeOf69
 v37:=Tryz.zeroValue69
 t46:=Tryz.underlying152
 a46:=Tryz.isAgg152
 z46:=Tryz.sizeOf152
 v46:=Tryz.zeroValue152
 t51:=Tryz.underlying234
 a51:=Tryz.isAgg234
 z51:=Tryz.sizeOf234
 v51:=Tryz.zeroValue234
 t53:=Tryz.underlying103
 a53:=Tryz.isAgg103
 z53:=Tryz.sizeOf103
 v53:=Tryz.zeroValue103
 t171:=Tryz.underlying225
 a171:=Tryz.isAgg225
 z171:=Tryz.sizeOf225
 v171:=Tryz.zeroValue225
 t173:=Tryz.underlying228
 a173:=Tryz.isAgg228
 z173:=Tryz.sizeOf228
 v173:=Tryz.zeroValue228
 t212:=Tryz.underlying262
 a212:=Tryz.isAgg262
 z212:=Tryz.sizeOf262
 v212:=Tryz.zeroValue262
 t213:=Tryz.underlying263
 a213:=Tryz.isAgg263
 z213:=Tryz.sizeOf263
 t232:=Tryz.underlying296
 a232:=Tryz.isAgg296
 z232:=Tryz.sizeOf296
 v232:=Tryz.zeroValue296
 t233:=Tryz.underlying297
 a233:=Tryz.isAgg297
 z233:=Tryz.sizeOf297
 v233:=Tryz.zeroValue297
 g17:=by kernel_rfl
 g18:=by kernel_rfl
 g19:=by kernel_rfl
 i0:=by kernel_rfl
 i2:=by kernel_rfl
 i3:=by kernel_rfl
 i4:=by kernel_rfl
 i5:=by kernel_rfl
 i9:=by kernel_rfl
 i20:=by kernel_rfl
 i37:=by kernel_rfl
 i46:=by kernel_rfl
 i51:=by kernel_rfl
 i53:=by kernel_rfl
 i171:=by kernel_rfl
 i173:=by kernel_rfl
 i212:=by kernel_rfl
 i232:=by kernel_rfl
 i233:=by kernel_rfl
 m17:=by kernel_rfl
 m18:=by kernel_rfl
 m19:=by kernel_rfl }
open Go.RowKit Go.Sort Go.Lib in
theorem Tryz.strconv_Itoa (n:Int) (h0 : -9223372036854775808≤n) (h1:n≤9223372036854775807) (w:World) (htab:Lib.TabIs Tryz.prog w "internal/strconv.uint64pow10" .u64 Lib.pow10Tab) :
 Calls Tryz.prog 43 #[.int .i64 n] w fun e w'=>e = .returned (.string ⟨(Lib.itoa n).toArray⟩)∧∃ k os,w'=grow (w.drewN k) os:=Any.strconv_Itoa Tryz.laysM171 n h0 h1 w htab
def Tryz.laysC172_ren:Go.Shelf.Ren:=⟨fun | 172=>90 | 244=>142 | 245=>143 | 247=>184 | 279=>185 | 280=>186 | 281=>187 | 282=>188 | 287=>214 | 316=>215 | 171=>43 | 205=>216 | 321=>225 | 322=>226 | 243=>82 | 246=>128 | 283=>170 | 284=>171 | 285=>172 | 286=>173 | 129=>204 | 317=>203 | 318=>205 | 319=>206 | 320=>207 | 337=>221 | 338=>222 | n=>n,fun | 9=>9 | 3=>3 | 75=>120 | 76=>121 | 4=>4 | 5=>5 | 167=>240 | 37=>69 | 0=>0 | 85=>241 | 2=>2 | 168=>243 | 53=>103 | 175=>246 | 46=>152 | 210=>268 | 127=>165 | 145=>288 | 143=>286 | 21=>21 | 171=>225 | 173=>228 | 212=>262 | 51=>234 | 20=>20 | 213=>263 | 232=>296 | 233=>297 | 80=>114 | n=>n,fun | 15=>2 | 16=>3 | 17=>0 | 18=>6 | 19=>7 | n=>n⟩
theorem Tryz.laysC172:Go.Proofs.LaysC.n172 Tryz.prog Tryz.laysC172_ren:={
 mixed:=by kernel_rfl
 f129:=Tryz.func204.trans (congrArg some (by kernel_rfl))
 f171:=Tryz.func43.trans (congrArg some (by kernel_rfl))
 f172:=Tryz.func90.trans (congrArg some (by kernel_rfl))
 f205:=Tryz.func216.trans (congrArg some (by kernel_rfl))
 f243:=Tryz.func82.trans (congrArg some (by kernel_rfl))
 f244:=Tryz.func142.trans (congrArg some (by kernel_rfl))
 f245:=Tryz.func143.trans (congrArg some (by kernel_rfl))
 f246:=Tryz.func128.trans (congrArg some (by kernel_rfl))
 f247:=Tryz.func184.trans (congrArg some (by kernel_rfl))
 f279:=Tryz.func185.trans (congrArg some (by kernel_rfl))
 f280:=Tryz.func186.trans (congrArg some (by kernel_rfl))
 f281:=Tryz.func187.trans (congrArg some (by kernel_rfl))
 f282:=Tryz.func188.trans (congrArg some (by kernel_rfl))
 f283:=Tryz.func170.trans (congrArg some (by kernel_rfl))
 f284:=Tryz.func171.trans (congrArg some (by kernel_rfl))
 f285:=Tryz.func172.trans (congrArg some (by kernel_rfl))
 f286:=Tryz.func173.trans (congrArg some (by kernel_rfl))
 f287:=Tryz.func214.trans (congrArg some (by kernel_rfl))
 f316:=Tryz.func215.trans (congrArg some (by kernel_rfl))
 f317:=Tryz.func203.trans (congrArg some (by kernel_rfl))
 f318:=Tryz.func205.trans (congrArg some (by kernel_rfl))
 f319:=Tryz.func206.trans (congrArg some (by kernel_rfl))
 f320:=Tryz.func207.trans (congrArg some (by kernel_rfl))
 f321:=Tryz.func225.trans (congrArg some (by kernel_rfl))
 f322:=Tryz.func226.trans (congrArg some (by kernel_rfl))
 f337:=Tryz.func221.trans (congrArg some (by kernel_rfl))
 f338:=Tryz.func222.trans (congrArg some (by kernel_rfl))
 t0:=Tryz.underlying0
 a0:=Tryz.isAgg0
 z0:=Tryz.sizeOf0
 v0:=Tryz.zeroValue0
 t2:=Tryz.underlying2
 a2:=Tryz.isAgg2
 z2:=Tryz.sizeOf2
 v2:=Tryz.zeroValue2
 t3:=Tryz.underlying3
 a3:=Tryz.isAgg3
 z3:=Tryz.sizeOf3
 v3:=Tryz.zeroValue3
 t4:=Tryz.underlying4
 a4:=Tryz.isAgg4
 z4:=Tryz.sizeOf4
 v4:=Tryz.zeroValue4
 t5:=Tryz.underlying5
 a5:=Tryz.isAgg5
 z5:=Tryz.sizeOf5
 v5:=Tryz.zeroValue5
 t9:=Tryz.underlying9
 a9:=Tryz.isAgg9
 z9:=Tryz.sizeOf9
 v9:=Tryz.zeroValue9
 t20:=Tryz.underlying20
 a20:=Tryz.isAgg20
 z20:=Tryz.sizeOf20
 v20:=Tryz.zeroValue20
 t21:=Tryz.underlying21
 a21:=Tryz.isAgg21
 z21:=Tryz.sizeOf21
 v21:=Tryz.zeroValue21
 t37:=Tryz.underlying69
 a37:=Tryz.isAgg69
 z37:=Tryz.sizeOf69
 v37:=Tryz.zeroValue69
 t46:=Tryz.underlying152
 a46:=Tryz.isAgg152
 z46:=Tryz.sizeOf152
 v46:=Tryz.zeroValue152
 t51:=Tryz.underlying234
 a51:=Tryz.isAgg234
 z51:=Tryz.sizeOf234
 v51:=Tryz.zeroValue234
 t53:=Tryz.underlying103
 a53:=Tryz.isAgg103
 z53:=Tryz.sizeOf103
 v53:=Tryz.zeroValue103
 t75:=Tryz.underlying120
 a75:=Tryz.isAgg120
 z75:=Tryz.sizeOf120
 v75:=Tryz.zeroValue120
 t76:=Tryz.underlying121
 a76:=Tryz.isAgg121
 z76:=Tryz.sizeOf121
 v76:=Tryz.zeroValue121
 t85:=Tryz.underlying241
 a85:=Tryz.isAgg241
 z85:=Tryz.sizeOf241
 v85:=Tryz.zeroValue241
 t127:=Tryz.underlying165
 a127:=Tryz.isAgg165
 z127:=Tryz.sizeOf165
 v127:=Tryz.zeroValue165
 t143:=Tryz.underlying286
 a143:=Tryz.isAgg286
 z143:=Tryz.sizeOf286
 v143:=Tryz.zeroValue286
 t145:=Tryz.underlying288
 a145:=Tryz.isAgg288
 z145:=Tryz.sizeOf288
 v145:=Tryz.zeroValue288
 t167:=Tryz.underlying240
 a167:=Tryz.isAgg240
 z167:=Tryz.sizeOf240
 v167:=Tryz.zeroValue240
 t168:=Tryz.underlying243
 a168:=Tryz.isAgg243
 z168:=Tryz.sizeOf243
 v168:=Tryz.zeroValue243
 t171:=Tryz.underlying225
 a171:=Tryz.isAgg225
 z171:=Tryz.sizeOf225
 v171:=Tryz.zeroValue225
 t173:=Tryz.underlying228
 a173:=Tryz.isAgg228
 z173:=Tryz.sizeOf228
 v173:=Tryz.zeroValue228
 t175:=Tryz.underlying246
 a175:=Tryz.isAgg246
 z175:=Tryz.sizeOf246
 v175:=Tryz.zeroValue246
 t210:=Tryz.underlying268
 a210:=Tryz.isAgg268
 z210:=Tryz.sizeOf268
 v210:=Tryz.zeroValue268
 t212:=Tryz.underlying262
 a212:=Tryz.isAgg262
 z212:=Tryz.sizeOf262
 v212:=Tryz.zeroValue262
 t213:=Tryz.underlying263
 a213:=Tryz.isAgg263
 z213:=Tryz.sizeOf263
 t232:=Tryz.underlying296
 a232:=Tryz.isAgg296
 z232:=Tryz.sizeOf296
 v232:=Tryz.zeroValue296
 t233:=Tryz.underlying297
 a233:=Tryz.isAgg297
 z233:=Tryz.sizeOf297
 v233:=Tryz.zeroValue297
 g15:=by kernel_rfl
 g16:=by kernel_rfl
 g17:=by kernel_rfl
 g18:=by kernel_rfl
 g19:=by kernel_rfl
 t80:=Tryz.underlying114
 a80:=Tryz.isAgg114
 z80:=Tryz.sizeOf114
 v80:=Tryz.zeroValue114
 i0:=by kernel_rfl
 i2:=by kernel_rfl
 i3:=by kernel_rfl
 i4:=by kernel_rfl
 i5:=by kernel_rfl
 i9:=by kernel_rfl
 i20:=by kernel_rfl
 i21:=by kernel_rfl
 i37:=by kernel_rfl
 i46:=by kernel_rfl
 i51:=by kernel_rfl
 i53:=by kernel_rfl
 i75:=by kernel_rfl
 i76:=by kernel_rfl
 i80:=by kernel_rfl
 i85:=by kernel_rfl
 i127:=by kernel_rfl
 i143:=by kernel_rfl
 i145:=by kernel_rfl
 i167:=by kernel_rfl
 i168:=by kernel_rfl
 i171:=by kernel_rfl
 i173:=by kernel_rfl
 i175:=by kernel_rfl
 i210:=by kernel_rfl
 i212:=by kernel_rfl
 i232:=by kernel_rfl
 i233:=by kernel_rfl
 m15:=by kernel_rfl
 m16:=by kernel_rfl
 m17:=by kernel_rfl
 m18:=by kernel_rfl
 m19:=by kernel_rfl
 c0:=by kernel_rfl
 c2:=by kernel_rfl
 c3:=by kernel_rfl
 c4:=by kernel_rfl
 c5:=by kernel_rfl
 c9:=by kernel_rfl
 c20:=by kernel_rfl
 c21:=by kernel_rfl
 c37:=by kernel_rfl
 c46:=by kernel_rfl
 c51:=by kernel_rfl
 c53:=by kernel_rfl
 c75:=by kernel_rfl
 c76:=by kernel_rfl
 c80:=by kernel_rfl
 c85:=by kernel_rfl
 c127:=by kernel_rfl
 c143:=by kernel_rfl
 c145:=by kernel_rfl
 c167:=by kernel_rfl
 c168:=by kernel_rfl
 c171:=by kernel_rfl
 c173:=by kernel_rfl
 c175:=by kernel_rfl
 c210:=by kernel_rfl
 c212:=by kernel_rfl
 c213:=by kernel_rfl
 c232:=by kernel_rfl
 c233:=by kernel_rfl }
open Go.RowKit in
theorem Tryz.strconv_Atoi_ok (s:ByteArray) (hmax:s.size≤9223372036854775806) (v:Int) (h:Lib.atoiAll s.data.toList = .ok v) (w:World) :
 Calls Tryz.prog 90 #[.string s] w fun e w'=>e = .returned (.tuple #[.int .i64 v,.nilIface])∧(w'=w∨∃ t,w'=Lib.bytesWorld w 5 t):=Any.strconv_Atoi_ok Tryz.laysC172 s hmax v h w
open Go.RowKit in
theorem Tryz.strconv_Atoi_syntax (s:ByteArray) (hlim:s.size≤281474976710656) (h:Lib.atoiAll s.data.toList=Lib.NumEnd.syntax) (ev:Value) (w:World) (hv:w.cell? ⟨2,0,none⟩=some ev) (hev:ev = .nilIface∨∃ te pe,ev = .iface te pe) :
 Calls Tryz.prog 90 #[.string s] w fun e w'=>∃ N,e = .returned (.tuple #[.int .i64 (0),.iface 243 (.pointer (some ⟨N,0,none⟩))])∧w.heap.size≤N∧w'.heap[N]?=some (.cells #[.string ⟨#[65,116,111,105]⟩,.string s,ev] 268 (0,0))∧Below w.heap.size w w':=Any.strconv_Atoi_syntax Tryz.laysC172 s hlim h ev w hv hev
open Go.RowKit in
theorem Tryz.strconv_Atoi_range (s:ByteArray) (hlim:s.size≤281474976710656) (h:Lib.atoiAll s.data.toList = .range) (ev:Value) (w:World) (hv:w.cell? ⟨3,0,none⟩=some ev) (hev:ev = .nilIface∨∃ te pe,ev = .iface te pe) :
 Calls Tryz.prog 90 #[.string s] w fun e w'=>∃ N,e = .returned (.tuple #[.int .i64 (Lib.atoiSat s.data.toList),.iface 243 (.pointer (some ⟨N,0,none⟩))])∧w.heap.size≤N∧w'.heap[N]?=some (.cells #[.string ⟨#[65,116,111,105]⟩,.string s,ev] 268 (0,0))∧Below w.heap.size w w':=Any.strconv_Atoi_range Tryz.laysC172 s hlim h ev w hv hev
def Tryz.laysPu14_ren:Go.Shelf.Ren:=⟨fun | 14=>189 | 16=>214 | 17=>143 | 19=>225 | 20=>226 | 21=>185 | 22=>186 | 23=>187 | 24=>188 | 25=>215 | 27=>43 | 26=>216 | 28=>82 | 29=>128 | 30=>170 | 31=>171 | 32=>172 | 33=>173 | 35=>204 | 34=>203 | 36=>205 | 37=>206 | 38=>207 | 39=>221 | 40=>222 | n=>n,fun | 9=>9 | 3=>3 | 22=>103 | 24=>120 | 25=>246 | 4=>4 | 34=>240 | 5=>5 | 36=>152 | 37=>69 | 0=>0 | 39=>243 | 21=>21 | 44=>268 | 47=>165 | 50=>288 | 48=>286 | 2=>2 | 52=>225 | 55=>228 | 59=>262 | 60=>234 | 20=>20 | 61=>263 | 65=>296 | 66=>297 | 67=>114 | n=>n,fun | 0=>2 | 1=>3 | 2=>0 | 3=>6 | 4=>7 | n=>n⟩
theorem Tryz.laysPu14:Go.Proofs.LaysPu.n14 Tryz.prog Tryz.laysPu14_ren:={
 mixed:=by kernel_rfl
 f14:=Tryz.func189.trans (congrArg some (by kernel_rfl))
 f16:=Tryz.func214.trans (congrArg some (by kernel_rfl))
 f17:=Tryz.func143.trans (congrArg some (by kernel_rfl))
 f19:=Tryz.func225.trans (congrArg some (by kernel_rfl))
 f20:=Tryz.func226.trans (congrArg some (by kernel_rfl))
 f21:=Tryz.func185.trans (congrArg some (by kernel_rfl))
 f22:=Tryz.func186.trans (congrArg some (by kernel_rfl))
 f23:=Tryz.func187.trans (congrArg some (by kernel_rfl))
 f24:=Tryz.func188.trans (congrArg some (by kernel_rfl))
 f25:=Tryz.func215.trans (congrArg some (by kernel_rfl))
 f26:=Tryz.func216.trans (congrArg some (by kernel_rfl))
 f27:=Tryz.func43.trans (congrArg some (by kernel_rfl))
 f28:=Tryz.func82.trans (congrArg some (by kernel_rfl))
 f29:=Tryz.func128.trans (congrArg some (by kernel_rfl))
 f30:=Tryz.func170.trans (congrArg some (by kernel_rfl))
 f31:=Tryz.func171.trans (congrArg some (by kernel_rfl))
 f32:=Tryz.func172.trans (congrArg some (by kernel_rfl))
 f33:=Tryz.func173.trans (congrArg some (by kernel_rfl))
 f34:=Tryz.func203.trans (congrArg some (by kernel_rfl))
 f35:=Tryz.func204.trans (congrArg some (by kernel_rfl))
 f36:=Tryz.func205.trans (congrArg some (by kernel_rfl))
 f37:=Tryz.func206.trans (congrArg some (by kernel_rfl))
 f38:=Tryz.func207.trans (congrArg some (by kernel_rfl))
 f39:=Tryz.func221.trans (congrArg some (by kernel_rfl))
 f40:=Tryz.func222.trans (congrArg some (by kernel_rfl))
 t0:=Tryz.underlying0
 a0:=Tryz.isAgg0
 z0:=Tryz.sizeOf0
 v0:=Tryz.zeroValue0
 i0:=by kernel_rfl
 t2:=Tryz.underlying2
 a2:=Tryz.isAgg2
 z2:=Tryz.sizeOf2
 v2:=Tryz.zeroValue2
 i2:=by kernel_rfl
 t3:=Tryz.underlying3
 a3:=Tryz.isAgg3
 z3:=Tryz.sizeOf3
 v3:=Tryz.zeroValue3
 i3:=by kernel_rfl
 t4:=Tryz.underlying4
 a4:=Tryz.isAgg4
 z4:=Tryz.sizeOf4
 v4:=Tryz.zeroValue4
 i4:=by kernel_rfl
 t5:=Tryz.underlying5
 a5:=Tryz.isAgg5
 z5:=Tryz.sizeOf5
 v5:=Tryz.zeroValue5
 i5:=by kernel_rfl
 t9:=Tryz.underlying9
 a9:=Tryz.isAgg9
 z9:=Tryz.sizeOf9
 v9:=Tryz.zeroValue9
 i9:=by kernel_rfl
 t20:=Tryz.underlying20
 a20:=Tryz.isAgg20
 z20:=Tryz.sizeOf20
 v20:=Tryz.zeroValue20
 i20:=by kernel_rfl
 t21:=Tryz.underlying21
 a21:=Tryz.isAgg21
 z21:=Tryz.sizeOf21
 v21:=Tryz.zeroValue21
 i21:=by kernel_rfl
 t22:=Tryz.underlying103
 a22:=Tryz.isAgg103
 z22:=Tryz.sizeOf103
 v22:=Tryz.zeroValue103
 i22:=by kernel_rfl
 t24:=Tryz.underlying120
 a24:=Tryz.isAgg120
 z24:=Tryz.sizeOf120
 v24:=Tryz.zeroValue120
 i24:=by kernel_rfl
 t25:=Tryz.underlying246
 a25:=Tryz.isAgg246
 z25:=Tryz.sizeOf246
 v25:=Tryz.zeroValue246
 i25:=by kernel_rfl
 t34:=Tryz.underlying240
 a34:=Tryz.isAgg240
 z34:=Tryz.sizeOf240
 v34:=Tryz.zeroValue240
 i34:=by kernel_rfl
 c34:=by kernel_rfl
 t36:=Tryz.underlying152
 a36:=Tryz.isAgg152
 z36:=Tryz.sizeOf152
 v36:=Tryz.zeroValue152
 i36:=by kernel_rfl
 t37:=Tryz.underlying69
 a37:=Tryz.isAgg69
 z37:=Tryz.sizeOf69
 v37:=Tryz.zeroValue69
 i37:=by kernel_rfl
 t39:=Tryz.underlying243
 a39:=Tryz.isAgg243
 z39:=Tryz.sizeOf243
 v39:=Tryz.zeroValue243
 i39:=by kernel_rfl
 t44:=Tryz.underlying268
 a44:=Tryz.isAgg268
 z44:=Tryz.sizeOf268
 v44:=Tryz.zeroValue268
 i44:=by kernel_rfl
 t47:=Tryz.underlying165
 a47:=Tryz.isAgg165
 z47:=Tryz.sizeOf165
 v47:=Tryz.zeroValue165
 i47:=by kernel_rfl
 t48:=Tryz.underlying286
 a48:=Tryz.isAgg286
 z48:=Tryz.sizeOf286
 v48:=Tryz.zeroValue286
 i48:=by kernel_rfl
 t50:=Tryz.underlying288
 a50:=Tryz.isAgg288
 z50:=Tryz.sizeOf288
 v50:=Tryz.zeroValue288
 i50:=by kernel_rfl
 t52:=Tryz.underlying225
 a52:=Tryz.isAgg225
 z52:=Tryz.sizeOf225
 v52:=Tryz.zeroValue225
 i52:=by kernel_rfl
 t55:=Tryz.underlying228
 a55:=Tryz.isAgg228
 z55:=Tryz.sizeOf228
 v55:=Tryz.zeroValue228
 i55:=by kernel_rfl
 t59:=Tryz.underlying262
 a59:=Tryz.isAgg262
 z59:=Tryz.sizeOf262
 v59:=Tryz.zeroValue262
 i59:=by kernel_rfl
 t60:=Tryz.underlying234
 a60:=Tryz.isAgg234
 z60:=Tryz.sizeOf234
 v60:=Tryz.zeroValue234
 i60:=by kernel_rfl
 t61:=Tryz.underlying263
 a61:=Tryz.isAgg263
 z61:=Tryz.sizeOf263
 t65:=Tryz.underlying296
 a65:=Tryz.isAgg296
 z65:=Tryz.sizeOf296
 v65:=Tryz.zeroValue296
 i65:=by kernel_rfl
 t66:=Tryz.underlying297
 a66:=Tryz.isAgg297
 z66:=Tryz.sizeOf297
 v66:=Tryz.zeroValue297
 i66:=by kernel_rfl
 t67:=Tryz.underlying114
 a67:=Tryz.isAgg114
 z67:=Tryz.sizeOf114
 v67:=Tryz.zeroValue114
 i67:=by kernel_rfl
 g0:=by kernel_rfl
 m0:=by kernel_rfl
 g1:=by kernel_rfl
 m1:=by kernel_rfl
 g2:=by kernel_rfl
 m2:=by kernel_rfl
 g3:=by kernel_rfl
 m3:=by kernel_rfl
 g4:=by kernel_rfl
 m4:=by kernel_rfl }
open Go.RowKit in
theorem Tryz.strconv_ParseUint_10_at64_ok (s:ByteArray) (hmax:s.size≤9223372036854775806) (u:Nat) (h:Lib.parseUintB 64 s.data.toList = .ok u) (w:World) :
 Calls Tryz.prog 189 #[.string s,.int .i64 10,.int .i64 64] w fun e w'=>e = .returned (.tuple #[.int .u64 u,.nilIface])∧(w'=w∨w'=Lib.bytesWorld w 5 s):=Any.strconv_ParseUint_10_at64_ok Tryz.laysPu14 s hmax u h w
open Go.RowKit in
theorem Tryz.strconv_ParseUint_10_at64_syntax (s:ByteArray) (hlim:s.size≤281474976710656) (h:Lib.parseUintB 64 s.data.toList=Lib.NumEnd.syntax) (ev:Value) (w:World) (hv:w.cell? ⟨2,0,none⟩=some ev) (hev:ev = .nilIface∨∃ te pe,ev = .iface te pe) :
 Calls Tryz.prog 189 #[.string s,.int .i64 10,.int .i64 64] w fun e w'=>∃ N,e = .returned (.tuple #[.int .u64 0,.iface 243 (.pointer (some ⟨N,0,none⟩))])∧w.heap.size≤N∧w'.heap[N]?=some (.cells #[.string ⟨#[80,97,114,115,101,85,105,110,116]⟩,.string s,ev] 268 (0,0))∧Below w.heap.size w w':=Any.strconv_ParseUint_10_at64_syntax Tryz.laysPu14 s hlim h ev w hv hev
open Go.RowKit in
theorem Tryz.strconv_ParseUint_10_at64_range (s:ByteArray) (hlim:s.size≤281474976710656) (h:Lib.parseUintB 64 s.data.toList = .range) (ev:Value) (w:World) (hv:w.cell? ⟨3,0,none⟩=some ev) (hev:ev = .nilIface∨∃ te pe,ev = .iface te pe) :
 Calls Tryz.prog 189 #[.string s,.int .i64 10,.int .i64 64] w fun e w'=>∃ N,e = .returned (.tuple #[.int .u64 18446744073709551615,.iface 243 (.pointer (some ⟨N,0,none⟩))])∧w.heap.size≤N∧w'.heap[N]?=some (.cells #[.string ⟨#[80,97,114,115,101,85,105,110,116]⟩,.string s,ev] 268 (0,0))∧Below w.heap.size w w':=Any.strconv_ParseUint_10_at64_range Tryz.laysPu14 s hlim h ev w hv hev
def Tryz.lays145_ren:Go.Shelf.Ren:=⟨fun | 145=>104 | 220=>154 | 219=>183 | 217=>152 | 225=>211 | 224=>212 | 267=>213 | 266=>191 | 314=>224 | n=>n,fun | 9=>9 | 4=>4 | 59=>117 | 3=>3 | 5=>5 | 46=>152 | 146=>235 | 51=>234 | n=>n,fun | 1=>1 | n=>n⟩
theorem Tryz.lays145:Go.Proofs.Lays.n145 Tryz.prog Tryz.lays145_ren:={
 mixed:=by kernel_rfl
 f145:=Tryz.func104.trans (congrArg some (by kernel_rfl))
 f217:=Tryz.func152.trans (congrArg some (by kernel_rfl))
 f219:=Tryz.func183.trans (congrArg some (by kernel_rfl))
 f220:=Tryz.func154.trans (congrArg some (by kernel_rfl))
 f224:=Tryz.func212.trans (congrArg some (by kernel_rfl))
 f225:=Tryz.func211.trans (congrArg some (by kernel_rfl))
 f266:=Tryz.func191.trans (congrArg some (by kernel_rfl))
 f267:=Tryz.func213.trans (congrArg some (by kernel_rfl))
 f314:=Tryz.func224.trans (congrArg some (by kernel_rfl))
 t3:=Tryz.underlying3
 a3:=Tryz.isAgg3
 z3:=Tryz.sizeOf3
 v3:=Tryz.zeroValue3
 t4:=Tryz.underlying4
 a4:=Tryz.isAgg4
 z4:=Tryz.sizeOf4
 v4:=Tryz.zeroValue4
 t5:=Tryz.underlying5
 a5:=Tryz.isAgg5
 z5:=Tryz.sizeOf5
 v5:=Tryz.zeroValue5
 t9:=Tryz.underlying9
 a9:=Tryz.isAgg9
 z9:=Tryz.sizeOf9
 v9:=Tryz.zeroValue9
 t46:=Tryz.underlying152
 a46:=Tryz.isAgg152
 z46:=Tryz.sizeOf152
 v46:=Tryz.zeroValue152
 t51:=Tryz.underlying234
 a51:=Tryz.isAgg234
 z51:=Tryz.sizeOf234
 v51:=Tryz.zeroValue234
 t59:=Tryz.underlying117
 a59:=Tryz.isAgg117
 z59:=Tryz.sizeOf117
 v59:=Tryz.zeroValue117
 t146:=Tryz.underlying235
 a146:=Tryz.isAgg235
 z146:=Tryz.sizeOf235
 v146:=Tryz.zeroValue235
 g1:=by kernel_rfl }
open Go.RowKit Go.Lib in
theorem Tryz.strings_Cut (s sep:ByteArray) (m:Int) (w:World) (hs:s.size < 4294967281) (hm:w.cell? ⟨1,0,none⟩=some (.int .i64 m)) :
 Calls Tryz.prog 104 #[.string s,.string sep] w fun e w'=>e = .returned (.tuple #[.string ⟨(Lib.cut s.data.toList sep.data.toList).1.toArray⟩,.string ⟨(Lib.cut s.data.toList sep.data.toList).2.1.toArray⟩,.bool (Lib.cut s.data.toList sep.data.toList).2.2])∧∃ n,w'=w.drewN n:=Any.strings_Cut Tryz.lays145 s sep m w hs hm
def Tryz.lays189_ren:Go.Shelf.Ren:=⟨fun | 189=>201 | 125=>220 | 257=>219 | 128=>236 | 129=>204 | 294=>227 | 295=>228 | 296=>229 | 297=>230 | 298=>231 | 299=>232 | 216=>233 | 300=>234 | 301=>235 | 328=>237 | 329=>238 | 330=>239 | 331=>240 | 332=>241 | 215=>242 | 343=>243 | n=>n,fun | 28=>22 | 3=>3 | 46=>152 | 0=>0 | 51=>234 | 53=>103 | 4=>4 | 183=>291 | 182=>290 | 131=>144 | 5=>5 | 9=>9 | 218=>298 | 222=>301 | 228=>303 | 229=>174 | n=>n,fun | n=>n⟩
theorem Tryz.lays189:Go.Proofs.Lays.n189 Tryz.prog Tryz.lays189_ren:= by constructor <;> first | kernel_rfl | (intro _; kernel_rfl)
open Go.Sort Go.RowKit in
theorem Tryz.slices_Sort_int (blk off cap:Nat) (zs:List Int) (w:World) (hH:Holds (Value.int .i64) w blk off zs.toArray) (hblk:blk < w.heap.size) (hsz:zs.length < 4611686018427387904) :
 Calls Tryz.prog 201 #[.slice (some ⟨blk,off,none⟩) zs.length cap] w fun e w'=>
  e = .returned (.tuple #[])∧∃ n os,w'=grow (putRow (Value.int .i64) (Sort.ahead w n) blk off (zs.mergeSort fun x y=>decide (x≤y)).toArray) os:=Any.slices_Sort_int Tryz.lays189 blk off cap zs w hH hblk hsz
def Tryz.lays146_ren:Go.Shelf.Ren:=⟨fun | 146=>46 | 221=>88 | 268=>138 | 138=>139 | 143=>140 | 195=>180 | 197=>181 | 218=>182 | 219=>183 | 260=>210 | 217=>152 | 225=>211 | 224=>212 | 267=>213 | 266=>191 | 314=>224 | n=>n,fun | 9=>9 | 31=>66 | 3=>3 | 4=>4 | 0=>0 | 105=>231 | 21=>21 | 5=>5 | 46=>152 | 119=>279 | 139=>282 | 138=>281 | 146=>235 | 51=>234 | n=>n,fun | 1=>1 | 3=>4 | 4=>5 | n=>n⟩
theorem Tryz.lays146:Go.Proofs.Lays.n146 Tryz.prog Tryz.lays146_ren:={
 mixed:=by kernel_rfl
 f138:=Tryz.func139.trans (congrArg some (by kernel_rfl))
 f143:=Tryz.func140.trans (congrArg some (by kernel_rfl))
 f146:=Tryz.func46.trans (congrArg some (by kernel_rfl))
 f195:=Tryz.func180.trans (congrArg some (by kernel_rfl))
 f197:=Tryz.func181.trans (congrArg some (by kernel_rfl))
 f217:=Tryz.func152.trans (congrArg some (by kernel_rfl))
 f218:=Tryz.func182.trans (congrArg some (by kernel_rfl))
 f219:=Tryz.func183.trans (congrArg some (by kernel_rfl))
 f221:=Tryz.func88.trans (congrArg some (by kernel_rfl))
 f224:=Tryz.func212.trans (congrArg some (by kernel_rfl))
 f225:=Tryz.func211.trans (congrArg some (by kernel_rfl))
 f260:=Tryz.func210.trans (congrArg some (by kernel_rfl))
 f266:=Tryz.func191.trans (congrArg some (by kernel_rfl))
 f267:=Tryz.func213.trans (congrArg some (by kernel_rfl))
 f268:=Tryz.func138.trans (congrArg some (by kernel_rfl))
 f314:=Tryz.func224.trans (congrArg some (by kernel_rfl))
 t0:=Tryz.underlying0
 a0:=Tryz.isAgg0
 z0:=Tryz.sizeOf0
 v0:=Tryz.zeroValue0
 t3:=Tryz.underlying3
 a3:=Tryz.isAgg3
 z3:=Tryz.sizeOf3
 v3:=Tryz.zeroValue3
 t4:=Tryz.underlying4
 a4:=Tryz.isAgg4
 z4:=Tryz.sizeOf4
 v4:=Tryz.zeroValue4
 t5:=Tryz.underlying5
 a5:=Tryz.isAgg5
 z5:=Tryz.sizeOf5
 v5:=Tryz.zeroValue5
 t9:=Tryz.underlying9
 a9:=Tryz.isAgg9
 z9:=Tryz.sizeOf9
 v9:=Tryz.zeroValue9
 t21:=Tryz.underlying21
 a21:=Tryz.isAgg21
 z21:=Tryz.sizeOf21
 v21:=Tryz.zeroValue21
 t31:=Tryz.underlying66
 a31:=Tryz.isAgg66
 z31:=Tryz.sizeOf66
 v31:=Tryz.zeroValue66
 t46:=Tryz.underlying152
 a46:=Tryz.isAgg152
 z46:=Tryz.sizeOf152
 v46:=Tryz.zeroValue152
 t51:=Tryz.underlying234
 a51:=Tryz.isAgg234
 z51:=Tryz.sizeOf234
 v51:=Tryz.zeroValue234
 t105:=Tryz.underlying231
 a105:=Tryz.isAgg231
 z105:=Tryz.sizeOf231
 v105:=Tryz.zeroValue231
 t119:=Tryz.underlying279
 a119:=Tryz.isAgg279
 z119:=Tryz.sizeOf279
 t138:=Tryz.underlying281
 a138:=Tryz.isAgg281
 z138:=Tryz.sizeOf281
 v138:=Tryz.zeroValue281
 t139:=Tryz.underlying282
 a139:=Tryz.isAgg282
 z139:=Tryz.sizeOf282
 v139:=Tryz.zeroValue282
 t146:=Tryz.underlying235
 a146:=Tryz.isAgg235
 z146:=Tryz.sizeOf235
 v146:=Tryz.zeroValue235
 g1:=by kernel_rfl
 g3:=by kernel_rfl
 g4:=by kernel_rfl }
open Go.RowKit Go.Lib in
theorem Tryz.strings_Split (s sep:ByteArray) (m:Int) (w:World) (hs:s.size < 4294967281) (hm:w.cell? ⟨1,0,none⟩=some (.int .i64 m)) (h1:1≤sep.size) :
 Calls Tryz.prog 46 #[.string s,.string sep] w fun e w'=>
  e = .returned (.slice (some ⟨w.heap.size,0,none⟩) (Lib.countB s sep+1) (Lib.countB s sep+1))∧w'=w.alloc (.cells ((Lib.splitB sep 0 (Lib.countB s sep) s).map Value.string).toArray 9):=Any.strings_Split Tryz.lays146 (by kernel_rfl) s sep m w hs hm h1
def Tryz.lays105_ren:Go.Shelf.Ren:=⟨fun | 105=>86 | 212=>134 | 99=>135 | 165=>87 | 166=>60 | 170=>136 | 169=>56 | 263=>177 | 264=>178 | 206=>151 | 240=>103 | 241=>137 | 276=>153 | 277=>179 | n=>n,fun | 9=>9 | 3=>3 | 4=>4 | 20=>20 | 0=>0 | 46=>152 | 109=>199 | 5=>5 | 72=>108 | 76=>121 | 51=>234 | 146=>235 | 53=>103 | 148=>237 | 70=>106 | 37=>69 | 75=>120 | 127=>165 | 164=>211 | 80=>114 | n=>n,fun | n=>n⟩
theorem Tryz.lays105:Go.Proofs.Lays.n105 Tryz.prog Tryz.lays105_ren:= by constructor <;> first | kernel_rfl | (intro _; kernel_rfl)
theorem Tryz.Builder_Extra_105:Builder.Extra Tryz.prog Tryz.lays105_ren:={
 sizeBuilder:=by kernel_rfl
 liesBuilder:=by kernel_rfl
 t5:=Tryz.underlying5
 a5:=Tryz.isAgg5
 z5:=Tryz.sizeOf5
 v5:=Tryz.zeroValue5
 infoByte:=by kernel_rfl
 cellsByte:=by kernel_rfl
 sizeByte:=by kernel_rfl
 neB5:=by decide }
open Go.RowKit Go.Lib in
theorem Tryz.strings_Repeat (s:ByteArray) (c:Nat) (w:World) (hc:c≤9223372036854775807) (hlen:s.size*c≤140737488355328) :
 Calls Tryz.prog 86 #[.string s,.int .i64 c] w fun e w'=>e = .returned (.string ⟨(Lib.repeatL s.data.toList c).toArray⟩)∧Below w.heap.size w w':=Any.strings_Repeat Tryz.lays105 Tryz.Builder_Extra_105 s c w hc hlen
def Tryz.laysNm220_ren:Go.Shelf.Ren:=⟨fun | 20=>202 | n=>n,fun | 22=>22 | 3=>3 | 4=>4 | 0=>0 | n=>n,fun | n=>n⟩
theorem Tryz.laysNm220:Go.Proofs.Lays2.n20 Tryz.prog Tryz.laysNm220_ren:={
 mixed:=by kernel_rfl
 f20:=Tryz.func202.trans (congrArg some (by kernel_rfl))
 t0:=Tryz.underlying0
 a0:=Tryz.isAgg0
 z0:=Tryz.sizeOf0
 v0:=Tryz.zeroValue0
 t3:=Tryz.underlying3
 a3:=Tryz.isAgg3
 z3:=Tryz.sizeOf3
 v3:=Tryz.zeroValue3
 t4:=Tryz.underlying4
 a4:=Tryz.isAgg4
 z4:=Tryz.sizeOf4
 v4:=Tryz.zeroValue4
 t22:=Tryz.underlying22
 a22:=Tryz.isAgg22
 z22:=Tryz.sizeOf22
 v22:=Tryz.zeroValue22
 i3:=by kernel_rfl }
open Go.RowKit Go.Lib Go.Sort in
theorem Tryz.slices_Compact_int (blk off cap:Nat) (zs:List Int) (w:World) (hH:Holds (Value.int .i64) w blk off zs.toArray) (hsz:zs.length≤9223372036854775807) (hcap:zs.length≤cap) :
 Calls Tryz.prog 202 #[.slice (some ⟨blk,off,none⟩) zs.length cap] w fun e w'=>e = .returned (.slice (some ⟨blk,off,none⟩) (Lib.compact zs).length cap)∧∃ q,w'=putRow (Value.int .i64) (Sort.ahead w q) blk off (Lib.compact zs++List.replicate (zs.length - (Lib.compact zs).length) 0).toArray:=Any.slices_Compact_int Tryz.laysNm220 blk off cap zs w hH hsz hcap
open Go.RowKit Go.Lib Go.Sort in
theorem Tryz.slices_Compact_int_empty (a:Option Addr) (cap:Nat) (w:World) :
 Calls Tryz.prog 202 #[.slice a 0 cap] w fun e w'=>e = .returned (.slice a 0 cap)∧w'=w:=Any.slices_Compact_int_empty Tryz.laysNm220 a cap w
open Go.RowKit Go.Sort in
theorem Tryz.slices_Sort_int_none (p:Option Addr) (cap:Nat) (w:World) :
 Calls Tryz.prog 201 #[.slice p 0 cap] w fun e w'=>e = .returned (.tuple #[])∧w'=w:=Any.slices_Sort_int_none Tryz.lays189 p cap w
def Tryz.laysSlH6_f200_ren:Go.Shelf.Ren:=⟨fun | 6=>200 | n=>n,fun | 22=>22 | 23=>3 | 25=>91 | 3=>3 | 0=>0 | 4=>4 | n=>n,fun | n=>n⟩
theorem Tryz.laysSlH6_f200:Go.Proofs.SlLaysH.n6 Tryz.prog Tryz.laysSlH6_f200_ren:={
 mixed:=by kernel_rfl
 f6:=⟨Tryz.f200.name,by decide,Tryz.func200.trans (congrArg some (by kernel_rfl))⟩
 t0:=Tryz.underlying0
 a0:=Tryz.isAgg0
 z0:=Tryz.sizeOf0
 v0:=Tryz.zeroValue0
 t3:=Tryz.underlying3
 a3:=Tryz.isAgg3
 z3:=Tryz.sizeOf3
 v3:=Tryz.zeroValue3
 t4:=Tryz.underlying4
 a4:=Tryz.isAgg4
 z4:=Tryz.sizeOf4
 v4:=Tryz.zeroValue4
 t22:=Tryz.underlying22
 a22:=Tryz.isAgg22
 z22:=Tryz.sizeOf22
 v22:=Tryz.zeroValue22
 a23:=Tryz.isAgg3
 z23:=Tryz.sizeOf3
 t25:=Tryz.underlying91
 a25:=Tryz.isAgg91
 z25:=Tryz.sizeOf91
 v25:=Tryz.zeroValue91 }
open Go.RowKit Go.Lib in
theorem Tryz.slices_IndexFunc_empty {α:Type} [Inhabited α] (a:Option Addr) (c:Nat) (fv:Value) (w:World) :
 Calls Tryz.prog 200 #[.slice a 0 c,fv] w fun e w'=>e = .returned (.int .i64 (-1))∧w'=w:=AnyE.slices_IndexFunc_empty Tryz.laysSlH6_f200 a c fv w
def Tryz.laysSlH10_f167_ren:Go.Shelf.Ren:=⟨fun | 10=>167 | 6=>200 | n=>n,fun | 22=>22 | 23=>3 | 25=>91 | 3=>3 | 4=>4 | 0=>0 | n=>n,fun | n=>n⟩
theorem Tryz.laysSlH10_f167:Go.Proofs.SlLaysH.n10 Tryz.prog Tryz.laysSlH10_f167_ren:={
 mixed:=by kernel_rfl
 f6:=⟨Tryz.f200.name,by decide,Tryz.func200.trans (congrArg some (by kernel_rfl))⟩
 f10:=⟨Tryz.f167.name,by decide,Tryz.func167.trans (congrArg some (by kernel_rfl))⟩
 t0:=Tryz.underlying0
 a0:=Tryz.isAgg0
 z0:=Tryz.sizeOf0
 v0:=Tryz.zeroValue0
 t3:=Tryz.underlying3
 a3:=Tryz.isAgg3
 z3:=Tryz.sizeOf3
 v3:=Tryz.zeroValue3
 t4:=Tryz.underlying4
 a4:=Tryz.isAgg4
 z4:=Tryz.sizeOf4
 v4:=Tryz.zeroValue4
 t22:=Tryz.underlying22
 a22:=Tryz.isAgg22
 z22:=Tryz.sizeOf22
 v22:=Tryz.zeroValue22
 a23:=Tryz.isAgg3
 z23:=Tryz.sizeOf3
 t25:=Tryz.underlying91
 a25:=Tryz.isAgg91
 z25:=Tryz.sizeOf91
 v25:=Tryz.zeroValue91 }
open Go.RowKit Go.Lib Go.Sort in
theorem Tryz.slices_DeleteFunc {α:Type} [Inhabited α] (enc:α→Value) (hO:OneCell enc) (p:α→Bool) (g:Nat) (lb:Array Value) (eg:∀ args w,(callFunc g args).run Tryz.prog w = .ok (.enter g args) w) (zr:α) (v23:∀ w,(zeroValue 3).run Tryz.prog w = .ok (enc zr) w) (blk off cap:Nat) (d:Array α) (w:World) (hp:PredAt Tryz.prog g lb enc p w) (hpo:PredOver Tryz.prog g lb enc p blk off d.size w) (hH:Holds enc w blk off d) (hsz:d.size≤9223372036854775807) (hcap:d.size≤cap) :
 Calls Tryz.prog 167 #[.slice (some ⟨blk,off,none⟩) d.size cap,.func (.func g) #[] lb] w fun e w'=>e = .returned (.slice (some ⟨blk,off,none⟩) (d.toList.filter fun x=>!p x).length cap)∧∃ q,w'=putRow enc (Sort.ahead w q) blk off ((d.toList.filter fun x=>!p x)++List.replicate (d.size - (d.toList.filter fun x=>!p x).length) zr).toArray:=AnyE.slices_DeleteFunc Tryz.laysSlH10_f167 enc hO p g lb eg zr v23 blk off cap d w hp hpo hH hsz hcap
end Go.Proofs
namespace Go.FM
open Go Go.Proofs Go.RowKit Go.Sort Go.Lib
set_option maxHeartbeats 12800000 in
theorem yes (u:Nat) (hu64:u < 18446744073709551616) (w:World) (htab:Lib.TabIs Tryz.prog w "internal/strconv.uint64pow10" .u64 Lib.pow10Tab) :
  Calls Tryz.prog 129 #[.int .u64 u,.int .i64 10] w fun e w'=>e = .returned (.string ⟨(Lib.decDigits u).toArray⟩)∧∃ k os,w'=grow (w.drewN k) os:=by
 by_cases hs:u < 100
 ·have hwr:IntKind.i64.wrap (u:Int)=(u:Int):=by rw [IntKind.wrap_i64]; omega
  have iu:(u:Int) < 100:=by omega
  go_enter Tryz.func129,Tryz.ntmps129
  go_wp2_with (go_at_call 170; refine (Tryz.internal_strconv_small u hs _).mono ?_; rintro e w' ⟨rfl,rfl⟩)
  go_ret
  exact ⟨rfl,0,#[],by simp [World.drewN_zero]⟩
 ·have hu1:1≤u:=by omega
  have hnd20:Lib.nDigits u≤20:=by have:=Lib.numDigits_eq u hu1 hu64; split at this <;> omega
  have hal:Tryz.prog.arrayLen 225=24:=by simp [Program.arrayLen,Tryz.underlying225]
  have hsl:∀ W,(Instr.sliceAt 225 (.pointer (some ⟨w.heap.size,0,none⟩)) none (some (.int .i64 (Lib.nDigits u:Int))) none).run Tryz.prog W = .ok (.slice (some ⟨w.heap.size,0,none⟩) (Lib.nDigits u) 24) W:=fun W=>by
   rw [run_sliceAt_array_h W 225 ⟨w.heap.size,0,none⟩ (by simp [Program.arrayLen,Program.elem,Tryz.underlying225]) .i64 (Lib.nDigits u:Int) (by omega) (by rw [hal]; omega)]
   go_simp
  have hH0:=Lib.holds_zero0 w 225 (Lib.nDigits u) (by omega)
  have hfmt:=Tryz.internal_strconv_formatBase10 w.heap.size 0 24 u (Array.replicate (Lib.nDigits u) 0) (w.alloc (.cells Lib.zeros24 225)) hH0 (by rw [v3e]; exact Lib.lt_pow_nDigits u) hu64 (by rw [v3e]; omega)
  rw [v3e] at hfmt;have HH0:=Lib.hid hH0;have iu:¬ (u:Int) < 100:=by omega
  clear hH0 hal hs
  go_enter Tryz.func129,Tryz.ntmps129
  go_wp2_with (first
   | (go_at_call 171; refine (Tryz.internal_strconv_numDigits u hu1 hu64 _ (Lib.tabIs_alloc htab _)).mono ?_; rintro e w' ⟨rfl,rfl⟩))
  go_at_call 172
  refine hfmt.mono ?_
  rintro e w' ⟨rfl,k,v',dk,rfl,hF⟩
  have hcv:(convert 69 9 (.slice (some ⟨w.heap.size,0,none⟩) (Lib.nDigits u) 24)).run Tryz.prog ((putRow (fun (b:UInt8)=>Value.int .u8 (b.toNat:Int)) (w.alloc (.cells Lib.zeros24 225)) w.heap.size 0 dk).drewN k) = .ok (.string ⟨(Lib.decDigits u).toArray⟩) ((putRow (fun (b:UInt8)=>Value.int .u8 (b.toNat:Int)) (w.alloc (.cells Lib.zeros24 225)) w.heap.size 0 dk).drewN k):=by
   have h:=run_convert_bytes_back (P:=Tryz.prog) ((putRow (fun (b:UInt8)=>Value.int .u8 (b.toNat:Int)) (w.alloc (.cells Lib.zeros24 225)) w.heap.size 0 dk).drewN k) 69 9 5 ⟨w.heap.size,0,none⟩ 24 (Lib.decDigits u) Tryz.underlying69 Tryz.underlying5 Tryz.underlying9 (fun j hj=>by
    rw [Lib.row_is_numeral hF j hj,Lib.add_plain,World.cell?_drewN];exact cell?_putRow (fun (b:UInt8)=>Value.int .u8 (b.toNat:Int)) _ w.heap.size 0 _ dk HH0.out (by rw [hF.size,v3e]) j (by rw [hF.size]; rw [Lib.decDigits_length] at hj; exact hj))
   rw [Lib.decDigits_length] at h;exact h
  go_wp2
  go_ret
  obtain ⟨os,eo⟩:=Lib.fin_at w (.cells Lib.zeros24 225) dk k 0;exact ⟨rfl,k,os,eo⟩
set_option maxHeartbeats 1600000 in
theorem ylx (u:Nat) (hu64:u < 18446744073709551616) (w:World) (htab:Lib.TabIs Tryz.prog w "internal/strconv.uint64pow10" .u64 Lib.pow10Tab) :
  Calls Tryz.prog 83 #[.int .u64 u,.int .i64 10] w fun e w'=>e = .returned (.string ⟨(Lib.decDigits u).toArray⟩)∧∃ k os,w'=grow (w.drewN k) os:=by
 go_enter Tryz.func83,Tryz.ntmps83
 go_wp2_with (go_at_call 129; refine (yes u hu64 _ htab).mono ?_; rintro e w' ⟨rfl,hw⟩)
 go_ret
 exact ⟨rfl,hw⟩
theorem yez:(PR.info? 9).map (fun i=>(i.zero,i.size,i.bytes))=some (some (.string .empty),1,16):=by kernel_rfl
set_option maxHeartbeats 4000000 in
theorem ydd (b:Addr) (n c:Nat) (news:List Value) (w:World) (hl:news.length=n) (hn:n≤maxLen) (hbig:n*16≤140737488355328)
  (hc:∀ j u,news[j]?=some u→w.cell? (b.add j)=some u) (h1:∀ u∈news,u.oneCell'=true) :
  Calls Tryz.prog 161 #[.slice (some b) n c] w fun e w'=>∃ v',e = .returned v'∧w'.ownsRow w.heap.size 9 1 v' n news∧Below w.heap.size w w':=by
 obtain ⟨i0,hi,hz0,hz1,hz2⟩:=info_parts yez;have qS:∀ (w:World) (a:Option Addr) (n c n' c':Nat),(binOp .eql 66 (.slice a n c) (.slice none n' c')).run Tryz.prog w = .ok (.bool a.isNone) w:=fun w a n c n' c'=>Lib.run_eql_slice_nil w _ _ a n c n' c' Tryz.underlying66
 have A:Aside (∀ j u,news[j]?=some u→w.cell? (b.add j)=some u):=hc;clear hc
 go_enter Tryz.func161,Tryz.ntmps161
 go_wp2_with (at_builtin; refine wpList_append_own _ rfl _ _ 66 rfl w.heap.size 9 i0 (.string .empty) 1 16 Tryz.underlying66 hi hz0 hz1 hz2 rfl (by decide) _ _ _ rfl (World.ownsRow_made w #[] 0 (v09 _) (v0y _) (by simp)) b n c news rfl ?qc1 ?qc2 ?qc3 ?qc4 ?qc5 ?qc6 ?_)
 case qc1=>rw [v40]; exact hl
 case qc2=>
  intro j u hj;exact Lib.cell?_alloc_some _ (A.out j u hj)
 case qc3=>exact h1
 case qc4=>rw [v0n]; exact hn
 case qc5=>rw [v0n]; exact hbig
 case qc6=>simp
 intro v' w1 hown hgrow hnil
 go_wp2
 go_ret
 refine ⟨v',rfl,by simpa using hown,?_⟩
 exact ((Below.refl _ w).alloc (v09 _) _).grown hgrow (by simp) (by intro k hk; simp [Value.ownBlock] at hk; omega)
set_option maxHeartbeats 1000000 in
theorem ybm (n c:Nat) (w:World):Calls Tryz.prog 161 #[.slice none n c] w fun e w'=>e = .returned (.slice none 0 0)∧w'=w:=by
 have qS:∀ (w:World) (a:Option Addr) (n c n' c':Nat),(binOp .eql 66 (.slice a n c) (.slice none n' c')).run Tryz.prog w = .ok (.bool a.isNone) w:=fun w a n c n' c'=>Lib.run_eql_slice_nil w _ _ a n c n' c' Tryz.underlying66
 go_enter Tryz.func161,Tryz.ntmps161
 go_wp2
 go_ret
 exact ⟨rfl,rfl⟩
open Go Go.RowKit
def z3d:z0q
 | [.list false [.str] l]=>.br (decide (l.length≤4294967296)) (.ok (.vec 9 false [.str] l) []) .no
 | _=>.no
def z2d:z0q
 | [.list false [.str] l,.str s]=>.ok (.int .i64 (zfd l s 0)) []
 | _=>.no
open Go Go.Proofs Go.RowKit
structure GF (h:Nat→Option Obj):Prop where
 unit:True
 gm:∃ c T fr m,h 1=some (.cells c T fr)∧c[0]?=some (.int .i64 m)
 gp:∃ T fr,h 0=some (.cells (Lib.pow10Tab.map fun z=>Value.int .u64 z).toArray T fr)
 gs:∃ c T fr te pe,h 2=some (.cells c T fr)∧c[0]?=some (.iface te pe)
 gr:∃ c T fr te pe,h 3=some (.cells c T fr)∧c[0]?=some (.iface te pe)
def B0:BT:={ T:=108,e:=5,ng:=4,F:=GF }
theorem zl2 {w:World} {h:Nat→Option Obj} (hh:h=fun b=>if b < B0.ng then w.heap[b]? else none) {g:Nat} (hg:g < 4) {o:Obj} (ho:h g=some o):w.heap[g]?=some o:=by
 rw [hh] at ho;simp only at ho;rw [v1f (show g < B0.ng from hg)] at ho
 exact ho
theorem y87 {w:World} (h:Glob B0 w):∃ m,w.cell? ⟨1,0,none⟩=some (.int .i64 m):=by
 obtain ⟨c,T,fr,m,h1,h2⟩:=h.2.gm;exact ⟨m,by simp only [World.cell?,zl2 rfl (by decide) h1]; exact h2⟩
theorem y7e {w:World} (h:Glob B0 w):Lib.TabIs Tryz.prog w "internal/strconv.uint64pow10" .u64 Lib.pow10Tab:=by
 obtain ⟨T,fr,h1⟩:=h.2.gp;have hn:Tryz.prog.globalNamed "internal/strconv.uint64pow10" = some 0:=by kernel_rfl
 unfold Lib.TabIs World.var?;rw [hn];simp only [Option.bind_some,zl2 rfl (by decide) h1]
theorem y7n {w:World} (h:Glob B0 w):∃ ev,w.cell? ⟨2,0,none⟩=some ev∧(ev = .nilIface∨∃ te pe,ev = .iface te pe):=by
 obtain ⟨c,T,fr,te,pe,h1,h2⟩:=h.2.gs;exact ⟨_,by simp only [World.cell?,zl2 rfl (by decide) h1]; exact h2,.inr ⟨te,pe,rfl⟩⟩
theorem y83 {w:World} (h:Glob B0 w):∃ ev,w.cell? ⟨3,0,none⟩=some ev∧(ev = .nilIface∨∃ te pe,ev = .iface te pe):=by
 obtain ⟨c,T,fr,te,pe,h1,h2⟩:=h.2.gr;exact ⟨_,by simp only [World.cell?,zl2 rfl (by decide) h1]; exact h2,.inr ⟨te,pe,rfl⟩⟩
theorem Keep.below {w w':World} (h:Below w.heap.size w w'):Keep (fun _=>False) w w':=⟨h.os,h.tape,h.output,h.size,fun b hb _=>h.block b hb⟩
theorem Keep.drewN {O:Nat→Prop} (w:World):∀ n,Keep O w (w.drewN n):=fun _=>⟨rfl,rfl,rfl,v09 _,fun _ _ _=>rfl⟩
theorem Keep.grow (w:World) (os:Array Obj):Keep (fun _=>False) w (Go.Sort.grow w os):=⟨rfl,rfl,rfl,by simp [Go.Sort.grow],fun b hb _=>by simp [Go.Sort.grow,v38 hb]⟩
theorem z3o:z2y PR B0 60 z0z:=by
 intro w X γ vs xs r out hsp hg hx hR hV;unfold z0z at hsp;simp only at hsp
 split at hsp
 ·rename_i s t
  cases hc:decide (s.size+t.size≤strMax) with
  | false=>rw [hc] at hsp; simp [R.get] at hsp
  | true=>
   rw [hc] at hsp;simp only [R.get,v00,v04] at hsp;obtain ⟨rfl,rfl⟩:=hsp;have hle:s.size+t.size≤strMax:=v0f hc;refine y5f hR rfl rfl (fun γ' o w' O x h=>by
    simp only [VRel] at h ⊢
    obtain ⟨cs,rfl,h⟩:=h;refine ⟨cs,rfl,?_⟩
    match cs,h with
    | ⟨[a,b]⟩,h=>simp only [VRels,VRel] at h ⊢; exact h) (fun b v p hgm hB=>?_)
   obtain ⟨x0,x1,rfl⟩:∃ x0 x1,xs=[x0,x1]:=by
    have:=hV.length
    simp at this
    match xs,this with
    | [a,b],_=>exact ⟨a,b,rfl⟩
   simp only [v0d,v16,z8s,VRels] at hV;have h0:=y6w hgm hV.1;have h1:=hV.2.1;simp only [VRel] at h1;obtain ⟨rfl,ht⟩:=h1;subst h0;refine Does.of_calls Tryz.func60 (by kernel_rfl) (by kernel_rfl) ((ztn b p v (Lib.strCells s) t w hB.self hB.heap (by rw [Lib.strCells_length]; exact hB.own) hB.ne (by rw [Lib.strCells_length]; unfold strMax at hle; omega)).mono ?_)
   rintro e w' ⟨rfl,v',q1,q2,q3,q4,q5⟩
   refine ⟨_,rfl,⟨_,v',⟨.inr rfl,q1,?_,q3,?_⟩,q4,q5⟩,fun O=>?_⟩
   ·have e1:Lib.strCells (s++t)=Lib.strCells s++Lib.strCells t:=by simp [Lib.strCells]
    have e2:(s++t).size=(Lib.strCells s++Lib.strCells t).length:=by simp [Lib.strCells_length]
    rw [e1,e2];exact q2
   ·simp only [v0g]; exact hle
   ·simp only [VRel]
    refine ⟨_,rfl,?_⟩;simp only [VRels,VRel,ic,v18];refine ⟨trivial,?_,?_⟩
    ·have:IntKind.i64.min = -9223372036854775808:=rfl
     omega
    ·have:IntKind.i64.max=9223372036854775807:=rfl
     unfold strMax at hle;omega
 ·simp [R.get] at hsp
theorem y4n {c:Int} (h0:IntKind.u8.min≤c) (h1:c≤IntKind.u8.max):(Value.int .u8 ((zdq c).toNat:Int)) = .int .u8 c:=by
 have e1:IntKind.u8.min=0:=rfl;have e2:IntKind.u8.max=255:=rfl
 have:((zdq c).toNat:Int)=c:=by
  unfold zdq;rw [UInt8.toNat_ofNat_of_lt' (by simp [UInt8.size]; omega)]
  omega
 rw [this]
theorem z6r:z2y PR B0 97 z1t:=by
 intro w X γ vs xs r out hsp hg hx hR hV;unfold z1t at hsp;simp only at hsp
 split at hsp
 ·rename_i s c
  cases hc:decide (s.size+1≤strMax) with
  | false=>rw [hc] at hsp; simp [R.get] at hsp
  | true=>
   rw [hc] at hsp;simp only [R.get,v00,v04] at hsp;obtain ⟨rfl,rfl⟩:=hsp;have hle:s.size+1≤strMax:=v0f hc;refine y5f hR rfl rfl (fun γ' o w' O x h=>by simp only [VRel] at h ⊢; exact h) (fun b v p hgm hB=>?_)
   obtain ⟨x0,x1,rfl⟩:∃ x0 x1,xs=[x0,x1]:=by
    have:=hV.length
    simp at this
    match xs,this with
    | [a,b],_=>exact ⟨a,b,rfl⟩
   simp only [v0d,v16,z8s,VRels] at hV;have h0:=y6w hgm hV.1;have h1:=hV.2.1;simp only [VRel] at h1;obtain ⟨rfl,hc0,hc1⟩:=h1;subst h0;refine Does.of_calls Tryz.func97 (by kernel_rfl) (by kernel_rfl) ((zz6 b p v (Lib.strCells s) c w hB.self hB.heap (by rw [Lib.strCells_length]; exact hB.own) hB.ne (by rw [Lib.strCells_length]; unfold strMax at hle; omega)).mono ?_)
   rintro e w' ⟨rfl,v',q1,q2,q3,q4,q5⟩
   refine ⟨_,rfl,⟨_,v',⟨.inr rfl,q1,?_,q3,?_⟩,q4,q5⟩,fun O=>by simp only [VRel]⟩
   ·have e1:Lib.strCells (s.push (zdq c))=Lib.strCells s++[.int .u8 c]:=by
     rw [← y4n hc0 hc1];simp [Lib.strCells]
    have e2:(s.push (zdq c)).size=(Lib.strCells s++[Value.int .u8 c]).length:=by simp [Lib.strCells_length]
    rw [e1,e2];exact q2
   ·simp only [v3i]; exact hle
 ·simp [R.get] at hsp
theorem z4z:z2y PR B0 56 z1f:=by
 intro w X γ vs xs r out hsp hg hx hR hV;unfold z1f at hsp;simp only at hsp
 split at hsp
 ·rename_i s
  simp only [R.get,v00,v04] at hsp;obtain ⟨rfl,rfl⟩:=hsp;refine y5f hR rfl rfl (fun γ' o w' O x h=>by simp only [VRel] at h ⊢; exact h) (fun b v p hgm hB=>?_)
  obtain ⟨x0,rfl⟩:∃ x0,xs=[x0]:=by
   have:=hV.length
   simp at this
   match xs,this with
   | [a],_=>exact ⟨a,rfl⟩
  simp only [v0d,v16,z8s,VRels] at hV;have h0:=y6w hgm hV.1;subst h0;refine Does.of_calls Tryz.func56 (by kernel_rfl) (by kernel_rfl) ((yab b p v s w hB.heap hB.own hB.ne).mono ?_)
  rintro e w' ⟨rfl,q1,q2,q3⟩
  exact ⟨_,rfl,⟨p,v,⟨hB.self,q1,q2,hB.ne,hB.size⟩,q3,fun k hk=>.inl hk⟩,fun O=>by simp only [VRel]; exact ⟨trivial,hB.size⟩⟩
 ·simp [R.get] at hsp
theorem z8t:z2y PR B0 43 z32:=by
 intro w X γ vs xs r out hsp hg hx hR hV;unfold z32 at hsp;simp only at hsp
 split at hsp
 ·rename_i n
  simp only [R.get,v00,v04] at hsp;obtain ⟨rfl,rfl⟩:=hsp;obtain ⟨x0,rfl⟩:∃ x0,xs=[x0]:=by
   have:=hV.length
   simp at this
   match xs,this with
   | [a],_=>exact ⟨a,rfl⟩
  simp only [v0d,v16,z8s,VRels,VRel,v18] at hV;obtain ⟨rfl,h0,h1⟩:=hV;refine z8o hR rfl rfl (Does.of_calls Tryz.func43 (by kernel_rfl) (by kernel_rfl) ((Tryz.strconv_Itoa n h0 h1 w (y7e hg)).mono ?_))
  rintro e w' ⟨rfl,k,os,rfl⟩
  exact ⟨_,rfl,((Keep.drewN w k).trans (Keep.grow _ os) (fun _ _ h=>h)),fun O _=>by
   simp only [VRel];exact ⟨rfl,by have:=znd h0 h1; unfold strMax; omega⟩⟩
 ·simp [R.get] at hsp
theorem zg9:z2y PR B0 90 z6y:=by
 intro w X γ vs xs r out hsp hg hx hR hV;unfold z6y at hsp;simp only at hsp
 split at hsp
 ·rename_i s
  simp only [R.get,v00,v04] at hsp;obtain ⟨rfl,rfl⟩:=hsp;obtain ⟨x0,rfl⟩:∃ x0,xs=[x0]:=by
   have:=hV.length
   simp at this
   match xs,this with
   | [a],_=>exact ⟨a,rfl⟩
  simp only [v0d,v16,z8s,VRels,VRel,v18] at hV;obtain ⟨rfl,hs⟩:=hV;unfold strMax at hs;have hb:=y5p s;refine z8o hR rfl rfl (Does.of_calls Tryz.func90 (by kernel_rfl) (by kernel_rfl) ?_)
  cases ha:Lib.atoiAll s.data.toList
  ·rename_i v
   refine (Tryz.strconv_Atoi_ok s (by omega) v ha w).mono ?_
   rintro e w' ⟨rfl,hw⟩
   have e1:z6t s=v:=by unfold z6t; rw [ha]
   have e2:zs0 s=true:=by unfold zs0; rw [ha]
   rw [e1] at hb ⊢
   rw [e2];refine ⟨_,rfl,?_,fun O _=>?_⟩
   ·rcases hw with rfl | ⟨t,rfl⟩
    ·exact Keep.refl _ _
    ·unfold Lib.bytesWorld
     have h1:=Keep.alloc (fun _=>False) w.drew (.cells (Lib.bytesCells w 5 t) 5)
     refine ((Keep.drew (fun _=>False) w).trans h1 (fun _ _ h=>h)).trans (Keep.freeze (O:=fun k=>k=w.heap.size) _ ⟨w.heap.size,_,none⟩ 1 rfl) (fun b hb h=>?_)
     subst h;exact absurd hb (Nat.lt_irrefl _)
   ·simp only [VRel]
    exact ⟨_,rfl,by simp only [VRels,VRel,v18,v45]; exact hb⟩
  ·skip
   obtain ⟨ev,h1,h2⟩:=y7n hg;refine (Tryz.strconv_Atoi_syntax s (by omega) ha ev w h1 h2).mono ?_
   rintro e w' ⟨N,rfl,_,_,hw⟩
   have e1:z6t s=0:=by unfold z6t; rw [ha]
   have e2:zs0 s=false:=by unfold zs0; rw [ha]
   rw [e1] at hb ⊢
   rw [e2];refine ⟨_,rfl,Keep.below hw,fun O _=>?_⟩
   simp only [VRel];exact ⟨_,rfl,by simp only [VRels,VRel,v18]; exact ⟨⟨trivial,hb⟩,_,_,rfl⟩⟩
  ·skip
   obtain ⟨ev,h1,h2⟩:=y83 hg;refine (Tryz.strconv_Atoi_range s (by omega) ha ev w h1 h2).mono ?_
   rintro e w' ⟨N,rfl,_,_,hw⟩
   have e1:z6t s=Lib.atoiSat s.data.toList:=by unfold z6t; rw [ha]
   have e2:zs0 s=false:=by unfold zs0; rw [ha]
   rw [e1] at hb ⊢
   rw [e2];refine ⟨_,rfl,Keep.below hw,fun O _=>?_⟩
   simp only [VRel];exact ⟨_,rfl,by simp only [VRels,VRel,v18]; exact ⟨⟨trivial,hb⟩,_,_,rfl⟩⟩
 ·simp [R.get] at hsp
theorem zgg:z2y PR B0 83 z5r:=by
 intro w X γ vs xs r out hsp hg hx hR hV;unfold z5r at hsp;simp only at hsp
 split at hsp
 ·rename_i n b
  cases hc:decide (b=10) with
  | false=>rw [hc] at hsp; simp [R.get] at hsp
  | true=>
   rw [hc] at hsp;have hb:=v0f hc;subst hb;simp only [R.get,v00,v04] at hsp;obtain ⟨rfl,rfl⟩:=hsp;obtain ⟨x0,x1,rfl⟩:∃ x0 x1,xs=[x0,x1]:=by
    have:=hV.length
    simp at this
    match xs,this with
    | [a,b],_=>exact ⟨a,b,rfl⟩
   simp only [v0d,v16,z8s,VRels,VRel,v18] at hV;obtain ⟨⟨rfl,h0,h1⟩,rfl,_⟩:=hV;have e0:IntKind.u64.min=0:=rfl;have e1:IntKind.u64.max=18446744073709551615:=rfl;rw [e0] at h0;rw [e1] at h1;obtain ⟨u,rfl⟩:∃ u:Nat,n=u:=⟨n.toNat,by omega⟩
   refine z8o hR rfl rfl (Does.of_calls Tryz.func83 (by kernel_rfl) (by kernel_rfl) ((ylx u (by omega) w (y7e hg)).mono ?_))
   rintro e w' ⟨rfl,k,os,rfl⟩
   refine ⟨_,rfl,((Keep.drewN w k).trans (Keep.grow _ os) (fun _ _ h=>h)),fun O _=>?_⟩
   simp only [VRel];have hz:=zqv h0 h1;exact ⟨by simp [za8],by unfold strMax; omega⟩
 ·simp [R.get] at hsp
theorem zhq:z2y PR B0 189 z6i:=by
 intro w X γ vs xs r out hsp hg hx hR hV;unfold z6i at hsp;simp only at hsp
 split at hsp
 ·rename_i s b c
  cases hc:(decide (b=10)&&decide (c=64)) with
  | false=>rw [hc] at hsp; simp [R.get] at hsp
  | true=>
   rw [hc] at hsp;simp only [v02,v06] at hc;obtain ⟨rfl,rfl⟩:=hc;simp only [R.get,v00,v04] at hsp;obtain ⟨rfl,rfl⟩:=hsp;obtain ⟨x0,x1,x2,rfl⟩:∃ x0 x1 x2,xs=[x0,x1,x2]:=by
    have:=hV.length
    simp at this
    match xs,this with
    | [a,b,c],_=>exact ⟨a,b,c,rfl⟩
   simp only [v0d,v16,z8s,VRels,VRel,v18] at hV;obtain ⟨⟨rfl,hs⟩,⟨rfl,_⟩,rfl,_⟩:=hV;unfold strMax at hs;have hb:=zqp s;refine z8o hR rfl rfl (Does.of_calls Tryz.func189 (by kernel_rfl) (by kernel_rfl) ?_)
   cases ha:Lib.parseMag s.data.toList
   ·rename_i v
    refine (Tryz.strconv_ParseUint_10_at64_ok s (by omega) v (by rw [Lib.parseUintB_64]; exact ha) w).mono ?_
    rintro e w' ⟨rfl,hw⟩
    have e1:puV s=v:=by unfold puV; rw [ha]
    have e2:puN s=true:=by unfold puN; rw [ha]
    rw [e1] at hb ⊢
    rw [e2];refine ⟨_,rfl,?_,fun O _=>?_⟩
    ·rcases hw with rfl | rfl
     ·exact Keep.refl _ _
     ·unfold Lib.bytesWorld
      have h1:=Keep.alloc (fun _=>False) w.drew (.cells (Lib.bytesCells w 5 s) 5)
      refine ((Keep.drew (fun _=>False) w).trans h1 (fun _ _ h=>h)).trans (Keep.freeze (O:=fun k=>k=w.heap.size) _ ⟨w.heap.size,_,none⟩ 1 rfl) (fun b hb h=>?_)
      subst h;exact absurd hb (Nat.lt_irrefl _)
    ·simp only [VRel]
     exact ⟨_,rfl,by simp only [VRels,VRel,v18,v45]; exact hb⟩
   ·skip
    obtain ⟨ev,h1,h2⟩:=y7n hg;refine (Tryz.strconv_ParseUint_10_at64_syntax s (by omega) (by rw [Lib.parseUintB_64]; exact ha) ev w h1 h2).mono ?_
    rintro e w' ⟨N,rfl,_,_,hw⟩
    have e1:puV s=0:=by unfold puV; rw [ha]
    have e2:puN s=false:=by unfold puN; rw [ha]
    rw [e1] at hb ⊢
    rw [e2];refine ⟨_,rfl,Keep.below hw,fun O _=>?_⟩
    simp only [VRel];exact ⟨_,rfl,by simp only [VRels,VRel,v18]; exact ⟨⟨trivial,hb⟩,_,_,rfl⟩⟩
   ·skip
    obtain ⟨ev,h1,h2⟩:=y83 hg;refine (Tryz.strconv_ParseUint_10_at64_range s (by omega) (by rw [Lib.parseUintB_64]; exact ha) ev w h1 h2).mono ?_
    rintro e w' ⟨N,rfl,_,_,hw⟩
    have e1:puV s=18446744073709551615:=by unfold puV; rw [ha]
    have e2:puN s=false:=by unfold puN; rw [ha]
    rw [e1] at hb ⊢
    rw [e2];refine ⟨_,rfl,Keep.below hw,fun O _=>?_⟩
    simp only [VRel];exact ⟨_,rfl,by simp only [VRels,VRel,v18]; exact ⟨⟨trivial,hb⟩,_,_,rfl⟩⟩
 ·simp [R.get] at hsp
theorem zhr:z2y PR B0 85 z6g:=by
 intro w X γ vs xs r out hsp hg hx hR hV;unfold z6g at hsp;simp only at hsp
 split at hsp
 ·rename_i s cs
  cases hc:(decide (cs.size=1)&&decide ((cs.data.toList.headD 0).toNat < 128)) with
  | false=>rw [hc] at hsp; simp [R.get] at hsp
  | true=>
   rw [hc] at hsp;simp only [v02,v06] at hc;simp only [R.get,v00,v04] at hsp;obtain ⟨rfl,rfl⟩:=hsp;obtain ⟨c,rfl⟩:∃ c,cs=⟨#[c]⟩:=by
    obtain ⟨⟨l⟩⟩:=cs;have h1:l.length=1:=hc.1
    match l,h1 with
    | [c],_=>exact ⟨c,rfl⟩
   obtain ⟨x0,x1,rfl⟩:∃ x0 x1,xs=[x0,x1]:=by
    have:=hV.length
    simp at this
    match xs,this with
    | [a,b],_=>exact ⟨a,b,rfl⟩
   simp only [v0d,v16,z8s,VRels,VRel,v18] at hV;obtain ⟨⟨rfl,hs⟩,rfl,_⟩:=hV;have hz:=zr0 s ⟨#[c]⟩;unfold strMax at hs;refine z8o hR rfl rfl (Does.of_calls Tryz.func85 (by kernel_rfl) (by kernel_rfl) ((Tryz.strings_TrimRight_one s c hc.2 w (by omega)).mono ?_))
   rintro e w' ⟨rfl,rfl⟩
   refine ⟨_,rfl,Keep.refl _ _,fun O _=>?_⟩
   simp only [VRel];exact ⟨rfl,by unfold strMax; omega⟩
 ·simp [R.get] at hsp
theorem zdx:z2y PR B0 86 z54:=by
 intro w X γ vs xs r out hsp hg hx hR hV;unfold z54 at hsp;simp only at hsp
 split at hsp
 ·rename_i s n
  cases hc:(decide (0≤n)&&decide (s.size*n.toNat≤strMax)) with
  | false=>rw [hc] at hsp; simp [R.get] at hsp
  | true=>
   rw [hc] at hsp;simp only [v02,v06] at hc;simp only [R.get,v00,v04] at hsp;obtain ⟨rfl,rfl⟩:=hsp;obtain ⟨x0,x1,rfl⟩:∃ x0 x1,xs=[x0,x1]:=by
    have:=hV.length
    simp at this
    match xs,this with
    | [a,b],_=>exact ⟨a,b,rfl⟩
   simp only [v0d,v16,z8s,VRels,VRel,v18] at hV;obtain ⟨⟨rfl,hs⟩,rfl,_,hn1⟩:=hV;have e1:IntKind.i64.max=9223372036854775807:=rfl;rw [e1] at hn1;obtain ⟨c,rfl⟩:∃ c:Nat,n=c:=⟨n.toNat,by omega⟩
   have hz:=zro s c;have hle:=hc.2;simp only [v0l] at hle ⊢
   unfold strMax at hle;refine z8o hR rfl rfl (Does.of_calls Tryz.func86 (by kernel_rfl) (by kernel_rfl) ((Tryz.strings_Repeat s c w (by omega) (by omega)).mono ?_))
   rintro e w' ⟨rfl,hw⟩
   refine ⟨_,rfl,Keep.below hw,fun O _=>?_⟩
   simp only [VRel];exact ⟨rfl,by rw [hz]; unfold strMax; omega⟩
 ·simp [R.get] at hsp
theorem zgp:z2y PR B0 57 z6f:=by
 intro w X γ vs xs r out hsp hg hx hR hV;unfold z6f at hsp;simp only at hsp
 split at hsp
 ·rename_i s p
  simp only [R.get,v00,v04] at hsp;obtain ⟨rfl,rfl⟩:=hsp;obtain ⟨x0,x1,rfl⟩:∃ x0 x1,xs=[x0,x1]:=by
   have:=hV.length
   simp at this
   match xs,this with
   | [a,b],_=>exact ⟨a,b,rfl⟩
  simp only [v0d,v16,z8s,VRels,VRel,v18] at hV;obtain ⟨⟨rfl,hs⟩,rfl,_⟩:=hV;have hz:=zkt s p;refine z8o hR rfl rfl (Does.of_calls Tryz.func57 (by kernel_rfl) (by kernel_rfl) ((Tryz.strings_CutPrefix s p w).mono ?_))
  rintro e w' ⟨rfl,rfl⟩
  refine ⟨_,rfl,Keep.refl _ _,fun O _=>?_⟩
  simp only [VRel];exact ⟨_,rfl,by simp only [VRels,VRel,v18]; exact ⟨⟨rfl,by omega⟩,rfl⟩⟩
 ·simp [R.get] at hsp
theorem zgn:z2y PR B0 104 z7v:=by
 intro w X γ vs xs r out hsp hg hx hR hV;unfold z7v at hsp;simp only at hsp
 split at hsp
 ·rename_i s sep
  cases hc:decide (s.size < 4294967281) with
  | false=>rw [hc] at hsp; simp [R.get] at hsp
  | true=>
   rw [hc] at hsp;simp only [R.get,v00,v04] at hsp;obtain ⟨rfl,rfl⟩:=hsp;obtain ⟨x0,x1,rfl⟩:∃ x0 x1,xs=[x0,x1]:=by
    have:=hV.length
    simp at this
    match xs,this with
    | [a,b],_=>exact ⟨a,b,rfl⟩
   simp only [v0d,v16,z8s,VRels,VRel,v18] at hV;obtain ⟨⟨rfl,hs⟩,rfl,hsep⟩:=hV;obtain ⟨m,hm⟩:=y87 hg;refine z8o hR rfl rfl (Does.of_calls Tryz.func104 (by kernel_rfl) (by kernel_rfl) ((Tryz.strings_Cut s sep m w (v0f hc) hm).mono ?_))
   rintro e w' ⟨rfl,n,rfl⟩
   have hsz:=y2e s sep;refine ⟨_,rfl,Keep.drewN w n,fun O _=>?_⟩
   simp only [VRel];exact ⟨_,rfl,by simp only [VRels,VRel,v18]; exact ⟨⟨rfl,by omega⟩,⟨rfl,by omega⟩,rfl⟩⟩
 ·simp [R.get] at hsp
theorem z7t:z2y PR B0 46 z2p:=by
 intro w X γ vs xs r out hsp hg hx hR hV;unfold z2p at hsp;simp only at hsp
 split at hsp
 ·rename_i s sep
  cases hc:(decide (s.size < 4294967281)&&decide (1≤sep.size)) with
  | false=>rw [hc] at hsp; simp [R.get] at hsp
  | true=>
   rw [hc] at hsp;simp only [v02,v06] at hc;simp only [R.get,v00,v04] at hsp;obtain ⟨rfl,rfl⟩:=hsp;obtain ⟨x0,x1,rfl⟩:∃ x0 x1,xs=[x0,x1]:=by
    have:=hV.length
    simp at this
    match xs,this with
    | [a,b],_=>exact ⟨a,b,rfl⟩
   simp only [v0d,v16,z8s,VRels,VRel,v18] at hV;obtain ⟨⟨rfl,hs⟩,rfl,hsep⟩:=hV;obtain ⟨m,hm⟩:=y87 hg;have hlen:=Lib.splitB_all sep hc.2 0 _ s rfl;have hcnt:=Lib.countB_le sep hc.2 s.size s (v09 _);refine z8o hR rfl rfl (Does.of_calls Tryz.func46 (by kernel_rfl) (by kernel_rfl) ((Tryz.strings_Split s sep m w hc.1 hm hc.2).mono ?_))
   rintro e w' ⟨rfl,rfl⟩
   refine ⟨_,rfl,Keep.alloc _ w _,fun O hO=>?_⟩
   simp only [VRel]
   have:=yfa (w:=w) (w':=w.alloc (.cells ((z0s s sep).map Value.string).toArray 9)) hO (g:=w.heap.size) (v09 _) (heap_alloc_new w _) (l:=z0s s sep) (c:=Lib.countB s sep+1) (by unfold z0s; omega) (by unfold maxLen; omega) (by unfold z0s strMax; omega) (fun p hp=>v1p ((z97 sep _ s).2 p hp) hs)
   unfold z0s at this ⊢
   rw [hlen] at this;exact this
 ·simp [R.get] at hsp
theorem y0u {w:World} {O:Nat→Prop} {l:List IV} {x:Value} (h:Kd.Rel w O (.list false [.str]) (.list l) x):∃ p c,x = .slice p l.length c∧l.length≤c∧c≤maxLen∧l.length≤strMax∧∀ j y,l[j]?=some y→∃ b o,p=some ⟨b,o,none⟩∧b < w.heap.size∧w.cell? ⟨b,o+j,none⟩=some (.string y.toStr)∧y.toStr.size≤strMax:=by
 simp only [Kd.Rel,IV.toList] at h;obtain ⟨p,c,rfl,hc,hm,hl,hi⟩:=h;refine ⟨p,c,rfl,hc,hm,hl,fun j y hy=>?_⟩
 obtain ⟨b,o,rfl,_,hb,hr⟩:=hi j y hy;simp only [Kd.RelAll,v05,v0o,v0n,v40,v1m,v18] at hr;obtain ⟨u,hu,hs⟩:=hr;simp only [Kd.Rel,z2w] at hs;obtain ⟨rfl,hs⟩:=hs;exact ⟨b,o,rfl,hb,hu,hs⟩
theorem zfz:z2y PR B0 45 z6z:=by
 intro w X γ vs xs r out hsp hg hx hR hV;unfold z6z at hsp;simp only at hsp
 split at hsp
 ·rename_i l sep
  cases hc:(decide (l.length≤strMax)&&decide ((zar (l.map IV.toStr) sep).size≤strMax)) with
  | false=>rw [hc] at hsp; simp [R.get] at hsp
  | true=>
   rw [hc] at hsp;simp only [v02,v06] at hc;simp only [R.get,v00,v04] at hsp;obtain ⟨rfl,rfl⟩:=hsp;obtain ⟨x0,x1,rfl⟩:∃ x0 x1,xs=[x0,x1]:=by
    have:=hV.length
    simp at this
    match xs,this with
    | [a,b],_=>exact ⟨a,b,rfl⟩
   simp only [v0d,v16,z8s,VRels,VRel,v18] at hV;obtain ⟨h0,rfl,_⟩:=hV;obtain ⟨p,c,rfl,hc1,hc2,hc3,hcell⟩:=y0u h0;have hz:(zar (l.map IV.toStr) sep).size=(Lib.join ((l.map IV.toStr).map (·.data.toList)) sep.data.toList).length:=by
    show (Array.size (List.toArray _))=_;rw [v1n]
   have hle:=hc.2;rw [hz] at hle;unfold strMax at hle hc3;refine z8o hR rfl rfl (Does.of_calls Tryz.func45 (by kernel_rfl) (by kernel_rfl) (Calls.mono (R:=fun e w'=>e = .returned (.string (zar (l.map IV.toStr) sep))∧Below w.heap.size w w') ?_ ?_))
   ·cases l with
    | nil=>
     refine (Tryz.strings_Join_none p c sep w).mono ?_
     rintro e w' ⟨rfl,rfl⟩
     exact ⟨rfl,Below.refl _ _⟩
    | cons y r=>
     obtain ⟨b,o,rfl,hb,_⟩:=hcell 0 y rfl
     have:=Tryz.strings_Join b o c ((y :: r).map IV.toStr) sep w (fun j x hj=>by
      rw [v0x,v1d] at hj;obtain ⟨y',hj,rfl⟩:=hj;obtain ⟨b',o',hp,_,hu,_⟩:=hcell j y' hj;simp only [v00,Addr.mk.injEq,v18] at hp;obtain ⟨rfl,rfl⟩:=hp;exact hu) hb (by rw [v12]; omega) (by rw [v12]; omega) (by omega)
     rw [v12] at this;exact this
   ·rintro e w' ⟨rfl,hw⟩
    refine ⟨_,rfl,Keep.below hw,fun O _=>?_⟩
    simp only [VRel];exact ⟨trivial,by rw [hz]; unfold strMax; omega⟩
 ·simp [R.get] at hsp
theorem zbw:z2y PR B0 161 z3d:=by
 intro w X γ vs xs r out hsp hg hx hR hV;unfold z3d at hsp;simp only at hsp
 split at hsp
 ·rename_i l
  cases hc:decide (l.length≤4294967296) with
  | false=>rw [hc] at hsp; simp [R.get] at hsp
  | true=>
   rw [hc] at hsp;have hc:=v0f hc;simp only [R.get,v00,v04] at hsp;obtain ⟨rfl,rfl⟩:=hsp;obtain ⟨x0,rfl⟩:∃ x0,xs=[x0]:=by
    have:=hV.length
    simp at this
    match xs,this with
    | [a],_=>exact ⟨a,rfl⟩
   simp only [v0d,v16,z8s,VRels,VRel,v18] at hV;obtain ⟨p,c,rfl,hc1,hc2,hc3,hcell⟩:=y0u hV;have hel:∀ (w':World) (O:Nat→Prop) i y,l[i]?=some y→Kd.RelAll w' O [.str] (z2w false y) 0 (fun j u=>(l.map fun y=>Value.string y.toStr)[i*[Kd.str].length+j]?=some u):=fun w' O i y hy=>by
    obtain ⟨b,o,_,_,_,hs⟩:=hcell i y hy;simp only [Kd.RelAll,v05,v0o,v0n,v40,v1m,v18];refine ⟨.string y.toStr,by rw [v0x,hy]; rfl,?_⟩
    simp only [Kd.Rel,z2w];exact ⟨trivial,hs⟩
   refine y1r hR rfl (by decide) (by decide) hc3 (Does.of_calls Tryz.func161 (by kernel_rfl) (by kernel_rfl) ?_)
   cases p with
   | none=>
    have h0:l=[]:=by
     cases l with
     | nil=>rfl
     | cons y r=>
      obtain ⟨b,o,hp,_⟩:=hcell 0 y rfl;cases hp
    subst h0;refine (ybm _ c w).mono ?_
    rintro e w' ⟨rfl,rfl⟩
    exact ⟨_,[],rfl,Keep.refl _ _,⟨rfl,.inl ⟨rfl,rfl⟩⟩,hel _⟩
   | some a=>
    refine (ydd a l.length c (l.map fun y=>Value.string y.toStr) w (by rw [v12]) (by unfold maxLen; omega) (by omega) (fun j u hj=>?_) (fun u hu=>?_)).mono ?_
    ·rw [v0x,v1d] at hj
     obtain ⟨y,hj,rfl⟩:=hj;obtain ⟨b,o,hp,_,hu,_⟩:=hcell j y hj;simp only [v00] at hp;subst hp;rw [Addr.add_lit];exact hu
    ·rw [List.mem_map] at hu
     obtain ⟨y,_,rfl⟩:=hu
     rfl
    ·rintro e w' ⟨v',rfl,hown,hw⟩
     exact ⟨v',_,rfl,Keep.below hw,hown,hel _⟩
 ·simp [R.get] at hsp
def SpsOK:List (Nat × z0q)→Prop
 | []=>True
 | (f,sp) :: r=>z2y PR B0 f sp∧SpsOK r
theorem SpsOK.get:∀ {l:List (Nat × z0q)},SpsOK l→∀ f sp,lk l f=some sp→z2y PR B0 f sp
 | [],_,f,sp,h=>by simp [lk] at h
 | (g,sg) :: r,hs,f,sp,h=>by
  simp only [lk] at h
  split at h
  ·rename_i hb
   simp only [v00] at h;subst h;rw [← z1o.1 hb];exact hs.1
  ·exact SpsOK.get hs.2 f sp h
theorem z0i {f:Nat} {fn:Func} {code:Code} {rs:List ResultVar} {nt:Nat} (sps:List (Nat × z0q)) (lp:List (Nat × KP)) (sp:z0q) (rks:List (List Kd)) (hf:PR.funcs[f]?=some fn)
  (hc:(fn.name == "runtime.NumGoroutine")=false∧fn.body=some code∧fn.ntmps=nt∧Nat.ble nt 900000=true∧fn.results.toList=rs) (hs:SpsOK sps)
  (h:∀ vs r,(zc8 vs (z6e vs)→yfd vs)→(sp vs).get=some r→∃ N,z11 (mkE sps lp nt N) code rs rks vs=some r):z2y PR B0 f sp:=
 yc2 (mkE sps lp nt) sp rks hf hc (fun _=>rfl) yj2 (fun _=>ye2 rfl yjs) (fun _=>ye5 rfl yk2) (fun _=>hs.get) (fun _ f p hp=>by cases hp) (fun _ h=>ycq h) h
def IpsOK:List (Nat × Ip)→Prop
 | []=>True
 | (f,p) :: r=>zzs PR f p∧IpsOK r
theorem IpsOK.get:∀ {l:List (Nat × Ip)},IpsOK l→∀ f p,lk l f=some p→zzs PR f p
 | [],_,f,p,h=>by simp [lk] at h
 | (g,pg) :: r,hs,f,p,h=>by
  simp only [lk] at h
  split at h
  ·rename_i hb
   simp only [v00] at h;subst h;rw [← z1o.1 hb];exact hs.1
  ·exact IpsOK.get hs.2 f p h
theorem ybf {f:Nat} {fn:Func} {code:Code} {rs:List ResultVar} {nt:Nat} (sps:List (Nat × z0q)) (ips:List (Nat × Ip)) (lp:List (Nat × KP)) (sp:z0q) (rks:List (List Kd)) (hf:PR.funcs[f]?=some fn)
  (hc:(fn.name == "runtime.NumGoroutine")=false∧fn.body=some code∧fn.ntmps=nt∧Nat.ble nt 900000=true∧fn.results.toList=rs) (hs:SpsOK sps) (hi:IpsOK ips)
  (h:∀ vs r,(zc8 vs (z6e vs)→yfd vs)→(sp vs).get=some r→∃ N,z11 (mkI sps ips lp nt N) code rs rks vs=some r):z2y PR B0 f sp:=
 yc2 (mkI sps ips lp nt) sp rks hf hc (fun _=>rfl) yj2 (fun _=>ye2 rfl yjs) (fun _=>ye5 rfl yk2) (fun _=>hs.get) (fun _=>hi.get) (fun _ h=>ycq h) h
open Go Go.RowKit
theorem z19 {n:Int} (h0 : -9223372036854775808≤n) (h1:n≤9223372036854775807):IntKind.wrap .i64 n=n:=by
 have e:IntKind.wrap .i64 n=(n+9223372036854775808) % 18446744073709551616 - 9223372036854775808:=by
  simp [IntKind.wrap,IntKind.bits,IntKind.signed];omega
 rw [e];omega
theorem z9k {α:Type} {l:List α} {i:Nat} (h:i < l.length):decide ((i:Int) < ic l.length)=true:=by simp [ic]; omega
theorem zbh {α:Type} {l:List α} {i:Nat} (h:l.length≤i):decide ((i:Int) < ic l.length)=false:=by simp [ic]; omega
theorem zep {i:Nat}:decide (0≤(i:Int))=true:=by simp
theorem z82 {i:Nat} (h:i < 9223372036854775807):IntKind.wrap .i64 ((i:Int)+1)=((i+1:Nat):Int):=by rw [z19 (by omega) (by omega)]; rfl
theorem zah {α:Type} [Inhabited α] {l:List α} {i:Nat} (h:i < l.length):l.getD (i:Int).toNat default=l[i]:=by simp [h]
theorem zmi (a b:Int):decide (a≤b)=!decide (b < a):=by rw [v2w]; simp
theorem yct (a b:Int):decide (a > b)=decide (b < a):=rfl
theorem zkb (a b:Int):(a==b)=decide (a=b):=rfl
theorem ybi (a b:Int):(a != b)=!decide (a=b):=rfl
theorem z00 {α:Type _} (a b:α):cond true a b=a:=v4a (Eq.refl a) (Eq.refl a)
theorem z02 {α:Type _} (a b:α):cond false a b=b:=v4a (Eq.refl b) (Eq.refl b)
open Go
def zdj (n:Int):Int:=IntKind.wrap .i64 n
def y02 (n:Int):Int:=IntKind.wrap .u64 n
def zk0 (lo hi:Int):Int:=zdj (zdj (hi - lo)+1)
def zal (n lo hi:Int):Int:=cond (decide (n.tmod (zk0 lo hi) < 0)) (zdj (lo+zdj (zdj (zdj (n.tmod (zk0 lo hi)+hi) - lo)+1))) (zdj (lo+n.tmod (zk0 lo hi)))
abbrev zrc:ByteArray:=⟨#[45]⟩
abbrev ybw:ByteArray:=⟨#[46]⟩
abbrev yem:ByteArray:=⟨#[48]⟩
abbrev y8q:ByteArray:=⟨#[]⟩
def zak:z0q
 | []=>.ok (.int .u64 390625) []
 | _=>.no
def zus (r:Nat):List UInt8:=Lib.trimRightB (Lib.repeatL [48] (8 - (Lib.decDigits (r*390625)).length)++Lib.decDigits (r*390625)) 48
def zuj (u:Nat):List UInt8:=Lib.decDigits (u / 256)++(if u % 256=0 then [] else 46 :: zus (u % 256))
def zrh (n:Int):List UInt8:=if n < 0 then 45 :: zuj n.natAbs else zuj n.natAbs
def z0e (n:Int):ByteArray:=⟨(zrh n).toArray⟩
def z6m:z0q
 | [.int .i64 n]=>.ok (.str (z0e n)) []
 | _=>.no
def zbl:z0q
 | [.str s]=>.ok (.tup [.int .u64 (puV s),.bool (puN s)]) []
 | _=>.no
def zdo (s:ByteArray):ByteArray:=cutL (z1w s zrc) ybw
def z7f (s:ByteArray):ByteArray:=zkf (z1w s zrc) ybw
def zbx (s:ByteArray):ByteArray:=z7f s++zmf yem (8 - (z7f s).size)
def zf1 (s:ByteArray):Int:=y02 (y02 (puV (zdo s)*256)+puV (zbx s) / 390625)
def yc5 (s:ByteArray):Int:=zdj (cond (zmw s zrc) (y02 (0 - zf1 s)) (zf1 s))
def yg0 (s:ByteArray):Bool:=
 decide ((z7f s).size≤8)&&(puN (zdo s)&&(puN (zbx s)&&(decide (puV (zdo s)≤36028797018963968)&&(decide (puV (zbx s) % 390625=0)&&decide (z0e (yc5 s)=s)))))
def ziq (s:ByteArray):Int:=cond (yg0 s) (yc5 s) 0
def zas:z0q
 | [.str s]=>.br (decide (s.size < 4294967281)) (.ok (.tup [.int .i64 (ziq s),.bool (yg0 s)]) []) .no
 | _=>.no
open Go Go.Proofs
def y9f (N:Nat):Env:=mkE [] [(3,⟨[0,1,2],[],[]⟩)] 8 N
def y0v (N:Nat):Env:=mkE [(189,z6i)] [] 19 N
theorem zzk (N:Nat) (s:ByteArray):z11 (y0v N) zou [.tmp 2,.tmp 3] [[.int .u64],[.bool]] [(.str s)] =
 (cond (puN s)
 (cond (decide (0≤0)&&decide (0 < ic (ByteArray.size s)))
 (some ((.tup [(.int .u64 (puV s)),(.bool (ic (UInt8.toNat (List.getD (Array.toList (ByteArray.data s)) (Int.toNat 0) 0)) != 43))]),[]))
 none)
 (some ((.tup [(.int .u64 (puV s)),(.bool false)]),[]))):=by kernel_rfl
def y6q (N:Nat):Env:=mkE [(84,zak),(83,z5r),(86,z54),(85,z6g)] [] 38 N
theorem y17 (N:Nat) (n:Int):z11 (y6q N) ztk [.tmp 2] [[.str]] [(.i n)] =
 (cond (decide (n < 0))
 (cond (decide (ByteArray.size { data:=#[45] }+ByteArray.size (za8 (Int.fdiv (IntKind.wrap IntKind.u64 (0 - IntKind.wrap IntKind.u64 n)) (2 ^ min (Int.toNat 8) (IntKind.bits IntKind.u64))))≤strMax))
 (cond (IntKind.wrap IntKind.u64 (ic (BitVec.toNat (BitVec.ofInt (IntKind.bits IntKind.u64) (IntKind.wrap IntKind.u64 (0 - IntKind.wrap IntKind.u64 n)) &&& BitVec.ofInt (IntKind.bits IntKind.u64) 255)))==0)
 (some ((.str ({ data:=#[45] }++za8 (Int.fdiv (IntKind.wrap IntKind.u64 (0 - IntKind.wrap IntKind.u64 n)) (2 ^ min (Int.toNat 8) (IntKind.bits IntKind.u64))))),[]))
 (cond (decide (ByteArray.size ({ data:=#[45] }++za8 (Int.fdiv (IntKind.wrap IntKind.u64 (0 - IntKind.wrap IntKind.u64 n)) (2 ^ min (Int.toNat 8) (IntKind.bits IntKind.u64))))+ByteArray.size { data:=#[46] }≤strMax))
 (cond (decide (0≤IntKind.wrap IntKind.i64 (8 - ic (ByteArray.size (za8 (IntKind.wrap IntKind.u64 (IntKind.wrap IntKind.u64 (ic (BitVec.toNat (BitVec.ofInt (IntKind.bits IntKind.u64) (IntKind.wrap IntKind.u64 (0 - IntKind.wrap IntKind.u64 n)) &&& BitVec.ofInt (IntKind.bits IntKind.u64) 255)))*390625))))))&&decide (ByteArray.size { data:=#[48] }*Int.toNat (IntKind.wrap IntKind.i64 (8 - ic (ByteArray.size (za8 (IntKind.wrap IntKind.u64 (IntKind.wrap IntKind.u64 (ic (BitVec.toNat (BitVec.ofInt (IntKind.bits IntKind.u64) (IntKind.wrap IntKind.u64 (0 - IntKind.wrap IntKind.u64 n)) &&& BitVec.ofInt (IntKind.bits IntKind.u64) 255)))*390625))))))≤strMax))
 (cond (decide (ByteArray.size (zmf { data:=#[48] } (Int.toNat (IntKind.wrap IntKind.i64 (8 - ic (ByteArray.size (za8 (IntKind.wrap IntKind.u64 (IntKind.wrap IntKind.u64 (ic (BitVec.toNat (BitVec.ofInt (IntKind.bits IntKind.u64) (IntKind.wrap IntKind.u64 (0 - IntKind.wrap IntKind.u64 n)) &&& BitVec.ofInt (IntKind.bits IntKind.u64) 255)))*390625))))))))+ByteArray.size (za8 (IntKind.wrap IntKind.u64 (IntKind.wrap IntKind.u64 (ic (BitVec.toNat (BitVec.ofInt (IntKind.bits IntKind.u64) (IntKind.wrap IntKind.u64 (0 - IntKind.wrap IntKind.u64 n)) &&& BitVec.ofInt (IntKind.bits IntKind.u64) 255)))*390625)))≤strMax))
 (cond (decide (ByteArray.size ({ data:=#[45] }++za8 (Int.fdiv (IntKind.wrap IntKind.u64 (0 - IntKind.wrap IntKind.u64 n)) (2 ^ min (Int.toNat 8) (IntKind.bits IntKind.u64)))++{ data:=#[46] })+ByteArray.size (zfw (zmf { data:=#[48] } (Int.toNat (IntKind.wrap IntKind.i64 (8 - ic (ByteArray.size (za8 (IntKind.wrap IntKind.u64 (IntKind.wrap IntKind.u64 (ic (BitVec.toNat (BitVec.ofInt (IntKind.bits IntKind.u64) (IntKind.wrap IntKind.u64 (0 - IntKind.wrap IntKind.u64 n)) &&& BitVec.ofInt (IntKind.bits IntKind.u64) 255)))*390625)))))))++za8 (IntKind.wrap IntKind.u64 (IntKind.wrap IntKind.u64 (ic (BitVec.toNat (BitVec.ofInt (IntKind.bits IntKind.u64) (IntKind.wrap IntKind.u64 (0 - IntKind.wrap IntKind.u64 n)) &&& BitVec.ofInt (IntKind.bits IntKind.u64) 255)))*390625))) { data:=#[48] })≤strMax))
 (some ((.str ({ data:=#[45] }++za8 (Int.fdiv (IntKind.wrap IntKind.u64 (0 - IntKind.wrap IntKind.u64 n)) (2 ^ min (Int.toNat 8) (IntKind.bits IntKind.u64)))++{ data:=#[46] }++zfw (zmf { data:=#[48] } (Int.toNat (IntKind.wrap IntKind.i64 (8 - ic (ByteArray.size (za8 (IntKind.wrap IntKind.u64 (IntKind.wrap IntKind.u64 (ic (BitVec.toNat (BitVec.ofInt (IntKind.bits IntKind.u64) (IntKind.wrap IntKind.u64 (0 - IntKind.wrap IntKind.u64 n)) &&& BitVec.ofInt (IntKind.bits IntKind.u64) 255)))*390625)))))))++za8 (IntKind.wrap IntKind.u64 (IntKind.wrap IntKind.u64 (ic (BitVec.toNat (BitVec.ofInt (IntKind.bits IntKind.u64) (IntKind.wrap IntKind.u64 (0 - IntKind.wrap IntKind.u64 n)) &&& BitVec.ofInt (IntKind.bits IntKind.u64) 255)))*390625))) { data:=#[48] })),[]))
 none)
 none)
 none)
 none))
 none)
 (cond (decide (ByteArray.size { data:=#[] }+ByteArray.size (za8 (Int.fdiv (IntKind.wrap IntKind.u64 n) (2 ^ min (Int.toNat 8) (IntKind.bits IntKind.u64))))≤strMax))
 (cond (IntKind.wrap IntKind.u64 (ic (BitVec.toNat (BitVec.ofInt (IntKind.bits IntKind.u64) (IntKind.wrap IntKind.u64 n) &&& BitVec.ofInt (IntKind.bits IntKind.u64) 255)))==0)
 (some ((.str ({ data:=#[] }++za8 (Int.fdiv (IntKind.wrap IntKind.u64 n) (2 ^ min (Int.toNat 8) (IntKind.bits IntKind.u64))))),[]))
 (cond (decide (ByteArray.size ({ data:=#[] }++za8 (Int.fdiv (IntKind.wrap IntKind.u64 n) (2 ^ min (Int.toNat 8) (IntKind.bits IntKind.u64))))+ByteArray.size { data:=#[46] }≤strMax))
 (cond (decide (0≤IntKind.wrap IntKind.i64 (8 - ic (ByteArray.size (za8 (IntKind.wrap IntKind.u64 (IntKind.wrap IntKind.u64 (ic (BitVec.toNat (BitVec.ofInt (IntKind.bits IntKind.u64) (IntKind.wrap IntKind.u64 n) &&& BitVec.ofInt (IntKind.bits IntKind.u64) 255)))*390625))))))&&decide (ByteArray.size { data:=#[48] }*Int.toNat (IntKind.wrap IntKind.i64 (8 - ic (ByteArray.size (za8 (IntKind.wrap IntKind.u64 (IntKind.wrap IntKind.u64 (ic (BitVec.toNat (BitVec.ofInt (IntKind.bits IntKind.u64) (IntKind.wrap IntKind.u64 n) &&& BitVec.ofInt (IntKind.bits IntKind.u64) 255)))*390625))))))≤strMax))
 (cond (decide (ByteArray.size (zmf { data:=#[48] } (Int.toNat (IntKind.wrap IntKind.i64 (8 - ic (ByteArray.size (za8 (IntKind.wrap IntKind.u64 (IntKind.wrap IntKind.u64 (ic (BitVec.toNat (BitVec.ofInt (IntKind.bits IntKind.u64) (IntKind.wrap IntKind.u64 n) &&& BitVec.ofInt (IntKind.bits IntKind.u64) 255)))*390625))))))))+ByteArray.size (za8 (IntKind.wrap IntKind.u64 (IntKind.wrap IntKind.u64 (ic (BitVec.toNat (BitVec.ofInt (IntKind.bits IntKind.u64) (IntKind.wrap IntKind.u64 n) &&& BitVec.ofInt (IntKind.bits IntKind.u64) 255)))*390625)))≤strMax))
 (cond (decide (ByteArray.size ({ data:=#[] }++za8 (Int.fdiv (IntKind.wrap IntKind.u64 n) (2 ^ min (Int.toNat 8) (IntKind.bits IntKind.u64)))++{ data:=#[46] })+ByteArray.size (zfw (zmf { data:=#[48] } (Int.toNat (IntKind.wrap IntKind.i64 (8 - ic (ByteArray.size (za8 (IntKind.wrap IntKind.u64 (IntKind.wrap IntKind.u64 (ic (BitVec.toNat (BitVec.ofInt (IntKind.bits IntKind.u64) (IntKind.wrap IntKind.u64 n) &&& BitVec.ofInt (IntKind.bits IntKind.u64) 255)))*390625)))))))++za8 (IntKind.wrap IntKind.u64 (IntKind.wrap IntKind.u64 (ic (BitVec.toNat (BitVec.ofInt (IntKind.bits IntKind.u64) (IntKind.wrap IntKind.u64 n) &&& BitVec.ofInt (IntKind.bits IntKind.u64) 255)))*390625))) { data:=#[48] })≤strMax))
 (some ((.str ({ data:=#[] }++za8 (Int.fdiv (IntKind.wrap IntKind.u64 n) (2 ^ min (Int.toNat 8) (IntKind.bits IntKind.u64)))++{ data:=#[46] }++zfw (zmf { data:=#[48] } (Int.toNat (IntKind.wrap IntKind.i64 (8 - ic (ByteArray.size (za8 (IntKind.wrap IntKind.u64 (IntKind.wrap IntKind.u64 (ic (BitVec.toNat (BitVec.ofInt (IntKind.bits IntKind.u64) (IntKind.wrap IntKind.u64 n) &&& BitVec.ofInt (IntKind.bits IntKind.u64) 255)))*390625)))))))++za8 (IntKind.wrap IntKind.u64 (IntKind.wrap IntKind.u64 (ic (BitVec.toNat (BitVec.ofInt (IntKind.bits IntKind.u64) (IntKind.wrap IntKind.u64 n) &&& BitVec.ofInt (IntKind.bits IntKind.u64) 255)))*390625))) { data:=#[48] })),[]))
 none)
 none)
 none)
 none))
 none)):=by kernel_rfl
open Go Go.Proofs
open Go
theorem zbi {s t:ByteArray} (h:s.data.toList=t.data.toList):s=t:=ByteArray.ext (Array.ext' h)
theorem zqk (s t:ByteArray):(s.toList==t.toList)=decide (s=t):=by
 rw [Lib.toList_data,Lib.toList_data]
 by_cases h:s=t
 ·subst h; simp
 ·rw [v07 h,v1a]
  exact fun e=>h (zbi e)
theorem zdw (s:ByteArray):s.size=s.data.toList.length:=by rw [v14]; rfl
theorem y3q (u:Nat):∀ c∈Lib.decDigits u,48≤c.toNat∧c.toNat≤57:=by
 induction u using Nat.strongRecOn with
 | _ u ih=>
  intro c hc;rw [Lib.decDigits] at hc
  split at hc
  ·rename_i h
   simp only [v28] at hc;subst hc;rw [UInt8.toNat_ofNat_of_lt' (by simp [UInt8.size]; omega)]
   omega
  ·rename_i h
   rw [v0k,v28] at hc;rcases hc with hc | hc
   ·exact ih (u / 10) (by omega) c hc
   ·subst hc
    rw [UInt8.toNat_ofNat_of_lt' (by simp [UInt8.size]; omega)]
    omega
theorem y1m (u:Nat):Lib.decDigits u≠[]:=by
 rw [Lib.decDigits]
 split <;> simp
theorem zog:∀ (w r:List UInt8) (c:UInt8),c ∉ w→Lib.indexByte (w++c :: r) c=w.length
 | [],r,c,_=>by simp [Lib.indexByte]
 | b :: w,r,c,h=>by
  simp only [v15,not_or] at h;have e:(b==c)=false:=v1a.2 (fun e=>h.1 e.symm)
  have e2:((w.length:Int) == -1)=false:=by rw [v1a]; omega
  simp only [v1k,Lib.indexByte,e,zog w r c h.2,e2,v05];simp
theorem yg4 (w r:List UInt8) (c:UInt8) (h:c ∉ w):Lib.split (w++c :: r) [c]=w :: Lib.split r [c]:=by
 unfold Lib.split;have ec:Lib.count (w++c :: r) [c]=Lib.count r [c]+1:=by
  rw [Lib.count_one,Lib.count_one,List.count_append,List.count_eq_zero_of_not_mem h,List.count_cons_self,v0n]
 rw [ec,Lib.splitK,Lib.index_one,zog w r c h];have e2:((w.length:Int) == -1)=false:=by rw [v1a]; omega
 rw [e2];simp
theorem yfl (w:List UInt8) (c:UInt8) (h:c ∉ w):Lib.split w [c]=[w]:=by
 unfold Lib.split;rw [Lib.count_one,List.count_eq_zero_of_not_mem h]
 rfl
open Go
theorem yej {n m:Int} (h:0 < m) : -m < n.tmod m∧n.tmod m < m:=by
 constructor
 ·rcases Int.lt_or_le n 0 with hn | hn
  ·have e:n.tmod m = -((-n).tmod m):=by rw [Int.neg_tmod,Int.neg_neg]
   have:=Int.tmod_lt_of_pos (-n) h
   omega
  ·have:=Int.tmod_nonneg m hn
   omega
 ·exact Int.tmod_lt_of_pos n h
theorem yc0 {n lo hi:Int} (h:lo≤hi) (h0 : -2000000000000000000≤lo) (h1:hi≤2000000000000000000):zk0 lo hi=hi - lo+1∧lo≤zal n lo hi∧zal n lo hi≤hi:=by
 have e1:zdj (hi - lo)=hi - lo:=z19 (by omega) (by omega)
 have e2:zk0 lo hi=hi - lo+1:=by
  unfold zk0;rw [e1];exact z19 (by omega) (by omega)
 refine ⟨e2,?_⟩;unfold zal;rw [e2];obtain ⟨t0,t1⟩:=yej (n:=n) (m:=hi - lo+1) (by omega)
 generalize n.tmod (hi - lo+1)=q at t0 t1 ⊢
 cases hq:decide (q < 0) with
 | true=>
  have hq:=v0f hq;simp only [v2h];have a1:zdj (q+hi)=q+hi:=z19 (by omega) (by omega)
  have a2:zdj (q+hi - lo)=q+hi - lo:=z19 (by omega) (by omega)
  have a3:zdj (q+hi - lo+1)=q+hi - lo+1:=z19 (by omega) (by omega)
  have a4:zdj (lo+(q+hi - lo+1))=lo+(q+hi - lo+1):=z19 (by omega) (by omega)
  rw [a1,a2,a3,a4];omega
 | false=>
  have hq:=v0s hq;simp only [v1q];have a1:zdj (lo+q)=lo+q:=z19 (by omega) (by omega)
  rw [a1];omega
theorem yfh (n:Int):IntKind.wrap .u64 n=n % 18446744073709551616:=by simp [IntKind.wrap,IntKind.bits,IntKind.signed]
abbrev InR (n:Int):Prop := -9223372036854775808≤n∧n≤9223372036854775807
theorem yj9 {f:Nat→Bool} (h:(List.range 256).all f=true) {r:Nat} (hr:r < 256):f r=true:=v3a.1 h r (List.mem_range.2 hr)
def yge (r:Nat):Bool:=Nat.beq r 0||(Nat.ble (zus r).length 8&&((zus r).all (fun c=>Nat.ble 48 c.toNat&&Nat.ble c.toNat 57)&&(match (zus r).reverse with | []=>false | c :: _=>!(Nat.beq c.toNat 48))))
theorem yfg:(List.range 256).all yge=true:=by kernel_rfl
theorem yik {r:Nat} (h0:r≠0) (h:r < 256):(zus r).length≤8∧(∀ c∈zus r,48≤c.toNat∧c.toNat≤57)∧∃ l c,zus r=l++[c]∧c.toNat≠48:=by
 have:=yj9 yfg h
 unfold yge at this;simp only [v2v,v02,v3a] at this;rcases this with h1 | ⟨h1,h2,h3⟩
 ·exact absurd (v29 h1) h0
 ·refine ⟨v03 h1,fun c hc=>⟨v03 (h2 c hc).1,v03 (h2 c hc).2⟩,?_⟩
  cases hr:(zus r).reverse with
  | nil=>rw [hr] at h3; cases h3
  | cons c l=>
   rw [hr] at h3;refine ⟨l.reverse,c,?_,?_⟩
   ·have:=congrArg List.reverse hr
    simpa using this
   ·intro e
    have h3:(!c.toNat.beq 48)=true:=h3;rw [e] at h3;cases h3
theorem y8c (u:Nat):zuj u=Lib.decDigits (u / 256)++(if u % 256=0 then [] else 46 :: zus (u % 256)):=rfl
theorem ybn (v:Nat):∃ c r,Lib.decDigits v=c :: r∧48≤c.toNat∧c.toNat≤57:=by
 cases h:Lib.decDigits v with
 | nil=>exact absurd h (y1m v)
 | cons c r=>exact ⟨c,r,rfl,y3q v c (by rw [h]; exact v0a ..)⟩
theorem y9p (u:Nat):∃ c r,zuj u=c :: r∧48≤c.toNat∧c.toNat≤57:=by
 obtain ⟨c,r,h,h1⟩:=ybn (u / 256);exact ⟨c,r++_,by rw [y8c,h]; rfl,h1⟩
theorem y5i (n:Int):∃ c r,(z0e n).data.toList=c :: r∧c.toNat≠43:=by
 show ∃ c r,zrh n=c :: r∧c.toNat≠43;unfold zrh
 split
 ·exact ⟨45,_,rfl,by decide⟩
 ·obtain ⟨c,r,h,h1,_⟩:=y9p n.natAbs
  exact ⟨c,r,h,by omega⟩
theorem zel (n:Int) (hn:InR n):1≤(z0e n).size∧(z0e n).size≤40:=by
 obtain ⟨c,r,h,_⟩:=y5i n;refine ⟨by rw [zdw,h]; simp,?_⟩
 rw [zdw];show (zrh n).length≤40;have hs:(zuj n.natAbs).length≤30:=by
  rw [y8c,v08];have h1:(Lib.decDigits (n.natAbs / 256)).length≤20:=by
   have:=zqv (n:=((n.natAbs / 256:Nat):Int)) (by omega) (by obtain ⟨_,_⟩:=hn; omega)
   rw [zdw] at this;exact this
  split
  ·simp; omega
  ·rename_i h0
   have:=(yik h0 (by omega:n.natAbs % 256 < 256)).1
   simp only [v05];omega
 unfold zrh
 split
 ·simp only [v05]; omega
 ·omega
open Go
structure Qy where
 k:Int
 c:Int
 a0:Int
 b0:Int
 a1:Int
 b1:Int
 a2:Int
 b2:Int
 a3:Int
 b3:Int
 a4:Int
 b4:Int
 lo:Int
 hi:Int
 ft:Int
 fl:Bool
 bu:Int
def Qy.V (q:Qy):V:=.agg [.int .i64 q.k,.int .i64 q.c,.int .i64 q.a0,.int .i64 q.b0,.int .i64 q.a1,.int .i64 q.b1,.int .i64 q.a2,.int .i64 q.b2,.int .i64 q.a3,.int .i64 q.b3,.int .i64 q.a4,.int .i64 q.b4,.int .i64 q.lo,.int .i64 q.hi,.int .i64 q.ft,.bool q.fl,.int .i64 q.bu]
def Qy.none:Qy:=⟨0,0,0,0,0,0,0,0,0,0,0,0,0,0,0,false,0⟩
def Qy.eq (p q:Qy):Bool:=
 (p.k==q.k)&&((p.c==q.c)&&((p.a0==q.a0)&&((p.b0==q.b0)&&((p.a1==q.a1)&&((p.b1==q.b1)&&((p.a2==q.a2)&&((p.b2==q.b2)&&((p.a3==q.a3)&&((p.b3==q.b3)&&((p.a4==q.a4)&&((p.b4==q.b4)&&((p.lo==q.lo)&&((p.hi==q.hi)&&((p.ft==q.ft)&&((p.fl==q.fl)&&((p.bu==q.bu)&&true))))))))))))))))
def zg0 (q:Qy) (d:Int):Qy:=
 ⟨q.k,q.c,cond (decide (0 < d)) q.a0 0,cond (decide (0 < d)) q.b0 0,cond (decide (1 < d)) q.a1 0,cond (decide (1 < d)) q.b1 0,cond (decide (2 < d)) q.a2 0,cond (decide (2 < d)) q.b2 0,cond (decide (3 < d)) q.a3 0,cond (decide (3 < d)) q.b3 0,cond (decide (4 < d)) q.a4 0,cond (decide (4 < d)) q.b4 0,
  cond (q.k==1) q.lo 0,cond (q.k==1) q.hi 0,cond (q.k==3) q.ft 0,cond (q.k==3) q.fl false,q.bu⟩
def ze6:z0q
 | [.agg [.int .i64 k,.int .i64 c,.int .i64 a0,.int .i64 b0,.int .i64 a1,.int .i64 b1,.int .i64 a2,.int .i64 b2,.int .i64 a3,.int .i64 b3,.int .i64 a4,.int .i64 b4,.int .i64 lo,.int .i64 hi,.int .i64 ft,.bool fl,.int .i64 bu],.int .i64 d]=>
  .br (decide (0≤d)&&decide (d≤5)) (.ok (.agg [.int .i64 (zg0 ⟨k,c,a0,b0,a1,b1,a2,b2,a3,b3,a4,b4,lo,hi,ft,fl,bu⟩ d).k,.int .i64 (zg0 ⟨k,c,a0,b0,a1,b1,a2,b2,a3,b3,a4,b4,lo,hi,ft,fl,bu⟩ d).c,
   .int .i64 (zg0 ⟨k,c,a0,b0,a1,b1,a2,b2,a3,b3,a4,b4,lo,hi,ft,fl,bu⟩ d).a0,.int .i64 (zg0 ⟨k,c,a0,b0,a1,b1,a2,b2,a3,b3,a4,b4,lo,hi,ft,fl,bu⟩ d).b0,
   .int .i64 (zg0 ⟨k,c,a0,b0,a1,b1,a2,b2,a3,b3,a4,b4,lo,hi,ft,fl,bu⟩ d).a1,.int .i64 (zg0 ⟨k,c,a0,b0,a1,b1,a2,b2,a3,b3,a4,b4,lo,hi,ft,fl,bu⟩ d).b1,
   .int .i64 (zg0 ⟨k,c,a0,b0,a1,b1,a2,b2,a3,b3,a4,b4,lo,hi,ft,fl,bu⟩ d).a2,.int .i64 (zg0 ⟨k,c,a0,b0,a1,b1,a2,b2,a3,b3,a4,b4,lo,hi,ft,fl,bu⟩ d).b2,
   .int .i64 (zg0 ⟨k,c,a0,b0,a1,b1,a2,b2,a3,b3,a4,b4,lo,hi,ft,fl,bu⟩ d).a3,.int .i64 (zg0 ⟨k,c,a0,b0,a1,b1,a2,b2,a3,b3,a4,b4,lo,hi,ft,fl,bu⟩ d).b3,
   .int .i64 (zg0 ⟨k,c,a0,b0,a1,b1,a2,b2,a3,b3,a4,b4,lo,hi,ft,fl,bu⟩ d).a4,.int .i64 (zg0 ⟨k,c,a0,b0,a1,b1,a2,b2,a3,b3,a4,b4,lo,hi,ft,fl,bu⟩ d).b4,
   .int .i64 (zg0 ⟨k,c,a0,b0,a1,b1,a2,b2,a3,b3,a4,b4,lo,hi,ft,fl,bu⟩ d).lo,.int .i64 (zg0 ⟨k,c,a0,b0,a1,b1,a2,b2,a3,b3,a4,b4,lo,hi,ft,fl,bu⟩ d).hi,
   .int .i64 (zg0 ⟨k,c,a0,b0,a1,b1,a2,b2,a3,b3,a4,b4,lo,hi,ft,fl,bu⟩ d).ft,.bool (zg0 ⟨k,c,a0,b0,a1,b1,a2,b2,a3,b3,a4,b4,lo,hi,ft,fl,bu⟩ d).fl,
   .int .i64 (zg0 ⟨k,c,a0,b0,a1,b1,a2,b2,a3,b3,a4,b4,lo,hi,ft,fl,bu⟩ d).bu]) []) .no
 | _=>.no
def zha (n:Int):Bool:=decide (0≤n)&&decide (n≤1073741824)
def zcj:z0q
 | [.int .i64 n]=>.ok (.bool (zha n)) []
 | _=>.no
def z8z:z0q
 | [.str s]=>.ok (.int .i64 (z6t s)) []
 | _=>.no
def zap:z0q
 | [.str s]=>.br (decide (s.size < 4294967281)) (.ok (.int .i64 (ziq s)) []) .no
 | _=>.no
abbrev znu:ByteArray:=⟨#[114,97,110,103,101]⟩
abbrev zvs:ByteArray:=⟨#[98,101,115,116]⟩
abbrev zmt:ByteArray:=⟨#[114,105,115,101,115]⟩
abbrev zkc:ByteArray:=⟨#[102,97,108,108,115]⟩
abbrev yea:ByteArray:=⟨#[102,114,111,109]⟩
abbrev yko:ByteArray:=⟨#[116,111]⟩
abbrev yjo:ByteArray:=⟨#[98,121]⟩
abbrev ygp:ByteArray:=⟨#[105,110]⟩
abbrev zfl:ByteArray:=⟨#[98,117,100,103,101,116]⟩
abbrev y79:ByteArray:=⟨#[46,46]⟩
abbrev z4u:ByteArray:=⟨#[32]⟩
def y9v (a b:Int):ByteArray:=z0e a++y79++z0e b
def yag (q:Qy):List ByteArray:=
 cond (q.k==1) [znu,z0p q.c,yea,z0e q.lo,yko,z0e q.hi]
 (cond (q.k==2) [zvs,z0p q.c] [cond q.fl zkc zmt,z0p q.c,yjo,z0p q.ft])
def Qy.spans (q:Qy):List (Int × Int):=[(q.a0,q.b0),(q.a1,q.b1),(q.a2,q.b2),(q.a3,q.b3),(q.a4,q.b4)]
def ydt (q:Qy) (d:Nat):List ByteArray:=yag q++ygp :: ((q.spans.take d).map fun s=>y9v s.1 s.2)++[zfl,z0p q.bu]
def okQ (q:Qy) (d:Int):Bool:=
 (!(decide (d < 1))&&!(decide (d > 4)))&&(q.eq (zg0 q d)&&(zha q.c&&(zha q.ft&&(zha q.bu&&((q.k==1)||((q.k==2)||(q.k==3)))))))
def y0e (q:Qy) (d:Int):ByteArray:=cond (okQ q d) (zar (ydt q d.toNat) z4u) y8q
def zd6:z0q
 | [.agg [.int .i64 k,.int .i64 c,.int .i64 a0,.int .i64 b0,.int .i64 a1,.int .i64 b1,.int .i64 a2,.int .i64 b2,.int .i64 a3,.int .i64 b3,.int .i64 a4,.int .i64 b4,.int .i64 lo,.int .i64 hi,.int .i64 ft,.bool fl,.int .i64 bu],.int .i64 d]=>
  .ok (.str (y0e ⟨k,c,a0,b0,a1,b1,a2,b2,a3,b3,a4,b4,lo,hi,ft,fl,bu⟩ d)) []
 | _=>.no
def wAt (l:List IV) (i:Nat):ByteArray:=(l.getD i default).toStr
def z2z (l:List IV):Qy:=
 cond ((wAt l 0).toList==znu.toList) ⟨1,z6t (wAt l 1),0,0,0,0,0,0,0,0,0,0,ziq (wAt l 3),ziq (wAt l 5),0,false,0⟩
 (cond ((wAt l 0).toList==zvs.toList) ⟨2,z6t (wAt l 1),0,0,0,0,0,0,0,0,0,0,0,0,0,false,0⟩
 (cond ((wAt l 0).toList==zmt.toList||(wAt l 0).toList==zkc.toList) ⟨3,z6t (wAt l 1),0,0,0,0,0,0,0,0,0,0,0,0,z6t (wAt l 3),(wAt l 0).toList==zkc.toList,0⟩
 ⟨0,z6t (wAt l 1),0,0,0,0,0,0,0,0,0,0,0,0,0,false,0⟩))
def ze7:z0q
 | [.list false [.str] l]=>.br (decide (l.length≤4294967290)&&l.all (fun x=>decide (x.toStr.size < 4294967281)))
  (.ok (.agg [.int .i64 (z2z l).k,.int .i64 (z2z l).c,.int .i64 (z2z l).a0,.int .i64 (z2z l).b0,.int .i64 (z2z l).a1,.int .i64 (z2z l).b1,.int .i64 (z2z l).a2,.int .i64 (z2z l).b2,.int .i64 (z2z l).a3,.int .i64 (z2z l).b3,.int .i64 (z2z l).a4,.int .i64 (z2z l).b4,
   .int .i64 (z2z l).lo,.int .i64 (z2z l).hi,.int .i64 (z2z l).ft,.bool (z2z l).fl,.int .i64 (z2z l).bu]) []) .no
 | _=>.no
def spA (l:List IV) (i:Nat):Int:=ziq (cutL (wAt l i) y79)
def spB (l:List IV) (i:Nat):Int:=ziq (zkf (wAt l i) y79)
def ykv (l:List IV) (i d:Nat):Qy:=
 ⟨(
  z2z (l.take i)).k,(z2z (l.take i)).c,
  cond (Nat.blt 0 d) (spA l (i+1)) 0,cond (Nat.blt 0 d) (spB l (i+1)) 0,cond (Nat.blt 1 d) (spA l (i+2)) 0,cond (Nat.blt 1 d) (spB l (i+2)) 0,cond (Nat.blt 2 d) (spA l (i+3)) 0,cond (Nat.blt 2 d) (spB l (i+3)) 0,cond (Nat.blt 3 d) (spA l (i+4)) 0,cond (Nat.blt 3 d) (spB l (i+4)) 0,0,0,
  (z2z (l.take i)).lo,(z2z (l.take i)).hi,(z2z (l.take i)).ft,(z2z (l.take i)).fl,z6t (wAt l (l.length - 1))⟩
def zad (s:ByteArray):List IV:=(z0s s z4u).map IV.str
def zpn (s:ByteArray):Int:=zfd (zad s) ygp 0
def zqr (s:ByteArray):Int:=ic (zad s).length - 2 - zpn s - 1
def yhh (s:ByteArray):Qy:=ykv (zad s) (zpn s).toNat (zqr s).toNat
def y4v (s:ByteArray):Bool:=(!(decide (zpn s < 0))&&(!(decide (zqr s < 1))&&!(decide (zqr s > 4))))&&(y0e (yhh s) (zqr s)).toList==s.toList
def zkh (s:ByteArray):Qy:=cond (y4v s) (yhh s) Qy.none
def yi1 (s:ByteArray):Int:=cond (y4v s) (zqr s) 0
def zda:z0q
 | [.str s]=>.br (decide (s.size < 4294967281))
  (.ok (.tup [.agg [.int .i64 (zkh s).k,.int .i64 (zkh s).c,.int .i64 (zkh s).a0,.int .i64 (zkh s).b0,.int .i64 (zkh s).a1,.int .i64 (zkh s).b1,.int .i64 (zkh s).a2,.int .i64 (zkh s).b2,.int .i64 (zkh s).a3,.int .i64 (zkh s).b3,.int .i64 (zkh s).a4,.int .i64 (zkh s).b4,
   .int .i64 (zkh s).lo,.int .i64 (zkh s).hi,.int .i64 (zkh s).ft,.bool (zkh s).fl,.int .i64 (zkh s).bu],.int .i64 (yi1 s),.bool (y4v s)]) []) .no
 | _=>.no
open Go
def yam (l:List IV) (i:Int):Int:=cond (ic l.length==0) 0 (l.getD (i.tmod (ic l.length)).toNat default).toInt
def z1u (n:Int):Bool:=decide (-2147483648≤n)&&decide (n≤2147483647)
def z6u:z0q
 | [.int .i64 n,.int .i64 w]=>.br (decide (w=32)) (.ok (.bool (z1u n)) []) .no
 | _=>.no
def y3n (lf:Bool) (v f a l r:Int):Bool:=
 cond lf (z1u v&&((f==0)&&((a==0)&&((l==0)&&(r==0)))))
  ((v==0)&&(decide (0≤f)&&(decide (f < 4)&&(z1u a&&(decide (1≤l)&&(decide (l < 31)&&(decide (1≤r)&&decide (r < 31))))))))
def z41:z0q
 | [.agg [.bool lf,.int .i64 v,.int .i64 f,.int .i64 a,.int .i64 l,.int .i64 r]]=>.ok (.bool (y3n lf v f a l r)) []
 | _=>.no
def ykh (a b:Int):Int:=y02 (ic (BitVec.toNat (BitVec.ofInt (IntKind.bits IntKind.u64) a &&& BitVec.ofInt (IntKind.bits IntKind.u64) b)))
def orU (a b:Int):Int:=y02 (ic (BitVec.toNat (BitVec.ofInt (IntKind.bits IntKind.u64) a ||| BitVec.ofInt (IntKind.bits IntKind.u64) b)))
def yiw (a:Int) (k:Nat):Int:=y02 (a*2 ^ k)
def zym (lf:Bool) (v f a l r:Int):Int:=
 cond (y3n lf v f a l r)
  (cond lf (orU 9223372036854775808 (ykh (y02 v) 4294967295))
   (orU (orU (orU (ykh (y02 a) 4294967295) (yiw (y02 f) 32)) (yiw (y02 l) 40)) (yiw (y02 r) 48)))
  0
def z6s:z0q
 | [.agg [.bool lf,.int .i64 v,.int .i64 f,.int .i64 a,.int .i64 l,.int .i64 r]]=>.ok (.int .u64 (zym lf v f a l r)) []
 | _=>.no
def mkN (lf:Bool) (v f a l r:Int):IV:=.agg [.bool lf,.int v,.int f,.int a,.int l,.int r]
def yhp (v:Int):IV:=mkN true v 0 0 0 0
def yl3 (x:IV):IV:=.int (zym (x.cell 0).toBool (x.cell 1).toInt (x.cell 2).toInt (x.cell 3).toInt (x.cell 4).toInt (x.cell 5).toInt)
structure Ns where
 nodes:List IV
 leaves:List IV
def nsK (part:List IV) (i:Nat) (s:Ns):Int:=zal (part.getD i default).toInt 0 (ic s.leaves.length - 1)
def ylr (part:List IV) (i:Nat) (s:Ns):Int:=(s.leaves.getD (nsK part i s).toNat default).toInt
def y3b (part byl atl val:List IV) (dim:Int) (i:Nat) (s:Ns):Ns:=
 ⟨s.nodes.set (ylr part i s).toNat (mkN false 0 (zal (yam byl (i:Int)) 0 (dim - 1)) (zal (yam atl (i:Int)) 0 9) (ic s.nodes.length) (ic s.nodes.length+1)) ++
   [yhp (zal (yam val (2*(i:Int)+1)) (-3000) 3000),yhp (zal (yam val (2*(i:Int)+2)) (-3000) 3000)],
  s.leaves.take (nsK part i s).toNat++s.leaves.drop ((nsK part i s).toNat+1)++[.int (ic s.nodes.length),.int (ic s.nodes.length+1)]⟩
def yka (part byl atl val:List IV) (dim:Int):Nat→Nat→Ns→Ns
 | 0,_,s=>s
 | d+1,i,s=>yka part byl atl val dim d (i+1) (y3b part byl atl val dim i s)
def yk5 (part byl atl val:List IV) (dim:Int):Ns:=yka part byl atl val dim (min part.length 7) 0 ⟨[yhp (zal (yam val 0) (-3000) 3000)],[.int 0]⟩
def yjd (part byl atl val:List IV) (dim:Int):List IV:=(yk5 part byl atl val dim).nodes.map yl3
def ylj (d:Int):Int:=zal d 1 3
def yl5 (c:Int):Int:=zal c 1 3
def yhv (c:Int) (bias:List IV) (j:Int):Int:=cond (decide (j < yl5 c)) (zal (yam bias j) (-500) 500) 0
def ylb (d c:Int) (t:IV):IV:=.agg [.int (zal (t.cell 0).toInt 0 (yl5 c - 1)),.list (yjd (t.cell 1).toList (t.cell 2).toList (t.cell 3).toList (t.cell 4).toList (ylj d))]
def yj0 (d c:Int) (ts:List IV):List IV:=(ts.take 4).map (ylb d c)
structure Ak where
 k:Int
 c:Int
 lo:Int
 size:Int
 ft:Int
 bu:Int
 fl:Bool
 sp:List IV
open Go Go.Proofs
def zpv (N:Nat):Env:=mkE [] [] 27 N
theorem zmo (N:Nat) (n w:Int):z11 (zpv N) zfy [.tmp 4] [[.bool]] [(.i n),(.i w)]=(cond (decide (w < 1)) (some ((.bool false),[])) (cond (decide (w > 64)) (some ((.bool false),[])) (cond (w==64) (some ((.bool true),[])) (cond (decide (IntKind.wrap IntKind.i64 (w - 1) < 0)) none (cond (decide (n≥IntKind.wrap IntKind.i64 (0 - IntKind.wrap IntKind.i64 (1*2 ^ min (Int.toNat (IntKind.wrap IntKind.i64 (w - 1))) (IntKind.bits IntKind.i64))))) (some ((.bool (decide (n≤IntKind.wrap IntKind.i64 (IntKind.wrap IntKind.i64 (1*2 ^ min (Int.toNat (IntKind.wrap IntKind.i64 (w - 1))) (IntKind.bits IntKind.i64)) - 1)))),[])) (some ((.bool false),[]))))))):=by kernel_rfl
def zhp (N:Nat):Env:=mkE [(160,z6u)] [] 66 N
theorem zgh (N:Nat) (u01:Bool) (u04 u00 n_At u02 u03:Int):z11 (zhp N) zbr [.tmp 2] [[.bool]] [(.agg [(.bool u01),(.i u04),(.i u00),(.i n_At),(.i u02),(.i u03)])]=(cond u01 (cond (z1u u04) (cond (u00==0) (cond (n_At==0) (cond (u02==0) (some ((.bool (u03==0)),[])) (some ((.bool false),[]))) (some ((.bool false),[]))) (some ((.bool false),[]))) (some ((.bool false),[]))) (cond (u04==0) (cond (decide (u00≥0)) (cond (decide (u00 < 4)) (cond (z1u n_At) (cond (decide (u02≥1)) (cond (decide (u02 < 31)) (cond (decide (u03≥1)) (some ((.bool (decide (u03 < 31))),[])) (some ((.bool false),[]))) (some ((.bool false),[]))) (some ((.bool false),[]))) (some ((.bool false),[]))) (some ((.bool false),[]))) (some ((.bool false),[]))) (some ((.bool false),[])))):=by kernel_rfl
def zpm (N:Nat):Env:=mkE [(117,z41)] [] 32 N
theorem zo5 (N:Nat) (u01:Bool) (u04 u00 n_At u02 u03:Int):z11 (zpm N) zfx [.tmp 2] [[.int .u64]] [(.agg [(.bool u01),(.i u04),(.i u00),(.i n_At),(.i u02),(.i u03)])]=(cond (!y3n u01 u04 u00 n_At u02 u03) (some ((.int .u64 0),[])) (cond u01 (some ((.int .u64 (IntKind.wrap IntKind.u64 (ic (BitVec.toNat (BitVec.ofInt (IntKind.bits IntKind.u64) 9223372036854775808 ||| BitVec.ofInt (IntKind.bits IntKind.u64) (IntKind.wrap IntKind.u64 (ic (BitVec.toNat (BitVec.ofInt (IntKind.bits IntKind.u64) (IntKind.wrap IntKind.u64 u04) &&& BitVec.ofInt (IntKind.bits IntKind.u64) 4294967295))))))))),[])) (some ((.int .u64 (IntKind.wrap IntKind.u64 (ic (BitVec.toNat (BitVec.ofInt (IntKind.bits IntKind.u64) (IntKind.wrap IntKind.u64 (ic (BitVec.toNat (BitVec.ofInt (IntKind.bits IntKind.u64) (IntKind.wrap IntKind.u64 (ic (BitVec.toNat (BitVec.ofInt (IntKind.bits IntKind.u64) (IntKind.wrap IntKind.u64 (ic (BitVec.toNat (BitVec.ofInt (IntKind.bits IntKind.u64) (IntKind.wrap IntKind.u64 n_At) &&& BitVec.ofInt (IntKind.bits IntKind.u64) 4294967295)))) ||| BitVec.ofInt (IntKind.bits IntKind.u64) (IntKind.wrap IntKind.u64 (IntKind.wrap IntKind.u64 u00*2 ^ min (Int.toNat 32) (IntKind.bits IntKind.u64))))))) ||| BitVec.ofInt (IntKind.bits IntKind.u64) (IntKind.wrap IntKind.u64 (IntKind.wrap IntKind.u64 u02*2 ^ min (Int.toNat 40) (IntKind.bits IntKind.u64))))))) ||| BitVec.ofInt (IntKind.bits IntKind.u64) (IntKind.wrap IntKind.u64 (IntKind.wrap IntKind.u64 u03*2 ^ min (Int.toNat 48) (IntKind.bits IntKind.u64)))))))),[])))):=by kernel_rfl
open Go Go.Proofs
open Go Go.Proofs
theorem zlr:z2y PR B0 160 z6u:=by
 refine z0i [] [] z6u [[.bool]] Tryz.func160 zpw trivial ?_;intro vs r hwf h;unfold z6u at h
 split at h
 ·rename_i n w
  cases hc:decide (w=32) with
  | false=>rw [hc] at h; simp [R.get] at h
  | true=>
   rw [hc,R.get_br,z00,R.get_ok] at h;have hc:=v0f hc;subst hc;refine ⟨0,?_⟩;rw [← h];refine (zmo 0 n 32).trans ?_;have e1:IntKind.wrap IntKind.i64 (0 - IntKind.wrap IntKind.i64 (1*2 ^ min (Int.toNat (IntKind.wrap IntKind.i64 ((32:Int) - 1))) (IntKind.bits IntKind.i64))) = -2147483648:=by kernel_rfl
   have e2:IntKind.wrap IntKind.i64 (IntKind.wrap IntKind.i64 (1*2 ^ min (Int.toNat (IntKind.wrap IntKind.i64 ((32:Int) - 1))) (IntKind.bits IntKind.i64)) - 1)=2147483647:=by kernel_rfl
   have e3:decide (IntKind.wrap IntKind.i64 ((32:Int) - 1) < 0)=false:=by kernel_rfl
   rw [e1,e2,e3];unfold z1u;have e4:decide (n ≥ -2147483648)=decide (-2147483648≤n):=rfl;rw [e4];cases decide (-2147483648≤n) <;> rfl
 ·simp [R.get] at h
theorem y4d (a b:Bool):cond a (some (V.bool b,[])) (some (V.bool false,[]))=(some (V.bool (a&&b),[]):Res):=by cases a <;> rfl
theorem zfn:z2y PR B0 117 z41:=by
 refine z0i [(160,z6u)] [] z41 [[.bool]] Tryz.func117 zgk ⟨zlr,trivial⟩ ?_;intro vs r hwf h;unfold z41 at h
 split at h
 ·rename_i lf v f a l r'
  refine ⟨0,?_⟩;rw [← h];refine (zgh 0 lf v f a l r').trans ?_;simp only [R.get_ok,y4d];unfold y3n;cases lf with
  | true=>rfl
  | false=>rfl
 ·simp [R.get] at h
theorem zm8:z2y PR B0 71 z6s:=by
 refine z0i [(117,z41)] [] z6s [[.int .u64]] Tryz.func71 zpt ⟨zfn,trivial⟩ ?_;intro vs r hwf h;unfold z6s at h
 split at h
 ·rename_i lf v f a l r'
  refine ⟨0,?_⟩;rw [← h];refine (zo5 0 lf v f a l r').trans ?_;unfold zym;cases y3n lf v f a l r' with
  | false=>rfl
  | true=>cases lf <;> rfl
 ·simp [R.get] at h
open Go
def z6d:z0q
 | [.int .i64 n,.int .i64 w]=>.br (decide (w=32)) (.ok (.bool (z1u n)) []) .no
 | _=>.no
def z7i:z0q
 | [.int .i64 a,.int .i64 w]=>.br (decide (0≤a)&&decide (a < 64)) (.ok (.bool (decide (1≤w)&&decide (w≤64 - a))) []) .no
 | _=>.no
def y6k (w:Int):Int:=(18446744073709551615:Int).fdiv (2 ^ (64 - w).toNat)
def z8x:z0q
 | [.int .i64 w]=>.br (decide (1≤w)&&decide (w≤64)) (.ok (.int .u64 (y6k w)) []) .no
 | _=>.no
def yif (a b:Int):Int:=y02 (ic (BitVec.toNat (BitVec.ofInt (IntKind.bits IntKind.u64) a &&& ~~~ (BitVec.ofInt (IntKind.bits IntKind.u64) b))))
def ybl (x a w y:Int):Int:=orU (yif x (yiw (y6k w) a.toNat)) (ykh (yiw y a.toNat) (yiw (y6k w) a.toNat))
def zp2 (x a w:Int):Int:=ykh (x.fdiv (2 ^ a.toNat)) (y6k w)
def ze8:z0q
 | [.int .u64 x,.int .i64 a,.int .i64 w,.int .u64 y]=>.br (decide (0≤a)&&(decide (a < 64)&&(decide (1≤w)&&decide (w≤64 - a)))) (.ok (.int .u64 (ybl x a w y)) []) .no
 | _=>.no
def z7s:z0q
 | [.int .u64 x,.int .i64 a,.int .i64 w]=>.br (decide (0≤a)&&(decide (a < 64)&&(decide (1≤w)&&decide (w≤64 - a)))) (.ok (.int .u64 (zp2 x a w)) []) .no
 | _=>.no
def ybq (n:Int):Int:=(zdj (n*2 ^ 32)).fdiv (2 ^ 32)
def zcl:z0q
 | [.int .i64 n,.int .i64 w]=>.br (decide (w=32)) (.ok (.int .i64 (ybq n)) []) .no
 | _=>.no
def zn5 (x:Int):Int:=ybq (zdj (zp2 x 0 32))
def z9l:z0q
 | [.int .u64 x,.int .i64 a,.int .i64 w]=>.br (decide (a=0)&&decide (w=32)) (.ok (.int .i64 (zn5 x)) []) .no
 | _=>.no
structure Nd where
 lf:Bool
 v:Int
 f:Int
 a:Int
 l:Int
 r:Int
def Nd.eq (x y:Nd):Bool:=(x.lf==y.lf)&&((x.v==y.v)&&((x.f==y.f)&&((x.a==y.a)&&((x.l==y.l)&&((x.r==y.r)&&true)))))
def Nd.zero:Nd:=⟨false,0,0,0,0,0⟩
def zlk (n:Int):Bool:=decide (1≤n)&&decide (n < 31)
def zb4:z0q
 | [.int .i64 n]=>.ok (.bool (zlk n)) []
 | _=>.no
def zaq (x:Nd):Bool:=
 cond x.lf (x.eq ⟨true,x.v,0,0,0,0⟩&&z1u x.v)
  ((x.v==0)&&(decide (0≤x.f)&&(decide (x.f < 4)&&(z1u x.a&&(zlk x.l&&zlk x.r)))))
def zbm:z0q
 | [.agg [.bool lf,.int .i64 v,.int .i64 f,.int .i64 a,.int .i64 l,.int .i64 r]]=>.ok (.bool (zaq ⟨lf,v,f,a,l,r⟩)) []
 | _=>.no
def z7z (x:Nd):Int:=
 cond (zaq x)
  (cond x.lf (ybl 9223372036854775808 0 32 (y02 x.v))
   (ybl (ybl (ybl (ybl 0 0 32 (y02 x.a)) 32 4 (y02 x.f)) 40 8 (y02 x.l)) 48 8 (y02 x.r)))
  0
def z95:z0q
 | [.agg [.bool lf,.int .i64 v,.int .i64 f,.int .i64 a,.int .i64 l,.int .i64 r]]=>.ok (.int .u64 (z7z ⟨lf,v,f,a,l,r⟩)) []
 | _=>.no
def zrg (w:Int):Nd:=
 cond (zp2 w 63 1==0) ⟨false,0,zdj (zp2 w 32 4),zn5 w,zdj (zp2 w 40 8),zdj (zp2 w 48 8)⟩ ⟨true,zn5 w,0,0,0,0⟩
def zau (w:Int):Bool:=!(w==0)&&(z7z (zrg w)==w)
def z07 (w:Int):Nd:=cond (zau w) (zrg w) Nd.zero
def z1y:z0q
 | [.int .u64 w]=>.ok (.tup [.agg [.bool (z07 w).lf,.int .i64 (z07 w).v,.int .i64 (z07 w).f,.int .i64 (z07 w).a,.int .i64 (z07 w).l,.int .i64 (z07 w).r],.bool (zau w)]) []
 | _=>.no
def z7c:z0q
 | [.int .i64 a,.int .i64 w,.bor [.int .u64 x]]=>.br (decide (0≤a)&&(decide (a < 64)&&(decide (1≤w)&&decide (w≤64 - a)))) (.ok (.int .i64 (zdj (zp2 x a w))) [[.int .u64 x]]) .no
 | _=>.no
def zdt (x:Nd) (j:Nat):Nat:=cond x.lf 0 ((if x.l=(j:Int) then 1 else 0)+(if x.r=(j:Int) then 1 else 0))
def z5j (l:List IV) (j:Nat):Nat:=(l.map fun w=>zdt (z07 w.toInt) j).sum
def zy0 (dim n:Int) (i:Nat) (x:Nd):Bool:=
 cond x.lf true (!(decide (x.f≥dim))&&(!(x.l==x.r)&&(!(decide (min x.l x.r≤(i:Int)))&&!(decide (max x.l x.r≥n)))))
def zd5 (dim n:Int):Nat→List IV→Bool
 | _,[]=>true
 | i,w :: r=>(zau w.toInt&&zy0 dim n i (z07 w.toInt))&&zd5 dim n (i+1) r
def ycc (l:List IV):Bool:=(List.range (l.length - 1)).all fun j=>z5j l (j+1)==1
def z94 (l:List IV) (dim:Int):Bool:=(Nat.ble 1 l.length&&Nat.ble l.length 31)&&(zd5 dim (ic l.length) 0 l&&ycc l)
def z7l:z0q
 | [.list false [.int .u64] l,.int .i64 dim]=>.ok (.bool (z94 l dim)) []
 | _=>.no
structure Md where
 d:Int
 c:Int
 b0:Int
 b1:Int
 b2:Int
 ts:List IV
def z81 (d c:Int) (t:IV):Bool:=!(decide ((t.cell 0).toInt < 0))&&(!(decide ((t.cell 0).toInt≥c))&&z94 (t.cell 1).toList d)
def zga (c j b:Int):Bool:=z1u b&&!(decide (j≥c)&&!(b==0))
def z2b (m:Md):Bool:=
 (!(decide (m.d < 1))&&(!(decide (m.d > 4))&&(!(decide (m.c < 1))&&(!(decide (m.c > 3))&&Nat.ble m.ts.length 8)))) &&
  ((zga m.c 0 m.b0&&(zga m.c 1 m.b1&&zga m.c 2 m.b2))&&m.ts.all (z81 m.d m.c))
abbrev zjw:List Kd:=[.int .i64,.list false [.int .u64]]
def z4w:z0q
 | [.agg [.int .i64 k,.list false [.int .u64] l],.bor [.int .i64 d,.int .i64 c,.int .i64 b0,.int .i64 b1,.int .i64 b2,.list true [.int .i64,.list false [.int .u64]] ts]]=>
  .ok (.bool (!(z81 d c (.agg [.int k,.list l])))) [[.int .i64 d,.int .i64 c,.int .i64 b0,.int .i64 b1,.int .i64 b2,.list true zjw ts]]
 | _=>.no
def zqi (d c:Int):List IV→Int→Int
 | [],_ => -1
 | t :: r,i=>cond (z81 d c t) (zqi d c r (i+1)) i
def z1j:z0q
 | [.list true [.int .i64,.list false [.int .u64]] l,.clo 95 [.bor [.int .i64 d,.int .i64 c,.int .i64 b0,.int .i64 b1,.int .i64 b2,.list true [.int .i64,.list false [.int .u64]] ts]]]=>
  .ok (.int .i64 (zqi d c l 0)) [[.int .i64 d,.int .i64 c,.int .i64 b0,.int .i64 b1,.int .i64 b2,.list true zjw ts]]
 | _=>.no
def z1b:z0q
 | [.list true [.int .i64,.list false [.int .u64]] l,.clo 95 [.bor [.int .i64 d,.int .i64 c,.int .i64 b0,.int .i64 b1,.int .i64 b2,.list true [.int .i64,.list false [.int .u64]] ts]]]=>
  .ok (.bool (!(l.all (z81 d c)))) [[.int .i64 d,.int .i64 c,.int .i64 b0,.int .i64 b1,.int .i64 b2,.list true zjw ts]]
 | _=>.no
def z1z:z0q
 | [.agg [.int .i64 d,.int .i64 c,.int .i64 b0,.int .i64 b1,.int .i64 b2,.list true [.int .i64,.list false [.int .u64]] ts]]=>.ok (.bool (z2b ⟨d,c,b0,b1,b2,ts⟩)) []
 | _=>.no
abbrev zdu:ByteArray:=⟨#[102,111,114,101,115,116]⟩
abbrev zg8:ByteArray:=⟨#[98,105,97,115]⟩
abbrev zov:ByteArray:=⟨#[116,114,101,101]⟩
abbrev zw9:ByteArray:=⟨#[108,101,97,102]⟩
abbrev yla:ByteArray:=⟨#[105,102]⟩
abbrev ykw:ByteArray:=⟨#[60,61]⟩
abbrev ydx:ByteArray:=⟨#[116,104,101,110]⟩
abbrev ybd:ByteArray:=⟨#[101,108,115,101]⟩
abbrev yeh:ByteArray:=⟨#[10]⟩
def z5z (ws:List ByteArray):ByteArray:=zar ws z4u++yeh
def zaf:List (List ByteArray)→ByteArray
 | []=>ByteArray.empty
 | l :: r=>z5z l++zaf r
def y2j (x:Nd):List ByteArray:=
 cond x.lf [zw9,z0e x.v] [yla,z0p x.f,ykw,z0e x.a,ydx,z0p x.l,ybd,z0p x.r]
def zj1 (l:List IV):List (List ByteArray):=l.map fun w=>y2j (z07 w.toInt)
def y6v (t:IV):List (List ByteArray):=[zov,z0p (t.cell 0).toInt,z0p (ic (t.cell 1).toList.length)] :: zj1 (t.cell 1).toList
def zj8:List IV→List (List ByteArray)
 | []=>[]
 | t :: r=>y6v t++zj8 r
def yfq (m:Md):List (List ByteArray):=[[zdu,z0p m.d,z0p m.c],zg8 :: ([m.b0,m.b1,m.b2].take m.c.toNat).map z0e]
def ygr (m:Md):List (List ByteArray):=yfq m++zj8 m.ts
def y3j (m:Md):ByteArray:=cond (z2b m) (zaf (ygr m)) y8q
def zer (s:ByteArray) (most:Int):Int:=cond (zs0 s&&(!(decide (z6t s < 0))&&!(decide (z6t s > most)))) (z6t s) 0
def z3m (ls:List IV):List IV:=match ls with | []=>[] | l :: _=>zad l.toStr
def yib (l:List IV):Nd:=
 cond ((wAt l 0).toList==zw9.toList) ⟨true,ziq (wAt l 1),0,0,0,0⟩ ⟨false,0,zer (wAt l 1) 4,ziq (wAt l 3),zer (wAt l 5) 31,zer (wAt l 7) 31⟩
def zc1 (ls:List IV) (k:Nat):List IV:=(List.range k).map fun i=>.int (z7z (yib (z3m (ls.drop i))))
def rdK (ls:List IV):Nat:=(zer (wAt (z3m ls) 2) 31).toNat
def y7f (ls:List IV):IV:=.agg [.int (zer (wAt (z3m ls) 1) 3),.list (zc1 (ls.drop 1) (rdK ls))]
def zav:Nat→List IV→List IV
 | 0,_=>[]
 | n+1,ls=>match ls with
  | []=>[]
  | l :: r=>y7f (l :: r) :: zav n (r.drop (rdK (l :: r)))
def zcu (ls:List IV) (c:Int) (j:Nat):Int:=cond (decide ((j:Int) < c)) (ziq (wAt (z3m (ls.drop 1)) (1+j))) 0
def rdC (ls:List IV):Int:=zer (wAt (z3m ls) 2) 3
def yhg (ls:List IV):Md:=⟨zer (wAt (z3m ls) 1) 4,rdC ls,zcu ls (rdC ls) 0,zcu ls (rdC ls) 1,zcu ls (rdC ls) 2,zav 9 (ls.drop 2)⟩
def zhw (s t:ByteArray):Bool:=decide (t.size≤s.size)&&(s.extract (s.size - t.size) s.size).toList==t.toList
def z40 (s t:ByteArray):ByteArray:=cond (zhw s t) (s.extract 0 (s.size - t.size)) s
def y3g (s:ByteArray):ByteArray:=z40 s yeh
def zsl (s:ByteArray):List IV:=(z0s (y3g s) yeh).map IV.str
def yg8 (s:ByteArray):Md:=yhg (zsl s)
def Md.zero:Md:=⟨0,0,0,0,0,[]⟩
def zx2 (s:ByteArray):Bool:=!(s.toList==y8q.toList)&&(y3j (yg8 s)).toList==s.toList
def ze2 (s:ByteArray):Md:=cond (zx2 s) (yg8 s) Md.zero
def z6h (l:List IV):Bool:=l.all fun x=>decide (x.toStr.size < 4294967281)
def zcr:z0q
 | [.bor [.bld s],.list false [.str] ws]=>.br (Nat.ble ws.length 1000&&decide (s.size+(z5z (ws.map IV.toStr)).size≤1000000000)) (.ok (.tup []) [[.bld (s++z5z (ws.map IV.toStr))]]) .no
 | _=>.no
def z7p:z0q
 | [.agg [.int .i64 d,.int .i64 c,.int .i64 b0,.int .i64 b1,.int .i64 b2,.list true [.int .i64,.list false [.int .u64]] ts]]=>.ok (.str (y3j ⟨d,c,b0,b1,b2,ts⟩)) []
 | _=>.no
def z35:z0q
 | [.bor [.list false [.str] ls]]=>.br (z6h ls) (.ok (.list false [.str] (z3m ls)) [[.list false [.str] (ls.drop 1)]]) .no
 | _=>.no
def z8u:z0q
 | [.list false [.str] l,.int .i64 i]=>.br (decide (0≤i)) (.ok (.str (wAt l i.toNat)) []) .no
 | _=>.no
def z7a:z0q
 | [.str s,.int .i64 most]=>.ok (.int .i64 (zer s most)) []
 | _=>.no
def z8y:z0q
 | [.str s]=>.br (decide (s.size < 4294967281)) (.ok (.int .i64 (ziq s)) []) .no
 | _=>.no
def z5c:z0q
 | [.bor [.list false [.str] ls]]=>.br (z6h ls) (.ok (.int .u64 (z7z (yib (z3m ls)))) [[.list false [.str] (ls.drop 1)]]) .no
 | _=>.no
def z1m:z0q
 | [.str s,.str t]=>.ok (.bool (zhw s t)) []
 | _=>.no
def z1l:z0q
 | [.str s,.str t]=>.ok (.str (z40 s t)) []
 | _=>.no
def z2l:z0q
 | [.str s,.str t]=>.ok (.str (z40 s t)) []
 | _=>.no
def zbk:z0q
 | [.str s]=>.br (decide (s.size < 4294967281)) (.ok (.tup [.agg [.int .i64 (ze2 s).d,.int .i64 (ze2 s).c,.int .i64 (ze2 s).b0,.int .i64 (ze2 s).b1,.int .i64 (ze2 s).b2,.list true zjw (ze2 s).ts],.bool (zx2 s)]) []) .no
 | _=>.no
open Go Go.Proofs
def y6j (N:Nat):Env:=mkE [] [] 25 N
theorem y49 (N:Nat) (n w:Int):z11 (y6j N) zsx [.tmp 4] [[.bool]] [(.i n),(.i w)]=(cond (decide (w < 1)) (some ((.bool false),[])) (cond (decide (w > 64)) (some ((.bool false),[])) (cond (decide (IntKind.wrap IntKind.u64 (IntKind.wrap IntKind.i64 (w - 1)) < 0)) none (cond (Int.fdiv n (2 ^ min (Int.toNat (IntKind.wrap IntKind.u64 (IntKind.wrap IntKind.i64 (w - 1)))) (IntKind.bits IntKind.i64))==0) (some ((.bool true),[])) (cond (decide (IntKind.wrap IntKind.u64 (IntKind.wrap IntKind.i64 (w - 1)) < 0)) none (some ((.bool (Int.fdiv n (2 ^ min (Int.toNat (IntKind.wrap IntKind.u64 (IntKind.wrap IntKind.i64 (w - 1)))) (IntKind.bits IntKind.i64)) == -1)),[]))))))):=by kernel_rfl
def y4m (N:Nat):Env:=mkE [] [] 21 N
theorem y10 (N:Nat) (n w:Int):z11 (y4m N) zqx [.tmp 4] [[.int .i64]] [(.i n),(.i w)]=(cond (decide (w < 1)) (some ((.i n),[])) (cond (decide (w≥64)) (some ((.i n),[])) (cond (decide (IntKind.wrap IntKind.u64 (IntKind.wrap IntKind.i64 (64 - w)) < 0)) none (cond (decide (IntKind.wrap IntKind.u64 (IntKind.wrap IntKind.i64 (64 - w)) < 0)) none (some ((.i (Int.fdiv (IntKind.wrap IntKind.i64 (n*2 ^ min (Int.toNat (IntKind.wrap IntKind.u64 (IntKind.wrap IntKind.i64 (64 - w)))) (IntKind.bits IntKind.i64))) (2 ^ min (Int.toNat (IntKind.wrap IntKind.u64 (IntKind.wrap IntKind.i64 (64 - w)))) (IntKind.bits IntKind.i64)))),[])))))):=by kernel_rfl
def y24 (N:Nat):Env:=mkE [] [] 21 N
theorem zxu (N:Nat) (atv w:Int):z11 (y24 N) zp3 [.tmp 4] [[.bool]] [(.i atv),(.i w)]=(cond (decide (atv≥0)) (cond (decide (atv < 64)) (cond (decide (w≥1)) (some ((.bool (decide (w≤IntKind.wrap IntKind.i64 (64 - atv)))),[])) (some ((.bool false),[]))) (some ((.bool false),[]))) (some ((.bool false),[]))):=by kernel_rfl
def y53 (N:Nat):Env:=mkE [] [] 7 N
theorem y41 (N:Nat) (w:Int):z11 (y53 N) zsn [.tmp 2] [[.int .u64]] [(.i w)]=(cond (decide (IntKind.wrap IntKind.u64 (IntKind.wrap IntKind.i64 (64 - w)) < 0)) none (some ((.int .u64 (Int.fdiv 18446744073709551615 (2 ^ min (Int.toNat (IntKind.wrap IntKind.u64 (IntKind.wrap IntKind.i64 (64 - w)))) (IntKind.bits IntKind.u64)))),[]))):=by kernel_rfl
def yaa (N:Nat):Env:=mkE [(149,z7i),(150,z8x)] [] 30 N
theorem y56 (N:Nat) (x atv w y:Int):z11 (yaa N) zvq [.tmp 8] [[.int .u64]] [(.int .u64 x),(.i atv),(.i w),(.int .u64 y)]=(cond (decide (0≤atv)&&decide (atv < 64)) (cond (! (decide (1≤w)&&decide (w≤64 - atv))) (some ((.int .u64 x),[])) (cond (decide (1≤w)&&decide (w≤64)) (cond (decide (IntKind.wrap IntKind.u64 atv < 0)) none (cond (decide (IntKind.wrap IntKind.u64 atv < 0)) none (some ((.int .u64 (IntKind.wrap IntKind.u64 (ic (BitVec.toNat (BitVec.ofInt (IntKind.bits IntKind.u64) (IntKind.wrap IntKind.u64 (ic (BitVec.toNat (BitVec.ofInt (IntKind.bits IntKind.u64) x &&& ~~~BitVec.ofInt (IntKind.bits IntKind.u64) (IntKind.wrap IntKind.u64 (y6k w*2 ^ min (Int.toNat (IntKind.wrap IntKind.u64 atv)) (IntKind.bits IntKind.u64))))))) ||| BitVec.ofInt (IntKind.bits IntKind.u64) (IntKind.wrap IntKind.u64 (ic (BitVec.toNat (BitVec.ofInt (IntKind.bits IntKind.u64) (IntKind.wrap IntKind.u64 (y*2 ^ min (Int.toNat (IntKind.wrap IntKind.u64 atv)) (IntKind.bits IntKind.u64))) &&& BitVec.ofInt (IntKind.bits IntKind.u64) (IntKind.wrap IntKind.u64 (y6k w*2 ^ min (Int.toNat (IntKind.wrap IntKind.u64 atv)) (IntKind.bits IntKind.u64)))))))))))),[])))) none)) none):=by kernel_rfl
def y9j (N:Nat):Env:=mkE [(149,z7i),(150,z8x)] [] 18 N
theorem y58 (N:Nat) (x atv w:Int):z11 (y9j N) zwv [.tmp 6] [[.int .u64]] [(.int .u64 x),(.i atv),(.i w)]=(cond (decide (0≤atv)&&decide (atv < 64)) (cond (! (decide (1≤w)&&decide (w≤64 - atv))) (some ((.int .u64 0),[])) (cond (decide (IntKind.wrap IntKind.u64 atv < 0)) none (cond (decide (1≤w)&&decide (w≤64)) (some ((.int .u64 (IntKind.wrap IntKind.u64 (ic (BitVec.toNat (BitVec.ofInt (IntKind.bits IntKind.u64) (Int.fdiv x (2 ^ min (Int.toNat (IntKind.wrap IntKind.u64 atv)) (IntKind.bits IntKind.u64))) &&& BitVec.ofInt (IntKind.bits IntKind.u64) (y6k w)))))),[])) none))) none):=by kernel_rfl
def zy3 (N:Nat):Env:=mkE [(99,z7s),(148,zcl)] [] 14 N
theorem zun (N:Nat) (x atv w:Int):z11 (zy3 N) zkw [.tmp 6] [[.int .i64]] [(.int .u64 x),(.i atv),(.i w)]=(cond (decide (0≤atv)&&(decide (atv < 64)&&(decide (1≤w)&&decide (w≤64 - atv)))) (cond (decide (w=32)) (some ((.i (ybq (IntKind.wrap IntKind.i64 (zp2 x atv w)))),[])) none) none):=by kernel_rfl
def y1j (N:Nat):Env:=mkE [] [] 9 N
theorem y07 (N:Nat) (n:Int):z11 (y1j N) zor [.tmp 2] [[.bool]] [(.i n)]=(cond (decide (n≥1)) (some ((.bool (decide (n < 31))),[])) (some ((.bool false),[]))):=by kernel_rfl
def y4a (N:Nat):Env:=mkE [(93,z6d),(190,zb4)] [] 43 N
theorem zyp (N:Nat) (u01:Bool) (u04 u00 n_At u02 u03:Int):z11 (y4a N) zok [.tmp 2] [[.bool]] [(.agg [(.bool u01),(.i u04),(.i u00),(.i n_At),(.i u02),(.i u03)])]=(cond u01 (cond (u01==true&&(u04==u04&&(u00==0&&(n_At==0&&(u02==0&&(u03==0&&true)))))) (some ((.bool (z1u u04)),[])) (some ((.bool false),[]))) (cond (u04==0) (cond (decide (u00≥0)) (cond (decide (u00 < 4)) (cond (z1u n_At) (cond (zlk u02) (some ((.bool (zlk u03)),[])) (some ((.bool false),[]))) (some ((.bool false),[]))) (some ((.bool false),[]))) (some ((.bool false),[]))) (some ((.bool false),[])))):=by kernel_rfl
def y5n (N:Nat):Env:=mkE [(146,ze8),(145,zbm)] [] 32 N
theorem y0m (N:Nat) (u01:Bool) (u04 u00 n_At u02 u03:Int):z11 (y5n N) zs5 [.tmp 2] [[.int .u64]] [(.agg [(.bool u01),(.i u04),(.i u00),(.i n_At),(.i u02),(.i u03)])]=(cond (!zaq {lf:=u01,v:=u04,f:=u00,a:=n_At,l:=u02,r:=u03}) (some ((.int .u64 0),[])) (cond u01 (some ((.int .u64 (ybl 9223372036854775808 0 32 (IntKind.wrap IntKind.u64 u04))),[])) (some ((.int .u64 (ybl (ybl (ybl (ybl 0 0 32 (IntKind.wrap IntKind.u64 n_At)) 32 4 (IntKind.wrap IntKind.u64 u00)) 40 8 (IntKind.wrap IntKind.u64 u02)) 48 8 (IntKind.wrap IntKind.u64 u03))),[])))):=by kernel_rfl
def zta (N:Nat):Env:=mkE [(99,z7s)] [] 11 N
theorem zpr (N:Nat) (a w x:Int):z11 (zta N) zgr [.tmp 5] [[.int .i64]] [(.i a),(.i w),(.bor [.int .u64 x])]=(cond (decide (0≤a)&&(decide (a < 64)&&(decide (1≤w)&&decide (w≤64 - a)))) (some ((.i (IntKind.wrap IntKind.i64 (zp2 x a w))),[[(.int .u64 x)]])) none):=by kernel_rfl
def y0a (N:Nat):Env:=mkE [(99,z7s),(98,z9l),(92,z95),(100,z7c)] [] 33 N
theorem zvb (N:Nat) (w:Int):z11 (y0a N) zl1 [.cell 2 111,.tmp 3] [[.bool,.int .i64,.int .i64,.int .i64,.int .i64,.int .i64],[.bool]] [(.int .u64 w)]=(cond (zp2 w 63 1==0) (cond (w==0) (some ((.tup [(.agg [(.bool false),(.i 0),(.i 0),(.i 0),(.i 0),(.i 0)]),(.bool false)]),[])) (cond (z7z {lf:=false,v:=0,f:=zdj (zp2 w 32 4),a:=zn5 w,l:=zdj (zp2 w 40 8),r:=zdj (zp2 w 48 8)} != w) (some ((.tup [(.agg [(.bool false),(.i 0),(.i 0),(.i 0),(.i 0),(.i 0)]),(.bool false)]),[])) (some ((.tup [(.agg [(.bool false),(.i 0),(.i (zdj (zp2 w 32 4))),(.i (zn5 w)),(.i (zdj (zp2 w 40 8))),(.i (zdj (zp2 w 48 8)))]),(.bool true)]),[])))) (cond (w==0) (some ((.tup [(.agg [(.bool false),(.i 0),(.i 0),(.i 0),(.i 0),(.i 0)]),(.bool false)]),[])) (cond (z7z {lf:=true,v:=zn5 w,f:=0,a:=0,l:=0,r:=0} != w) (some ((.tup [(.agg [(.bool false),(.i 0),(.i 0),(.i 0),(.i 0),(.i 0)]),(.bool false)]),[])) (some ((.tup [(.agg [(.bool true),(.i (zn5 w)),(.i 0),(.i 0),(.i 0),(.i 0)]),(.bool true)]),[]))))):=by kernel_rfl
open Go Go.Proofs
theorem ycg {n:Int} (h0:0≤n) (h1:n < 18446744073709551616):IntKind.wrap IntKind.u64 n=n:=by
 rw [yfh];omega
theorem zev:z2y PR B0 93 z6d:=by
 refine z0i [] [] z6d [[.bool]] Tryz.func93 y5z trivial ?_;intro vs r hwf h;unfold z6d at h
 split at h
 ·rename_i n w
  cases hc:decide (w=32) with
  | false=>rw [hc] at h; simp [R.get] at h
  | true=>
   rw [hc,R.get_br,z00,R.get_ok] at h;have hc:=v0f hc;subst hc;refine ⟨0,?_⟩;rw [← h];refine (y49 0 n 32).trans ?_;have e3:decide (IntKind.wrap IntKind.u64 (IntKind.wrap IntKind.i64 ((32:Int) - 1)) < 0)=false:=by kernel_rfl
   have e4:(2:Int) ^ min (Int.toNat (IntKind.wrap IntKind.u64 (IntKind.wrap IntKind.i64 ((32:Int) - 1)))) (IntKind.bits IntKind.i64)=2147483648:=by kernel_rfl
   rw [e3,e4,v07 (show ¬ (32:Int) < 1 by omega),v07 (show ¬ (32:Int) > 64 by omega),z02,z02,z02,z02]
   have h0:=Int.fdiv_mul_add_fmod n 2147483648;have h1:=Int.fmod_nonneg_of_pos n (show (0:Int) < 2147483648 by omega)
   have h2:=Int.fmod_lt_of_pos n (show (0:Int) < 2147483648 by omega)
   generalize Int.fdiv n 2147483648=q at h0 ⊢
   generalize Int.fmod n 2147483648=m at h0 h1 h2;unfold z1u;rw [zkb,zkb];cases hq:decide (q=0) with
   | true=>
    have hq:=v0f hq;rw [v01 (show -2147483648≤n by omega),v01 (show n≤2147483647 by omega)]
    rfl
   | false=>
    have hq:=v0s hq;cases hp:decide (q = -1) with
    | true=>
     have hp:=v0f hp;rw [v01 (show -2147483648≤n by omega),v01 (show n≤2147483647 by omega)]
     rfl
    | false=>
     have hp:=v0s hp;rw [z02]
     congr 3
     symm
     rw [Bool.and_eq_false_iff,v19,v19];omega
 ·simp [R.get] at h
theorem zxo:z2y PR B0 148 zcl:=by
 refine z0i [] [] zcl [[.int .i64]] Tryz.func148 y6f trivial ?_;intro vs r hwf h;unfold zcl at h
 split at h
 ·rename_i n w
  cases hc:decide (w=32) with
  | false=>rw [hc] at h; simp [R.get] at h
  | true=>
   rw [hc,R.get_br,z00,R.get_ok] at h;have hc:=v0f hc;subst hc;refine ⟨0,?_⟩;rw [← h];refine (y10 0 n 32).trans ?_;have e3:decide (IntKind.wrap IntKind.u64 (IntKind.wrap IntKind.i64 ((64:Int) - 32)) < 0)=false:=by kernel_rfl
   have e4:min (Int.toNat (IntKind.wrap IntKind.u64 (IntKind.wrap IntKind.i64 ((64:Int) - 32)))) (IntKind.bits IntKind.i64)=32:=by kernel_rfl
   rw [e3,e4,v07 (show ¬ (32:Int) < 1 by omega),v07 (show ¬ (32:Int)≥64 by omega),z02,z02,z02,z02]
   rfl
 ·simp [R.get] at h
theorem zj6:z2y PR B0 149 z7i:=by
 refine z0i [] [] z7i [[.bool]] Tryz.func149 y2z trivial ?_;intro vs r hwf h;unfold z7i at h
 split at h
 ·rename_i a w
  cases hc:(decide (0≤a)&&decide (a < 64)) with
  | false=>rw [hc] at h; simp [R.get] at h
  | true=>
   rw [hc,R.get_br,z00,R.get_ok] at h;rw [v02,v06,v06] at hc;refine ⟨0,?_⟩;rw [← h];refine (zxu 0 a w).trans ?_;have e:IntKind.wrap IntKind.i64 (64 - a)=64 - a:=z19 (by omega) (by omega)
   have e1:decide (w≥1)=decide (1≤w):=rfl;rw [v01 (show a≥0 by omega),v01 hc.2,z00,z00,e,e1]
   cases decide (1≤w) <;> rfl
 ·simp [R.get] at h
theorem zlx:z2y PR B0 150 z8x:=by
 refine z0i [] [] z8x [[.int .u64]] Tryz.func150 y71 trivial ?_;intro vs r hwf h;unfold z8x at h
 split at h
 ·rename_i w
  cases hc:(decide (1≤w)&&decide (w≤64)) with
  | false=>rw [hc] at h; simp [R.get] at h
  | true=>
   rw [hc,R.get_br,z00,R.get_ok] at h;rw [v02,v06,v06] at hc;refine ⟨0,?_⟩;rw [← h];refine (y41 0 w).trans ?_;have e:IntKind.wrap IntKind.i64 (64 - w)=64 - w:=z19 (by omega) (by omega)
   have e2:IntKind.wrap IntKind.u64 (64 - w)=64 - w:=ycg (by omega) (by omega)
   have e3:min (64 - w).toNat (IntKind.bits IntKind.u64)=(64 - w).toNat:=by
    have:IntKind.bits IntKind.u64=64:=rfl
    omega
   rw [e,e2,e3,v07 (show ¬ (64 - w < 0) by omega),z02]
   rfl
 ·simp [R.get] at h
theorem y2w {a w:Int} (hc:(decide (0≤a)&&(decide (a < 64)&&(decide (1≤w)&&decide (w≤64 - a))))=true):0≤a∧a < 64∧1≤w∧w≤64 - a:=by
 simpa only [v02,v06] using hc
theorem y22:z2y PR B0 146 ze8:=by
 refine z0i [(149,z7i),(150,z8x)] [] ze8 [[.int .u64]] Tryz.func146 ya7 ⟨zj6,zlx,trivial⟩ ?_;intro vs r hwf h;unfold ze8 at h
 split at h
 ·rename_i x a w y
  cases hc:(decide (0≤a)&&(decide (a < 64)&&(decide (1≤w)&&decide (w≤64 - a)))) with
  | false=>rw [hc] at h; simp [R.get] at h
  | true=>
   rw [hc,R.get_br,z00,R.get_ok] at h;obtain ⟨h1,h2,h3,h4⟩:=y2w hc;refine ⟨0,?_⟩;rw [← h];refine (y56 0 x a w y).trans ?_;have e2:IntKind.wrap IntKind.u64 a=a:=ycg (by omega) (by omega)
   have e3:min a.toNat (IntKind.bits IntKind.u64)=a.toNat:=by
    have:IntKind.bits IntKind.u64=64:=rfl
    omega
   rw [e2,e3,v01 h1,v01 h2,v01 h3,v01 h4,v01 (show w≤64 by omega),v07 (show ¬ a < 0 by omega)]
   simp only [v0t,v0c,z00,z02]
   rfl
 ·simp [R.get] at h
theorem zgl:z2y PR B0 99 z7s:=by
 refine z0i [(149,z7i),(150,z8x)] [] z7s [[.int .u64]] Tryz.func99 yak ⟨zj6,zlx,trivial⟩ ?_;intro vs r hwf h;unfold z7s at h
 split at h
 ·rename_i x a w
  cases hc:(decide (0≤a)&&(decide (a < 64)&&(decide (1≤w)&&decide (w≤64 - a)))) with
  | false=>rw [hc] at h; simp [R.get] at h
  | true=>
   rw [hc,R.get_br,z00,R.get_ok] at h;obtain ⟨h1,h2,h3,h4⟩:=y2w hc;refine ⟨0,?_⟩;rw [← h];refine (y58 0 x a w).trans ?_;have e2:IntKind.wrap IntKind.u64 a=a:=ycg (by omega) (by omega)
   have e3:min a.toNat (IntKind.bits IntKind.u64)=a.toNat:=by
    have:IntKind.bits IntKind.u64=64:=rfl
    omega
   rw [e2,e3,v01 h1,v01 h2,v01 h3,v01 h4,v01 (show w≤64 by omega),v07 (show ¬ a < 0 by omega)]
   simp only [v0t,v0c,z00,z02]
   rfl
 ·simp [R.get] at h
theorem ztl:z2y PR B0 98 z9l:=by
 refine z0i [(99,z7s),(148,zcl)] [] z9l [[.int .i64]] Tryz.func98 zxl ⟨zgl,zxo,trivial⟩ ?_;intro vs r hwf h;unfold z9l at h
 split at h
 ·rename_i x a w
  cases hc:(decide (a=0)&&decide (w=32)) with
  | false=>rw [hc] at h; simp [R.get] at h
  | true=>
   rw [hc,R.get_br,z00,R.get_ok] at h;rw [v02,v06,v06] at hc;obtain ⟨rfl,rfl⟩:=hc;refine ⟨0,?_⟩;rw [← h];refine (zun 0 x 0 32).trans ?_
   rfl
 ·simp [R.get] at h
theorem zva:z2y PR B0 190 zb4:=by
 refine z0i [] [] zb4 [[.bool]] Tryz.func190 y1n trivial ?_;intro vs r hwf h;unfold zb4 at h
 split at h
 ·rename_i n
  refine ⟨0,?_⟩;rw [R.get_ok] at h;rw [← h];refine (y07 0 n).trans ?_;unfold zlk;have e1:decide (n≥1)=decide (1≤n):=rfl;rw [e1];cases decide (1≤n) <;> rfl
 ·simp [R.get] at h
theorem zuv:z2y PR B0 145 zbm:=by
 refine z0i [(93,z6d),(190,zb4)] [] zbm [[.bool]] Tryz.func145 y0h ⟨zev,zva,trivial⟩ ?_;intro vs r hwf h;unfold zbm at h
 split at h
 ·rename_i lf v f a l r'
  refine ⟨0,?_⟩;rw [← h];refine (zyp 0 lf v f a l r').trans ?_;simp only [R.get_ok,y4d];unfold zaq;cases lf with
  | true=>rfl
  | false=>rfl
 ·simp [R.get] at h
theorem zlu:z2y PR B0 92 z95:=by
 refine z0i [(146,ze8),(145,zbm)] [] z95 [[.int .u64]] Tryz.func92 y54 ⟨y22,zuv,trivial⟩ ?_;intro vs r hwf h;unfold z95 at h
 split at h
 ·rename_i lf v f a l r'
  refine ⟨0,?_⟩;rw [← h];refine (y0m 0 lf v f a l r').trans ?_;unfold z7z;cases zaq ⟨lf,v,f,a,l,r'⟩ with
  | false=>rfl
  | true=>cases lf <;> rfl
 ·simp [R.get] at h
theorem zoa:z2y PR B0 100 z7c:=by
 refine z0i [(99,z7s)] [] z7c [[.int .i64]] Tryz.func100 zt4 ⟨zgl,trivial⟩ ?_;intro vs r hwf h;unfold z7c at h
 split at h
 ·rename_i a w x
  cases hc:(decide (0≤a)&&(decide (a < 64)&&(decide (1≤w)&&decide (w≤64 - a)))) with
  | false=>rw [hc] at h; simp [R.get] at h
  | true=>
   rw [hc,R.get_br,z00,R.get_ok] at h;refine ⟨0,?_⟩;rw [← h];refine (zpr 0 a w x).trans ?_;rw [hc]
   rfl
 ·simp [R.get] at h
theorem z5t:z2y PR B0 55 z1y:=by
 refine z0i [(99,z7s),(98,z9l),(92,z95),(100,z7c)] [] z1y [[.bool,.int .i64,.int .i64,.int .i64,.int .i64,.int .i64],[.bool]] Tryz.func55 zya ⟨zgl,ztl,zlu,zoa,trivial⟩ ?_;intro vs r hwf h;unfold z1y at h
 split at h
 ·rename_i w
  refine ⟨0,?_⟩;rw [← h];refine (zvb 0 w).trans ?_;rw [R.get_ok];unfold z07 zau zrg;cases (zp2 w 63 1==0) with
  | true=>
   simp only [v2h];cases hw:(w==0) with
   | true=>rfl
   | false=>
    simp only [v1q,v0h,v0r];have e:(z7z ⟨false,0,zdj (zp2 w 32 4),zn5 w,zdj (zp2 w 40 8),zdj (zp2 w 48 8)⟩ != w)=!(z7z ⟨false,0,zdj (zp2 w 32 4),zn5 w,zdj (zp2 w 40 8),zdj (zp2 w 48 8)⟩==w):=rfl;rw [e];cases (z7z ⟨false,0,zdj (zp2 w 32 4),zn5 w,zdj (zp2 w 40 8),zdj (zp2 w 48 8)⟩==w) <;> rfl
  | false=>
   simp only [v1q];cases hw:(w==0) with
   | true=>rfl
   | false=>
    simp only [v1q,v0h,v0r];have e:(z7z ⟨true,zn5 w,0,0,0,0⟩ != w)=!(z7z ⟨true,zn5 w,0,0,0,0⟩==w):=rfl;rw [e];cases (z7z ⟨true,zn5 w,0,0,0,0⟩==w) <;> rfl
 ·simp [R.get] at h
open Go Go.Proofs
def z0u (N:Nat):Env:=mkE [(55,z1y)] [(5,⟨[0,1,4,5,23,24,25],[22],[]⟩),(17,⟨[4,85,86,87],[22],[]⟩)] 94 N
abbrev z2g (l0:List IV) (x1:Int) (b4:Bool) (n5:Nat) (l23:List IV) (x24 x25:Int) (lo22:List IV):St:=⟨[(0,(.list false [(.int .u64)] l0)),(1,(.i x1)),(4,(.bool b4)),(5,(.row 22 0 n5)),(23,(.list false [(.int .u64)] l23)),(24,(.i x24)),(25,(.i x25))],[(22,(some (.row true 3 false [(.int .i64)] lo22)))]⟩
abbrev z5e (b4:Bool) (n85:Nat) (x86 x87:Int) (lo22:List IV):St:=⟨[(4,(.bool b4)),(85,(.row 22 1 n85)),(86,(.i x86)),(87,(.i x87))],[(22,(some (.row true 3 false [(.int .i64)] lo22)))]⟩
theorem zxm (N:Nat) (l:List IV) (a1:Int):z11 (z0u N) z27 [.tmp 4] [[.bool]] [(.list false [.int .u64] l),(.i a1)]=(cond (decide (ic (List.length l) < 1)) (some ((.bool false),[])) (cond (decide (ic (List.length l) > 31)) (some ((.bool false),[])) (cond (Nat.blt 0 (TI.size (Env.tyd (z0u N) 3))&&(Nat.blt 3 1000000&&decide (0≤ic (List.length l)))&&(decide (ic (List.length l)=ic (List.length l))&&decide (ic (List.length l)*ic (TI.bytes (Env.tyd (z0u N) 3))≤ic z0c))) (lpE (z0u N) (z0j z27 [1,1,1,0,1,0,0]) ⟨[0,1,4,5,23,24,25],[22],[]⟩ N (z2g l a1 false (Int.toNat (ic (List.length l))) l (ic (List.length l)) 0 (List.replicate (Int.toNat (ic (List.length l))) (IV.int 0))) (z06 0 (kSq (z0u N) (z0j z27 [1,1,1,1]) (z30 (z0u N) none [(ResultVar.tmp 4)] [[.bool]])))) none))):=by kernel_rfl
theorem zh9 (N:Nat) (l0:List IV) (x1:Int) (b4:Bool) (n5:Nat) (l23:List IV) (x24 x25:Int) (lo22:List IV) (again:St→Res) (k:Out→St→Res):rnd (z0u N) (z0j z27 [1,1,1,0,1,0,0]) (z2g l0 x1 b4 n5 l23 x24 x25 lo22) (z3t again ⟨[0,1,4,5,23,24,25],[22],[]⟩ k)=(cond (decide (x25 < x24)) (cond (decide (0≤x25)&&decide (x25 < ic (List.length l23))) (cond (!zau (IV.toInt (List.getD l23 (Int.toNat x25) default))) (k .ret (z2g l0 x1 false n5 l23 x24 x25 lo22)) (cond (Nd.lf (z07 (IV.toInt (List.getD l23 (Int.toNat x25) default)))) (again (z2g l0 x1 b4 n5 l23 x24 (IntKind.wrap IntKind.i64 (x25+1)) lo22)) (cond (decide (Nd.f (z07 (IV.toInt (List.getD l23 (Int.toNat x25) default)))≥x1)) (k .ret (z2g l0 x1 false n5 l23 x24 x25 lo22)) (cond (Nd.l (z07 (IV.toInt (List.getD l23 (Int.toNat x25) default)))==Nd.r (z07 (IV.toInt (List.getD l23 (Int.toNat x25) default)))) (k .ret (z2g l0 x1 false n5 l23 x24 x25 lo22)) (cond (decide (min (Nd.l (z07 (IV.toInt (List.getD l23 (Int.toNat x25) default)))) (Nd.r (z07 (IV.toInt (List.getD l23 (Int.toNat x25) default))))≤x25)) (k .ret (z2g l0 x1 false n5 l23 x24 x25 lo22)) (cond (decide (max (Nd.l (z07 (IV.toInt (List.getD l23 (Int.toNat x25) default)))) (Nd.r (z07 (IV.toInt (List.getD l23 (Int.toNat x25) default))))≥ic (List.length l0))) (k .ret (z2g l0 x1 false n5 l23 x24 x25 lo22)) (cond (decide (0≤Nd.l (z07 (IV.toInt (List.getD l23 (Int.toNat x25) default))))&&decide (Nd.l (z07 (IV.toInt (List.getD l23 (Int.toNat x25) default))) < ic (n5 - 0))) (cond (decide (0≤Nd.l (z07 (IV.toInt (List.getD l23 (Int.toNat x25) default))))&&decide (Nd.l (z07 (IV.toInt (List.getD l23 (Int.toNat x25) default))) < ic (n5 - 0))) (cond (decide (0≤Nd.r (z07 (IV.toInt (List.getD l23 (Int.toNat x25) default))))&&decide (Nd.r (z07 (IV.toInt (List.getD l23 (Int.toNat x25) default))) < ic (n5 - 0))) (cond (decide (0≤Nd.r (z07 (IV.toInt (List.getD l23 (Int.toNat x25) default))))&&decide (Nd.r (z07 (IV.toInt (List.getD l23 (Int.toNat x25) default))) < ic (n5 - 0))) (again (z2g l0 x1 b4 n5 l23 x24 (IntKind.wrap IntKind.i64 (x25+1)) (List.set (List.set lo22 (0+Int.toNat (Nd.l (z07 (IV.toInt (List.getD l23 (Int.toNat x25) default))))) (zu5 false [Kd.int IntKind.i64] (List.getD lo22 (0+Int.toNat (Nd.l (z07 (IV.toInt (List.getD l23 (Int.toNat x25) default))))) default) 0 [IV.int (IntKind.wrap IntKind.i64 (IV.toInt (List.getD lo22 (0+Int.toNat (Nd.l (z07 (IV.toInt (List.getD l23 (Int.toNat x25) default))))) default)+1))])) (0+Int.toNat (Nd.r (z07 (IV.toInt (List.getD l23 (Int.toNat x25) default))))) (zu5 false [Kd.int IntKind.i64] (List.getD (List.set lo22 (0+Int.toNat (Nd.l (z07 (IV.toInt (List.getD l23 (Int.toNat x25) default))))) (zu5 false [Kd.int IntKind.i64] (List.getD lo22 (0+Int.toNat (Nd.l (z07 (IV.toInt (List.getD l23 (Int.toNat x25) default))))) default) 0 [IV.int (IntKind.wrap IntKind.i64 (IV.toInt (List.getD lo22 (0+Int.toNat (Nd.l (z07 (IV.toInt (List.getD l23 (Int.toNat x25) default))))) default)+1))])) (0+Int.toNat (Nd.r (z07 (IV.toInt (List.getD l23 (Int.toNat x25) default))))) default) 0 [IV.int (IntKind.wrap IntKind.i64 (IV.toInt (List.getD (List.set lo22 (0+Int.toNat (Nd.l (z07 (IV.toInt (List.getD l23 (Int.toNat x25) default))))) (zu5 false [Kd.int IntKind.i64] (List.getD lo22 (0+Int.toNat (Nd.l (z07 (IV.toInt (List.getD l23 (Int.toNat x25) default))))) default) 0 [IV.int (IntKind.wrap IntKind.i64 (IV.toInt (List.getD lo22 (0+Int.toNat (Nd.l (z07 (IV.toInt (List.getD l23 (Int.toNat x25) default))))) default)+1))])) (0+Int.toNat (Nd.r (z07 (IV.toInt (List.getD l23 (Int.toNat x25) default))))) default)+1))])))) none) none) none) none))))))) none) (k (.exit 0) (z2g l0 x1 b4 n5 l23 x24 x25 lo22))):=by kernel_rfl
theorem zn0 (N:Nat) (l0:List IV) (x1:Int) (b4:Bool) (n5:Nat) (l23:List IV) (x24 x25:Int) (lo22:List IV):(z06 0 (kSq (z0u N) (z0j z27 [1,1,1,1]) (z30 (z0u N) none [(ResultVar.tmp 4)] [[.bool]]))) (.exit 0) (z2g l0 x1 b4 n5 l23 x24 x25 lo22)=(cond (decide (0≤1)&&decide (1≤ic (n5 - 0))) (lpE (z0u N) (z0j z27 [1,1,1,1,0,1,0,0]) ⟨[4,85,86,87],[22],[]⟩ N (z5e b4 (0+(n5 - 0)) (ic (0+(n5 - 0) - 1)) 0 lo22) (z06 2 (kSq (z0u N) (z0j z27 [1,1,1,1,1]) (z30 (z0u N) none [(ResultVar.tmp 4)] [[.bool]])))) none):=by kernel_rfl
theorem zn1 (N:Nat) (l0:List IV) (x1:Int) (b4:Bool) (n5:Nat) (l23:List IV) (x24 x25:Int) (lo22:List IV):(z06 0 (kSq (z0u N) (z0j z27 [1,1,1,1]) (z30 (z0u N) none [(ResultVar.tmp 4)] [[.bool]]))) .ret (z2g l0 x1 b4 n5 l23 x24 x25 lo22)=(some ((.bool b4),[])):=by kernel_rfl
theorem zhd (N:Nat) (b4:Bool) (n85:Nat) (x86 x87:Int) (lo22:List IV) (again:St→Res) (k:Out→St→Res):rnd (z0u N) (z0j z27 [1,1,1,1,0,1,0,0]) (z5e b4 n85 x86 x87 lo22) (z3t again ⟨[4,85,86,87],[22],[]⟩ k)=(cond (decide (x87 < x86)) (cond (decide (0≤x87)&&decide (x87 < ic (n85 - 1))) (cond (IV.toInt (List.getD lo22 (1+Int.toNat x87) default) != 1) (k .ret (z5e false n85 x86 x87 lo22)) (again (z5e b4 n85 x86 (IntKind.wrap IntKind.i64 (x87+1)) lo22))) none) (k (.exit 2) (z5e b4 n85 x86 x87 lo22))):=by kernel_rfl
theorem zng (N:Nat) (b4:Bool) (n85:Nat) (x86 x87:Int) (lo22:List IV):(z06 2 (kSq (z0u N) (z0j z27 [1,1,1,1,1]) (z30 (z0u N) none [(ResultVar.tmp 4)] [[.bool]]))) (.exit 2) (z5e b4 n85 x86 x87 lo22)=(some ((.bool true),[])):=by kernel_rfl
theorem znr (N:Nat) (b4:Bool) (n85:Nat) (x86 x87:Int) (lo22:List IV):(z06 2 (kSq (z0u N) (z0j z27 [1,1,1,1,1]) (z30 (z0u N) none [(ResultVar.tmp 4)] [[.bool]]))) .ret (z5e b4 n85 x86 x87 lo22)=(some ((.bool b4),[])):=by kernel_rfl
def zqh (N:Nat):Env:=mkE [(96,z7l)] [] 22 N
theorem zpz (N:Nat) (k:Int) (l:List IV) (d c b0 b1 b2:Int) (ts:List IV):z11 (zqh N) zhn [.tmp 3] [[.bool]] [(.agg [.int .i64 k,.list false [.int .u64] l]),(.bor [.int .i64 d,.int .i64 c,.int .i64 b0,.int .i64 b1,.int .i64 b2,.list true [.int .i64,.list false [.int .u64]] ts])]=(cond (decide (k < 0)) (some ((.bool true),[[(.i d),(.i c),(.i b0),(.i b1),(.i b2),(.list true [(.int .i64),(.list false [(.int .u64)])] ts)]])) (cond (decide (k≥c)) (some ((.bool true),[[(.i d),(.i c),(.i b0),(.i b1),(.i b2),(.list true [(.int .i64),(.list false [(.int .u64)])] ts)]])) (some ((.bool (!z94 l d)),[[(.i d),(.i c),(.i b0),(.i b1),(.i b2),(.list true [(.int .i64),(.list false [(.int .u64)])] ts)]])))):=by kernel_rfl
def z09 (N:Nat):Env:=mkE [(95,z4w)] [(2,⟨[0,1,4,7,8],[900000],[]⟩)] 19 N
abbrev z0t (l0:List IV) (x4 x7 x8 u01 u02 u03 u04 u05:Int) (u00:List IV):St:=⟨[(0,(.list true [(.int .i64),(.list false [(.int .u64)])] l0)),(1,(.clo 95 [(.ptr 900000 0 0)])),(4,(.i x4)),(7,(.i x7)),(8,(.i x8))],[(900000,(some (.box [(.i u01),(.i u02),(.i u03),(.i u04),(.i u05),(.list true [(.int .i64),(.list false [(.int .u64)])] u00)])))]⟩
theorem z9g (N:Nat) (l:List IV) (d c b0 b1 b2:Int) (ts:List IV):z11 (z09 N) z0h [.tmp 4] [[.int .i64]] [(.list true [.int .i64,.list false [.int .u64]] l),(.clo 95 [.bor [.int .i64 d,.int .i64 c,.int .i64 b0,.int .i64 b1,.int .i64 b2,.list true [.int .i64,.list false [.int .u64]] ts]])]=(lpE (z09 N) (z0j z0h [1,0,1,0,0]) ⟨[0,1,4,7,8],[900000],[]⟩ N (z0t l 0 (ic (List.length l)) 0 d c b0 b1 b2 ts) (z06 0 (kSq (z09 N) (z0j z0h [1,1]) (z30 (z09 N) (some [(.i d),(.i c),(.i b0),(.i b1),(.i b2),(.list true [(.int .i64),(.list false [(.int .u64)])] ts)]) [(ResultVar.tmp 4)] [[(.int .i64)]])))):=by kernel_rfl
theorem z4n (N:Nat) (l0:List IV) (x4 x7 x8 u01 u02 u03 u04 u05:Int) (u00:List IV) (again:St→Res) (k:Out→St→Res):rnd (z09 N) (z0j z0h [1,0,1,0,0]) (z0t l0 x4 x7 x8 u01 u02 u03 u04 u05 u00) (z3t again ⟨[0,1,4,7,8],[900000],[]⟩ k)=(cond (decide (x8 < x7)) (cond (decide (0≤x8)&&decide (x8 < ic (List.length l0))) (cond (!z81 u01 u02 (IV.agg [IV.int (IV.toInt (IV.cell (List.getD l0 (Int.toNat x8) default) 0)),IV.list (IV.toList (IV.cell (List.getD l0 (Int.toNat x8) default) 1))])) (k .ret (z0t l0 x8 x7 x8 u01 u02 u03 u04 u05 u00)) (again (z0t l0 x4 x7 (IntKind.wrap IntKind.i64 (x8+1)) u01 u02 u03 u04 u05 u00))) none) (k (.exit 0) (z0t l0 x4 x7 x8 u01 u02 u03 u04 u05 u00))):=by kernel_rfl
theorem z7x (N:Nat) (d c b0 b1 b2:Int) (ts l0:List IV) (x4 x7 x8 u01 u02 u03 u04 u05:Int) (u00:List IV):(z06 0 (kSq (z09 N) (z0j z0h [1,1]) (z30 (z09 N) (some [(.i d),(.i c),(.i b0),(.i b1),(.i b2),(.list true [(.int .i64),(.list false [(.int .u64)])] ts)]) [(ResultVar.tmp 4)] [[(.int .i64)]]))) (.exit 0) (z0t l0 x4 x7 x8 u01 u02 u03 u04 u05 u00)=(some ((.i (-1)),[[(.i u01),(.i u02),(.i u03),(.i u04),(.i u05),(.list true [(.int .i64),(.list false [(.int .u64)])] u00)]])):=by kernel_rfl
theorem z7u (N:Nat) (d c b0 b1 b2:Int) (ts l0:List IV) (x4 x7 x8 u01 u02 u03 u04 u05:Int) (u00:List IV):(z06 0 (kSq (z09 N) (z0j z0h [1,1]) (z30 (z09 N) (some [(.i d),(.i c),(.i b0),(.i b1),(.i b2),(.list true [(.int .i64),(.list false [(.int .u64)])] ts)]) [(ResultVar.tmp 4)] [[(.int .i64)]]))) .ret (z0t l0 x4 x7 x8 u01 u02 u03 u04 u05 u00)=(some ((.i x4),[[(.i u01),(.i u02),(.i u03),(.i u04),(.i u05),(.list true [(.int .i64),(.list false [(.int .u64)])] u00)]])):=by kernel_rfl
def z89 (N:Nat):Env:=mkE [(147,z1j)] [] 9 N
theorem z87 (N:Nat) (l:List IV) (d c b0 b1 b2:Int) (ts:List IV):z11 (z89 N) z4j [.tmp 4] [[.bool]] [(.list true [.int .i64,.list false [.int .u64]] l),(.clo 95 [.bor [.int .i64 d,.int .i64 c,.int .i64 b0,.int .i64 b1,.int .i64 b2,.list true [.int .i64,.list false [.int .u64]] ts]])]=(some ((.bool (decide (zqi d c l 0≥0))),[[(.i d),(.i c),(.i b0),(.i b1),(.i b2),(.list true [(.int .i64),(.list false [(.int .u64)])] ts)]])):=by kernel_rfl
def z2h (N:Nat):Env:=mkE [(93,z6d),(95,z4w),(94,z1b)] [(4,⟨[1,2,30,31],[1,53005],[]⟩)] 54 N
abbrev z14 (b2:Bool) (u01 u02 u03 x31 u04 u05 u06 u07 u08:Int) (u00:List IV):St:=⟨[(1,(.ptr 1 0 0)),(2,(.bool b2)),(30,(.agg [(.i u01),(.i u02),(.i u03)])),(31,(.i x31))],[(1,(some (.box [(.i u04),(.i u05),(.i u06),(.i u07),(.i u08),(.list true [(.int .i64),(.list false [(.int .u64)])] u00)]))),(53005,none)]⟩
theorem zux (N:Nat) (u04 u03 u00 u01 u02:Int) (u05:List IV):z11 (z2h N) z3s [.tmp 2] [[.bool]] [(.agg [(.i u04),(.i u03),(.i u00),(.i u01),(.i u02),(.list true [.int .i64,.list false [.int .u64]] u05)])]=(cond (decide (u04 < 1)) (some ((.bool false),[])) (cond (decide (u04 > 4)) (some ((.bool false),[])) (cond (decide (u03 < 1)) (some ((.bool false),[])) (cond (decide (u03 > 3)) (some ((.bool false),[])) (cond (decide (ic (List.length u05) > 8)) (some ((.bool false),[])) (lpE (z2h N) (z0j z3s [1,1,0,1,0,0]) ⟨[1,2,30,31],[1,53005],[]⟩ N (z14 false u00 u01 u02 0 u04 u03 u00 u01 u02 u05) (z06 0 (kSq (z2h N) (z0j z3s [1,1,1]) (z30 (z2h N) none [(ResultVar.tmp 2)] [[.bool]]))))))))):=by kernel_rfl
theorem zg3 (N:Nat) (b2:Bool) (u01 u02 u03 x31 u04 u05 u06 u07 u08:Int) (u00:List IV) (again:St→Res) (k:Out→St→Res):rnd (z2h N) (z0j z3s [1,1,0,1,0,0]) (z14 b2 u01 u02 u03 x31 u04 u05 u06 u07 u08 u00) (z3t again ⟨[1,2,30,31],[1,53005],[]⟩ k)=(cond (decide (x31 < 3)) (cond (decide (x31=ic 0)) (cond (!z1u u01) (k .ret (z14 false u01 u02 u03 x31 u04 u05 u06 u07 u08 u00)) (cond (decide (x31≥u05)) (cond (u01 != 0) (k .ret (z14 false u01 u02 u03 x31 u04 u05 u06 u07 u08 u00)) (again (z14 b2 u01 u02 u03 (IntKind.wrap IntKind.i64 (x31+1)) u04 u05 u06 u07 u08 u00))) (again (z14 b2 u01 u02 u03 (IntKind.wrap IntKind.i64 (x31+1)) u04 u05 u06 u07 u08 u00)))) (cond (decide (x31=ic 1)) (cond (!z1u u02) (k .ret (z14 false u01 u02 u03 x31 u04 u05 u06 u07 u08 u00)) (cond (decide (x31≥u05)) (cond (u02 != 0) (k .ret (z14 false u01 u02 u03 x31 u04 u05 u06 u07 u08 u00)) (again (z14 b2 u01 u02 u03 (IntKind.wrap IntKind.i64 (x31+1)) u04 u05 u06 u07 u08 u00))) (again (z14 b2 u01 u02 u03 (IntKind.wrap IntKind.i64 (x31+1)) u04 u05 u06 u07 u08 u00)))) (cond (decide (x31=ic 2)) (cond (!z1u u03) (k .ret (z14 false u01 u02 u03 x31 u04 u05 u06 u07 u08 u00)) (cond (decide (x31≥u05)) (cond (u03 != 0) (k .ret (z14 false u01 u02 u03 x31 u04 u05 u06 u07 u08 u00)) (again (z14 b2 u01 u02 u03 (IntKind.wrap IntKind.i64 (x31+1)) u04 u05 u06 u07 u08 u00))) (again (z14 b2 u01 u02 u03 (IntKind.wrap IntKind.i64 (x31+1)) u04 u05 u06 u07 u08 u00)))) none))) (k (.exit 0) (z14 b2 u01 u02 u03 x31 u04 u05 u06 u07 u08 u00))):=by kernel_rfl
theorem zls (N:Nat) (b2:Bool) (u01 u02 u03 x31 u04 u05 u06 u07 u08:Int) (u00:List IV):(z06 0 (kSq (z2h N) (z0j z3s [1,1,1]) (z30 (z2h N) none [(ResultVar.tmp 2)] [[.bool]]))) (.exit 0) (z14 b2 u01 u02 u03 x31 u04 u05 u06 u07 u08 u00)=(some ((.bool (!!List.all u00 (z81 u04 u05))),[])):=by kernel_rfl
theorem zlo (N:Nat) (b2:Bool) (u01 u02 u03 x31 u04 u05 u06 u07 u08:Int) (u00:List IV):(z06 0 (kSq (z2h N) (z0j z3s [1,1,1]) (z30 (z2h N) none [(ResultVar.tmp 2)] [[.bool]]))) .ret (z14 b2 u01 u02 u03 x31 u04 u05 u06 u07 u08 u00)=(some ((.bool b2),[])):=by kernel_rfl
open Go Go.Proofs
theorem zww {l:List IV} {i:Nat} {w:IV} (h:l[i]?=some w) (j:Nat):z5j (l.take (i+1)) j=z5j (l.take i) j+zdt (z07 w.toInt) j:=by
 unfold z5j;rw [List.take_add_one,h];simp
theorem ybg (x:Nd) (j:Nat):zdt x j≤2:=by
 unfold zdt;cases x.lf
 ·simp only [v1q]
  split <;> split <;> omega
 ·simp only [v2h]
  omega
theorem y8l:∀ (l:List IV) (j:Nat),z5j l j≤2*l.length
 | [],_=>v09 _
 | w :: l,j=>by
  have:=y8l l j
  have:=ybg (z07 w.toInt) j
  unfold z5j at *;simp only [v0d,v49,v05];omega
def NM (l:List IV) (i:Nat):List IV:=(List.range l.length).map fun j=>IV.int (z5j (l.take i) j:Nat)
theorem y2s (l:List IV) (i:Nat):(NM l i).length=l.length:=by simp [NM]
theorem zwi (l:List IV) (i:Nat) {j:Nat} (h:j < l.length):(NM l i)[j]?=some (IV.int (z5j (l.take i) j:Nat)):=by
 unfold NM;rw [v0x,List.getElem?_range h]
 rfl
theorem yi3 (l:List IV):NM l 0=List.replicate l.length (IV.int 0):=by
 apply List.ext_getElem?;intro j
 by_cases h:j < l.length
 ·rw [zwi l 0 h,v3y,v1f h]
  simp [z5j]
 ·rw [v0q (by rw [y2s]; omega),v0q (by simp; omega)]
theorem yiq {l:List IV} {i:Nat} {w:IV} (h:l[i]?=some w) (hl:(z07 w.toInt).lf=true):NM l (i+1)=NM l i:=by
 unfold NM
 congr 1
 funext j
 rw [zww h];unfold zdt;rw [hl]
 rfl
theorem yh7 {l:List IV} {i:Nat} {w:IV} (h:l[i]?=some w) (hl:(z07 w.toInt).lf=false) (hn:l.length≤31) {a b:Nat} (ha:(z07 w.toInt).l=(a:Int)) (hb:(z07 w.toInt).r=(b:Int)) (hab:a≠b) (al:a < l.length) (bl:b < l.length) :
  ((NM l i).set a (IV.int (IntKind.wrap IntKind.i64 (((NM l i).getD a default).toInt+1)))).set b (IV.int (IntKind.wrap IntKind.i64 ((((NM l i).set a (IV.int (IntKind.wrap IntKind.i64 (((NM l i).getD a default).toInt+1)))).getD b default).toInt+1)))=NM l (i+1):=by
 have hil:i < l.length:=(List.getElem?_eq_some_iff.1 h).1;have hsm:∀ j,z5j (l.take i) j≤62:=fun j=>by
  have:=y8l (l.take i) j
  rw [v0j] at this;omega
 have ga:((NM l i).getD a default).toInt=(z5j (l.take i) a:Nat):=by
  rw [v0m,zwi l i al]
  rfl
 have gb:(((NM l i).set a (IV.int (IntKind.wrap IntKind.i64 (((NM l i).getD a default).toInt+1)))).getD b default).toInt=(z5j (l.take i) b:Nat):=by
  rw [v0m,List.getElem?_set_ne hab,zwi l i bl]
  rfl
 rw [gb,ga,z19 (by omega) (by have:=hsm a; omega),z19 (by omega) (by have:=hsm b; omega)]
 apply List.ext_getElem?;intro j
 by_cases hj:j < l.length
 ·rw [zwi l (i+1) hj,zww h]
  have e:zdt (z07 w.toInt) j=(if a=j then 1 else 0)+(if b=j then 1 else 0):=by
   unfold zdt;rw [hl,ha,hb,v1q];have e1:((a:Int)=(j:Int))↔a=j:=by omega
   have e2:((b:Int)=(j:Int))↔b=j:=by omega
   simp only [e1,e2]
  rw [e]
  by_cases h1:b=j
  ·subst h1
   rw [List.getElem?_set_self (by rw [v2g,y2s]; exact bl),v10 hab,v1f rfl]
   congr 2
  ·rw [List.getElem?_set_ne h1]
   by_cases h2:a=j
   ·subst h2
    rw [List.getElem?_set_self (by rw [y2s]; exact al),v1f rfl,v10 h1]
    congr 2
   ·rw [List.getElem?_set_ne h2,zwi l i hj,v10 h1,v10 h2]
    congr 2
 ·rw [v0q (by rw [v2g,v2g,y2s]; omega),v0q (by rw [y2s]; omega)]
abbrev ykj (l:List IV) (dim:Int) (b:Bool) (i:Int) (nm:List IV):St:=
 ⟨[(0,(.list false [(.int .u64)] l)),(1,(.int .i64 dim)),(4,(.bool b)),(5,(.row 22 0 l.length)),(23,(.list false [(.int .u64)] l)),(24,(.int .i64 (ic l.length))),(25,(.int .i64 i))],[(22,(some (.row true 3 false [(.int .i64)] nm)))]⟩
theorem zy7 (N:Nat) (l:List IV) (dim:Int) (hl:l.length≤31) (K:Out→St→Res) (hK:∀ i nm,K .ret (ykj l dim false i nm)=some (.bool false,[])):∀ (d i n:Nat),i+d=l.length→d < n →
  lpE (z0u N) (z0j z27 [1,1,1,0,1,0,0]) ⟨[0,1,4,5,23,24,25],[22],[]⟩ n (ykj l dim false (i:Int) (NM l i)) K =
   cond (zd5 dim (ic l.length) i (l.drop i)) (K (.exit 0) (ykj l dim false (ic l.length) (NM l l.length))) (some (.bool false,[]))
 | d,i,0,_,h=>absurd h (by omega)
 | 0,i,n+1,hd,_=>by
  have hi:i=l.length:=by omega
  subst hi;rw [z05,zh9];rw [v07 (show ¬ ((l.length:Nat):Int) < ic l.length by simp only [ic]; omega),z02,v26]
  rfl
 | d+1,i,n+1,hd,hn=>by
  have hil:i < l.length:=by omega
  have hw:l[i]?=some l[i]:=v0e hil;rw [z05,zh9,v0i hil];have hg:l.getD (Int.toNat (i:Int)) default=l[i]:=by
   rw [v0l,v0m,hw]
   rfl
  rw [hg];generalize l[i]=w at hw ⊢
  have ei:IntKind.wrap IntKind.i64 ((i:Int)+1)=((i+1:Nat):Int):=by
   rw [z19 (by omega) (by omega)]
   omega
  rw [ei,v01 (show (i:Int) < ic l.length by simp only [ic]; omega),z00,v01 (show (0:Int)≤(i:Int) by omega),v0t,z00]
  unfold zd5;cases hb:zau w.toInt with
  | false=>
   simp only [v0h,z00,v0v,z02];exact hK (i:Int) (NM l i)
  | true=>
   simp only [v0c,z02,v0r];unfold zy0;cases hlf:(z07 w.toInt).lf with
   | true=>
    simp only [z00,v0r];rw [← yiq hw hlf];exact zy7 N l dim hl K hK d (i+1) n (by omega) (by omega)
   | false=>
    simp only [z02];cases h1:decide ((z07 w.toInt).f≥dim) with
    | true=>
     simp only [z00,v0c,v0v,z02];exact hK (i:Int) (NM l i)
    | false=>
    cases h2:((z07 w.toInt).l==(z07 w.toInt).r) with
    | true=>
     simp only [z00,z02,v0c,v0h,v0v,v2c];exact hK (i:Int) (NM l i)
    | false=>
    cases h3:decide (min (z07 w.toInt).l (z07 w.toInt).r≤(i:Int)) with
    | true=>
     simp only [z00,z02,v0c,v0h,v0v,v2c];exact hK (i:Int) (NM l i)
    | false=>
    cases h4:decide (max (z07 w.toInt).l (z07 w.toInt).r≥ic l.length) with
    | true=>
     simp only [z00,z02,v0c,v0h,v0v,v2c];exact hK (i:Int) (NM l i)
    | false=>
     have g2:(z07 w.toInt).l≠(z07 w.toInt).r:=v1a.1 h2;have g3:=v0s h3;have g4:=v0s h4;simp only [ic] at g4;obtain ⟨a,ha⟩:∃ a:Nat,(z07 w.toInt).l=(a:Int):=⟨(z07 w.toInt).l.toNat,by omega⟩
     obtain ⟨b,hb'⟩:∃ b:Nat,(z07 w.toInt).r=(b:Int):=⟨(z07 w.toInt).r.toNat,by omega⟩
     have hab:a≠b:=fun e=>g2 (by rw [ha,hb',e])
     have al:a < l.length:=by omega
     have bl:b < l.length:=by omega
     have hN:=yh7 hw hlf hl ha hb' hab al bl;rw [ha,hb'];rw [v01 (show (0:Int)≤(a:Int) by omega),v01 (show (0:Int)≤(b:Int) by omega),v01 (show (a:Int) < ic (l.length - 0) by simp only [ic]; omega),v01 (show (b:Int) < ic (l.length - 0) by simp only [ic]; omega)]
     simp only [z00,z02,v0h,v0t,v0r,v0l,v0n];refine v4a ?_ (zy7 N l dim hl K hK d (i+1) n (by omega) (by omega))
     rw [← hN]
     rfl
abbrev yls (l:List IV) (b:Bool) (j:Int):St:=
 ⟨[(4,(.bool b)),(85,(.row 22 1 (0+(l.length - 0)))),(86,(.int .i64 (ic (0+(l.length - 0) - 1)))),(87,(.int .i64 j))],[(22,(some (.row true 3 false [(.int .i64)] (NM l l.length))))]⟩
theorem y7z (N:Nat) (l:List IV) (hl:l.length≤31):∀ (d j n:Nat),j+d=l.length - 1→d < n →
  lpE (z0u N) (z0j z27 [1,1,1,1,0,1,0,0]) ⟨[4,85,86,87],[22],[]⟩ n (yls l false (j:Int)) (z06 2 (kSq (z0u N) (z0j z27 [1,1,1,1,1]) (z30 (z0u N) none [(ResultVar.tmp 4)] [[.bool]]))) =
   some (.bool ((List.range' j d).all fun j=>z5j l (j+1)==1),[])
 | d,j,0,_,h=>absurd h (by omega)
 | 0,j,n+1,hd,_=>by
  rw [z05,zhd,v07 (show ¬ (j:Int) < ic (0+(l.length - 0) - 1) by simp only [ic]; omega),z02]
  exact zng N false _ _ _ _
 | d+1,j,n+1,hd,hn=>by
  have ej:IntKind.wrap IntKind.i64 ((j:Int)+1)=((j+1:Nat):Int):=by
   rw [z19 (by omega) (by omega)]
   omega
  rw [z05,zhd,ej,v01 (show (j:Int) < ic (0+(l.length - 0) - 1) by simp only [ic]; omega),z00,v01 (show (0:Int)≤(j:Int) by omega),v0t,z00]
  have hg:((NM l l.length).getD (1+Int.toNat (j:Int)) default).toInt=(z5j l (j+1):Nat):=by
   rw [v0l,Nat.add_comm 1 j,v0m,zwi l l.length (by omega),v0w]
   rfl
  rw [hg,List.range'_succ,v32];have e:(((z5j l (j+1):Nat):Int) != 1)=!(z5j l (j+1)==1):=by
   show (!(((z5j l (j+1):Nat):Int)==1))=_
   congr 1
   rw [v2w,v1g,v1g];omega
  rw [e];cases (z5j l (j+1)==1) with
  | false=>
   rw [v0h,z00];exact znr N false _ _ _ _
  | true=>
   rw [v0c,z02,v0r];exact y7z N l hl d (j+1) n (by omega) (by omega)
theorem yb3 (N:Nat) (l:List IV) (dim:Int) (hl:l.length≤31) (h1:1≤l.length) (hN:40≤N) (i:Int) :
  (z06 0 (kSq (z0u N) (z0j z27 [1,1,1,1]) (z30 (z0u N) none [(ResultVar.tmp 4)] [[.bool]]))) (.exit 0) (ykj l dim false i (NM l l.length))=some (.bool (ycc l),[]):=by
 refine (zn0 N l dim false l.length l (ic l.length) i (NM l l.length)).trans ?_;rw [v01 (show (0:Nat)≤1 by omega),v01 (show (1:Int)≤ic (l.length - 0) by simp only [ic]; omega),v0t,z00]
 have:=y7z N l hl (l.length - 1) 0 N (by omega) (by omega)
 refine this.trans ?_;unfold ycc;rw [v3r]
theorem ziy:z2y PR B0 96 z7l:=by
 refine z0i [(55,z1y)] [(5,⟨[0,1,4,5,23,24,25],[22],[]⟩),(17,⟨[4,85,86,87],[22],[]⟩)] z7l [[.bool]] Tryz.func96 y3c ⟨z5t,trivial⟩ ?_;intro vs r hwf h;unfold z7l at h
 split at h
 ·rename_i l dim
  refine ⟨40,?_⟩;rw [R.get_ok] at h;rw [← h];refine (zxm 40 l dim).trans ?_;unfold z94
  by_cases h1:1≤l.length
  ·by_cases h2:l.length≤31
   ·have eb:ic (TI.bytes (Env.tyd (z0u 40) 3))=8:=rfl
    rw [v07 (show ¬ ic l.length < 1 by simp only [ic]; omega),v07 (show ¬ ic l.length > 31 by simp only [ic]; omega),z02,z02,eb,
     v01 (show (0:Int)≤ic l.length by simp only [ic]; omega),v01 (show ic l.length=ic l.length from rfl),v01 (show ic l.length*8≤ic z0c by unfold z0c; simp only [ic]; omega)]
    have e0:(Nat.blt 0 (TI.size (Env.tyd (z0u 40) 3))&&(Nat.blt 3 1000000&&true)&&(true&&true))=true:=rfl;have e1:Int.toNat (ic l.length)=l.length:=by simp only [ic]; omega
    rw [e0,z00,e1,← yi3,v1i h1,v1i h2];refine (zy7 40 l dim h2 _ (fun i nm=>?_) l.length 0 40 (by omega) (by omega)).trans ?_
    ·exact zn1 40 l dim false l.length l (ic l.length) i nm
    ·rw [v11,yb3 40 l dim h2 h1 (by omega)]
     cases zd5 dim (ic l.length) 0 l <;> rfl
   ·have e:Nat.ble l.length 31=false:=by
     cases hb:Nat.ble l.length 31 with
     | false=>rfl
     | true=>exact absurd (v03 hb) h2
    rw [v07 (show ¬ ic l.length < 1 by simp only [ic]; omega),v01 (show ic l.length > 31 by simp only [ic]; omega),z02,z00,e,v2c,v0v]
  ·have e:Nat.ble 1 l.length=false:=by
    cases hb:Nat.ble 1 l.length with
    | false=>rfl
    | true=>exact absurd (v03 hb) h1
   rw [v01 (show ic l.length < 1 by simp only [ic]; omega),z00,e,v0v,v0v]
 ·simp [R.get] at h
theorem ze5:z2y PR B0 95 z4w:=by
 refine z0i [(96,z7l)] [] z4w [[.bool]] Tryz.func95 zrk ⟨ziy,trivial⟩ ?_;intro vs r hwf h;unfold z4w at h
 split at h
 ·rename_i k l d c b0 b1 b2 ts
  refine ⟨0,?_⟩;rw [R.get_ok] at h;rw [← h];refine (zpz 0 k l d c b0 b1 b2 ts).trans ?_;have e:z81 d c (.agg [.int k,.list l])=(!(decide (k < 0))&&(!(decide (k≥c))&&z94 l d)):=rfl;rw [e];cases decide (k < 0) with
  | true=>rfl
  | false=>
   cases decide (k≥c) with
   | true=>rfl
   | false=>rfl
 ·simp [R.get] at h
abbrev ym0 (l:List IV) (d c b0 b1 b2:Int) (ts:List IV) (r i:Int):St:=
 ⟨[(0,(.list true [(.int .i64),(.list false [(.int .u64)])] l)),(1,(.clo 95 [(.ptr 900000 0 0)])),(4,(.int .i64 r)),(7,(.int .i64 (ic l.length))),(8,(.int .i64 i))],[(900000,(some (.box [(.int .i64 d),(.int .i64 c),(.int .i64 b0),(.int .i64 b1),(.int .i64 b2),(.list true [(.int .i64),(.list false [(.int .u64)])] ts)])))]⟩
theorem y9d (d c:Int) (t:IV):z81 d c (.agg [.int (IV.toInt (IV.cell t 0)),.list (IV.toList (IV.cell t 1))])=z81 d c t:=rfl
theorem y1v (N:Nat) (l:List IV) (hl:l.length≤strMax) (d c b0 b1 b2:Int) (ts:List IV):∀ (m i n:Nat),i+m=l.length→m < n →
  lpE (z09 N) (z0j z0h [1,0,1,0,0]) ⟨[0,1,4,7,8],[900000],[]⟩ n (ym0 l d c b0 b1 b2 ts 0 (i:Int)) (z06 0 (kSq (z09 N) (z0j z0h [1,1]) (z30 (z09 N) (some [(.int .i64 d),(.int .i64 c),(.int .i64 b0),(.int .i64 b1),(.int .i64 b2),(.list true [(.int .i64),(.list false [(.int .u64)])] ts)]) [(ResultVar.tmp 4)] [[(.int .i64)]]))) =
   some (.int .i64 (zqi d c (l.drop i) (i:Int)),[[(.int .i64 d),(.int .i64 c),(.int .i64 b0),(.int .i64 b1),(.int .i64 b2),(.list true zjw ts)]])
 | m,i,0,_,h=>absurd h (by omega)
 | 0,i,n+1,hd,_=>by
  have hi:i=l.length:=by omega
  subst hi;rw [z05,z4n,v07 (show ¬ ((l.length:Nat):Int) < ic l.length by simp only [ic]; omega),z02,v26]
  exact z7x N d c b0 b1 b2 ts l 0 (ic l.length) (l.length:Int) d c b0 b1 b2 ts
 | m+1,i,n+1,hd,hn=>by
  have hil:i < l.length:=by omega
  have m':strMax=140737488355327:=rfl;have ei:IntKind.wrap IntKind.i64 ((i:Int)+1)=((i+1:Nat):Int):=by
   rw [z19 (by omega) (by omega)]
   omega
  have hg:l.getD (Int.toNat (i:Int)) default=l[i]:=by
   rw [v0l,v0m,v0e hil]
   rfl
  rw [z05,z4n,ei,hg,y9d,v01 (show (i:Int) < ic l.length by simp only [ic]; omega),z00,v01 (show (0:Int)≤(i:Int) by omega),v0t,z00,v0i hil,zqi]
  cases z81 d c l[i] with
  | true=>
   rw [v0c,z02,z00];exact y1v N l hl d c b0 b1 b2 ts m (i+1) n (by omega) (by omega)
  | false=>
   rw [v0h,z00,z02];exact z7u N d c b0 b1 b2 ts l (i:Int) (ic l.length) (i:Int) d c b0 b1 b2 ts
theorem z8v:z2y PR B0 147 z1j:=by
 refine z0i [(95,z4w)] [(2,⟨[0,1,4,7,8],[900000],[]⟩)] z1j [[.int .i64]] Tryz.func147 z9m ⟨ze5,trivial⟩ ?_;intro vs r hwf h;unfold z1j at h
 split at h
 ·rename_i l d c b0 b1 b2 ts
  refine ⟨l.length+1,?_⟩;rw [R.get_ok] at h;rw [← h];refine (z9g (l.length+1) l d c b0 b1 b2 ts).trans ?_;have hl:l.length≤strMax:=by
   have hb:=hwf (by simp [zc8])
   have:=hb.1
   simp only [wfV,wfL] at this;exact this.1
  exact y1v (l.length+1) l hl d c b0 b1 b2 ts l.length 0 (l.length+1) (by omega) (by omega)
 ·simp [R.get] at h
theorem yb6 (d c:Int):∀ (l:List IV) (i:Nat),decide (zqi d c l (i:Int)≥0)=!(l.all (z81 d c))
 | [],i=>rfl
 | t :: l,i=>by
  unfold zqi;rw [v32];cases z81 d c t with
  | true=>
   rw [z00,v0r];exact yb6 d c l (i+1)
  | false=>
   rw [z02,v0v,v01 (show (i:Int)≥0 by omega)]
   rfl
theorem z7w:z2y PR B0 94 z1b:=by
 refine z0i [(147,z1j)] [] z1b [[.bool]] Tryz.func94 z8h ⟨z8v,trivial⟩ ?_;intro vs r hwf h;unfold z1b at h
 split at h
 ·rename_i l d c b0 b1 b2 ts
  refine ⟨0,?_⟩;rw [R.get_ok] at h;rw [← h];refine (z87 0 l d c b0 b1 b2 ts).trans ?_
  have:=yb6 d c l 0
  rw [show ((0:Nat):Int)=0 from rfl] at this
  rw [this]
 ·simp [R.get] at h
abbrev yir (d c b0 b1 b2:Int) (ts:List IV) (b:Bool) (i:Int):St:=
 ⟨[(1,(.ptr 1 0 0)),(2,(.bool b)),(30,(.agg [(.int .i64 b0),(.int .i64 b1),(.int .i64 b2)])),(31,(.int .i64 i))],[(1,(some (.box [(.int .i64 d),(.int .i64 c),(.int .i64 b0),(.int .i64 b1),(.int .i64 b2),(.list true [(.int .i64),(.list false [(.int .u64)])] ts)]))),(53005,none)]⟩
theorem ydj (c j b:Int) {α:Type _} (x y:α):cond (!z1u b) y (cond (decide (j≥c)) (cond (b != 0) y x) x)=cond (zga c j b) x y:=by
 unfold zga;have e:(b != 0)=!(b==0):=rfl;rw [e];cases z1u b <;> cases decide (j≥c) <;> cases (b==0) <;> rfl
theorem znz (N:Nat) (d c b0 b1 b2:Int) (ts:List IV) (j:Nat) (b:Int) (h:(j=0∧b=b0)∨(j=1∧b=b1)∨(j=2∧b=b2)) (again:St→Res) (k:Out→St→Res) :
  rnd (z2h N) (z0j z3s [1,1,0,1,0,0]) (yir d c b0 b1 b2 ts false (j:Int)) (z3t again ⟨[1,2,30,31],[1,53005],[]⟩ k) =
   cond (zga c (j:Int) b) (again (yir d c b0 b1 b2 ts false ((j+1:Nat):Int))) (k .ret (yir d c b0 b1 b2 ts false (j:Int))):=by
 rw [zg3];have ej:IntKind.wrap IntKind.i64 ((j:Int)+1)=((j+1:Nat):Int):=by
  rw [z19 (by omega) (by omega)]
  omega
 rw [ej,← ydj,v01 (show (j:Int) < 3 by omega),z00]
 rcases h with ⟨rfl,rfl⟩ | ⟨rfl,rfl⟩ | ⟨rfl,rfl⟩ <;> rfl
theorem z5w:z2y PR B0 53 z1z:=by
 refine z0i [(93,z6d),(95,z4w),(94,z1b)] [(4,⟨[1,2,30,31],[1,53005],[]⟩)] z1z [[.bool]] Tryz.func53 zzv ⟨zev,ze5,z7w,trivial⟩ ?_;intro vs r hwf h;unfold z1z at h
 split at h
 ·rename_i d c b0 b1 b2 ts
  refine ⟨6,?_⟩;rw [R.get_ok] at h;rw [← h];refine (zux 6 d c b0 b1 b2 ts).trans ?_;have run:lpE (z2h 6) (z0j z3s [1,1,0,1,0,0]) ⟨[1,2,30,31],[1,53005],[]⟩ 6 (yir d c b0 b1 b2 ts false 0) (z06 0 (kSq (z2h 6) (z0j z3s [1,1,1]) (z30 (z2h 6) none [(ResultVar.tmp 2)] [[.bool]]))) =
    some (.bool ((zga c 0 b0&&(zga c 1 b1&&zga c 2 b2))&&ts.all (z81 d c)),[]):=by
   have e0:yir d c b0 b1 b2 ts false 0=yir d c b0 b1 b2 ts false ((0:Nat):Int):=rfl;have R2:=fun j=>zlo 6 false b0 b1 b2 j d c b0 b1 b2 ts
   have R1:=fun j=>zls 6 false b0 b1 b2 j d c b0 b1 b2 ts
   rw [e0,z05,znz 6 d c b0 b1 b2 ts 0 b0 (by simp),R2]
   cases h0:zga c ((0:Nat):Int) b0 with
   | false=>rfl
   | true=>
    rw [z00,z05,znz 6 d c b0 b1 b2 ts 1 b1 (by simp),R2]
    cases h1:zga c ((1:Nat):Int) b1 with
    | false=>rfl
    | true=>
     rw [z00,z05,znz 6 d c b0 b1 b2 ts 2 b2 (by simp),R2]
     cases h2:zga c ((2:Nat):Int) b2 with
     | false=>rfl
     | true=>
      rw [z00,z05,zg3,v07 (show ¬ ((2+1:Nat):Int) < 3 by omega),z02,R1,Bool.not_not]
      rfl
  unfold z2b;cases decide (d < 1) with
  | true=>rfl
  | false=>
  cases decide (d > 4) with
  | true=>rfl
  | false=>
  cases decide (c < 1) with
  | true=>rfl
  | false=>
  cases decide (c > 3) with
  | true=>rfl
  | false=>
   simp only [z02,v0h,v0r]
   by_cases h8:ts.length≤8
   ·rw [v07 (show ¬ ic ts.length > 8 by simp only [ic]; omega),z02,v1i h8,v0r]
    exact run
   ·have e:Nat.ble ts.length 8=false:=by
     cases hb:Nat.ble ts.length 8 with
     | false=>rfl
     | true=>exact absurd (v03 hb) h8
    rw [v01 (show ic ts.length > 8 by simp only [ic]; omega),z00,e,v0v]
 ·simp [R.get] at h
open Go Go.Proofs
def y9b (N:Nat):Env:=mkE [(44,z6m),(144,zbl),(84,zak),(104,z7v),(57,z6f),(86,z54)] [] 76 N
theorem y75 (N:Nat) (s:ByteArray):z11 (y9b N) zwl [.tmp 2,.tmp 3] [[.int .i64],[.bool]] [(.str s)] =
 (cond (decide (ByteArray.size (z1w s { data:=#[45] }) < 4294967281))
 (cond (decide (ic (ByteArray.size (zkf (z1w s { data:=#[45] }) { data:=#[46] })) > 8))
 (some ((.tup [(.i 0),(.bool false)]),[]))
 (cond (decide (0≤IntKind.wrap IntKind.i64 (8 - ic (ByteArray.size (zkf (z1w s { data:=#[45] }) { data:=#[46] }))))&&decide (ByteArray.size { data:=#[48] }*Int.toNat (IntKind.wrap IntKind.i64 (8 - ic (ByteArray.size (zkf (z1w s { data:=#[45] }) { data:=#[46] }))))≤strMax))
 (cond (decide (ByteArray.size (zkf (z1w s { data:=#[45] }) { data:=#[46] })+ByteArray.size (zmf { data:=#[48] } (Int.toNat (IntKind.wrap IntKind.i64 (8 - ic (ByteArray.size (zkf (z1w s { data:=#[45] }) { data:=#[46] }))))))≤strMax))
 (cond (!puN (cutL (z1w s { data:=#[45] }) { data:=#[46] }))
 (some ((.tup [(.i 0),(.bool false)]),[]))
 (cond (!puN (zkf (z1w s { data:=#[45] }) { data:=#[46] }++zmf { data:=#[48] } (Int.toNat (IntKind.wrap IntKind.i64 (8 - ic (ByteArray.size (zkf (z1w s { data:=#[45] }) { data:=#[46] })))))))
 (some ((.tup [(.i 0),(.bool false)]),[]))
 (cond (decide (puV (cutL (z1w s { data:=#[45] }) { data:=#[46] }) > 36028797018963968))
 (some ((.tup [(.i 0),(.bool false)]),[]))
 (cond (Int.tmod (puV (zkf (z1w s { data:=#[45] }) { data:=#[46] }++zmf { data:=#[48] } (Int.toNat (IntKind.wrap IntKind.i64 (8 - ic (ByteArray.size (zkf (z1w s { data:=#[45] }) { data:=#[46] }))))))) 390625 != 0)
 (some ((.tup [(.i 0),(.bool false)]),[]))
 (cond (zmw s { data:=#[45] })
 (cond (ByteArray.toList (z0e (IntKind.wrap IntKind.i64 (IntKind.wrap IntKind.u64 (0 - IntKind.wrap IntKind.u64 (IntKind.wrap IntKind.u64 (puV (cutL (z1w s { data:=#[45] }) { data:=#[46] })*2 ^ min (Int.toNat 8) (IntKind.bits IntKind.u64))+IntKind.wrap IntKind.u64 (Int.tdiv (puV (zkf (z1w s { data:=#[45] }) { data:=#[46] }++zmf { data:=#[48] } (Int.toNat (IntKind.wrap IntKind.i64 (8 - ic (ByteArray.size (zkf (z1w s { data:=#[45] }) { data:=#[46] }))))))) 390625))))))==ByteArray.toList s)
 (some ((.tup [(.i (IntKind.wrap IntKind.i64 (IntKind.wrap IntKind.u64 (0 - IntKind.wrap IntKind.u64 (IntKind.wrap IntKind.u64 (puV (cutL (z1w s { data:=#[45] }) { data:=#[46] })*2 ^ min (Int.toNat 8) (IntKind.bits IntKind.u64))+IntKind.wrap IntKind.u64 (Int.tdiv (puV (zkf (z1w s { data:=#[45] }) { data:=#[46] }++zmf { data:=#[48] } (Int.toNat (IntKind.wrap IntKind.i64 (8 - ic (ByteArray.size (zkf (z1w s { data:=#[45] }) { data:=#[46] }))))))) 390625)))))),(.bool true)]),[]))
 (some ((.tup [(.i 0),(.bool false)]),[])))
 (cond (ByteArray.toList (z0e (IntKind.wrap IntKind.i64 (IntKind.wrap IntKind.u64 (IntKind.wrap IntKind.u64 (puV (cutL (z1w s { data:=#[45] }) { data:=#[46] })*2 ^ min (Int.toNat 8) (IntKind.bits IntKind.u64))+IntKind.wrap IntKind.u64 (Int.tdiv (puV (zkf (z1w s { data:=#[45] }) { data:=#[46] }++zmf { data:=#[48] } (Int.toNat (IntKind.wrap IntKind.i64 (8 - ic (ByteArray.size (zkf (z1w s { data:=#[45] }) { data:=#[46] }))))))) 390625)))))==ByteArray.toList s)
 (some ((.tup [(.i (IntKind.wrap IntKind.i64 (IntKind.wrap IntKind.u64 (IntKind.wrap IntKind.u64 (puV (cutL (z1w s { data:=#[45] }) { data:=#[46] })*2 ^ min (Int.toNat 8) (IntKind.bits IntKind.u64))+IntKind.wrap IntKind.u64 (Int.tdiv (puV (zkf (z1w s { data:=#[45] }) { data:=#[46] }++zmf { data:=#[48] } (Int.toNat (IntKind.wrap IntKind.i64 (8 - ic (ByteArray.size (zkf (z1w s { data:=#[45] }) { data:=#[46] }))))))) 390625))))),(.bool true)]),[]))
 (some ((.tup [(.i 0),(.bool false)]),[]))))))))
 none)
 none))
 none):=by kernel_rfl
open Go Go.Proofs
theorem zoy:z2y PR B0 84 zak:=by
 refine z0i [] [(3,⟨[0,1,2],[],[]⟩)] zak [[.int .u64]] Tryz.func84 y9u trivial ?_;intro vs r hwf h;unfold zak at h
 split at h
 ·refine ⟨9,?_⟩
  rw [← h];show z11 (y9f 9) zwn [.tmp 0] [[.int .u64]] []=_
  kernel_rfl
 ·simp [R.get] at h
theorem yh8 {s:ByteArray} (h:puN s=true):0 < s.size:=by
 unfold puN at h
 split at h
 ·rename_i v hv
  have:s.data.toList≠[]:=fun e=>by rw [e] at hv; cases hv
  rw [zdw];exact List.length_pos_iff.2 this
 ·cases h
theorem yb9 {s:ByteArray} (h:puN s=true):(List.getD s.data.toList 0 0).toNat≠43:=by
 unfold puN at h
 split at h
 ·rename_i v hv
  revert hv
  cases s.data.toList with
  | nil=>intro _; decide
  | cons c r=>
   intro hv he;have he:c.toNat=43:=he;unfold Lib.parseMag at hv;rw [v10 (by simp),Lib.parseUint10,v10 (by omega)] at hv
   cases hv
 ·cases h
theorem zu4:z2y PR B0 144 zbl:=by
 refine z0i [(189,z6i)] [] zbl [[.int .u64],[.bool]] Tryz.func144 y42 ⟨zhq,trivial⟩ ?_;intro vs r hwf h;unfold zbl at h
 split at h
 ·rename_i s
  refine ⟨0,?_⟩;rw [← h];refine (zzk 0 s).trans ?_;simp only [R.get_ok];cases hp:puN s with
  | false=>simp only [z02]
  | true=>
   have h1:(decide (0≤0)&&decide (0 < ic (ByteArray.size s)))=true:=by
    have:=yh8 hp
    simp [ic]; omega
   have h2:(ic (UInt8.toNat (List.getD (Array.toList (ByteArray.data s)) (Int.toNat 0) 0)) != 43)=true:=by
    have:=yb9 hp
    rw [ybi];simp only [ic,Int.toNat_zero];simp only [v17,v19];omega
   rw [h1,h2];simp only [z00]
 ·simp [R.get] at h
theorem ycy {n:Int} (h0:0≤n) (h1:n < 18446744073709551616):IntKind.wrap .u64 n=n:=by rw [IntKind.wrap_u64]; omega
theorem yfm {n:Int} (h0:n < 0) (h1 : -9223372036854775808≤n):IntKind.wrap .u64 (0 - IntKind.wrap .u64 n)=(n.natAbs:Int):=by rw [IntKind.wrap_u64,IntKind.wrap_u64]; omega
theorem yfr {n:Int} (h0:¬ n < 0) (h1:n≤9223372036854775807):IntKind.wrap .u64 n=(n.natAbs:Int):=by rw [IntKind.wrap_u64]; omega
theorem ycf (u:Nat) (h:u < 18446744073709551616):IntKind.wrap .u64 (ic (BitVec.toNat (BitVec.ofInt (IntKind.bits IntKind.u64) (u:Int) &&& BitVec.ofInt (IntKind.bits IntKind.u64) 255)))=((u % 256:Nat):Int):=by
 have e:BitVec.toNat (BitVec.ofInt (IntKind.bits IntKind.u64) (u:Int) &&& BitVec.ofInt (IntKind.bits IntKind.u64) 255)=u % 256:=by
  have h1:(BitVec.ofInt (IntKind.bits IntKind.u64) (u:Int)).toNat=u:=by
   show (BitVec.ofInt 64 (u:Int)).toNat=u;rw [BitVec.toNat_ofInt];omega
  have h2:(BitVec.ofInt (IntKind.bits IntKind.u64) 255).toNat=2 ^ 8 - 1:=by rfl
  rw [BitVec.toNat_and,h1,h2,Nat.and_two_pow_sub_one_eq_mod]
 rw [e];exact ycy (by simp [ic]; omega) (by simp [ic]; omega)
theorem yjk (u:Nat):Int.fdiv (u:Int) (2 ^ min (Int.toNat 8) (IntKind.bits IntKind.u64))=((u / 256:Nat):Int):=by
 have e:(2:Int) ^ min (Int.toNat 8) (IntKind.bits IntKind.u64)=((256:Nat):Int):=rfl;rw [e,Int.fdiv_eq_ediv_of_nonneg _ (by omega)]
 rfl
theorem y90 {r:Nat} (h:r < 256):IntKind.wrap .u64 ((r:Int)*390625)=((r*390625:Nat):Int):=by
 rw [ycy (by omega) (by omega)]
 omega
theorem zzy (u:Nat):za8 (u:Int)=⟨(Lib.decDigits u).toArray⟩:=rfl
theorem ycr:(List.range 256).all (fun r=>Nat.ble (Lib.decDigits (r*390625)).length 8)=true:=by kernel_rfl
theorem yfu {r:Nat} (h:r < 256):(Lib.decDigits (r*390625)).length≤8:=by
 have:=v3a.1 ycr r (List.mem_range.2 h)
 exact v03 this
theorem ycn (l:List UInt8):(⟨l.toArray⟩:ByteArray).data.toList=l:=rfl
theorem zlf (s t:ByteArray):(s++t).data.toList=s.data.toList++t.data.toList:=by simp
theorem yi5 (l:List UInt8):(⟨l.toArray⟩:ByteArray).size=l.length:=by rw [zdw]
theorem zvp {u:Nat} (hu:u < 18446744073709551616) (sg:ByteArray) (hsg:sg.size≤1) (K:ByteArray) (hK:K=sg++⟨(zuj u).toArray⟩) :
  (cond (decide (ByteArray.size sg+ByteArray.size (za8 ((u / 256:Nat):Int))≤strMax))
   (cond (((u % 256:Nat):Int)==0)
    (some ((.str (sg++za8 ((u / 256:Nat):Int))),[]))
    (cond (decide (ByteArray.size (sg++za8 ((u / 256:Nat):Int))+ByteArray.size { data:=#[46] }≤strMax))
     (cond (decide (0≤IntKind.wrap IntKind.i64 (8 - ic (ByteArray.size (za8 ((u % 256*390625:Nat):Int)))))&&decide (ByteArray.size { data:=#[48] }*Int.toNat (IntKind.wrap IntKind.i64 (8 - ic (ByteArray.size (za8 ((u % 256*390625:Nat):Int)))))≤strMax))
      (cond (decide (ByteArray.size (zmf { data:=#[48] } (Int.toNat (IntKind.wrap IntKind.i64 (8 - ic (ByteArray.size (za8 ((u % 256*390625:Nat):Int)))))))+ByteArray.size (za8 ((u % 256*390625:Nat):Int))≤strMax))
       (cond (decide (ByteArray.size (sg++za8 ((u / 256:Nat):Int)++{ data:=#[46] })+ByteArray.size (zfw (zmf { data:=#[48] } (Int.toNat (IntKind.wrap IntKind.i64 (8 - ic (ByteArray.size (za8 ((u % 256*390625:Nat):Int))))))++za8 ((u % 256*390625:Nat):Int)) { data:=#[48] })≤strMax))
        (some ((.str (sg++za8 ((u / 256:Nat):Int)++{ data:=#[46] }++zfw (zmf { data:=#[48] } (Int.toNat (IntKind.wrap IntKind.i64 (8 - ic (ByteArray.size (za8 ((u % 256*390625:Nat):Int))))))++za8 ((u % 256*390625:Nat):Int)) { data:=#[48] })),[]))
        none)
       none)
      none)
     none))
   none)=(some (V.str K,[]):Res):=by
 have hr:u % 256 < 256:=by omega
 have l1:(za8 ((u / 256:Nat):Int)).size≤20:=zqv (by omega) (by omega)
 have l2:(za8 ((u % 256*390625:Nat):Int)).size=(Lib.decDigits (u % 256*390625)).length:=by rw [zzy,yi5]
 have l3:=yfu hr;generalize hD:Lib.decDigits (u % 256*390625)=D at l2 l3;have e8:IntKind.wrap IntKind.i64 (8 - ic (ByteArray.size (za8 ((u % 256*390625:Nat):Int))))=((8 - D.length:Nat):Int):=by
  rw [l2,z19 (by simp [ic]; omega) (by simp [ic]; omega)]
  simp only [ic];omega
 rw [e8];simp only [v0l];have s46:ByteArray.size { data:=#[46] }=1:=rfl;have s48:ByteArray.size { data:=#[48] }=1:=rfl;have l4:(zmf { data:=#[48] } (8 - D.length)).size=8 - D.length:=by rw [zro,s48]; omega
 have l5:=zr0 (zmf { data:=#[48] } (8 - D.length)++za8 ((u % 256*390625:Nat):Int)) { data:=#[48] };rw [v0g,l4,l2] at l5;rw [v01 (show ByteArray.size sg+ByteArray.size (za8 ((u / 256:Nat):Int))≤strMax by unfold strMax; omega),
  v01 (show ByteArray.size (sg++za8 ((u / 256:Nat):Int))+ByteArray.size { data:=#[46] }≤strMax by rw [v0g,s46]; unfold strMax; omega),
  v01 (show (0:Int)≤((8 - D.length:Nat):Int) by omega),
  v01 (show ByteArray.size { data:=#[48] }*(8 - D.length)≤strMax by rw [s48]; unfold strMax; omega),
  v01 (show ByteArray.size (zmf { data:=#[48] } (8 - D.length))+ByteArray.size (za8 ((u % 256*390625:Nat):Int))≤strMax by rw [l4,l2]; unfold strMax; omega),
  v01 (show ByteArray.size (sg++za8 ((u / 256:Nat):Int)++{ data:=#[46] })+ByteArray.size (zfw (zmf { data:=#[48] } (8 - D.length)++za8 ((u % 256*390625:Nat):Int)) { data:=#[48] })≤strMax by rw [v0g,v0g,s46]; unfold strMax; omega)]
 simp only [z00,v1c];subst hK
 by_cases h0:u % 256=0
 ·have e0:(((u % 256:Nat):Int)==0)=true:=by rw [zkb]; exact v01 (by omega)
  rw [e0,z00]
  have:sg++za8 ((u / 256:Nat):Int)=sg++⟨(zuj u).toArray⟩:=by
   apply zbi;rw [zlf,zlf,zzy,ycn,ycn,zuj,v1f h0,v2n]
  rw [this]
 ·have e0:(((u % 256:Nat):Int)==0)=false:=by rw [zkb]; exact v07 (by omega)
  rw [e0,z02]
  have:sg++za8 ((u / 256:Nat):Int)++{ data:=#[46] }++zfw (zmf { data:=#[48] } (8 - D.length)++za8 ((u % 256*390625:Nat):Int)) { data:=#[48] }=sg++⟨(zuj u).toArray⟩:=by
   apply zbi;simp only [zlf,zzy,zuj,v10 h0,zfw,zmf,zus,hD,v33]
   rfl
  rw [this]
theorem zfm:z2y PR B0 44 z6m:=by
 refine z0i [(84,zak),(83,z5r),(86,z54),(85,z6g)] [] z6m [[.str]] Tryz.func44 y62 ⟨zoy,zgg,zdx,zhr,trivial⟩ ?_;intro vs r hwf h;unfold z6m at h
 split at h
 ·rename_i n
  refine ⟨0,?_⟩;rw [← h];refine (y17 0 n).trans ?_;simp only [R.get_ok];have hb:=(hwf (by simp [zc8])).1
  simp only [wfV,wfL] at hb;obtain ⟨h0,h1⟩:=hb;have e0:IntKind.i64.min = -9223372036854775808:=rfl;have e1:IntKind.i64.max=9223372036854775807:=rfl;rw [e0] at h0;rw [e1] at h1;have hu:n.natAbs < 18446744073709551616:=by omega
  by_cases hn:n < 0
  ·rw [v01 hn,z00,yfm hn h0,yjk,ycf _ hu,y90 (by omega)]
   exact zvp hu ⟨#[45]⟩ (by decide) _ (by apply zbi; rw [zlf]; unfold z0e zrh; rw [v1f hn]; rfl)
  ·rw [v07 hn,z02,yfr hn h1,yjk,ycf _ hu,y90 (by omega)]
   exact zvp hu ⟨#[]⟩ (by decide) _ (by apply zbi; rw [zlf]; unfold z0e zrh; rw [v10 hn]; rfl)
 ·simp [R.get] at h
open Go Go.Proofs
theorem zow:z2y PR B0 91 zas:=by
 refine z0i [(44,z6m),(144,zbl),(84,zak),(104,z7v),(57,z6f),(86,z54)] [] zas [[.int .i64],[.bool]] Tryz.func91 y9z
  ⟨zfm,zu4,zoy,zgn,zgp,zdx,trivial⟩ ?_
 intro vs r hwf h;unfold zas at h
 split at h
 ·rename_i s
  refine ⟨0,?_⟩;cases hs:decide (s.size < 4294967281) with
  | false=>rw [hs] at h; simp [R.get] at h
  | true=>
   rw [hs,R.get_br,z00,R.get_ok] at h;have hs:=v0f hs;rw [← h];refine (y75 0 s).trans ?_;have hz:=zkt s { data:=#[45] };rw [v01 (show ByteArray.size (z1w s { data:=#[45] }) < 4294967281 by omega),z00]
   have eW:cutL (z1w s { data:=#[45] }) { data:=#[46] }=zdo s:=rfl;have eP:zkf (z1w s { data:=#[45] }) { data:=#[46] }=z7f s:=rfl;have eM:zmw s { data:=#[45] }=zmw s zrc:=rfl;rw [eW,eP,eM];unfold ziq
   by_cases h8:(z7f s).size≤8
   ·have c1:decide (ic (ByteArray.size (z7f s)) > 8)=false:=v07 (by simp only [ic]; omega)
    have e8:IntKind.wrap IntKind.i64 (8 - ic (ByteArray.size (z7f s)))=((8 - (z7f s).size:Nat):Int):=by
     rw [z19 (by simp only [ic]; omega) (by simp only [ic]; omega)]
     simp only [ic];omega
    rw [c1,z02,e8];simp only [v0l];have s48:ByteArray.size { data:=#[48] }=1:=rfl;have eF:z7f s++zmf { data:=#[48] } (8 - (z7f s).size)=zbx s:=rfl;have l4:(zmf { data:=#[48] } (8 - (z7f s).size)).size=8 - (z7f s).size:=by rw [zro,s48]; omega
    rw [v01 (show (0:Int)≤((8 - (z7f s).size:Nat):Int) by omega),v01 (show ByteArray.size { data:=#[48] }*(8 - (z7f s).size)≤strMax by rw [s48]; unfold strMax; omega),v1c,z00,
     v01 (show ByteArray.size (z7f s)+ByteArray.size (zmf { data:=#[48] } (8 - (z7f s).size))≤strMax by rw [l4]; unfold strMax; omega),z00,eF]
    have hw:=zqp (zdo s);have hf:=zqp (zbx s);have b0:IntKind.u64.min=0:=rfl;have b1:IntKind.u64.max=18446744073709551615:=rfl;rw [b0,b1] at hw hf;have em:Int.tmod (puV (zbx s)) 390625=puV (zbx s) % 390625:=Int.tmod_eq_emod_of_nonneg hf.1;have ed:IntKind.wrap IntKind.u64 (Int.tdiv (puV (zbx s)) 390625)=puV (zbx s) / 390625:=by
     rw [Int.tdiv_eq_ediv_of_nonneg hf.1,ycy (by omega) (by omega)]
    have e2:(2:Int) ^ min (Int.toNat 8) (IntKind.bits IntKind.u64)=256:=rfl;rw [em,ed,e2];have eS:IntKind.wrap IntKind.u64 (IntKind.wrap IntKind.u64 (puV (zdo s)*256)+puV (zbx s) / 390625)=zf1 s:=rfl;rw [eS];unfold yg0;rw [v01 h8,yct,zmi,ybi];cases hp1:puN (zdo s) with
    | false=>simp only [v0h,z00,z02,v0v,v2c]
    | true=>
     cases hp2:puN (zbx s) with
     | false=>simp only [v0h,v0c,z00,z02,v0v,v2c]
     | true=>
      simp only [v0c,z02,v0r];cases hc:decide (36028797018963968 < puV (zdo s)) with
      | true=>simp only [v0c,z00,z02,v0v]
      | false=>
       cases hd:decide (puV (zbx s) % 390625=0) with
       | false=>simp only [v0h,z00,z02,v0v,v0r]
       | true=>
        simp only [v0h,v0c,z02,v0r];unfold yc5;cases hm:zmw s zrc with
        | false=>
         simp only [z02];rw [show IntKind.wrap IntKind.i64 (zf1 s)=zdj (zf1 s) from rfl,zqk]
         cases decide (z0e (zdj (zf1 s))=s) <;> simp only [z00,z02]
        | true=>
         simp only [z00];rw [show IntKind.wrap IntKind.i64 (IntKind.wrap IntKind.u64 (0 - zf1 s))=zdj (y02 (0 - zf1 s)) from rfl,zqk]
         cases decide (z0e (zdj (y02 (0 - zf1 s)))=s) <;> simp only [z00,z02]
   ·have c1:decide (ic (ByteArray.size (z7f s)) > 8)=true:=v01 (by simp only [ic]; omega)
    rw [c1,z00];unfold yg0;rw [v07 h8,v0v,z02]
 ·simp [R.get] at h
open Go Go.Proofs
def z0y (N:Nat):Env:=mkE [(44,z6m),(53,z1z),(55,z1y),(43,z32),(56,z1f),(54,zcr)] [(7,⟨[1,2,3,4,28,29,30],[1,3,500],[⟨.tmp 4,500,9,false,[.str]⟩]⟩),(13,⟨[2,3,43,44,45],[3],[]⟩),(17,⟨[2,3,43,44,45,59,60,61],[3],[]⟩)] 94 N
abbrev z5l (s2:ByteArray) (n4 n28:Nat) (x29 x30 u02 u03 u04 u05 u06:Int) (u00:List IV) (so3:ByteArray) (u01:List IV):St:=⟨[(1,(.ptr 1 0 0)),(2,(.str s2)),(3,(.ptr 3 0 0)),(4,(.row 500 0 n4)),(28,(.bview 1 2 3 1 n28)),(29,(.i x29)),(30,(.i x30))],[(1,(some (.box [(.i u02),(.i u03),(.i u04),(.i u05),(.i u06),(.list true [(.int .i64),(.list false [(.int .u64)])] u00)]))),(3,(some (.bld so3))),(500,(some (.row true 9 false [.str] u01)))]⟩
abbrev z8a (s2:ByteArray) (l43:List IV) (x44 x45:Int) (so3:ByteArray):St:=⟨[(2,(.str s2)),(3,(.ptr 3 0 0)),(43,(.list true [(.int .i64),(.list false [(.int .u64)])] l43)),(44,(.i x44)),(45,(.i x45))],[(3,(some (.bld so3)))]⟩
abbrev z6x (s2:ByteArray) (l43:List IV) (x44 x45:Int) (l59:List IV) (x60 x61:Int) (so3:ByteArray):St:=⟨[(2,(.str s2)),(3,(.ptr 3 0 0)),(43,(.list true [(.int .i64),(.list false [(.int .u64)])] l43)),(44,(.i x44)),(45,(.i x45)),(59,(.list false [(.int .u64)] l59)),(60,(.i x60)),(61,(.i x61))],[(3,(some (.bld so3)))]⟩
theorem zxp (N:Nat) (u04 u03 u00 u01 u02:Int) (u05:List IV):z11 (z0y N) z1p [.tmp 2] [[.str]] [(.agg [(.i u04),(.i u03),(.i u00),(.i u01),(.i u02),(.list true [.int .i64,.list false [.int .u64]] u05)])]=(cond (!z2b {d:=u04,c:=u03,b0:=u00,b1:=u01,b2:=u02,ts:=u05}) (some ((.str ({data:=#[]})),[])) (cond (Nat.ble (List.length (List.drop 0 (List.take 3 [IV.str {data:=#[102,111,114,101,115,116]},IV.str (z0p u04),IV.str (z0p u03)]))) 1000&&decide (ByteArray.size ByteArray.empty+ByteArray.size (z5z (List.map IV.toStr (List.drop 0 (List.take 3 [IV.str {data:=#[102,111,114,101,115,116]},IV.str (z0p u04),IV.str (z0p u03)]))))≤1000000000)) (cond (decide (0≤u03)&&decide (u03≤ic 3)) (lpE (z0y N) (z0j z1p [1,1,1,1,1,0,1,0,0]) ⟨[1,2,3,4,28,29,30],[1,3,500],[⟨(.tmp 4),500,9,false,[.str]⟩]⟩ N (z5l ({data:=#[]}) 1 (Int.toNat u03) (ic (Int.toNat u03)) 0 u04 u03 u00 u01 u02 u05 (ByteArray.empty++z5z (List.map IV.toStr (List.drop 0 (List.take 3 [IV.str {data:=#[102,111,114,101,115,116]},IV.str (z0p u04),IV.str (z0p u03)])))) [(IV.str {data:=#[98,105,97,115]})]) (z06 0 (kSq (z0y N) (z0j z1p [1,1,1,1,1,1]) (z30 (z0y N) none [(ResultVar.tmp 2)] [[.str]])))) none) none)):=by kernel_rfl
theorem z9o (N:Nat) (s2:ByteArray) (n4 n28:Nat) (x29 x30 u02 u03 u04 u05 u06:Int) (u00:List IV) (so3:ByteArray) (u01:List IV) (again:St→Res) (k:Out→St→Res):rnd (z0y N) (z0j z1p [1,1,1,1,1,0,1,0,0]) (z5l s2 n4 n28 x29 x30 u02 u03 u04 u05 u06 u00 so3 u01) (z3t again ⟨[1,2,3,4,28,29,30],[1,3,500],[⟨(.tmp 4),500,9,false,[.str]⟩]⟩ k)=(cond (decide (x30 < x29)) (cond (decide (x30 < ic n28)) (cond (decide (x30=ic 0)) (cond (decide ((n4+List.length (List.drop 0 (List.take 1 [IV.str (z0e u04)])))*TI.bytes (Env.tyd (z0y N) 9)≤z0c)) (again (z5l s2 (n4+List.length (List.drop 0 (List.take 1 [IV.str (z0e u04)]))) n28 x29 (IntKind.wrap IntKind.i64 (x30+1)) u02 u03 u04 u05 u06 u00 so3 (List.take n4 u01++List.drop 0 (List.take 1 [IV.str (z0e u04)])))) none) (cond (decide (x30=ic 1)) (cond (decide ((n4+List.length (List.drop 0 (List.take 1 [IV.str (z0e u05)])))*TI.bytes (Env.tyd (z0y N) 9)≤z0c)) (again (z5l s2 (n4+List.length (List.drop 0 (List.take 1 [IV.str (z0e u05)]))) n28 x29 (IntKind.wrap IntKind.i64 (x30+1)) u02 u03 u04 u05 u06 u00 so3 (List.take n4 u01++List.drop 0 (List.take 1 [IV.str (z0e u05)])))) none) (cond (decide (x30=ic 2)) (cond (decide ((n4+List.length (List.drop 0 (List.take 1 [IV.str (z0e u06)])))*TI.bytes (Env.tyd (z0y N) 9)≤z0c)) (again (z5l s2 (n4+List.length (List.drop 0 (List.take 1 [IV.str (z0e u06)]))) n28 x29 (IntKind.wrap IntKind.i64 (x30+1)) u02 u03 u04 u05 u06 u00 so3 (List.take n4 u01++List.drop 0 (List.take 1 [IV.str (z0e u06)])))) none) none))) none) (k (.exit 0) (z5l s2 n4 n28 x29 x30 u02 u03 u04 u05 u06 u00 so3 u01))):=by kernel_rfl
theorem zob (N:Nat) (s2:ByteArray) (n4 n28:Nat) (x29 x30 u02 u03 u04 u05 u06:Int) (u00:List IV) (so3:ByteArray) (u01:List IV):(z06 0 (kSq (z0y N) (z0j z1p [1,1,1,1,1,1]) (z30 (z0y N) none [(ResultVar.tmp 2)] [[.str]]))) (.exit 0) (z5l s2 n4 n28 x29 x30 u02 u03 u04 u05 u06 u00 so3 u01)=(cond (Nat.ble (List.length (List.drop 0 (List.take n4 u01))) 1000&&decide (ByteArray.size so3+ByteArray.size (z5z (List.map IV.toStr (List.drop 0 (List.take n4 u01))))≤1000000000)) (lpE (z0y N) (z0j z1p [1,1,1,1,1,1,1,0,1,0,0]) ⟨[2,3,43,44,45],[3],[]⟩ N (z8a s2 u00 (ic (List.length u00)) 0 (so3++z5z (List.map IV.toStr (List.drop 0 (List.take n4 u01))))) (z06 2 (kSq (z0y N) (z0j z1p [1,1,1,1,1,1,1,1]) (z30 (z0y N) none [(ResultVar.tmp 2)] [[.str]])))) none):=by kernel_rfl
theorem zh6 (N:Nat) (s2:ByteArray) (l43:List IV) (x44 x45:Int) (so3:ByteArray) (again:St→Res) (k:Out→St→Res):rnd (z0y N) (z0j z1p [1,1,1,1,1,1,1,0,1,0,0]) (z8a s2 l43 x44 x45 so3) (z3t again ⟨[2,3,43,44,45],[3],[]⟩ k)=(cond (decide (x45 < x44)) (cond (decide (0≤x45)&&decide (x45 < ic (List.length l43))) (cond (Nat.ble (List.length (List.drop 0 (List.take 3 [IV.str {data:=#[116,114,101,101]},IV.str (z0p (IV.toInt (IV.cell (List.getD l43 (Int.toNat x45) default) 0))),IV.str (z0p (ic (List.length (IV.toList (IV.cell (List.getD l43 (Int.toNat x45) default) 1)))))]))) 1000&&decide (ByteArray.size so3+ByteArray.size (z5z (List.map IV.toStr (List.drop 0 (List.take 3 [IV.str {data:=#[116,114,101,101]},IV.str (z0p (IV.toInt (IV.cell (List.getD l43 (Int.toNat x45) default) 0))),IV.str (z0p (ic (List.length (IV.toList (IV.cell (List.getD l43 (Int.toNat x45) default) 1)))))]))))≤1000000000)) (lpE (z0y N) (z0j z1p [1,1,1,1,1,1,1,0,1,0,0,1,1,0,0,1,1,1,0,0]) ⟨[2,3,43,44,45,59,60,61],[3],[]⟩ N (z6x s2 l43 x44 x45 (IV.toList (IV.cell (List.getD l43 (Int.toNat x45) default) 1)) (ic (List.length (IV.toList (IV.cell (List.getD l43 (Int.toNat x45) default) 1)))) 0 (so3++z5z (List.map IV.toStr (List.drop 0 (List.take 3 [IV.str {data:=#[116,114,101,101]},IV.str (z0p (IV.toInt (IV.cell (List.getD l43 (Int.toNat x45) default) 0))),IV.str (z0p (ic (List.length (IV.toList (IV.cell (List.getD l43 (Int.toNat x45) default) 1)))))]))))) (z06 4 (z06 3 (kSq (z0y N) (z0j z1p [1,1,1,1,1,1,1,0,1,0,0,1,1,1]) (z3t again ⟨[2,3,43,44,45],[3],[]⟩ k))))) none) none) (k (.exit 2) (z8a s2 l43 x44 x45 so3))):=by kernel_rfl
theorem zgw (N:Nat) (s2:ByteArray) (l43:List IV) (x44 x45:Int) (l59:List IV) (x60 x61:Int) (so3:ByteArray) (again:St→Res) (k:Out→St→Res):rnd (z0y N) (z0j z1p [1,1,1,1,1,1,1,0,1,0,0,1,1,0,0,1,1,1,0,0]) (z6x s2 l43 x44 x45 l59 x60 x61 so3) (z3t again ⟨[2,3,43,44,45,59,60,61],[3],[]⟩ k)=(cond (decide (x61 < x60)) (cond (decide (0≤x61)&&decide (x61 < ic (List.length l59))) (cond (Nd.lf (z07 (IV.toInt (List.getD l59 (Int.toNat x61) default)))) (cond (Nat.ble (List.length (List.drop 0 (List.take 2 [IV.str {data:=#[108,101,97,102]},IV.str (z0e (Nd.v (z07 (IV.toInt (List.getD l59 (Int.toNat x61) default)))))]))) 1000&&decide (ByteArray.size so3+ByteArray.size (z5z (List.map IV.toStr (List.drop 0 (List.take 2 [IV.str {data:=#[108,101,97,102]},IV.str (z0e (Nd.v (z07 (IV.toInt (List.getD l59 (Int.toNat x61) default)))))]))))≤1000000000)) (again (z6x s2 l43 x44 x45 l59 x60 (IntKind.wrap IntKind.i64 (x61+1)) (so3++z5z (List.map IV.toStr (List.drop 0 (List.take 2 [IV.str {data:=#[108,101,97,102]},IV.str (z0e (Nd.v (z07 (IV.toInt (List.getD l59 (Int.toNat x61) default)))))])))))) none) (cond (Nat.ble (List.length (List.drop 0 (List.take 8 [IV.str {data:=#[105,102]},IV.str (z0p (Nd.f (z07 (IV.toInt (List.getD l59 (Int.toNat x61) default))))),IV.str {data:=#[60,61]},IV.str (z0e (Nd.a (z07 (IV.toInt (List.getD l59 (Int.toNat x61) default))))),IV.str {data:=#[116,104,101,110]},IV.str (z0p (Nd.l (z07 (IV.toInt (List.getD l59 (Int.toNat x61) default))))),IV.str {data:=#[101,108,115,101]},IV.str (z0p (Nd.r (z07 (IV.toInt (List.getD l59 (Int.toNat x61) default)))))]))) 1000&&decide (ByteArray.size so3+ByteArray.size (z5z (List.map IV.toStr (List.drop 0 (List.take 8 [IV.str {data:=#[105,102]},IV.str (z0p (Nd.f (z07 (IV.toInt (List.getD l59 (Int.toNat x61) default))))),IV.str {data:=#[60,61]},IV.str (z0e (Nd.a (z07 (IV.toInt (List.getD l59 (Int.toNat x61) default))))),IV.str {data:=#[116,104,101,110]},IV.str (z0p (Nd.l (z07 (IV.toInt (List.getD l59 (Int.toNat x61) default))))),IV.str {data:=#[101,108,115,101]},IV.str (z0p (Nd.r (z07 (IV.toInt (List.getD l59 (Int.toNat x61) default)))))]))))≤1000000000)) (again (z6x s2 l43 x44 x45 l59 x60 (IntKind.wrap IntKind.i64 (x61+1)) (so3++z5z (List.map IV.toStr (List.drop 0 (List.take 8 [IV.str {data:=#[105,102]},IV.str (z0p (Nd.f (z07 (IV.toInt (List.getD l59 (Int.toNat x61) default))))),IV.str {data:=#[60,61]},IV.str (z0e (Nd.a (z07 (IV.toInt (List.getD l59 (Int.toNat x61) default))))),IV.str {data:=#[116,104,101,110]},IV.str (z0p (Nd.l (z07 (IV.toInt (List.getD l59 (Int.toNat x61) default))))),IV.str {data:=#[101,108,115,101]},IV.str (z0p (Nd.r (z07 (IV.toInt (List.getD l59 (Int.toNat x61) default)))))])))))) none)) none) (k (.exit 4) (z6x s2 l43 x44 x45 l59 x60 x61 so3))):=by kernel_rfl
theorem znf (N:Nat) (s2:ByteArray) (l43:List IV) (x44 x45:Int) (so3:ByteArray):(z06 2 (kSq (z0y N) (z0j z1p [1,1,1,1,1,1,1,1]) (z30 (z0y N) none [(ResultVar.tmp 2)] [[.str]]))) (.exit 2) (z8a s2 l43 x44 x45 so3)=(some ((.str so3),[])):=by kernel_rfl
theorem znb (N:Nat) (again:St→Res) (k:Out→St→Res) (s2:ByteArray) (l43:List IV) (x44 x45:Int) (l59:List IV) (x60 x61:Int) (so3:ByteArray):(z06 4 (z06 3 (kSq (z0y N) (z0j z1p [1,1,1,1,1,1,1,0,1,0,0,1,1,1]) (z3t again ⟨[2,3,43,44,45],[3],[]⟩ k)))) (.exit 4) (z6x s2 l43 x44 x45 l59 x60 x61 so3)=(again (z8a s2 l43 x44 (IntKind.wrap IntKind.i64 (x45+1)) so3)):=by kernel_rfl
def y5k (N:Nat):Env:=mkE [(97,z1t),(60,z0z),(45,z6z)] [] 10 N
theorem y39 (N:Nat) (b:ByteArray) (u00:List IV):z11 (y5k N) ztb [] [] [(.bor [.bld b]),(.list false [.str] u00)]=(cond (decide (List.length u00≤strMax)&&decide (ByteArray.size (zar (List.map IV.toStr u00) {data:=#[32]})≤strMax)) (cond (decide (ByteArray.size b+ByteArray.size (zar (List.map IV.toStr u00) {data:=#[32]})≤strMax)) (cond (decide (ByteArray.size (b++zar (List.map IV.toStr u00) {data:=#[32]})+1≤strMax)) (some ((.tup []),[[(.bld (ByteArray.push (b++zar (List.map IV.toStr u00) {data:=#[32]}) (zdq 10)))]])) none) none) none):=by kernel_rfl
def zlm (N:Nat):Env:=mkE [(46,z2p)] [] 26 N
theorem zk2 (N:Nat) (u00:List IV):z11 (zlm N) zdn [.tmp 2] [[.list false [.str]]] [(.bor [(.list false [.str] u00)])]=(cond (ic (List.length u00)==0) (some ((.list false [.str] []),[[(.list false [.str] u00)]])) (cond (decide (0≤0)&&decide (0 < ic (List.length u00))) (cond (decide (0≤1)&&decide (1≤ic (List.length u00))) (cond (decide (ByteArray.size (IV.toStr (List.getD u00 (Int.toNat 0) default)) < 4294967281)&&decide (1≤ByteArray.size {data:=#[32]})) (some ((.list false [.str] (List.map IV.str (z0s (IV.toStr (List.getD u00 (Int.toNat 0) default)) {data:=#[32]}))),[[(.list false [.str] (List.drop (Int.toNat 1) (List.take (List.length u00) u00)))]])) none) none) none)):=by kernel_rfl
def y4p (N:Nat):Env:=mkE [] [] 13 N
theorem y2d (N:Nat) (l:List IV) (i:Int):z11 (y4p N) zt1 [.tmp 4] [[.str]] [(.list false [.str] l),(.i i)]=(cond (decide (i≥ic (List.length l))) (some ((.str ({data:=#[]})),[])) (cond (decide (0≤i)&&decide (i < ic (List.length l))) (some ((.str (IV.toStr (List.getD l (Int.toNat i) default))),[])) none)):=by kernel_rfl
def y4f (N:Nat):Env:=mkE [(90,z6y)] [] 24 N
theorem zz8 (N:Nat) (s:ByteArray) (most:Int):z11 (y4f N) zp1 [.tmp 4] [[.int .i64]] [(.str s),(.i most)]=(cond (!zs0 s) (some ((.i 0),[])) (cond (decide (z6t s < 0)) (some ((.i 0),[])) (cond (decide (z6t s > most)) (some ((.i 0),[])) (some ((.i (z6t s)),[]))))):=by kernel_rfl
def y6r (N:Nat):Env:=mkE [(91,zas)] [] 11 N
theorem y0f (N:Nat) (s:ByteArray):z11 (y6r N) zs2 [.tmp 2] [[.int .i64]] [(.str s)]=(cond (decide (ByteArray.size s < 4294967281)) (some ((.i (ziq s)),[])) none):=by kernel_rfl
def zm3 (N:Nat):Env:=mkE [(92,z95),(49,z7a),(48,z35),(51,z8y),(50,z8u)] [] 28 N
theorem zjq (N:Nat) (u00:List IV):z11 (zm3 N) zdv [.tmp 2] [[.int .u64]] [(.bor [(.list false [.str] u00)])]=(cond (z6h u00) (cond (ByteArray.toList (wAt (z3m u00) (Int.toNat 0))==ByteArray.toList {data:=#[108,101,97,102]}) (cond (decide (ByteArray.size (wAt (z3m u00) (Int.toNat 1)) < 4294967281)) (some ((.int .u64 (z7z {lf:=true,v:=ziq (wAt (z3m u00) (Int.toNat 1)),f:=0,a:=0,l:=0,r:=0})),[[(.list false [.str] (List.drop 1 u00))]])) none) (cond (decide (ByteArray.size (wAt (z3m u00) (Int.toNat 3)) < 4294967281)) (some ((.int .u64 (z7z {lf:=false,v:=0,f:=zer (wAt (z3m u00) (Int.toNat 1)) 4,a:=ziq (wAt (z3m u00) (Int.toNat 3)),l:=zer (wAt (z3m u00) (Int.toNat 5)) 31,r:=zer (wAt (z3m u00) (Int.toNat 7)) 31})),[[(.list false [.str] (List.drop 1 u00))]])) none)) none):=by kernel_rfl
def zag (N:Nat):Env:=mkE [] [] 21 N
theorem z9p (N:Nat) (s u00:ByteArray):z11 (zag N) z5o [.tmp 4] [[.bool]] [(.str s),(.str u00)]=(cond (decide (ic (ByteArray.size s)≥ic (ByteArray.size u00))) (cond (decide (0≤IntKind.wrap IntKind.i64 (ic (ByteArray.size s) - ic (ByteArray.size u00)))&&decide (IntKind.wrap IntKind.i64 (ic (ByteArray.size s) - ic (ByteArray.size u00))≤ic (ByteArray.size s))) (some ((.bool (ByteArray.toList (ByteArray.extract s (Int.toNat (IntKind.wrap IntKind.i64 (ic (ByteArray.size s) - ic (ByteArray.size u00)))) (ByteArray.size s))==ByteArray.toList u00)),[])) none) (some ((.bool false),[]))):=by kernel_rfl
def z9w (N:Nat):Env:=mkE [(141,z1m)] [] 16 N
theorem z9f (N:Nat) (s u00:ByteArray):z11 (z9w N) z58 [.tmp 4] [[.str]] [(.str s),(.str u00)]=(cond (zhw s u00) (cond (decide (0≤IntKind.wrap IntKind.i64 (ic (ByteArray.size s) - ic (ByteArray.size u00)))&&decide (IntKind.wrap IntKind.i64 (ic (ByteArray.size s) - ic (ByteArray.size u00))≤ic (ByteArray.size s))) (some ((.str (ByteArray.extract s 0 (Int.toNat (IntKind.wrap IntKind.i64 (ic (ByteArray.size s) - ic (ByteArray.size u00)))))),[])) none) (some ((.str s),[]))):=by kernel_rfl
def zin (N:Nat):Env:=mkE [(89,z1l)] [] 8 N
theorem zhv (N:Nat) (s u00:ByteArray):z11 (zin N) zca [.tmp 4] [[.str]] [(.str s),(.str u00)]=(some ((.str (z40 s u00)),[])):=by kernel_rfl
open Go Go.Proofs
theorem y9c (l:List ByteArray) (h:∀ w∈l,w.size≤100):(zar l z4u).size≤101*l.length:=by
 have hs:(zar l z4u).size=(Lib.join (l.map (·.data.toList)) [32]).length:=by
  show (Array.size (List.toArray _))=_;rw [v1n]
 rw [hs];cases l with
 | nil=>simp [Lib.join_nil]
 | cons x r=>
  rw [v0d,Lib.join_length]
  have:∀ (r:List ByteArray),(∀ w∈r,w.size≤100)→Lib.lens (r.map (·.data.toList))≤100*r.length:=fun r=>by
   induction r with
   | nil=>intro _; simp [Lib.lens]
   | cons y r ih=>
    intro h;have h1:=h y (v0a ..);rw [zdw] at h1;have h2:=ih (fun w hw=>h w (v0b _ hw))
    rw [v0d,v05];simp only [Lib.lens,v0d,v49] at h2 ⊢
    omega
  have:=this (x :: r) h
  rw [v0d] at this;simp only [v05,v12,v0o] at this ⊢
  omega
theorem zgi (ws:List ByteArray) (hl:ws.length≤8) (h:∀ w∈ws,w.size≤100):(z5z ws).size≤809:=by
 unfold z5z
 have:=y9c ws h
 rw [v0g];have e:ByteArray.size yeh=1:=rfl;rw [e];omega
theorem zte:∀ (a b:List (List ByteArray)),zaf (a++b)=zaf a++zaf b
 | [],b=>by
  show zaf b=ByteArray.empty++zaf b;rw [ByteArray.empty_append]
 | l :: a,b=>by
  rw [v1k,zaf,zaf,zte a b,v2d]
theorem y3k:∀ (L:List (List ByteArray)),(∀ l∈L,l.length≤8∧∀ w∈l,w.size≤100)→(zaf L).size≤809*L.length
 | [],_=>by
  have:ByteArray.size (zaf [])=0:=rfl
  omega
 | l :: L,h=>by
  have h1:=zgi l (h l (v0a ..)).1 (h l (v0a ..)).2;have h2:=y3k L fun x hx=>h x (v0b _ hx)
  rw [zaf,v0g,v05];omega
theorem zco {n:Int} (h:InR n):(z0p n).size≤100:=by
 have:=znd h.1 h.2
 omega
theorem zhc {n:Int} (h:InR n):(z0e n).size≤100:=by
 have:=(zel n h).2
 omega
theorem y5j {n:Int} (h:z1u n=true) : -2147483648≤n∧n≤2147483647:=by
 unfold z1u at h
 rwa [v02,v06,v06] at h
structure Nd.In (x:Nd):Prop where
 v : -2147483648≤x.v∧x.v≤2147483647
 f:0≤x.f∧x.f < 4
 a : -2147483648≤x.a∧x.a≤2147483647
 l:0≤x.l∧x.l < 31
 r:0≤x.r∧x.r < 31
 lf:x.lf=true→x.f=0∧x.a=0∧x.l=0∧x.r=0
 fk:x.lf=false→x.v=0
theorem yfe {x:Nd} (h:zaq x=true):x.In:=by
 obtain ⟨lf,v,f,a,l,r⟩:=x;unfold zaq at h;cases lf with
 | true=>
  simp only [v2h,v02,Nd.eq,v1g] at h;obtain ⟨⟨_,_,h1,h2,h3,h4,_⟩,hv⟩:=h;subst h1 h2 h3 h4;have z4:(0:Int)≤0∧(0:Int) < 4:=by decide
  have z31:(0:Int)≤0∧(0:Int) < 31:=by decide
  have zf:(-2147483648:Int)≤0∧(0:Int)≤2147483647:=by decide
  exact ⟨y5j hv,z4,zf,z31,z31,fun _=>⟨rfl,rfl,rfl,rfl⟩,fun h=>Bool.noConfusion h⟩
 | false=>
  simp only [v1q,v02,v1g,v06,zlk] at h;obtain ⟨hv,hf0,hf1,ha,⟨hl0,hl1⟩,hr0,hr1⟩:=h;subst hv;have zf:(-2147483648:Int)≤0∧(0:Int)≤2147483647:=by decide
  have l0:(0:Int)≤l:=by omega
  have r0:(0:Int)≤r:=by omega
  exact ⟨zf,⟨hf0,hf1⟩,y5j ha,⟨l0,hl1⟩,⟨r0,hr1⟩,fun h=>Bool.noConfusion h,fun _=>rfl⟩
theorem y7g {x:Nd} (h:x.In):(y2j x).length≤8∧∀ w∈y2j x,w.size≤100:=by
 have hv:InR x.v:=by have:=h.v; unfold InR; omega
 have hf:InR x.f:=by have:=h.f; unfold InR; omega
 have ha:InR x.a:=by have:=h.a; unfold InR; omega
 have hl:InR x.l:=by have:=h.l; unfold InR; omega
 have hr:InR x.r:=by have:=h.r; unfold InR; omega
 unfold y2j;cases x.lf with
 | true=>
  refine ⟨by simp,fun w hw=>?_⟩
  simp only [v2h,v15,v1t,v3n] at hw;rcases hw with rfl | rfl
  ·decide
  ·exact zhc hv
 | false=>
  refine ⟨by simp,fun w hw=>?_⟩
  simp only [v1q,v15,v1t,v3n] at hw;rcases hw with rfl | rfl | rfl | rfl | rfl | rfl | rfl | rfl
  ·decide
  ·exact zco hf
  ·decide
  ·exact zhc ha
  ·decide
  ·exact zco hl
  ·decide
  ·exact zco hr
theorem y8i {dim n:Int}:∀ {l:List IV} {i:Nat},zd5 dim n i l=true→∀ w∈l,zau w.toInt=true
 | [],_,_,w,hw=>by cases hw
 | x :: l,i,h,w,hw=>by
  unfold zd5 at h;rw [v02,v02] at h;rcases v15.1 hw with rfl | hw
  ·exact h.1.1
  ·exact y8i h.2 w hw
theorem y7u {w:Int} (h:zau w=true):(z07 w).In:=by
 have hn:z07 w=zrg w:=by unfold z07; rw [h]; rfl
 unfold zau at h;simp only [v02,v17,v1g,v1a] at h;rw [hn];apply yfe;cases hr:zaq (zrg w) with
 | true=>rfl
 | false=>
  have:=h.2
  unfold z7z at this;rw [hr] at this;exact absurd this.symm h.1
theorem zyx:z2y PR B0 54 zcr:=by
 refine z0i [(97,z1t),(60,z0z),(45,z6z)] [] zcr [] Tryz.func54 y73 ⟨z6r,z3o,zfz,trivial⟩ ?_;intro vs r hwf h;unfold zcr at h
 split at h
 ·rename_i s ws
  cases hc:(Nat.ble ws.length 1000&&decide (s.size+(z5z (ws.map IV.toStr)).size≤1000000000)) with
  | false=>rw [hc] at h; simp [R.get] at h
  | true=>
   rw [hc,R.get_br,z00,R.get_ok] at h;rw [v02,v06] at hc;have h1:=v03 hc.1;have h2:=hc.2;have m:strMax=140737488355327:=rfl;refine ⟨0,?_⟩;rw [← h];refine (y39 0 s ws).trans ?_;have e:ByteArray.push (s++zar (ws.map IV.toStr) z4u) (zdq 10)=s++z5z (ws.map IV.toStr):=by
    apply zbi;unfold z5z;simp
    rfl
   have e2:(z5z (ws.map IV.toStr)).size=(zar (ws.map IV.toStr) z4u).size+1:=by
    unfold z5z;rw [v0g]
    rfl
   rw [e2] at h2;rw [v01 (show ws.length≤strMax by omega),v01 (show (zar (ws.map IV.toStr) z4u).size≤strMax by omega),v01 (show s.size+(zar (ws.map IV.toStr) z4u).size≤strMax by omega),
    v01 (show ByteArray.size (s++zar (ws.map IV.toStr) z4u)+1≤strMax by rw [v0g]; omega),v0t,z00,z00,z00,e]
 ·simp [R.get] at h
theorem y69 (s:ByteArray) (hs:s.size < 4294967281):∀ i,(wAt (zad s) i).size < 4294967281:=by
 intro i;unfold wAt;rw [v0m];cases h:(zad s)[i]? with
 | none=>decide
 | some x=>
  have hx:x∈zad s:=v1l h;unfold zad at hx;obtain ⟨w,hw,rfl⟩:=List.mem_map.1 hx
  have:=(z97 z4u _ s).2 w hw
  exact v3z this hs
theorem zmp {ls:List IV} (h:z6h ls=true) (i:Nat):(wAt (z3m ls) i).size < 4294967281:=by
 unfold z6h at h;cases ls with
 | nil=>
  show ByteArray.size (IV.toStr (List.getD [] i default)) < _;rw [List.getD_nil]
  decide
 | cons l r=>
  rw [v32,v02,v06] at h;exact y69 _ h.1 i
theorem z7b {ls:List IV} (h:z6h ls=true) (k:Nat):z6h (ls.drop k)=true:=by
 unfold z6h at h ⊢
 rw [v3a] at h ⊢
 exact fun x hx=>h x (v2o hx)
theorem zc9:z2y PR B0 48 z35:=by
 refine z0i [(46,z2p)] [] z35 [[.list false [.str]]] Tryz.func48 zla ⟨z7t,trivial⟩ ?_;intro vs r hwf h;unfold z35 at h
 split at h
 ·rename_i ls
  cases hc:z6h ls with
  | false=>rw [hc] at h; simp [R.get] at h
  | true=>
   rw [hc,R.get_br,z00,R.get_ok] at h;refine ⟨0,?_⟩;rw [← h];refine (zk2 0 ls).trans ?_;cases ls with
   | nil=>rfl
   | cons l r=>
    unfold z6h at hc;rw [v32,v02] at hc;have e0:(ic (List.length (l :: r))==0)=false:=by
     rw [zkb];exact v07 (by simp only [ic,v05]; omega)
    have e1:IV.toStr (List.getD (l :: r) (Int.toNat 0) default)=l.toStr:=rfl;have e2:List.drop (Int.toNat 1) (List.take (List.length (l :: r)) (l :: r))=List.drop 1 (l :: r):=by rw [v0w]; rfl
    have e3:decide (1≤ByteArray.size z4u)=true:=rfl;rw [e0,e1,e2,e3,hc.1,z02];simp only [v01 (show (0:Int) < ic (List.length (l :: r)) by simp only [ic,v05]; omega),v01 (show (1:Int)≤ic (List.length (l :: r)) by simp only [ic,v05]; omega)]
    rfl
 ·simp [R.get] at h
theorem zlq:z2y PR B0 50 z8u:=by
 refine z0i [] [] z8u [[.str]] Tryz.func50 y76 trivial ?_;intro vs r hwf h;unfold z8u at h
 split at h
 ·rename_i l i
  cases hc:decide (0≤i) with
  | false=>rw [hc] at h; simp [R.get] at h
  | true=>
   rw [hc,R.get_br,z00,R.get_ok] at h;have h0:=v0f hc;refine ⟨0,?_⟩;rw [← h];refine (y2d 0 l i).trans ?_;cases hi:decide (i≥ic l.length) with
   | true=>
    have hi:=v0f hi;simp only [ic] at hi;have e:wAt l i.toNat=ByteArray.empty:=by
     unfold wAt;rw [v0m,v0q (by omega)]
     rfl
    rw [e,z00]
    rfl
   | false=>
    have hi:=v0s hi;rw [z02,v01 h0,v01 (show i < ic l.length by omega),v0t,z00]
    rfl
 ·simp [R.get] at h
theorem zj5:z2y PR B0 49 z7a:=by
 refine z0i [(90,z6y)] [] z7a [[.int .i64]] Tryz.func49 y18 ⟨zg9,trivial⟩ ?_;intro vs r hwf h;unfold z7a at h
 split at h
 ·rename_i s most
  refine ⟨0,?_⟩;rw [R.get_ok] at h;rw [← h];refine (zz8 0 s most).trans ?_;unfold zer;cases zs0 s <;> cases decide (z6t s < 0) <;> cases decide (z6t s > most) <;> rfl
 ·simp [R.get] at h
theorem zlt:z2y PR B0 51 z8y:=by
 refine z0i [(91,zas)] [] z8y [[.int .i64]] Tryz.func51 y5e ⟨zow,trivial⟩ ?_;intro vs r hwf h;unfold z8y at h
 split at h
 ·rename_i s
  cases hc:decide (s.size < 4294967281) with
  | false=>rw [hc] at h; simp [R.get] at h
  | true=>
   rw [hc,R.get_br,z00,R.get_ok] at h;refine ⟨0,?_⟩;rw [← h];refine (y0f 0 s).trans ?_;rw [hc,z00]
 ·simp [R.get] at h
theorem zim:z2y PR B0 52 z5c:=by
 refine z0i [(92,z95),(49,z7a),(48,z35),(51,z8y),(50,z8u)] [] z5c [[.int .u64]] Tryz.func52 zkz ⟨zlu,zj5,zc9,zlt,zlq,trivial⟩ ?_;intro vs r hwf h;unfold z5c at h
 split at h
 ·rename_i ls
  cases hc:z6h ls with
  | false=>rw [hc] at h; simp [R.get] at h
  | true=>
   rw [hc,R.get_br,z00,R.get_ok] at h;refine ⟨0,?_⟩;rw [← h];refine (zjq 0 ls).trans ?_;rw [hc,z00,v01 (zmp hc (Int.toNat 1)),v01 (zmp hc (Int.toNat 3)),z00,z00];unfold yib;have e:(ByteArray.toList (wAt (z3m ls) (Int.toNat 0))==ByteArray.toList { data:=#[108,101,97,102] })=((wAt (z3m ls) 0).toList==zw9.toList):=rfl;rw [e];cases ((wAt (z3m ls) 0).toList==zw9.toList) <;> rfl
 ·simp [R.get] at h
theorem z9h:z2y PR B0 141 z1m:=by
 refine z0i [] [] z1m [[.bool]] Tryz.func141 zab trivial ?_;intro vs r hwf h;unfold z1m at h
 split at h
 ·rename_i s t
  refine ⟨0,?_⟩;rw [R.get_ok] at h;rw [← h];refine (z9p 0 s t).trans ?_;have hb:=hwf (by simp [zc8])
  have hs:s.size≤strMax:=hb.1;have m:strMax=140737488355327:=rfl;unfold zhw
  by_cases hl:t.size≤s.size
  ·have e:IntKind.wrap IntKind.i64 (ic s.size - ic t.size)=((s.size - t.size:Nat):Int):=by
    rw [z19 (by simp only [ic]; omega) (by simp only [ic]; omega)]
    simp only [ic];omega
   rw [e,v01 (show ic s.size≥ic t.size by simp only [ic]; omega),z00,v01 (show (0:Int)≤((s.size - t.size:Nat):Int) by omega),v01 (show ((s.size - t.size:Nat):Int)≤ic s.size by simp only [ic]; omega),v0t,z00,v01 hl,v0r,v0l]
  ·rw [v07 (show ¬ ic s.size≥ic t.size by simp only [ic]; omega),z02,v07 hl,v0v]
 ·simp [R.get] at h
theorem z8w:z2y PR B0 89 z1l:=by
 refine z0i [(141,z1m)] [] z1l [[.str]] Tryz.func89 za3 ⟨z9h,trivial⟩ ?_;intro vs r hwf h;unfold z1l at h
 split at h
 ·rename_i s t
  refine ⟨0,?_⟩;rw [R.get_ok] at h;rw [← h];refine (z9f 0 s t).trans ?_;have hb:=hwf (by simp [zc8])
  have hs:s.size≤strMax:=hb.1;have m:strMax=140737488355327:=rfl;unfold z40;cases hh:zhw s t with
  | false=>rfl
  | true=>
   have hl:t.size≤s.size:=by
    unfold zhw at hh;rw [v02,v06] at hh;exact hh.1
   have e:IntKind.wrap IntKind.i64 (ic s.size - ic t.size)=((s.size - t.size:Nat):Int):=by
    rw [z19 (by simp only [ic]; omega) (by simp only [ic]; omega)]
    simp only [ic];omega
   rw [e,z00,z00,v01 (show (0:Int)≤((s.size - t.size:Nat):Int) by omega),v01 (show ((s.size - t.size:Nat):Int)≤ic s.size by simp only [ic]; omega),v0t,z00,v0l]
 ·simp [R.get] at h
theorem zaj:z2y PR B0 47 z2l:=by
 refine z0i [(89,z1l)] [] z2l [[.str]] Tryz.func47 zij ⟨z8w,trivial⟩ ?_;intro vs r hwf h;unfold z2l at h
 split at h
 ·rename_i s t
  refine ⟨0,?_⟩;rw [R.get_ok] at h;rw [← h];exact zhv 0 s t
 ·simp [R.get] at h
abbrev yll (ts:List IV) (i:Int) (l:List IV) (j:Int) (so:ByteArray):St:=
 ⟨[(2,(.str { data:=#[] })),(3,(.ptr 3 0 0)),(43,(.list true [(.int .i64),(.list false [(.int .u64)])] ts)),(44,(.int .i64 (ic ts.length))),(45,(.int .i64 i)),(59,(.list false [(.int .u64)] l)),(60,(.int .i64 (ic l.length))),(61,(.int .i64 j))],[(3,(some (.bld so)))]⟩
theorem zsu (N:Nat) (ts:List IV) (i:Int) (l:List IV) (hl:l.length≤31) (hn:∀ w∈l,zau w.toInt=true) (K:Out→St→Res):∀ (d j n:Nat) (so:ByteArray),j+d=l.length→d < n→so.size+809*d≤1000000000 →
  lpE (z0y N) (z0j z1p [1,1,1,1,1,1,1,0,1,0,0,1,1,0,0,1,1,1,0,0]) ⟨[2,3,43,44,45,59,60,61],[3],[]⟩ n (yll ts i l (j:Int) so) K =
   K (.exit 4) (yll ts i l (ic l.length) (so++zaf (zj1 (l.drop j))))
 | d,j,0,_,_,h,_=>absurd h (by omega)
 | 0,j,n+1,so,hd,_,_=>by
  have hj:j=l.length:=by omega
  subst hj;rw [z05,zgw,v07 (show ¬ ((l.length:Nat):Int) < ic l.length by simp only [ic]; omega),z02,v26]
  have e:so++zaf (zj1 [])=so:=by
   show so++ByteArray.empty=so;rw [v3k]
  rw [e]
 | d+1,j,n+1,so,hd,hn',hz=>by
  have hjl:j < l.length:=by omega
  have ej:IntKind.wrap IntKind.i64 ((j:Int)+1)=((j+1:Nat):Int):=by
   rw [z19 (by omega) (by omega)]
   omega
  have hg:l.getD (Int.toNat (j:Int)) default=l[j]:=by
   rw [v0l,v0m,v0e hjl]
   rfl
  have hin:=y7u (hn l[j] (v2j hjl));have hw:=y7g hin;have hls:=zgi _ hw.1 hw.2;rw [z05,zgw,ej,hg,v01 (show (j:Int) < ic l.length by simp only [ic]; omega),z00,v01 (show (0:Int)≤(j:Int) by omega),v0t,z00,v0i hjl]
  have hr:zaf (zj1 (l[j] :: l.drop (j+1)))=z5z (y2j (z07 l[j].toInt))++zaf (zj1 (l.drop (j+1))):=rfl;rw [hr,← v2d];have ih:=zsu N ts i l hl hn K d (j+1) n (so++z5z (y2j (z07 l[j].toInt))) (by omega) (by omega) (by rw [v0g]; omega)
  rw [← ih];have hsz:decide (so.size+(z5z (y2j (z07 l[j].toInt))).size≤1000000000)=true:=v01 (by omega)
  revert hsz
  unfold y2j;cases (z07 l[j].toInt).lf with
  | true=>
   intro hsz;have hsz:decide (ByteArray.size so+ByteArray.size (z5z [zw9,z0e (z07 l[j].toInt).v])≤1000000000)=true:=hsz;have e:List.map IV.toStr (List.drop 0 (List.take 2 [IV.str { data:=#[108,101,97,102] },IV.str (z0e (Nd.v (z07 (IV.toInt l[j]))))]))=[zw9,z0e (z07 l[j].toInt).v]:=rfl;rw [z00,e,hsz]
   rfl
  | false=>
   intro hsz;have hsz:decide (ByteArray.size so+ByteArray.size (z5z [yla,z0p (z07 l[j].toInt).f,ykw,z0e (z07 l[j].toInt).a,ydx,z0p (z07 l[j].toInt).l,ybd,z0p (z07 l[j].toInt).r])≤1000000000)=true:=hsz;have e:List.map IV.toStr (List.drop 0 (List.take 8 [IV.str { data:=#[105,102] },IV.str (z0p (Nd.f (z07 (IV.toInt l[j])))),IV.str { data:=#[60,61] },IV.str (z0e (Nd.a (z07 (IV.toInt l[j])))),IV.str { data:=#[116,104,101,110] },IV.str (z0p (Nd.l (z07 (IV.toInt l[j])))),IV.str { data:=#[101,108,115,101] },IV.str (z0p (Nd.r (z07 (IV.toInt l[j]))))]))=[yla,z0p (z07 l[j].toInt).f,ykw,z0e (z07 l[j].toInt).a,ydx,z0p (z07 l[j].toInt).l,ybd,z0p (z07 l[j].toInt).r]:=rfl;rw [z02,e,hsz]
   rfl
theorem zw2 {d c:Int} {t:IV} (h:z81 d c t=true):0≤(t.cell 0).toInt∧(t.cell 0).toInt < c∧1≤(t.cell 1).toList.length∧(t.cell 1).toList.length≤31∧∀ w∈(t.cell 1).toList,zau w.toInt=true:=by
 unfold z81 z94 at h;simp only [v02,v17,v19] at h;obtain ⟨h1,h2,⟨h3,h4⟩,h5,_⟩:=h;exact ⟨by omega,by omega,v03 h3,v03 h4,y8i h5⟩
theorem yf5 {d c:Int} {t:IV} (hc:c≤3) (h:z81 d c t=true):(∀ l∈y6v t,l.length≤8∧∀ w∈l,w.size≤100)∧(y6v t).length≤32:=by
 obtain ⟨h1,h2,h3,h4,h5⟩:=zw2 h;constructor
 ·intro l hl
  unfold y6v at hl;rcases v15.1 hl with rfl | hl
  ·refine ⟨by simp,fun w hw=>?_⟩
   simp only [v15,v1t,v3n] at hw;rcases hw with rfl | rfl | rfl
   ·decide
   ·exact zco (by unfold InR; omega)
   ·exact zco (by unfold InR; simp only [ic]; omega)
  ·unfold zj1 at hl
   obtain ⟨w,hw,rfl⟩:=List.mem_map.1 hl;exact y7g (y7u (h5 w hw))
 ·unfold y6v zj1
  rw [v05,v12];omega
abbrev yk8 (ts:List IV) (i:Int) (so:ByteArray):St:=
 ⟨[(2,(.str { data:=#[] })),(3,(.ptr 3 0 0)),(43,(.list true [(.int .i64),(.list false [(.int .u64)])] ts)),(44,(.int .i64 (ic ts.length))),(45,(.int .i64 i))],[(3,(some (.bld so)))]⟩
theorem zr7 (N:Nat) (hN:40≤N) (d c:Int) (hc:c≤3) (ts:List IV) (hl:ts.length≤8) (ht:ts.all (z81 d c)=true) (K:Out→St→Res):∀ (m i n:Nat) (so:ByteArray),i+m=ts.length→m < n→so.size+30000*m≤1000000000 →
  lpE (z0y N) (z0j z1p [1,1,1,1,1,1,1,0,1,0,0]) ⟨[2,3,43,44,45],[3],[]⟩ n (yk8 ts (i:Int) so) K =
   K (.exit 2) (yk8 ts (ic ts.length) (so++zaf (zj8 (ts.drop i))))
 | m,i,0,_,_,h,_=>absurd h (by omega)
 | 0,i,n+1,so,hd,_,_=>by
  have hi:i=ts.length:=by omega
  subst hi;rw [z05,zh6,v07 (show ¬ ((ts.length:Nat):Int) < ic ts.length by simp only [ic]; omega),z02,v26]
  have e:so++zaf (zj8 [])=so:=by
   show so++ByteArray.empty=so;rw [v3k]
  rw [e]
 | m+1,i,n+1,so,hd,hn,hz=>by
  have hil:i < ts.length:=by omega
  have ei:IntKind.wrap IntKind.i64 ((i:Int)+1)=((i+1:Nat):Int):=by
   rw [z19 (by omega) (by omega)]
   omega
  have hg:ts.getD (Int.toNat (i:Int)) default=ts[i]:=by
   rw [v0l,v0m,v0e hil]
   rfl
  have hok:=v3a.1 ht ts[i] (v2j hil);have hw:=yf5 hc hok;have hts:=y3k _ hw.1;obtain ⟨h1,h2,h3,h4,h5⟩:=zw2 hok;have hh:∀ w∈[zov,z0p (ts[i].cell 0).toInt,z0p (ic (ts[i].cell 1).toList.length)],w.size≤100:=(hw.1 _ (by unfold y6v; exact v0a ..)).2
  have hls:=zgi _ (by simp) hh
  have e:List.map IV.toStr (List.drop 0 (List.take 3 [IV.str { data:=#[116,114,101,101] },IV.str (z0p (IV.toInt (IV.cell ts[i] 0))),IV.str (z0p (ic (List.length (IV.toList (IV.cell ts[i] 1)))))]))=[zov,z0p (ts[i].cell 0).toInt,z0p (ic (ts[i].cell 1).toList.length)]:=rfl;have el:Nat.ble (List.length (List.drop 0 (List.take 3 [IV.str { data:=#[116,114,101,101] },IV.str (z0p (IV.toInt (IV.cell ts[i] 0))),IV.str (z0p (ic (List.length (IV.toList (IV.cell ts[i] 1)))))]))) 1000=true:=rfl;rw [z05,zh6,hg,e,el,v01 (show (i:Int) < ic ts.length by simp only [ic]; omega),z00,v01 (show (0:Int)≤(i:Int) by omega),v0t,z00,
   v01 (show so.size+(z5z [zov,z0p (ts[i].cell 0).toInt,z0p (ic (ts[i].cell 1).toList.length)]).size≤1000000000 by omega),v0t,z00]
  refine (zsu N ts (i:Int) (ts[i].cell 1).toList h4 h5 _ (ts[i].cell 1).toList.length 0 N (so++z5z [zov,z0p (ts[i].cell 0).toInt,z0p (ic (ts[i].cell 1).toList.length)]) (by omega) (by omega) (by rw [v0g]; omega)).trans ?_
  rw [znb,ei,v11,v0i hil];have hr:zaf (zj8 (ts[i] :: ts.drop (i+1)))=(z5z [zov,z0p (ts[i].cell 0).toInt,z0p (ic (ts[i].cell 1).toList.length)]++zaf (zj1 (ts[i].cell 1).toList))++zaf (zj8 (ts.drop (i+1))):=by
   rw [zj8,zte]
   rfl
  rw [hr,← v2d (a:=so),← v2d (a:=so)];have hsz:(z5z [zov,z0p (ts[i].cell 0).toInt,z0p (ic (ts[i].cell 1).toList.length)]++zaf (zj1 (ts[i].cell 1).toList)).size≤26000:=by
   have:zaf (y6v ts[i])=z5z [zov,z0p (ts[i].cell 0).toInt,z0p (ic (ts[i].cell 1).toList.length)]++zaf (zj1 (ts[i].cell 1).toList):=rfl
   rw [← this]
   have:=hw.2
   omega
  exact zr7 N hN d c hc ts hl ht K m (i+1) n _ (by omega) (by omega) (by rw [v2d,v0g]; omega)
abbrev yiz (d c b0 b1 b2:Int) (ts:List IV) (C:Nat) (so:ByteArray) (ws:List IV) (n:Nat) (i:Int):St:=
 ⟨[(1,(.ptr 1 0 0)),(2,(.str { data:=#[] })),(3,(.ptr 3 0 0)),(4,(.row 500 0 n)),(28,(.bview 1 2 3 1 C)),(29,(.int .i64 (ic C))),(30,(.int .i64 i))],[(1,(some (.box [(.int .i64 d),(.int .i64 c),(.int .i64 b0),(.int .i64 b1),(.int .i64 b2),(.list true [(.int .i64),(.list false [(.int .u64)])] ts)]))),(3,(some (.bld so))),(500,(some (.row true 9 false [.str] ws)))]⟩
theorem zig (N:Nat) (d c b0 b1 b2:Int) (ts:List IV) (C:Nat) (so:ByteArray) (ws:List IV) (n i:Nat) (b:Int) (hi:i < C) (hn:n≤10) (h:(i=0∧b=b0)∨(i=1∧b=b1)∨(i=2∧b=b2)) (again:St→Res) (k:Out→St→Res) :
  rnd (z0y N) (z0j z1p [1,1,1,1,1,0,1,0,0]) (yiz d c b0 b1 b2 ts C so ws n (i:Int)) (z3t again ⟨[1,2,3,4,28,29,30],[1,3,500],[⟨.tmp 4,500,9,false,[.str]⟩]⟩ k) =
   again (yiz d c b0 b1 b2 ts C so (ws.take n++[.str (z0e b)]) (n+1) ((i+1:Nat):Int)):=by
 rw [z9o];have ei:IntKind.wrap IntKind.i64 ((i:Int)+1)=((i+1:Nat):Int):=by
  rw [z19 (by omega) (by omega)]
  omega
 have eb:TI.bytes (Env.tyd (z0y N) 9)=16:=rfl;have e1:∀ x:IV,List.length (List.drop 0 (List.take 1 [x]))=1:=fun x=>rfl
 rw [ei,eb,e1,e1,e1,v01 (show (i:Int) < ic C by simp only [ic]; omega),z00,z00,v01 (show (n+1)*16≤z0c by unfold z0c; omega)]
 rcases h with ⟨rfl,rfl⟩ | ⟨rfl,rfl⟩ | ⟨rfl,rfl⟩ <;> rfl
theorem y4y (N:Nat) (hN:10≤N) (d b0 b1 b2:Int) (ts:List IV) (C:Nat) (h1:1≤C) (h3:C≤3) (so:ByteArray) (K:Out→St→Res) :
  lpE (z0y N) (z0j z1p [1,1,1,1,1,0,1,0,0]) ⟨[1,2,3,4,28,29,30],[1,3,500],[⟨.tmp 4,500,9,false,[.str]⟩]⟩ N (yiz d (C:Int) b0 b1 b2 ts C so [.str zg8] 1 0) K =
   K (.exit 0) (yiz d (C:Int) b0 b1 b2 ts C so ((zg8 :: (([b0,b1,b2].take C).map z0e)).map IV.str) (1+C) (C:Int)):=by
 obtain ⟨M,rfl⟩:∃ M,N=M+4:=⟨N - 4,by omega⟩
 have e0:yiz d (C:Int) b0 b1 b2 ts C so [.str zg8] 1 0=yiz d (C:Int) b0 b1 b2 ts C so [.str zg8] 1 ((0:Nat):Int):=rfl;rw [e0,z05,zig (M+4) d (C:Int) b0 b1 b2 ts C so _ 1 0 b0 (by omega) (by omega) (by simp)]
 match C,h1,h3 with
 | 1,_,_=>
  rw [z05,z9o,v07 (show ¬ ((0+1:Nat):Int) < ic 1 by decide),z02]
  rfl
 | 2,_,_=>
  rw [z05,zig (M+4) d _ b0 b1 b2 ts 2 so _ _ 1 b1 (by omega) (by omega) (by simp),z05,z9o,v07 (show ¬ ((1+1:Nat):Int) < ic 2 by decide),z02]
  rfl
 | 3,_,_=>
  rw [z05,zig (M+4) d _ b0 b1 b2 ts 3 so _ _ 1 b1 (by omega) (by omega) (by simp),z05,zig (M+4) d _ b0 b1 b2 ts 3 so _ _ 2 b2 (by omega) (by omega) (by simp),z05,z9o,v07 (show ¬ ((2+1:Nat):Int) < ic 3 by decide),z02]
  rfl
theorem y31 {m:Md} (h:z2b m=true):(1≤m.d∧m.d≤4)∧(1≤m.c∧m.c≤3)∧m.ts.length≤8∧(zga m.c 0 m.b0=true∧zga m.c 1 m.b1=true∧zga m.c 2 m.b2=true)∧m.ts.all (z81 m.d m.c)=true:=by
 unfold z2b at h;simp only [v02,v17,v19] at h;obtain ⟨⟨h1,h2,h3,h4,h5⟩,⟨h6,h7,h8⟩,h9⟩:=h;exact ⟨⟨by omega,by omega⟩,⟨by omega,by omega⟩,v03 h5,⟨h6,h7,h8⟩,h9⟩
theorem zxw {c j b:Int} (h:zga c j b=true):(-2147483648≤b∧b≤2147483647)∧(c≤j→b=0):=by
 unfold zga at h;rw [v02] at h;refine ⟨y5j h.1,fun hj=>?_⟩
 have:=h.2
 rw [v01 (show j≥c from hj)] at this
 simpa using this
theorem yen {m:Md} (h:z2b m=true):∀ l∈yfq m,l.length≤8∧∀ w∈l,w.size≤100:=by
 obtain ⟨hd,hc,_,⟨g0,g1,g2⟩,_⟩:=y31 h;have i0:=(zxw g0).1;have i1:=(zxw g1).1;have i2:=(zxw g2).1;intro l hl;unfold yfq at hl;simp only [v15,v1t,v3n] at hl;rcases hl with rfl | rfl
 ·refine ⟨by simp,fun w hw=>?_⟩
  simp only [v15,v1t,v3n] at hw;rcases hw with rfl | rfl | rfl
  ·decide
  ·exact zco (by unfold InR; omega)
  ·exact zco (by unfold InR; omega)
 ·refine ⟨by simp only [v05,v12,v0j,v0o]; omega,fun w hw=>?_⟩
  rcases v15.1 hw with rfl | hw
  ·decide
  ·obtain ⟨b,hb,rfl⟩:=List.mem_map.1 hw
   have hb:=v2p hb;simp only [v15,v1t,v3n] at hb;rcases hb with rfl | rfl | rfl
   ·exact zhc (by unfold InR; omega)
   ·exact zhc (by unfold InR; omega)
   ·exact zhc (by unfold InR; omega)
set_option maxHeartbeats 1000000 in
theorem zit:z2y PR B0 20 z7p:=by
 refine z0i [(44,z6m),(53,z1z),(55,z1y),(43,z32),(56,z1f),(54,zcr)] [(7,⟨[1,2,3,4,28,29,30],[1,3,500],[⟨.tmp 4,500,9,false,[.str]⟩]⟩),(13,⟨[2,3,43,44,45],[3],[]⟩),(17,⟨[2,3,43,44,45,59,60,61],[3],[]⟩)] z7p [[.str]] Tryz.func20 y3u ⟨zfm,z5w,z5t,z8t,z4z,zyx,trivial⟩ ?_;intro vs r hwf h;unfold z7p at h
 split at h
 ·rename_i d c b0 b1 b2 ts
  refine ⟨40,?_⟩;rw [R.get_ok] at h;rw [← h];refine (zxp 40 d c b0 b1 b2 ts).trans ?_;unfold y3j;cases hm:z2b ⟨d,c,b0,b1,b2,ts⟩ with
  | false=>rfl
  | true=>
   obtain ⟨hd,hc,hl,_,ht⟩:=y31 hm;simp only at hd hc hl ht;have hh:=yen hm;have hh1:=hh _ (v0a ..);have hh2:=hh _ (v0b _ (v0a ..));have z1:=zgi _ hh1.1 hh1.2;have z2:=zgi _ hh2.1 hh2.2;obtain ⟨C,rfl⟩:∃ C:Nat,c=(C:Int):=⟨c.toNat,by omega⟩
   have e1:List.map IV.toStr (List.drop 0 (List.take 3 [IV.str { data:=#[102,111,114,101,115,116] },IV.str (z0p d),IV.str (z0p (C:Int))]))=[zdu,z0p d,z0p (C:Int)]:=rfl;have e2:Nat.ble (List.length (List.drop 0 (List.take 3 [IV.str { data:=#[102,111,114,101,115,116] },IV.str (z0p d),IV.str (z0p (C:Int))]))) 1000=true:=rfl;have e3:ByteArray.size ByteArray.empty=0:=rfl;have z1:(z5z [zdu,z0p d,z0p (C:Int)]).size≤809:=z1;rw [v0c,z02,z00,e1,e2,e3,v01 (show 0+(z5z [zdu,z0p d,z0p (C:Int)]).size≤1000000000 by omega),v0t,z00,v01 (show (0:Int)≤(C:Int) by omega),v01 (show (C:Int)≤ic 3 by simp only [ic]; omega),v0t,z00,v0l,ByteArray.empty_append]
   refine (y4y 40 (by omega) d b0 b1 b2 ts C (by omega) (by omega) (z5z [zdu,z0p d,z0p (C:Int)]) _).trans ?_
   rw [zob];have e4:List.map IV.toStr (List.drop 0 (List.take (1+C) ((zg8 :: (([b0,b1,b2].take C).map z0e)).map IV.str)))=zg8 :: (([b0,b1,b2].take C).map z0e):=by
    match C,hc with
    | 0,hc=>exact absurd hc.1 (by decide)
    | 1,_=>rfl
    | 2,_=>rfl
    | 3,_=>rfl
    | C+4,hc=>exact absurd hc.2 (by omega)
   have e5:Nat.ble (List.length (List.drop 0 (List.take (1+C) ((zg8 :: (([b0,b1,b2].take C).map z0e)).map IV.str)))) 1000=true:=by
    apply v1i;rw [v1j,v0j];omega
   have z2:(z5z (zg8 :: (([b0,b1,b2].take C).map z0e))).size≤809:=by
    have:(([b0,b1,b2].take (C:Int).toNat).map z0e)=(([b0,b1,b2].take C).map z0e):=by rw [v0l]
    rw [← this];exact z2
   rw [e4,e5,v01 (show (z5z [zdu,z0p d,z0p (C:Int)]).size+(z5z (zg8 :: (([b0,b1,b2].take C).map z0e))).size≤1000000000 by omega),v0t,z00]
   refine (zr7 40 (by omega) d (C:Int) (by omega) ts hl ht _ ts.length 0 40 _ (by omega) (by omega) (by rw [v0g]; omega)).trans ?_
   rw [znf,v11];have e6:zaf (ygr ⟨d,(C:Int),b0,b1,b2,ts⟩)=z5z [zdu,z0p d,z0p (C:Int)]++z5z (zg8 :: (([b0,b1,b2].take C).map z0e))++zaf (zj8 ts):=by
    show zaf (yfq ⟨d,(C:Int),b0,b1,b2,ts⟩++zj8 ts)=_;rw [zte];show z5z [zdu,z0p d,z0p (C:Int)]++(z5z (zg8 :: (([b0,b1,b2].take (C:Int).toNat).map z0e))++ByteArray.empty)++zaf (zj8 ts)=_;rw [v3k,v0l]
   rw [e6]
 ·simp [R.get] at h
open Go Go.Proofs
def z0o (N:Nat):Env:=mkE [(46,z2p),(47,z2l),(20,z7p),(49,z7a),(48,z35),(52,z5c),(51,z8y),(50,z8u)] [(6,⟨[0,2,3,4,6,7,28,29],[2,6,15],[]⟩),(10,⟨[0,2,3,4,6],[2,6,15,500],[⟨.cell 6 5,500,88,true,[.int .i64,.list false [.int .u64]]⟩]⟩),(14,⟨[0,2,3,4,6,10,61,62],[2,6,10,15,500,501],[⟨.cell 6 5,500,88,true,[.int .i64,.list false [.int .u64]]⟩,⟨.cell 10 1,501,103,false,[.int .u64]⟩]⟩)] 88 N
abbrev z5g (s0:ByteArray) (b3:Bool) (l7:List IV) (x28 x29 u01 u02 u03 u04 u05 u06 u07 u08 u09 u0a:Int) (u00:List IV):St:=⟨[(0,(.str s0)),(2,(.ptr 2 0 0)),(3,(.bool b3)),(4,(.ptr 15 0 0)),(6,(.ptr 6 0 0)),(7,(.list false [.str] l7)),(28,(.i x28)),(29,(.i x29))],[(2,(some (.box [(.i u01),(.i u02),(.i u03),(.i u04),(.i u05),.zs]))),(6,(some (.box [(.i u06),(.i u07),(.i u08),(.i u09),(.i u0a),.zs]))),(15,(some (.box [(.list false [.str] u00)])))]⟩
abbrev z6w (s0:ByteArray) (b3:Bool) (u03 u04 u05 u06 u07 u08 u09 u0a u0b u0c:Int) (u02:Nat) (u00 u01:List IV):St:=⟨[(0,(.str s0)),(2,(.ptr 2 0 0)),(3,(.bool b3)),(4,(.ptr 15 0 0)),(6,(.ptr 6 0 0))],[(2,(some (.box [(.i u03),(.i u04),(.i u05),(.i u06),(.i u07),.zs]))),(6,(some (.box [(.i u08),(.i u09),(.i u0a),(.i u0b),(.i u0c),(.row 500 0 u02)]))),(15,(some (.box [(.list false [.str] u00)]))),(500,(some (.row true 88 true [(.int .i64),(.list false [(.int .u64)])] u01)))]⟩
abbrev z8k (s0:ByteArray) (b3:Bool) (x61 x62 u06 u07 u08 u09 u0a u0b u0c u0d u0e u0f:Int) (u04:Nat) (u05:Int) (u03:Nat) (u00 u01 u02:List IV):St:=⟨[(0,(.str s0)),(2,(.ptr 2 0 0)),(3,(.bool b3)),(4,(.ptr 15 0 0)),(6,(.ptr 6 0 0)),(10,(.ptr 10 0 0)),(61,(.i x61)),(62,(.i x62))],[(2,(some (.box [(.i u06),(.i u07),(.i u08),(.i u09),(.i u0a),.zs]))),(6,(some (.box [(.i u0b),(.i u0c),(.i u0d),(.i u0e),(.i u0f),(.row 500 0 u04)]))),(10,(some (.box [(.i u05),(.row 501 0 u03)]))),(15,(some (.box [(.list false [.str] u00)]))),(500,(some (.row true 88 true [(.int .i64),(.list false [(.int .u64)])] u01))),(501,(some (.row true 103 false [(.int .u64)] u02)))]⟩
theorem zyc (N:Nat) (s:ByteArray):z11 (z0o N) z1c [.cell 2 30,.tmp 3] [[.int .i64,.int .i64,.int .i64,.int .i64,.int .i64,.list true [.int .i64,.list false [.int .u64]]],[.bool]] [(.str s)]=(cond (decide (ByteArray.size (z40 s {data:=#[10]}) < 4294967281)&&decide (1≤ByteArray.size {data:=#[10]})) (cond (z6h (List.map IV.str (z0s (z40 s {data:=#[10]}) {data:=#[10]}))) (cond (z6h (List.drop 1 (List.map IV.str (z0s (z40 s {data:=#[10]}) {data:=#[10]})))) (lpE (z0o N) (z0j z1c [1,1,1,1,1,0,1,0,0]) ⟨[0,2,3,4,6,7,28,29],[2,6,15],[]⟩ N (z5g s false (z3m (List.drop 1 (List.map IV.str (z0s (z40 s {data:=#[10]}) {data:=#[10]})))) (zer (wAt (z3m (List.map IV.str (z0s (z40 s {data:=#[10]}) {data:=#[10]}))) (Int.toNat 2)) 3) 0 0 0 0 0 0 (zer (wAt (z3m (List.map IV.str (z0s (z40 s {data:=#[10]}) {data:=#[10]}))) (Int.toNat 1)) 4) (zer (wAt (z3m (List.map IV.str (z0s (z40 s {data:=#[10]}) {data:=#[10]}))) (Int.toNat 2)) 3) 0 0 0 (List.drop 1 (List.drop 1 (List.map IV.str (z0s (z40 s {data:=#[10]}) {data:=#[10]}))))) (z06 0 (kSq (z0o N) (z0j z1c [1,1,1,1,1,1]) (z30 (z0o N) none [(ResultVar.cell 2 30),(ResultVar.tmp 3)] [[(.int .i64),(.int .i64),(.int .i64),(.int .i64),(.int .i64),(.list true [(.int .i64),(.list false [(.int .u64)])])],[.bool]])))) none) none) none):=by kernel_rfl
theorem z7n (N:Nat) (s0:ByteArray) (b3:Bool) (l7:List IV) (x28 x29 u01 u02 u03 u04 u05 u06 u07 u08 u09 u0a:Int) (u00:List IV) (again:St→Res) (k:Out→St→Res):rnd (z0o N) (z0j z1c [1,1,1,1,1,0,1,0,0]) (z5g s0 b3 l7 x28 x29 u01 u02 u03 u04 u05 u06 u07 u08 u09 u0a u00) (z3t again ⟨[0,2,3,4,6,7,28,29],[2,6,15],[]⟩ k)=(cond (decide (x29 < x28)) (cond (decide (0≤IntKind.wrap IntKind.i64 (1+x29))) (cond (decide (ByteArray.size (wAt l7 (Int.toNat (IntKind.wrap IntKind.i64 (1+x29)))) < 4294967281)) (cond (decide (x29=ic 0)) (again (z5g s0 b3 l7 x28 (IntKind.wrap IntKind.i64 (x29+1)) u01 u02 u03 u04 u05 u06 u07 (ziq (wAt l7 (Int.toNat (IntKind.wrap IntKind.i64 (1+x29))))) u09 u0a u00)) (cond (decide (x29=ic 1)) (again (z5g s0 b3 l7 x28 (IntKind.wrap IntKind.i64 (x29+1)) u01 u02 u03 u04 u05 u06 u07 u08 (ziq (wAt l7 (Int.toNat (IntKind.wrap IntKind.i64 (1+x29))))) u0a u00)) (cond (decide (x29=ic 2)) (again (z5g s0 b3 l7 x28 (IntKind.wrap IntKind.i64 (x29+1)) u01 u02 u03 u04 u05 u06 u07 u08 u09 (ziq (wAt l7 (Int.toNat (IntKind.wrap IntKind.i64 (1+x29))))) u00)) none))) none) none) (k (.exit 0) (z5g s0 b3 l7 x28 x29 u01 u02 u03 u04 u05 u06 u07 u08 u09 u0a u00))):=by kernel_rfl
theorem znw (N:Nat) (s0:ByteArray) (b3:Bool) (l7:List IV) (x28 x29 u01 u02 u03 u04 u05 u06 u07 u08 u09 u0a:Int) (u00:List IV):(z06 0 (kSq (z0o N) (z0j z1c [1,1,1,1,1,1]) (z30 (z0o N) none [(ResultVar.cell 2 30),(ResultVar.tmp 3)] [[(.int .i64),(.int .i64),(.int .i64),(.int .i64),(.int .i64),(.list true [(.int .i64),(.list false [(.int .u64)])])],[.bool]]))) (.exit 0) (z5g s0 b3 l7 x28 x29 u01 u02 u03 u04 u05 u06 u07 u08 u09 u0a u00)=(lpE (z0o N) (z0j z1c [1,1,1,1,1,1,0,0,0]) ⟨[0,2,3,4,6],[2,6,15,500],[⟨(.cell 6 5),500,88,true,[(.int .i64),(.list false [(.int .u64)])]⟩]⟩ N (z6w s0 b3 u01 u02 u03 u04 u05 u06 u07 u08 u09 u0a 0 u00 []) (z06 2 (kSq (z0o N) (z0j z1c [1,1,1,1,1,1,1]) (z30 (z0o N) none [(ResultVar.cell 2 30),(ResultVar.tmp 3)] [[(.int .i64),(.int .i64),(.int .i64),(.int .i64),(.int .i64),(.list true [(.int .i64),(.list false [(.int .u64)])])],[.bool]])))):=by kernel_rfl
theorem zd1 (N:Nat) (s0:ByteArray) (b3:Bool) (u03 u04 u05 u06 u07 u08 u09 u0a u0b u0c:Int) (u02:Nat) (u00 u01:List IV) (again:St→Res) (k:Out→St→Res):rnd (z0o N) (z0j z1c [1,1,1,1,1,1,0,0,0]) (z6w s0 b3 u03 u04 u05 u06 u07 u08 u09 u0a u0b u0c u02 u00 u01) (z3t again ⟨[0,2,3,4,6],[2,6,15,500],[⟨(.cell 6 5),500,88,true,[(.int .i64),(.list false [(.int .u64)])]⟩]⟩ k)=(cond (decide (ic (List.length u00) > 0)) (cond (decide (ic (u02 - 0)≤8)) (cond (z6h u00) (lpE (z0o N) (z0j z1c [1,1,1,1,1,1,0,0,0,1,0,1,1,0,1,0,0]) ⟨[0,2,3,4,6,10,61,62],[2,6,10,15,500,501],[⟨(.cell 6 5),500,88,true,[(.int .i64),(.list false [(.int .u64)])]⟩,⟨(.cell 10 1),501,103,false,[(.int .u64)]⟩]⟩ N (z8k s0 b3 (zer (wAt (z3m u00) (Int.toNat 2)) 31) 0 u03 u04 u05 u06 u07 u08 u09 u0a u0b u0c u02 (zer (wAt (z3m u00) (Int.toNat 1)) 3) 0 (List.drop 1 u00) u01 []) (z06 4 (kSq (z0o N) (z0j z1c [1,1,1,1,1,1,0,0,0,1,0,1,1,1]) (z06 3 (z3t again ⟨[0,2,3,4,6],[2,6,15,500],[⟨(.cell 6 5),500,88,true,[(.int .i64),(.list false [(.int .u64)])]⟩]⟩ k))))) none) (k (.exit 2) (z6w s0 b3 u03 u04 u05 u06 u07 u08 u09 u0a u0b u0c u02 u00 u01))) (k (.exit 2) (z6w s0 b3 u03 u04 u05 u06 u07 u08 u09 u0a u0b u0c u02 u00 u01))):=by kernel_rfl
theorem zhh (N:Nat) (s0:ByteArray) (b3:Bool) (x61 x62 u06 u07 u08 u09 u0a u0b u0c u0d u0e u0f:Int) (u04:Nat) (u05:Int) (u03:Nat) (u00 u01 u02:List IV) (again:St→Res) (k:Out→St→Res):rnd (z0o N) (z0j z1c [1,1,1,1,1,1,0,0,0,1,0,1,1,0,1,0,0]) (z8k s0 b3 x61 x62 u06 u07 u08 u09 u0a u0b u0c u0d u0e u0f u04 u05 u03 u00 u01 u02) (z3t again ⟨[0,2,3,4,6,10,61,62],[2,6,10,15,500,501],[⟨(.cell 6 5),500,88,true,[(.int .i64),(.list false [(.int .u64)])]⟩,⟨(.cell 10 1),501,103,false,[(.int .u64)]⟩]⟩ k)=(cond (decide (x62 < x61)) (cond (z6h u00) (cond (decide ((u03+List.length (List.drop 0 (List.take 1 [IV.int (z7z (yib (z3m u00)))])))*TI.bytes (Env.tyd (z0o N) 103)≤z0c)) (again (z8k s0 b3 x61 (IntKind.wrap IntKind.i64 (x62+1)) u06 u07 u08 u09 u0a u0b u0c u0d u0e u0f u04 u05 (u03+List.length (List.drop 0 (List.take 1 [IV.int (z7z (yib (z3m u00)))]))) (List.drop 1 u00) u01 (List.take u03 u02++List.drop 0 (List.take 1 [IV.int (z7z (yib (z3m u00)))])))) none) none) (k (.exit 4) (z8k s0 b3 x61 x62 u06 u07 u08 u09 u0a u0b u0c u0d u0e u0f u04 u05 u03 u00 u01 u02))):=by kernel_rfl
theorem zn7 (N:Nat) (s0:ByteArray) (b3:Bool) (u03 u04 u05 u06 u07 u08 u09 u0a u0b u0c:Int) (u02:Nat) (u00 u01:List IV):(z06 2 (kSq (z0o N) (z0j z1c [1,1,1,1,1,1,1]) (z30 (z0o N) none [(ResultVar.cell 2 30),(ResultVar.tmp 3)] [[(.int .i64),(.int .i64),(.int .i64),(.int .i64),(.int .i64),(.list true [(.int .i64),(.list false [(.int .u64)])])],[.bool]]))) (.exit 2) (z6w s0 b3 u03 u04 u05 u06 u07 u08 u09 u0a u0b u0c u02 u00 u01)=(cond (ByteArray.toList s0==ByteArray.toList {data:=#[]}) (some ((.tup [(.agg [(.i 0),(.i 0),(.i 0),(.i 0),(.i 0),(.list true [(.int .i64),(.list false [(.int .u64)])] [])]),(.bool false)]),[])) (cond (!ByteArray.toList (y3j {d:=u08,c:=u09,b0:=u0a,b1:=u0b,b2:=u0c,ts:=List.drop 0 (List.take u02 u01)})==ByteArray.toList s0) (some ((.tup [(.agg [(.i 0),(.i 0),(.i 0),(.i 0),(.i 0),(.list true [(.int .i64),(.list false [(.int .u64)])] [])]),(.bool false)]),[])) (some ((.tup [(.agg [(.i u08),(.i u09),(.i u0a),(.i u0b),(.i u0c),(.list true [(.int .i64),(.list false [(.int .u64)])] (List.drop 0 (List.take u02 u01)))]),(.bool true)]),[])))):=by kernel_rfl
theorem zmq (N:Nat) (again:St→Res) (k:Out→St→Res) (s0:ByteArray) (b3:Bool) (x61 x62 u06 u07 u08 u09 u0a u0b u0c u0d u0e u0f:Int) (u04:Nat) (u05:Int) (u03:Nat) (u00 u01 u02:List IV):(z06 4 (kSq (z0o N) (z0j z1c [1,1,1,1,1,1,0,0,0,1,0,1,1,1]) (z06 3 (z3t again ⟨[0,2,3,4,6],[2,6,15,500],[⟨(.cell 6 5),500,88,true,[(.int .i64),(.list false [(.int .u64)])]⟩]⟩ k)))) (.exit 4) (z8k s0 b3 x61 x62 u06 u07 u08 u09 u0a u0b u0c u0d u0e u0f u04 u05 u03 u00 u01 u02)=(cond (decide ((u04+List.length (List.drop 0 (List.take 1 [IV.agg [IV.int u05,IV.list (List.drop 0 (List.take u03 u02))]])))*TI.bytes (Env.tyd (z0o N) 88)≤z0c)) (again (z6w s0 b3 u06 u07 u08 u09 u0a u0b u0c u0d u0e u0f (u04+List.length (List.drop 0 (List.take 1 [IV.agg [IV.int u05,IV.list (List.drop 0 (List.take u03 u02))]]))) u00 (List.take u04 u01++List.drop 0 (List.take 1 [IV.agg [IV.int u05,IV.list (List.drop 0 (List.take u03 u02))]])))) none):=by kernel_rfl
open Go Go.Proofs
theorem ycx (s:ByteArray) {most:Int} (h:0≤most):0≤zer s most∧zer s most≤most:=by
 unfold zer;cases ha:zs0 s <;> cases h1:decide (z6t s < 0) <;> cases h2:decide (z6t s > most)
 all_goals simp only [v0c,v0h,v0t,v1c,v2c,v2h,v1q]
 all_goals first
  | exact ⟨by omega,by omega⟩
  | (have h1:=v0s h1; have h2:=v0s h2; omega)
theorem zli (s t:ByteArray):(z40 s t).size≤s.size:=by
 unfold z40;cases zhw s t with
 | true=>
  rw [z00,v3j];omega
 | false=>exact v09 _
theorem yei {s:ByteArray} (h:s.size < 4294967281):z6h (zsl s)=true:=by
 unfold z6h zsl;rw [v3a];intro x hx;obtain ⟨w,hw,rfl⟩:=List.mem_map.1 hx
 have:=(z97 yeh _ (y3g s)).2 w hw
 have h2:(y3g s).size≤s.size:=zli s yeh;refine v01 ?_;show w.size < 4294967281;omega
abbrev kpA:KP:=⟨[0,2,3,4,6,7,28,29],[2,6,15],[]⟩
abbrev kpB:KP:=⟨[0,2,3,4,6],[2,6,15,500],[⟨.cell 6 5,500,88,true,[.int .i64,.list false [.int .u64]]⟩]⟩
abbrev kpC:KP:=⟨[0,2,3,4,6,10,61,62],[2,6,10,15,500,501],[⟨.cell 6 5,500,88,true,[.int .i64,.list false [.int .u64]]⟩,⟨.cell 10 1,501,103,false,[.int .u64]⟩]⟩
abbrev yiu (s:ByteArray) (W:List IV) (C i d c b0 b1 b2:Int) (L:List IV):St:=
 ⟨[(0,(.str s)),(2,(.ptr 2 0 0)),(3,(.bool false)),(4,(.ptr 15 0 0)),(6,(.ptr 6 0 0)),(7,(.list false [.str] W)),(28,(.int .i64 C)),(29,(.int .i64 i))],[(2,(some (.box [(.int .i64 0),(.int .i64 0),(.int .i64 0),(.int .i64 0),(.int .i64 0),.zs]))),(6,(some (.box [(.int .i64 d),(.int .i64 c),(.int .i64 b0),(.int .i64 b1),(.int .i64 b2),.zs]))),(15,(some (.box [(.list false [.str] L)])))]⟩
theorem zeb (N:Nat) (s:ByteArray) (W:List IV) (hW:∀ i,(wAt W i).size < 4294967281) (C:Int) (i:Nat) (hi:(i:Int) < C) (h3:i < 3) (d c b0 b1 b2:Int) (L:List IV) (again:St→Res) (k:Out→St→Res) :
  rnd (z0o N) (z0j z1c [1,1,1,1,1,0,1,0,0]) (yiu s W C (i:Int) d c b0 b1 b2 L) (z3t again kpA k) =
   again (yiu s W C ((i+1:Nat):Int) d c (cond (Nat.beq i 0) (ziq (wAt W (1+i))) b0) (cond (Nat.beq i 1) (ziq (wAt W (1+i))) b1) (cond (Nat.beq i 2) (ziq (wAt W (1+i))) b2) L):=by
 rw [z7n];have ei:IntKind.wrap IntKind.i64 ((i:Int)+1)=((i+1:Nat):Int):=by
  rw [z19 (by omega) (by omega)]
  omega
 have ei':IntKind.wrap IntKind.i64 (1+(i:Int))=((1+i:Nat):Int):=by
  rw [z19 (by omega) (by omega)]
  omega
 rw [ei,ei',v0l,v01 hi,z00,v01 (show (0:Int)≤((1+i:Nat):Int) by omega),z00,v01 (hW (1+i)),z00]
 match i,h3 with
 | 0,_=>rfl
 | 1,_=>rfl
 | 2,_=>rfl
theorem y4r (N:Nat) (s:ByteArray) (LS W:List IV) (hWe:W=z3m (LS.drop 1)) (hW:∀ i,(wAt W i).size < 4294967281) (C:Int) (h0:0≤C) (h3:C≤3) (hN:10≤N) (d c:Int) (L:List IV) (K:Out→St→Res) :
  lpE (z0o N) (z0j z1c [1,1,1,1,1,0,1,0,0]) kpA N (yiu s W C 0 d c 0 0 0 L) K=K (.exit 0) (yiu s W C C d c (zcu LS C 0) (zcu LS C 1) (zcu LS C 2) L):=by
 obtain ⟨M,rfl⟩:∃ M,N=M+4:=⟨N - 4,by omega⟩
 obtain ⟨n,rfl⟩:∃ n:Nat,C=(n:Int):=⟨C.toNat,by omega⟩
 subst hWe;have e0:yiu s (z3m (LS.drop 1)) (n:Int) 0 d c 0 0 0 L=yiu s (z3m (LS.drop 1)) (n:Int) ((0:Nat):Int) d c 0 0 0 L:=rfl;rw [e0]
 match n,h3 with
 | 0,_=>
  rw [z05,z7n,v07 (show ¬ ((0:Nat):Int) < ((0:Nat):Int) by omega),z02]
  rfl
 | 1,_=>
  rw [z05,zeb (M+4) s _ hW _ 0 (by omega) (by omega),z05,z7n,v07 (show ¬ ((0+1:Nat):Int) < ((1:Nat):Int) by omega),z02]
  rfl
 | 2,_=>
  rw [z05,zeb (M+4) s _ hW _ 0 (by omega) (by omega),z05,zeb (M+4) s _ hW _ 1 (by omega) (by omega),z05,z7n,v07 (show ¬ ((1+1:Nat):Int) < ((2:Nat):Int) by omega),z02]
  rfl
 | 3,_=>
  rw [z05,zeb (M+4) s _ hW _ 0 (by omega) (by omega),z05,zeb (M+4) s _ hW _ 1 (by omega) (by omega),z05,zeb (M+4) s _ hW _ 2 (by omega) (by omega),z05,z7n,v07 (show ¬ ((2+1:Nat):Int) < ((3:Nat):Int) by omega),z02]
  rfl
 | n+4,h3=>exact absurd h3 (by omega)
abbrev yky (s:ByteArray) (d c b0 b1 b2:Int) (L T:List IV) (cl k j:Int) (NL:List IV):St:=
 ⟨[(0,(.str s)),(2,(.ptr 2 0 0)),(3,(.bool false)),(4,(.ptr 15 0 0)),(6,(.ptr 6 0 0)),(10,(.ptr 10 0 0)),(61,(.int .i64 k)),(62,(.int .i64 j))],[(2,(some (.box [(.int .i64 0),(.int .i64 0),(.int .i64 0),(.int .i64 0),(.int .i64 0),.zs]))),(6,(some (.box [(.int .i64 d),(.int .i64 c),(.int .i64 b0),(.int .i64 b1),(.int .i64 b2),(.row 500 0 T.length)]))),(10,(some (.box [(.int .i64 cl),(.row 501 0 NL.length)]))),(15,(some (.box [(.list false [.str] L)]))),(500,(some (.row true 88 true [(.int .i64),(.list false [(.int .u64)])] T))),(501,(some (.row true 103 false [(.int .u64)] NL)))]⟩
theorem y3t (L:List IV) (j:Nat):zc1 L (j+1)=zc1 L j++[.int (z7z (yib (z3m (L.drop j))))]:=by
 unfold zc1;rw [List.range_succ,v3p]
 rfl
theorem zd4 (L:List IV) (j:Nat):(zc1 L j).length=j:=by
 unfold zc1;rw [v12,List.length_range]
theorem zx1 (N:Nat) (s:ByteArray) (d c b0 b1 b2:Int) (T L:List IV) (hL:z6h L=true) (cl:Int) (k:Nat) (hk:k≤31) (K:Out→St→Res):∀ (m j n:Nat),j+m=k→m < n →
  lpE (z0o N) (z0j z1c [1,1,1,1,1,1,0,0,0,1,0,1,1,0,1,0,0]) kpC n (yky s d c b0 b1 b2 (L.drop j) T cl (k:Int) (j:Int) (zc1 L j)) K =
   K (.exit 4) (yky s d c b0 b1 b2 (L.drop k) T cl (k:Int) (k:Int) (zc1 L k))
 | m,j,0,_,h=>absurd h (by omega)
 | 0,j,n+1,hd,_=>by
  have hj:j=k:=by omega
  subst hj;rw [z05,zhh,v07 (show ¬ (j:Int) < (j:Int) by omega),z02]
 | m+1,j,n+1,hd,hn=>by
  have ej:IntKind.wrap IntKind.i64 ((j:Int)+1)=((j+1:Nat):Int):=by
   rw [z19 (by omega) (by omega)]
   omega
  have eb:TI.bytes (Env.tyd (z0o N) 103)=8:=rfl;have e1:∀ x:IV,List.length (List.drop 0 (List.take 1 [x]))=1:=fun x=>rfl
  have e2:∀ x:IV,List.drop 0 (List.take 1 [x])=[x]:=fun x=>rfl
  rw [z05,zhh,ej,eb,e1,e2,v01 (show (j:Int) < (k:Int) by omega),z00,z7b hL j,z00,zd4,v01 (show (j+1)*8≤z0c by unfold z0c; omega),z00]
  have e3:List.take j (zc1 L j)=zc1 L j:=v0z (by rw [zd4]; omega)
  rw [e3,← y3t,v3v];have ih:=zx1 N s d c b0 b1 b2 T L hL cl k hk K m (j+1) n (by omega) (by omega)
  unfold yky at ih ⊢
  rw [zd4] at ih;exact ih
abbrev ykg (s:ByteArray) (d c b0 b1 b2:Int) (L T:List IV):St:=
 ⟨[(0,(.str s)),(2,(.ptr 2 0 0)),(3,(.bool false)),(4,(.ptr 15 0 0)),(6,(.ptr 6 0 0))],[(2,(some (.box [(.int .i64 0),(.int .i64 0),(.int .i64 0),(.int .i64 0),(.int .i64 0),.zs]))),(6,(some (.box [(.int .i64 d),(.int .i64 c),(.int .i64 b0),(.int .i64 b1),(.int .i64 b2),(.row 500 0 T.length)]))),(15,(some (.box [(.list false [.str] L)]))),(500,(some (.row true 88 true [(.int .i64),(.list false [(.int .u64)])] T)))]⟩
theorem zw0 (N:Nat) (hN:40≤N) (s:ByteArray) (d c b0 b1 b2:Int) (K:Out→St→Res):∀ (m n:Nat) (L T:List IV),z6h L=true→T.length+m=9→m < n →
  ∃ L',lpE (z0o N) (z0j z1c [1,1,1,1,1,1,0,0,0]) kpB n (ykg s d c b0 b1 b2 L T) K=K (.exit 2) (ykg s d c b0 b1 b2 L' (T++zav m L))
 | m,0,L,T,_,_,h=>absurd h (by omega)
 | m,n+1,[],T,hL,hT,hn=>by
  refine ⟨[],?_⟩;have e:zav m []=[]:=by cases m <;> rfl
  rw [z05,zd1,v07 (show ¬ ic (List.length ([]:List IV)) > 0 by decide),z02,e,v2n]
 | 0,n+1,l :: L,T,hL,hT,hn=>by
  refine ⟨l :: L,?_⟩;rw [z05,zd1,v01 (show ic (List.length (l :: L)) > 0 by simp only [ic,v05]; omega),z00,v07 (show ¬ ic (T.length - 0)≤8 by simp only [ic]; omega),z02]
  show K (.exit 2) _=K (.exit 2) (ykg s d c b0 b1 b2 (l :: L) (T++[]));rw [v2n]
 | m+1,n+1,l :: L,T,hL,hT,hn=>by
  obtain ⟨k0,k1⟩:=ycx (wAt (z3m (l :: L)) 2) (most:=31) (by omega)
  have hk:zer (wAt (z3m (l :: L)) 2) 31=((rdK (l :: L):Nat):Int):=by unfold rdK; omega
  have hLd:=z7b hL 1;have hk31:rdK (l :: L)≤31:=by unfold rdK; omega
  have e2:Int.toNat 2=2:=rfl;have e1:Int.toNat 1=1:=rfl;rw [z05,zd1,v01 (show ic (List.length (l :: L)) > 0 by simp only [ic,v05]; omega),z00,v01 (show ic (T.length - 0)≤8 by simp only [ic]; omega),z00,hL,z00,e2,e1,hk]
  have run:=zx1 N s d c b0 b1 b2 T (List.drop 1 (l :: L)) hLd (zer (wAt (z3m (l :: L)) 1) 3) (rdK (l :: L)) hk31
   (z06 4 (kSq (z0o N) (z0j z1c [1,1,1,1,1,1,0,0,0,1,0,1,1,1]) (z06 3 (z3t (fun s'=>lpE (z0o N) (z0j z1c [1,1,1,1,1,1,0,0,0]) kpB n s' K) kpB K)))) (rdK (l :: L)) 0 N (by omega) (by omega)
  have eb:TI.bytes (Env.tyd (z0o N) 88)=32:=rfl;have e3:∀ x:IV,List.length (List.drop 0 (List.take 1 [x]))=1:=fun x=>rfl
  have e4:∀ x:IV,List.drop 0 (List.take 1 [x])=[x]:=fun x=>rfl
  rw [zmq,eb,e3,e4,v01 (show (T.length+1)*32≤z0c by unfold z0c; omega),z00,zd4] at run
  have e5:List.take T.length T=T:=v0z (v09 _);have e6:List.drop 0 (List.take (rdK (l :: L)) (zc1 (List.drop 1 (l :: L)) (rdK (l :: L))))=zc1 (List.drop 1 (l :: L)) (rdK (l :: L)):=by
   rw [v11,v0z (by rw [zd4]; omega)]
  rw [e5,e6] at run;obtain ⟨L',hL'⟩:=zw0 N hN s d c b0 b1 b2 K m n (List.drop (rdK (l :: L)) (List.drop 1 (l :: L))) (T++[y7f (l :: L)]) (z7b hLd _) (by rw [v08,v05,v0o]; omega) (by omega)
  refine ⟨L',?_⟩;have e7:T++zav (m+1) (l :: L)=T++[y7f (l :: L)]++zav m (List.drop (rdK (l :: L)) (List.drop 1 (l :: L))):=by
   rw [v33]
   rfl
  rw [e7,← hL'];refine v4a ?_ (run.trans ?_)
  ·rfl
  ·have e8:(T++[y7f (l :: L)]).length=T.length+1:=by rw [v08]; rfl
   unfold ykg;rw [e8]
   rfl
set_option maxHeartbeats 1000000 in
theorem zv8:z2y PR B0 19 zbk:=by
 refine z0i [(46,z2p),(47,z2l),(20,z7p),(49,z7a),(48,z35),(52,z5c),(51,z8y),(50,z8u)] [(6,kpA),(10,kpB),(14,kpC)] zbk [[.int .i64,.int .i64,.int .i64,.int .i64,.int .i64,.list true [.int .i64,.list false [.int .u64]]],[.bool]] Tryz.func19 y2t ⟨z7t,zaj,zit,zj5,zc9,zim,zlt,zlq,trivial⟩ ?_;intro vs r hwf h;unfold zbk at h
 split at h
 ·rename_i s
  cases hc:decide (s.size < 4294967281) with
  | false=>rw [hc] at h; simp [R.get] at h
  | true=>
   rw [hc,R.get_br,z00,R.get_ok] at h;have hs:=v0f hc;refine ⟨40,?_⟩;rw [← h];refine (zyc 40 s).trans ?_;have hok:=yei hs;have e0:List.map IV.str (z0s (z40 s { data:=#[10] }) { data:=#[10] })=zsl s:=rfl;have e1:decide (1≤ByteArray.size { data:=#[10] })=true:=rfl;have ts:=zli s yeh;have e2:Int.toNat 2=2:=rfl;have e3:Int.toNat 1=1:=rfl;rw [e0,e1,e2,e3,v01 (show ByteArray.size (z40 s { data:=#[10] }) < 4294967281 from v3z ts hs),v0t,z00,hok,z00,z7b hok 1,z00]
   generalize hLS:zsl s=LS at hok ⊢
   obtain ⟨c0,c3⟩:=ycx (wAt (z3m LS) 2) (most:=3) (by omega)
   refine (y4r 40 s LS (z3m (LS.drop 1)) rfl (zmp (z7b hok 1)) (zer (wAt (z3m LS) 2) 3) c0 c3 (by omega) (zer (wAt (z3m LS) 1) 4) (zer (wAt (z3m LS) 2) 3) (List.drop 1 (List.drop 1 LS)) _).trans ?_
   rw [znw];obtain ⟨L',hL'⟩:=zw0 40 (by omega) s (zer (wAt (z3m LS) 1) 4) (zer (wAt (z3m LS) 2) 3) (zcu LS (zer (wAt (z3m LS) 2) 3) 0) (zcu LS (zer (wAt (z3m LS) 2) 3) 1) (zcu LS (zer (wAt (z3m LS) 2) 3) 2)
    (z06 2 (kSq (z0o 40) (z0j z1c [1,1,1,1,1,1,1]) (z30 (z0o 40) none [(ResultVar.cell 2 30),(ResultVar.tmp 3)] [[(.int .i64),(.int .i64),(.int .i64),(.int .i64),(.int .i64),(.list true [(.int .i64),(.list false [(.int .u64)])])],[.bool]])))
    9 40 (List.drop 1 (List.drop 1 LS)) [] (z7b (z7b hok 1) 1) rfl (by omega)
   refine hL'.trans ?_;rw [zn7];have e4:([]:List IV)++zav 9 (List.drop 1 (List.drop 1 LS))=zav 9 (LS.drop 2):=by
    rw [v2r,v3v]
   have e5:List.drop 0 (List.take (([]:List IV)++zav 9 (List.drop 1 (List.drop 1 LS))).length (([]:List IV)++zav 9 (List.drop 1 (List.drop 1 LS))))=zav 9 (LS.drop 2):=by
    rw [v11,v0z (v09 _),e4]
   rw [e5];have e6:(⟨zer (wAt (z3m LS) 1) 4,zer (wAt (z3m LS) 2) 3,zcu LS (zer (wAt (z3m LS) 2) 3) 0,zcu LS (zer (wAt (z3m LS) 2) 3) 1,zcu LS (zer (wAt (z3m LS) 2) 3) 2,zav 9 (LS.drop 2)⟩:Md)=yg8 s:=by
    unfold yg8;rw [hLS]
    rfl
   unfold ze2 zx2;rw [← e6];cases (ByteArray.toList s==ByteArray.toList y8q) with
   | true=>rfl
   | false=>
    rw [z02,v0h,v0r];cases (ByteArray.toList (y3j ⟨zer (wAt (z3m LS) 1) 4,zer (wAt (z3m LS) 2) 3,zcu LS (zer (wAt (z3m LS) 2) 3) 0,zcu LS (zer (wAt (z3m LS) 2) 3) 1,zcu LS (zer (wAt (z3m LS) 2) 3) 2,zav 9 (LS.drop 2)⟩)==ByteArray.toList s) <;> rfl
 ·simp [R.get] at h
open Go Go.Proofs
def yae (N:Nat):Env:=mkE [] [] 39 N
theorem y6n (N:Nat) (u04 u01 u06 u05 u08 u07 u0a u09 u0c u0b u0e u0d q_Lo q_Hi u03:Int) (u02:Bool) (u00 dim:Int):z11 (yae N) zwx [.cell 4 38] [[.int .i64,.int .i64,.int .i64,.int .i64,.int .i64,.int .i64,.int .i64,.int .i64,.int .i64,.int .i64,.int .i64,.int .i64,.int .i64,.int .i64,.int .i64,.bool,.int .i64]] [(.agg [(.i u04),(.i u01),(.i u06),(.i u05),(.i u08),(.i u07),(.i u0a),(.i u09),(.i u0c),(.i u0b),(.i u0e),(.i u0d),(.i q_Lo),(.i q_Hi),(.i u03),(.bool u02),(.i u00)]),(.i dim)]=(cond (decide (0≤dim)&&decide (dim≤ic 5)) (cond (decide (0≤dim)&&decide (dim≤ic 5)) (cond (decide (ic (min (Int.toNat dim) (Int.toNat dim))=ic 0)) (cond (u04==1) (some ((.agg [(.i u04),(.i u01),(.i 0),(.i 0),(.i 0),(.i 0),(.i 0),(.i 0),(.i 0),(.i 0),(.i 0),(.i 0),(.i q_Lo),(.i q_Hi),(.i 0),(.bool false),(.i u00)]),[])) (cond (u04==3) (some ((.agg [(.i u04),(.i u01),(.i 0),(.i 0),(.i 0),(.i 0),(.i 0),(.i 0),(.i 0),(.i 0),(.i 0),(.i 0),(.i 0),(.i 0),(.i u03),(.bool u02),(.i u00)]),[])) (some ((.agg [(.i u04),(.i u01),(.i 0),(.i 0),(.i 0),(.i 0),(.i 0),(.i 0),(.i 0),(.i 0),(.i 0),(.i 0),(.i 0),(.i 0),(.i 0),(.bool false),(.i u00)]),[])))) (cond (decide (ic (min (Int.toNat dim) (Int.toNat dim))=ic 1)) (cond (u04==1) (some ((.agg [(.i u04),(.i u01),(.i u06),(.i u05),(.i 0),(.i 0),(.i 0),(.i 0),(.i 0),(.i 0),(.i 0),(.i 0),(.i q_Lo),(.i q_Hi),(.i 0),(.bool false),(.i u00)]),[])) (cond (u04==3) (some ((.agg [(.i u04),(.i u01),(.i u06),(.i u05),(.i 0),(.i 0),(.i 0),(.i 0),(.i 0),(.i 0),(.i 0),(.i 0),(.i 0),(.i 0),(.i u03),(.bool u02),(.i u00)]),[])) (some ((.agg [(.i u04),(.i u01),(.i u06),(.i u05),(.i 0),(.i 0),(.i 0),(.i 0),(.i 0),(.i 0),(.i 0),(.i 0),(.i 0),(.i 0),(.i 0),(.bool false),(.i u00)]),[])))) (cond (decide (ic (min (Int.toNat dim) (Int.toNat dim))=ic 2)) (cond (u04==1) (some ((.agg [(.i u04),(.i u01),(.i u06),(.i u05),(.i u08),(.i u07),(.i 0),(.i 0),(.i 0),(.i 0),(.i 0),(.i 0),(.i q_Lo),(.i q_Hi),(.i 0),(.bool false),(.i u00)]),[])) (cond (u04==3) (some ((.agg [(.i u04),(.i u01),(.i u06),(.i u05),(.i u08),(.i u07),(.i 0),(.i 0),(.i 0),(.i 0),(.i 0),(.i 0),(.i 0),(.i 0),(.i u03),(.bool u02),(.i u00)]),[])) (some ((.agg [(.i u04),(.i u01),(.i u06),(.i u05),(.i u08),(.i u07),(.i 0),(.i 0),(.i 0),(.i 0),(.i 0),(.i 0),(.i 0),(.i 0),(.i 0),(.bool false),(.i u00)]),[])))) (cond (decide (ic (min (Int.toNat dim) (Int.toNat dim))=ic 3)) (cond (u04==1) (some ((.agg [(.i u04),(.i u01),(.i u06),(.i u05),(.i u08),(.i u07),(.i u0a),(.i u09),(.i 0),(.i 0),(.i 0),(.i 0),(.i q_Lo),(.i q_Hi),(.i 0),(.bool false),(.i u00)]),[])) (cond (u04==3) (some ((.agg [(.i u04),(.i u01),(.i u06),(.i u05),(.i u08),(.i u07),(.i u0a),(.i u09),(.i 0),(.i 0),(.i 0),(.i 0),(.i 0),(.i 0),(.i u03),(.bool u02),(.i u00)]),[])) (some ((.agg [(.i u04),(.i u01),(.i u06),(.i u05),(.i u08),(.i u07),(.i u0a),(.i u09),(.i 0),(.i 0),(.i 0),(.i 0),(.i 0),(.i 0),(.i 0),(.bool false),(.i u00)]),[])))) (cond (decide (ic (min (Int.toNat dim) (Int.toNat dim))=ic 4)) (cond (u04==1) (some ((.agg [(.i u04),(.i u01),(.i u06),(.i u05),(.i u08),(.i u07),(.i u0a),(.i u09),(.i u0c),(.i u0b),(.i 0),(.i 0),(.i q_Lo),(.i q_Hi),(.i 0),(.bool false),(.i u00)]),[])) (cond (u04==3) (some ((.agg [(.i u04),(.i u01),(.i u06),(.i u05),(.i u08),(.i u07),(.i u0a),(.i u09),(.i u0c),(.i u0b),(.i 0),(.i 0),(.i 0),(.i 0),(.i u03),(.bool u02),(.i u00)]),[])) (some ((.agg [(.i u04),(.i u01),(.i u06),(.i u05),(.i u08),(.i u07),(.i u0a),(.i u09),(.i u0c),(.i u0b),(.i 0),(.i 0),(.i 0),(.i 0),(.i 0),(.bool false),(.i u00)]),[])))) (cond (decide (ic (min (Int.toNat dim) (Int.toNat dim))=ic 5)) (cond (u04==1) (some ((.agg [(.i u04),(.i u01),(.i u06),(.i u05),(.i u08),(.i u07),(.i u0a),(.i u09),(.i u0c),(.i u0b),(.i u0e),(.i u0d),(.i q_Lo),(.i q_Hi),(.i 0),(.bool false),(.i u00)]),[])) (cond (u04==3) (some ((.agg [(.i u04),(.i u01),(.i u06),(.i u05),(.i u08),(.i u07),(.i u0a),(.i u09),(.i u0c),(.i u0b),(.i u0e),(.i u0d),(.i 0),(.i 0),(.i u03),(.bool u02),(.i u00)]),[])) (some ((.agg [(.i u04),(.i u01),(.i u06),(.i u05),(.i u08),(.i u07),(.i u0a),(.i u09),(.i u0c),(.i u0b),(.i u0e),(.i u0d),(.i 0),(.i 0),(.i 0),(.bool false),(.i u00)]),[])))) none)))))) none) none):=by kernel_rfl
def y6c (N:Nat):Env:=mkE [] [] 9 N
theorem y4c (N:Nat) (n:Int):z11 (y6c N) zsm [.tmp 2] [[.bool]] [(.i n)]=(cond (decide (n≥0)) (some ((.bool (decide (n≤1073741824))),[])) (some ((.bool false),[]))):=by kernel_rfl
def y72 (N:Nat):Env:=mkE [(90,z6y)] [] 11 N
theorem y0w (N:Nat) (s:ByteArray):z11 (y72 N) zsd [.tmp 2] [[.int .i64]] [(.str s)]=(some ((.i (z6t s)),[])):=by kernel_rfl
def yax (N:Nat):Env:=mkE [(91,zas)] [] 11 N
theorem y4z (N:Nat) (s:ByteArray):z11 (yax N) zwa [.tmp 2] [[.int .i64]] [(.str s)]=(cond (decide (ByteArray.size s < 4294967281)) (some ((.i (ziq s)),[])) none):=by kernel_rfl
def z0r (N:Nat):Env:=mkE [] [(2,⟨[0,1,4,7,8],[],[]⟩)] 19 N
abbrev z17 (l0:List IV) (s1:ByteArray) (x4 x7 x8:Int):St:=⟨[(0,(.list false [.str] l0)),(1,(.str s1)),(4,(.i x4)),(7,(.i x7)),(8,(.i x8))],[]⟩
theorem zcf (N:Nat) (s:List IV) (v:ByteArray):z11 (z0r N) z15 [.tmp 4] [[.int .i64]] [(.list false [.str] s),(.str v)]=(lpE (z0r N) (z0j z15 [1,0,1,0,0]) ⟨[0,1,4,7,8],[],[]⟩ N (z17 s v 0 (ic (List.length s)) 0) (z06 0 (kSq (z0r N) (z0j z15 [1,1]) (z30 (z0r N) none [(ResultVar.tmp 4)] [[(.int .i64)]])))):=by kernel_rfl
theorem z6a (N:Nat) (l0:List IV) (s1:ByteArray) (x4 x7 x8:Int) (again:St→Res) (k:Out→St→Res):rnd (z0r N) (z0j z15 [1,0,1,0,0]) (z17 l0 s1 x4 x7 x8) (z3t again ⟨[0,1,4,7,8],[],[]⟩ k)=(cond (decide (x8 < x7)) (cond (decide (0≤x8)&&decide (x8 < ic (List.length l0))) (cond (ByteArray.toList s1==ByteArray.toList (IV.toStr (List.getD l0 (Int.toNat x8) default))) (k .ret (z17 l0 s1 x8 x7 x8)) (again (z17 l0 s1 x4 x7 (IntKind.wrap IntKind.i64 (x8+1))))) none) (k (.exit 0) (z17 l0 s1 x4 x7 x8))):=by kernel_rfl
theorem za9 (N:Nat) (l0:List IV) (s1:ByteArray) (x4 x7 x8:Int):(z06 0 (kSq (z0r N) (z0j z15 [1,1]) (z30 (z0r N) none [(ResultVar.tmp 4)] [[(.int .i64)]]))) (.exit 0) (z17 l0 s1 x4 x7 x8)=(some ((.i (-1)),[])):=by kernel_rfl
theorem zaa (N:Nat) (l0:List IV) (s1:ByteArray) (x4 x7 x8:Int):(z06 0 (kSq (z0r N) (z0j z15 [1,1]) (z30 (z0r N) none [(ResultVar.tmp 4)] [[(.int .i64)]]))) .ret (z17 l0 s1 x4 x7 x8)=(some ((.i x4),[])):=by kernel_rfl
def zo8 (N:Nat):Env:=mkE [(121,z8z),(120,zap),(161,z3d)] [] 46 N
theorem y6x (N:Nat) (l:List IV):z11 (zo8 N) zvl [.cell 2 38] [[.int .i64,.int .i64,.int .i64,.int .i64,.int .i64,.int .i64,.int .i64,.int .i64,.int .i64,.int .i64,.int .i64,.int .i64,.int .i64,.int .i64,.int .i64,.bool,.int .i64]] [(.list false [.str] l)]=(cond (decide (List.length l≤4294967296)) (cond (decide ((List.length l+List.length (List.replicate (Int.toNat 6) (IV.str {data:=#[]})))*TI.bytes (Env.tyd (zo8 N) 9)≤z0c)) (cond (decide (0≤1)&&decide (1 < ic (List.length l+List.length (List.replicate (Int.toNat 6) (IV.str {data:=#[]})) - 0))) (cond (decide (0≤0)&&decide (0 < ic (List.length l+List.length (List.replicate (Int.toNat 6) (IV.str {data:=#[]})) - 0))) (cond (ByteArray.toList (IV.toStr (List.getD (List.take (List.length l) l++List.replicate (Int.toNat 6) (IV.str {data:=#[]})) 0 default))==ByteArray.toList {data:=#[114,97,110,103,101]}) (cond (decide (0≤3)&&decide (3 < ic (List.length l+List.length (List.replicate (Int.toNat 6) (IV.str {data:=#[]})) - 0))) (cond (decide (ByteArray.size (IV.toStr (List.getD (List.take (List.length l) l++List.replicate (Int.toNat 6) (IV.str {data:=#[]})) 3 default)) < 4294967281)) (cond (decide (0≤5)&&decide (5 < ic (List.length l+List.length (List.replicate (Int.toNat 6) (IV.str {data:=#[]})) - 0))) (cond (decide (ByteArray.size (IV.toStr (List.getD (List.take (List.length l) l++List.replicate (Int.toNat 6) (IV.str {data:=#[]})) 5 default)) < 4294967281)) (some ((.agg [(.i 1),(.i (z6t (IV.toStr (List.getD (List.take (List.length l) l++List.replicate (Int.toNat 6) (IV.str {data:=#[]})) 1 default)))),(.i 0),(.i 0),(.i 0),(.i 0),(.i 0),(.i 0),(.i 0),(.i 0),(.i 0),(.i 0),(.i (ziq (IV.toStr (List.getD (List.take (List.length l) l++List.replicate (Int.toNat 6) (IV.str {data:=#[]})) 3 default)))),(.i (ziq (IV.toStr (List.getD (List.take (List.length l) l++List.replicate (Int.toNat 6) (IV.str {data:=#[]})) 5 default)))),(.i 0),(.bool false),(.i 0)]),[])) none) none) none) none) (cond (ByteArray.toList (IV.toStr (List.getD (List.take (List.length l) l++List.replicate (Int.toNat 6) (IV.str {data:=#[]})) 0 default))==ByteArray.toList {data:=#[98,101,115,116]}) (some ((.agg [(.i 2),(.i (z6t (IV.toStr (List.getD (List.take (List.length l) l++List.replicate (Int.toNat 6) (IV.str {data:=#[]})) 1 default)))),(.i 0),(.i 0),(.i 0),(.i 0),(.i 0),(.i 0),(.i 0),(.i 0),(.i 0),(.i 0),(.i 0),(.i 0),(.i 0),(.bool false),(.i 0)]),[])) (cond (ByteArray.toList (IV.toStr (List.getD (List.take (List.length l) l++List.replicate (Int.toNat 6) (IV.str {data:=#[]})) 0 default))==ByteArray.toList {data:=#[114,105,115,101,115]}) (cond (decide (0≤3)&&decide (3 < ic (List.length l+List.length (List.replicate (Int.toNat 6) (IV.str {data:=#[]})) - 0))) (cond (decide (0≤0)&&decide (0 < ic (List.length l+List.length (List.replicate (Int.toNat 6) (IV.str {data:=#[]})) - 0))) (some ((.agg [(.i 3),(.i (z6t (IV.toStr (List.getD (List.take (List.length l) l++List.replicate (Int.toNat 6) (IV.str {data:=#[]})) 1 default)))),(.i 0),(.i 0),(.i 0),(.i 0),(.i 0),(.i 0),(.i 0),(.i 0),(.i 0),(.i 0),(.i 0),(.i 0),(.i (z6t (IV.toStr (List.getD (List.take (List.length l) l++List.replicate (Int.toNat 6) (IV.str {data:=#[]})) 3 default)))),(.bool (ByteArray.toList (IV.toStr (List.getD (List.take (List.length l) l++List.replicate (Int.toNat 6) (IV.str {data:=#[]})) 0 default))==ByteArray.toList {data:=#[102,97,108,108,115]})),(.i 0)]),[])) none) none) (cond (ByteArray.toList (IV.toStr (List.getD (List.take (List.length l) l++List.replicate (Int.toNat 6) (IV.str {data:=#[]})) 0 default))==ByteArray.toList {data:=#[102,97,108,108,115]}) (cond (decide (0≤3)&&decide (3 < ic (List.length l+List.length (List.replicate (Int.toNat 6) (IV.str {data:=#[]})) - 0))) (cond (decide (0≤0)&&decide (0 < ic (List.length l+List.length (List.replicate (Int.toNat 6) (IV.str {data:=#[]})) - 0))) (some ((.agg [(.i 3),(.i (z6t (IV.toStr (List.getD (List.take (List.length l) l++List.replicate (Int.toNat 6) (IV.str {data:=#[]})) 1 default)))),(.i 0),(.i 0),(.i 0),(.i 0),(.i 0),(.i 0),(.i 0),(.i 0),(.i 0),(.i 0),(.i 0),(.i 0),(.i (z6t (IV.toStr (List.getD (List.take (List.length l) l++List.replicate (Int.toNat 6) (IV.str {data:=#[]})) 3 default)))),(.bool (ByteArray.toList (IV.toStr (List.getD (List.take (List.length l) l++List.replicate (Int.toNat 6) (IV.str {data:=#[]})) 0 default))==ByteArray.toList {data:=#[102,97,108,108,115]})),(.i 0)]),[])) none) none) (some ((.agg [(.i 0),(.i (z6t (IV.toStr (List.getD (List.take (List.length l) l++List.replicate (Int.toNat 6) (IV.str {data:=#[]})) 1 default)))),(.i 0),(.i 0),(.i 0),(.i 0),(.i 0),(.i 0),(.i 0),(.i 0),(.i 0),(.i 0),(.i 0),(.i 0),(.i 0),(.bool false),(.i 0)]),[])))))) none) none) none) none):=by kernel_rfl
open Go Go.Proofs
theorem zye:z2y PR B0 42 zcj:=by
 refine z0i [] [] zcj [[.bool]] Tryz.func42 y5o trivial ?_;intro vs r hwf h;unfold zcj at h
 split at h
 ·rename_i n
  refine ⟨0,?_⟩;rw [← h];refine (y4c 0 n).trans ?_;simp only [R.get_ok];unfold zha
  have:decide (n≥0)=decide (0≤n):=rfl
  rw [this];cases decide (0≤n) <;> rfl
 ·simp [R.get] at h
theorem zlz:z2y PR B0 121 z8z:=by
 refine z0i [(90,z6y)] [] z8z [[.int .i64]] Tryz.func121 y5h ⟨zg9,trivial⟩ ?_;intro vs r hwf h;unfold z8z at h
 split at h
 ·rename_i s
  refine ⟨0,?_⟩;rw [← h];exact y0w 0 s
 ·simp [R.get] at h
theorem zpd:z2y PR B0 120 zap:=by
 refine z0i [(91,zas)] [] zap [[.int .i64]] Tryz.func120 yav ⟨zow,trivial⟩ ?_;intro vs r hwf h;unfold zap at h
 split at h
 ·rename_i s
  refine ⟨0,?_⟩;rw [← h];refine (y4z 0 s).trans ?_;simp only [R.get_br,R.get_ok,R.get_no]
 ·simp [R.get] at h
theorem y4b:z2y PR B0 41 ze6:=by
 refine z0i [] [] ze6 [[.int .i64,.int .i64,.int .i64,.int .i64,.int .i64,.int .i64,.int .i64,.int .i64,.int .i64,.int .i64,.int .i64,.int .i64,.int .i64,.int .i64,.int .i64,.bool,.int .i64]] Tryz.func41 y9i trivial ?_;intro vs r hwf h;unfold ze6 at h
 split at h
 ·rename_i k c a0 b0 a1 b1 a2 b2 a3 b3 a4 b4 lo hi ft fl bu d
  refine ⟨0,?_⟩;cases hc:(decide (0≤d)&&decide (d≤5)) with
  | false=>rw [hc] at h; simp [R.get] at h
  | true=>
   rw [hc,R.get_br,z00,R.get_ok] at h;rw [← h];refine (y6n 0 k c a0 b0 a1 b1 a2 b2 a3 b3 a4 b4 lo hi ft fl bu d).trans ?_;have e5:(decide (0≤d)&&decide (d≤ic 5))=true:=hc;rw [e5,z00,z00];simp only [v02,v06] at hc;obtain ⟨n,rfl⟩:∃ n:Nat,d=n:=⟨d.toNat,by omega⟩
   simp only [v0l,Nat.min_self];unfold zg0;have hn:n=0∨n=1∨n=2∨n=3∨n=4∨n=5:=by omega
   have h13:(k==1)=true→(k==3)=false:=fun h1=>by
    rw [zkb] at h1 ⊢
    have:=v0f h1
    exact v07 (by omega)
   generalize (k==1)=e1 at h13 ⊢
   generalize (k==3)=e3 at h13 ⊢
   rcases hn with rfl | rfl | rfl | rfl | rfl | rfl <;> cases e1 <;> cases e3 <;> first | rfl | exact absurd (h13 rfl) (by decide)
 ·simp [R.get] at h
theorem zx6 (N:Nat) (l:List IV) (s:ByteArray) (hl:l.length≤strMax) (K:Out→St→Res)
  (hx:∀ l0 s1 x4 x7 x8,K (.exit 0) ⟨[(0,(.list false [.str] l0)),(1,(.str s1)),(4,(.int .i64 x4)),(7,(.int .i64 x7)),(8,(.int .i64 x8))],[]⟩=some (.int .i64 (-1),[]))
  (hr:∀ l0 s1 x4 x7 x8,K .ret ⟨[(0,(.list false [.str] l0)),(1,(.str s1)),(4,(.int .i64 x4)),(7,(.int .i64 x7)),(8,(.int .i64 x8))],[]⟩=some (.int .i64 x4,[])) :
  ∀ (d i n:Nat) (x4:Int),i+d=l.length→d < n →
   lpE (z0r N) (z0j z15 [1,0,1,0,0]) ⟨[0,1,4,7,8],[],[]⟩ n ⟨[(0,(.list false [.str] l)),(1,(.str s)),(4,(.int .i64 x4)),(7,(.int .i64 (ic l.length))),(8,(.int .i64 (i:Int)))],[]⟩ K=some (.int .i64 (zfd (l.drop i) s (i:Int)),[])
 | 0,i,n+1,x4,hd,hn=>by
  rw [z05,z6a,zbh (by omega),z02,hx,v1e (by omega)]
  rfl
 | d+1,i,n+1,x4,hd,hn=>by
  have hi:i < l.length:=by omega
  unfold strMax at hl;have ih:=zx6 N l s (by unfold strMax; omega) K hx hr d (i+1) n x4 (by omega) (by omega)
  rw [z05,z6a,z9k hi,zep,v1c,z00,z00,zah hi,z82 (by omega),v0i hi]
  unfold zfd;cases (ByteArray.toList s==ByteArray.toList (IV.toStr l[i])) with
  | true=>rw [z00,z00,hr]
  | false=>
   rw [z02,z02,ih]
   rfl
 | _,_,0,_,_,h=>by omega
theorem zc0:z2y PR B0 118 z2d:=by
 refine z0i [] [(2,⟨[0,1,4,7,8],[],[]⟩)] z2d [[.int .i64]] Tryz.func118 zd8 trivial ?_;intro vs r hwf h;unfold z2d at h
 split at h
 ·rename_i l s
  refine ⟨l.length+1,?_⟩;rw [← h];refine (zcf (l.length+1) l s).trans ?_;simp only [R.get_ok];have hl:=(hwf (by simp [zc8])).1
  simp only [wfV,wfL] at hl
  have:=zx6 (l.length+1) l s hl.1 _ (fun l0 s1 x4 x7 x8=>za9 (l.length+1) l0 s1 x4 x7 x8) (fun l0 s1 x4 x7 x8=>zaa (l.length+1) l0 s1 x4 x7 x8) l.length 0 (l.length+1) 0 (by omega) (by omega)
  rw [v11] at this;exact this
 ·simp [R.get] at h
theorem yhw (l:List IV) (i m:Nat) (x:IV) (hx:x.toStr=ByteArray.empty):IV.toStr (List.getD (l++List.replicate m x) i default)=wAt l i:=by
 unfold wAt
 by_cases h:i < l.length
 ·simp [List.getD,v1r,h]
 ·have e0:(List.getD l i default).toStr=ByteArray.empty:=by simp [List.getD,h]; rfl
  rw [e0]
  by_cases h6:i - l.length < m
  ·have e:List.getD (l++List.replicate m x) i default=x:=by simp [List.getD,v1r,h,h6]
   rw [e,hx]
  ·have e:List.getD (l++List.replicate m x) i default=default:=by simp [List.getD,v1r,h,h6]
   rw [e]
   rfl
theorem yie (l:List IV) (i:Nat):IV.toStr (List.getD (List.take (List.length l) l++List.replicate (Int.toNat 6) (IV.str { data:=#[] })) i default)=wAt l i:=by
 rw [v0w];exact yhw l i _ _ rfl
theorem y3f:z2y PR B0 119 ze7:=by
 refine z0i [(121,z8z),(120,zap),(161,z3d)] [] ze7 [[.int .i64,.int .i64,.int .i64,.int .i64,.int .i64,.int .i64,.int .i64,.int .i64,.int .i64,.int .i64,.int .i64,.int .i64,.int .i64,.int .i64,.int .i64,.bool,.int .i64]] Tryz.func119 y99
  ⟨zlz,zpd,zbw,trivial⟩ ?_
 intro vs r hwf h;unfold ze7 at h
 split at h
 ·rename_i l
  refine ⟨0,?_⟩;cases hc:(decide (l.length≤4294967290)&&l.all (fun x=>decide (x.toStr.size < 4294967281))) with
  | false=>rw [hc] at h; simp [R.get] at h
  | true=>
   rw [hc,R.get_br,z00,R.get_ok] at h;rw [← h];refine (y6x 0 l).trans ?_;simp only [v02,v06,v3a] at hc;obtain ⟨hl,hz⟩:=hc;have hw:∀ i,(wAt l i).size < 4294967281:=fun i=>by
    unfold wAt
    by_cases hi:i < l.length
    ·have:List.getD l i default=l[i]:=by simp [hi]
     rw [this];exact hz _ (v2j hi)
    ·have:List.getD l i default=default:=by simp [List.getD,hi]
     rw [this]
     decide
   have hb:TI.bytes (Env.tyd (zo8 0) 9)=16:=by rfl
   have hr6:(List.replicate (Int.toNat 6) (IV.str { data:=#[] })).length=6:=rfl;simp only [yie];rw [hb,hr6];have ge:∀ k:Nat,k < 6→decide ((k:Int) < ic (List.length l+6 - 0))=true:=fun k hk=>v01 (by simp only [ic]; omega)
   have g0:=ge 0 (by omega)
   have g1:=ge 1 (by omega)
   have g3:=ge 3 (by omega)
   have g5:=ge 5 (by omega)
   rw [v01 (show List.length l≤4294967296 by omega),z00,v01 (show (List.length l+6)*16≤z0c by unfold z0c; omega),z00]
   have n0:decide ((0:Nat)≤0)=true:=rfl;have d1:(decide (0≤1)&&decide (1 < ic (List.length l+6 - 0)))=true:=by simpa using g1
   have d0:(decide (0≤0)&&decide (0 < ic (List.length l+6 - 0)))=true:=by simpa using g0
   have d3:(decide (0≤3)&&decide (3 < ic (List.length l+6 - 0)))=true:=by simpa using g3
   have d5:(decide (0≤5)&&decide (5 < ic (List.length l+6 - 0)))=true:=by simpa using g5
   rw [d1,d0,d3,d5,v01 (hw 3),v01 (hw 5)];simp only [z00];unfold z2z;cases ((wAt l 0).toList==znu.toList) with
   | true=>rfl
   | false=>
    cases ((wAt l 0).toList==zvs.toList) with
    | true=>rfl
    | false=>
     cases ((wAt l 0).toList==zmt.toList) <;> cases ((wAt l 0).toList==zkc.toList) <;> rfl
 ·simp [R.get] at h
open Go Go.Proofs
def z0v (N:Nat):Env:=mkE [(42,zcj),(41,ze6),(44,z6m),(43,z32),(45,z6z)] [(18,⟨[2,4,6,75,76,77],[2,500],[⟨.tmp 6,500,9,false,[.str]⟩]⟩)] 100 N
abbrev z2t (s4:ByteArray) (n6 n75:Nat) (x76 x77 u02 u03 u0a u0b u0c u0d u0e u0f u0g u0h u04 u05 u06 u07 u08:Int) (u00:Bool) (u09:Int) (u01:List IV):St:=⟨[(2,(.ptr 2 0 0)),(4,(.str s4)),(6,(.row 500 0 n6)),(75,(.bview 2 2 5 2 n75)),(76,(.i x76)),(77,(.i x77))],[(2,(some (.box [(.i u02),(.i u03),(.i u0a),(.i u0b),(.i u0c),(.i u0d),(.i u0e),(.i u0f),(.i u0g),(.i u0h),(.i u04),(.i u05),(.i u06),(.i u07),(.i u08),(.bool u00),(.i u09)]))),(500,(some (.row true 9 false [.str] u01)))]⟩
theorem y3s (N:Nat) (u04 u01 u06 u05 u08 u07 u0a u09 u0c u0b u0e u0d q_Lo q_Hi u03:Int) (u02:Bool) (u00 a1:Int):z11 (z0v N) z2k [.tmp 4] [[.str]] [(.agg [(.i u04),(.i u01),(.i u06),(.i u05),(.i u08),(.i u07),(.i u0a),(.i u09),(.i u0c),(.i u0b),(.i u0e),(.i u0d),(.i q_Lo),(.i q_Hi),(.i u03),(.bool u02),(.i u00)]),(.i a1)]=(cond (decide (a1 < 1)) (some ((.str ({data:=#[]})),[])) (cond (decide (a1 > 4)) (some ((.str ({data:=#[]})),[])) (cond (decide (0≤a1)&&decide (a1≤5)) (cond (! (u04==Qy.k (zg0 {k:=u04,c:=u01,a0:=u06,b0:=u05,a1:=u08,b1:=u07,a2:=u0a,b2:=u09,a3:=u0c,b3:=u0b,a4:=u0e,b4:=u0d,lo:=q_Lo,hi:=q_Hi,ft:=u03,fl:=u02,bu:=u00} a1)&&(u01==Qy.c (zg0 {k:=u04,c:=u01,a0:=u06,b0:=u05,a1:=u08,b1:=u07,a2:=u0a,b2:=u09,a3:=u0c,b3:=u0b,a4:=u0e,b4:=u0d,lo:=q_Lo,hi:=q_Hi,ft:=u03,fl:=u02,bu:=u00} a1)&&(u06==Qy.a0 (zg0 {k:=u04,c:=u01,a0:=u06,b0:=u05,a1:=u08,b1:=u07,a2:=u0a,b2:=u09,a3:=u0c,b3:=u0b,a4:=u0e,b4:=u0d,lo:=q_Lo,hi:=q_Hi,ft:=u03,fl:=u02,bu:=u00} a1)&&(u05==Qy.b0 (zg0 {k:=u04,c:=u01,a0:=u06,b0:=u05,a1:=u08,b1:=u07,a2:=u0a,b2:=u09,a3:=u0c,b3:=u0b,a4:=u0e,b4:=u0d,lo:=q_Lo,hi:=q_Hi,ft:=u03,fl:=u02,bu:=u00} a1)&&(u08==Qy.a1 (zg0 {k:=u04,c:=u01,a0:=u06,b0:=u05,a1:=u08,b1:=u07,a2:=u0a,b2:=u09,a3:=u0c,b3:=u0b,a4:=u0e,b4:=u0d,lo:=q_Lo,hi:=q_Hi,ft:=u03,fl:=u02,bu:=u00} a1)&&(u07==Qy.b1 (zg0 {k:=u04,c:=u01,a0:=u06,b0:=u05,a1:=u08,b1:=u07,a2:=u0a,b2:=u09,a3:=u0c,b3:=u0b,a4:=u0e,b4:=u0d,lo:=q_Lo,hi:=q_Hi,ft:=u03,fl:=u02,bu:=u00} a1)&&(u0a==Qy.a2 (zg0 {k:=u04,c:=u01,a0:=u06,b0:=u05,a1:=u08,b1:=u07,a2:=u0a,b2:=u09,a3:=u0c,b3:=u0b,a4:=u0e,b4:=u0d,lo:=q_Lo,hi:=q_Hi,ft:=u03,fl:=u02,bu:=u00} a1)&&(u09==Qy.b2 (zg0 {k:=u04,c:=u01,a0:=u06,b0:=u05,a1:=u08,b1:=u07,a2:=u0a,b2:=u09,a3:=u0c,b3:=u0b,a4:=u0e,b4:=u0d,lo:=q_Lo,hi:=q_Hi,ft:=u03,fl:=u02,bu:=u00} a1)&&(u0c==Qy.a3 (zg0 {k:=u04,c:=u01,a0:=u06,b0:=u05,a1:=u08,b1:=u07,a2:=u0a,b2:=u09,a3:=u0c,b3:=u0b,a4:=u0e,b4:=u0d,lo:=q_Lo,hi:=q_Hi,ft:=u03,fl:=u02,bu:=u00} a1)&&(u0b==Qy.b3 (zg0 {k:=u04,c:=u01,a0:=u06,b0:=u05,a1:=u08,b1:=u07,a2:=u0a,b2:=u09,a3:=u0c,b3:=u0b,a4:=u0e,b4:=u0d,lo:=q_Lo,hi:=q_Hi,ft:=u03,fl:=u02,bu:=u00} a1)&&(u0e==Qy.a4 (zg0 {k:=u04,c:=u01,a0:=u06,b0:=u05,a1:=u08,b1:=u07,a2:=u0a,b2:=u09,a3:=u0c,b3:=u0b,a4:=u0e,b4:=u0d,lo:=q_Lo,hi:=q_Hi,ft:=u03,fl:=u02,bu:=u00} a1)&&(u0d==Qy.b4 (zg0 {k:=u04,c:=u01,a0:=u06,b0:=u05,a1:=u08,b1:=u07,a2:=u0a,b2:=u09,a3:=u0c,b3:=u0b,a4:=u0e,b4:=u0d,lo:=q_Lo,hi:=q_Hi,ft:=u03,fl:=u02,bu:=u00} a1)&&(q_Lo==Qy.lo (zg0 {k:=u04,c:=u01,a0:=u06,b0:=u05,a1:=u08,b1:=u07,a2:=u0a,b2:=u09,a3:=u0c,b3:=u0b,a4:=u0e,b4:=u0d,lo:=q_Lo,hi:=q_Hi,ft:=u03,fl:=u02,bu:=u00} a1)&&(q_Hi==Qy.hi (zg0 {k:=u04,c:=u01,a0:=u06,b0:=u05,a1:=u08,b1:=u07,a2:=u0a,b2:=u09,a3:=u0c,b3:=u0b,a4:=u0e,b4:=u0d,lo:=q_Lo,hi:=q_Hi,ft:=u03,fl:=u02,bu:=u00} a1)&&(u03==Qy.ft (zg0 {k:=u04,c:=u01,a0:=u06,b0:=u05,a1:=u08,b1:=u07,a2:=u0a,b2:=u09,a3:=u0c,b3:=u0b,a4:=u0e,b4:=u0d,lo:=q_Lo,hi:=q_Hi,ft:=u03,fl:=u02,bu:=u00} a1)&&(u02==Qy.fl (zg0 {k:=u04,c:=u01,a0:=u06,b0:=u05,a1:=u08,b1:=u07,a2:=u0a,b2:=u09,a3:=u0c,b3:=u0b,a4:=u0e,b4:=u0d,lo:=q_Lo,hi:=q_Hi,ft:=u03,fl:=u02,bu:=u00} a1)&&(u00==Qy.bu (zg0 {k:=u04,c:=u01,a0:=u06,b0:=u05,a1:=u08,b1:=u07,a2:=u0a,b2:=u09,a3:=u0c,b3:=u0b,a4:=u0e,b4:=u0d,lo:=q_Lo,hi:=q_Hi,ft:=u03,fl:=u02,bu:=u00} a1)&&true)))))))))))))))))) (some ((.str ({data:=#[]})),[])) (cond (!zha u01) (some ((.str ({data:=#[]})),[])) (cond (!zha u03) (some ((.str ({data:=#[]})),[])) (cond (!zha u00) (some ((.str ({data:=#[]})),[])) (cond (u04==1) (cond (decide (0≤a1)&&decide (a1≤ic 5)) (lpE (z0v N) (z0j z2k [1,1,1,1,1,1,0,1,0,0]) ⟨[2,4,6,75,76,77],[2,500],[⟨(.tmp 6),500,9,false,[.str]⟩]⟩ N (z2t ({data:=#[]}) 7 (Int.toNat a1) (ic (Int.toNat a1)) 0 u04 u01 u06 u05 u08 u07 u0a u09 u0c u0b u0e u0d q_Lo q_Hi u03 u02 u00 [(IV.str {data:=#[114,97,110,103,101]}),(IV.str (z0p u01)),(IV.str {data:=#[102,114,111,109]}),(IV.str (z0e q_Lo)),(IV.str {data:=#[116,111]}),(IV.str (z0e q_Hi)),(IV.str {data:=#[105,110]})]) (z06 1 (kSq (z0v N) (z0j z2k [1,1,1,1,1,1,1]) (z30 (z0v N) none [(ResultVar.tmp 4)] [[.str]])))) none) (cond (u04==2) (cond (decide (0≤a1)&&decide (a1≤ic 5)) (lpE (z0v N) (z0j z2k [1,1,1,1,1,1,0,1,0,0]) ⟨[2,4,6,75,76,77],[2,500],[⟨(.tmp 6),500,9,false,[.str]⟩]⟩ N (z2t ({data:=#[]}) 3 (Int.toNat a1) (ic (Int.toNat a1)) 0 u04 u01 u06 u05 u08 u07 u0a u09 u0c u0b u0e u0d q_Lo q_Hi u03 u02 u00 [(IV.str {data:=#[98,101,115,116]}),(IV.str (z0p u01)),(IV.str {data:=#[105,110]})]) (z06 1 (kSq (z0v N) (z0j z2k [1,1,1,1,1,1,1]) (z30 (z0v N) none [(ResultVar.tmp 4)] [[.str]])))) none) (cond (u04==3) (cond u02 (cond (decide (0≤a1)&&decide (a1≤ic 5)) (lpE (z0v N) (z0j z2k [1,1,1,1,1,1,0,1,0,0]) ⟨[2,4,6,75,76,77],[2,500],[⟨(.tmp 6),500,9,false,[.str]⟩]⟩ N (z2t ({data:=#[]}) 5 (Int.toNat a1) (ic (Int.toNat a1)) 0 u04 u01 u06 u05 u08 u07 u0a u09 u0c u0b u0e u0d q_Lo q_Hi u03 u02 u00 [(IV.str {data:=#[102,97,108,108,115]}),(IV.str (z0p u01)),(IV.str {data:=#[98,121]}),(IV.str (z0p u03)),(IV.str {data:=#[105,110]})]) (z06 1 (kSq (z0v N) (z0j z2k [1,1,1,1,1,1,1]) (z30 (z0v N) none [(ResultVar.tmp 4)] [[.str]])))) none) (cond (decide (0≤a1)&&decide (a1≤ic 5)) (lpE (z0v N) (z0j z2k [1,1,1,1,1,1,0,1,0,0]) ⟨[2,4,6,75,76,77],[2,500],[⟨(.tmp 6),500,9,false,[.str]⟩]⟩ N (z2t ({data:=#[]}) 5 (Int.toNat a1) (ic (Int.toNat a1)) 0 u04 u01 u06 u05 u08 u07 u0a u09 u0c u0b u0e u0d q_Lo q_Hi u03 u02 u00 [(IV.str {data:=#[114,105,115,101,115]}),(IV.str (z0p u01)),(IV.str {data:=#[98,121]}),(IV.str (z0p u03)),(IV.str {data:=#[105,110]})]) (z06 1 (kSq (z0v N) (z0j z2k [1,1,1,1,1,1,1]) (z30 (z0v N) none [(ResultVar.tmp 4)] [[.str]])))) none)) (some ((.str ({data:=#[]})),[]))))))))) none))):=by kernel_rfl
theorem zj4 (N:Nat) (s4:ByteArray) (n6 n75:Nat) (x76 x77 u02 u03 u0a u0b u0c u0d u0e u0f u0g u0h u04 u05 u06 u07 u08:Int) (u00:Bool) (u09:Int) (u01:List IV) (again:St→Res) (k:Out→St→Res):rnd (z0v N) (z0j z2k [1,1,1,1,1,1,0,1,0,0]) (z2t s4 n6 n75 x76 x77 u02 u03 u0a u0b u0c u0d u0e u0f u0g u0h u04 u05 u06 u07 u08 u00 u09 u01) (z3t again ⟨[2,4,6,75,76,77],[2,500],[⟨(.tmp 6),500,9,false,[.str]⟩]⟩ k)=(cond (decide (x77 < x76)) (cond (decide (x77 < ic n75)) (cond (decide (x77=ic 0)) (cond (decide (ByteArray.size (z0e u0a)+ByteArray.size {data:=#[46,46]}≤strMax)) (cond (decide (ByteArray.size (z0e u0a++{data:=#[46,46]})+ByteArray.size (z0e u0b)≤strMax)) (cond (decide ((n6+List.length (List.drop 0 (List.take 1 [IV.str (z0e u0a++{data:=#[46,46]}++z0e u0b)])))*TI.bytes (Env.tyd (z0v N) 9)≤z0c)) (again (z2t s4 (n6+List.length (List.drop 0 (List.take 1 [IV.str (z0e u0a++{data:=#[46,46]}++z0e u0b)]))) n75 x76 (IntKind.wrap IntKind.i64 (x77+1)) u02 u03 u0a u0b u0c u0d u0e u0f u0g u0h u04 u05 u06 u07 u08 u00 u09 (List.take n6 u01++List.drop 0 (List.take 1 [IV.str (z0e u0a++{data:=#[46,46]}++z0e u0b)])))) none) none) none) (cond (decide (x77=ic 1)) (cond (decide (ByteArray.size (z0e u0c)+ByteArray.size {data:=#[46,46]}≤strMax)) (cond (decide (ByteArray.size (z0e u0c++{data:=#[46,46]})+ByteArray.size (z0e u0d)≤strMax)) (cond (decide ((n6+List.length (List.drop 0 (List.take 1 [IV.str (z0e u0c++{data:=#[46,46]}++z0e u0d)])))*TI.bytes (Env.tyd (z0v N) 9)≤z0c)) (again (z2t s4 (n6+List.length (List.drop 0 (List.take 1 [IV.str (z0e u0c++{data:=#[46,46]}++z0e u0d)]))) n75 x76 (IntKind.wrap IntKind.i64 (x77+1)) u02 u03 u0a u0b u0c u0d u0e u0f u0g u0h u04 u05 u06 u07 u08 u00 u09 (List.take n6 u01++List.drop 0 (List.take 1 [IV.str (z0e u0c++{data:=#[46,46]}++z0e u0d)])))) none) none) none) (cond (decide (x77=ic 2)) (cond (decide (ByteArray.size (z0e u0e)+ByteArray.size {data:=#[46,46]}≤strMax)) (cond (decide (ByteArray.size (z0e u0e++{data:=#[46,46]})+ByteArray.size (z0e u0f)≤strMax)) (cond (decide ((n6+List.length (List.drop 0 (List.take 1 [IV.str (z0e u0e++{data:=#[46,46]}++z0e u0f)])))*TI.bytes (Env.tyd (z0v N) 9)≤z0c)) (again (z2t s4 (n6+List.length (List.drop 0 (List.take 1 [IV.str (z0e u0e++{data:=#[46,46]}++z0e u0f)]))) n75 x76 (IntKind.wrap IntKind.i64 (x77+1)) u02 u03 u0a u0b u0c u0d u0e u0f u0g u0h u04 u05 u06 u07 u08 u00 u09 (List.take n6 u01++List.drop 0 (List.take 1 [IV.str (z0e u0e++{data:=#[46,46]}++z0e u0f)])))) none) none) none) (cond (decide (x77=ic 3)) (cond (decide (ByteArray.size (z0e u0g)+ByteArray.size {data:=#[46,46]}≤strMax)) (cond (decide (ByteArray.size (z0e u0g++{data:=#[46,46]})+ByteArray.size (z0e u0h)≤strMax)) (cond (decide ((n6+List.length (List.drop 0 (List.take 1 [IV.str (z0e u0g++{data:=#[46,46]}++z0e u0h)])))*TI.bytes (Env.tyd (z0v N) 9)≤z0c)) (again (z2t s4 (n6+List.length (List.drop 0 (List.take 1 [IV.str (z0e u0g++{data:=#[46,46]}++z0e u0h)]))) n75 x76 (IntKind.wrap IntKind.i64 (x77+1)) u02 u03 u0a u0b u0c u0d u0e u0f u0g u0h u04 u05 u06 u07 u08 u00 u09 (List.take n6 u01++List.drop 0 (List.take 1 [IV.str (z0e u0g++{data:=#[46,46]}++z0e u0h)])))) none) none) none) (cond (decide (x77=ic 4)) (cond (decide (ByteArray.size (z0e u04)+ByteArray.size {data:=#[46,46]}≤strMax)) (cond (decide (ByteArray.size (z0e u04++{data:=#[46,46]})+ByteArray.size (z0e u05)≤strMax)) (cond (decide ((n6+List.length (List.drop 0 (List.take 1 [IV.str (z0e u04++{data:=#[46,46]}++z0e u05)])))*TI.bytes (Env.tyd (z0v N) 9)≤z0c)) (again (z2t s4 (n6+List.length (List.drop 0 (List.take 1 [IV.str (z0e u04++{data:=#[46,46]}++z0e u05)]))) n75 x76 (IntKind.wrap IntKind.i64 (x77+1)) u02 u03 u0a u0b u0c u0d u0e u0f u0g u0h u04 u05 u06 u07 u08 u00 u09 (List.take n6 u01++List.drop 0 (List.take 1 [IV.str (z0e u04++{data:=#[46,46]}++z0e u05)])))) none) none) none) none))))) none) (k (.exit 1) (z2t s4 n6 n75 x76 x77 u02 u03 u0a u0b u0c u0d u0e u0f u0g u0h u04 u05 u06 u07 u08 u00 u09 u01))):=by kernel_rfl
theorem zpp (N:Nat) (s4:ByteArray) (n6 n75:Nat) (x76 x77 u02 u03 u0a u0b u0c u0d u0e u0f u0g u0h u04 u05 u06 u07 u08:Int) (u00:Bool) (u09:Int) (u01:List IV):(z06 1 (kSq (z0v N) (z0j z2k [1,1,1,1,1,1,1]) (z30 (z0v N) none [(ResultVar.tmp 4)] [[.str]]))) (.exit 1) (z2t s4 n6 n75 x76 x77 u02 u03 u0a u0b u0c u0d u0e u0f u0g u0h u04 u05 u06 u07 u08 u00 u09 u01)=(cond (decide ((n6+List.length (List.drop 0 (List.take 2 [IV.str {data:=#[98,117,100,103,101,116]},IV.str (z0p u09)])))*TI.bytes (Env.tyd (z0v N) 9)≤z0c)) (cond (decide (List.length (List.drop 0 (List.take (n6+List.length (List.drop 0 (List.take 2 [IV.str {data:=#[98,117,100,103,101,116]},IV.str (z0p u09)]))) (List.take n6 u01++List.drop 0 (List.take 2 [IV.str {data:=#[98,117,100,103,101,116]},IV.str (z0p u09)]))))≤strMax)&&decide (ByteArray.size (zar (List.map IV.toStr (List.drop 0 (List.take (n6+List.length (List.drop 0 (List.take 2 [IV.str {data:=#[98,117,100,103,101,116]},IV.str (z0p u09)]))) (List.take n6 u01++List.drop 0 (List.take 2 [IV.str {data:=#[98,117,100,103,101,116]},IV.str (z0p u09)]))))) {data:=#[32]})≤strMax)) (some ((.str (zar (List.map IV.toStr (List.drop 0 (List.take (n6+List.length (List.drop 0 (List.take 2 [IV.str {data:=#[98,117,100,103,101,116]},IV.str (z0p u09)]))) (List.take n6 u01++List.drop 0 (List.take 2 [IV.str {data:=#[98,117,100,103,101,116]},IV.str (z0p u09)]))))) {data:=#[32]})),[])) none) none):=by kernel_rfl
open Go
theorem ycs (l:List ByteArray) (h:∀ w∈l,w.size≤100):(zar l z4u).size≤101*l.length:=by
 have hs:(zar l z4u).size=(Lib.join (l.map (·.data.toList)) [32]).length:=by
  show (Array.size (List.toArray _))=_;rw [v1n]
 rw [hs];cases l with
 | nil=>simp [Lib.join_nil]
 | cons x r=>
  rw [v0d,Lib.join_length]
  have:∀ (r:List ByteArray),(∀ w∈r,w.size≤100)→Lib.lens (r.map (·.data.toList))≤100*r.length:=fun r=>by
   induction r with
   | nil=>intro _; simp [Lib.lens]
   | cons y r ih=>
    intro h;have h1:=h y (v0a ..);rw [zdw] at h1;have h2:=ih (fun w hw=>h w (v0b _ hw))
    rw [v0d,v05];simp only [Lib.lens,v0d,v49] at h2 ⊢
    omega
  have:=this (x :: r) h
  rw [v0d] at this;simp only [v05,v12,v0o] at this ⊢
  omega
theorem y9x {a b:Int} (ha:InR a) (hb:InR b):(y9v a b).size≤82:=by
 unfold y9v;have h1:=(zel a ha).2;have h2:=(zel b hb).2;have h3:ByteArray.size y79=2:=rfl;rw [v0g,v0g,h3];omega
theorem y8v {n:Int} (h:InR n):(z0p n).size≤21:=znd h.1 h.2
structure Qy.In (q:Qy):Prop where
 k:InR q.k
 c:InR q.c
 a0:InR q.a0
 b0:InR q.b0
 a1:InR q.a1
 b1:InR q.b1
 a2:InR q.a2
 b2:InR q.b2
 a3:InR q.a3
 b3:InR q.b3
 a4:InR q.a4
 b4:InR q.b4
 lo:InR q.lo
 hi:InR q.hi
 ft:InR q.ft
 bu:InR q.bu
open Go Go.Proofs
abbrev ykq (q:Qy):Ob:=.box [.int .i64 q.k,.int .i64 q.c,.int .i64 q.a0,.int .i64 q.b0,.int .i64 q.a1,.int .i64 q.b1,.int .i64 q.a2,.int .i64 q.b2,.int .i64 q.a3,.int .i64 q.b3,.int .i64 q.a4,.int .i64 q.b4,.int .i64 q.lo,.int .i64 q.hi,.int .i64 q.ft,.bool q.fl,.int .i64 q.bu]
abbrev stP (q:Qy) (s4:ByteArray) (W:List IV) (D:Nat) (i:Int):St:=⟨[(2,(.ptr 2 0 0)),(4,(.str s4)),(6,(.row 500 0 W.length)),(75,(.bview 2 2 5 2 D)),(76,(.int .i64 (ic D))),(77,(.int .i64 i))],[(2,(some (ykq q))),(500,(some (.row true 9 false [.str] W)))]⟩
theorem y21 (N:Nat):TI.bytes (Env.tyd (z0v N) 9)=16:=by rfl
theorem yal (N:Nat) (q:Qy) (hq:q.In) (s4:ByteArray) (W:List IV) (hW:W.length≤20) (hs:∀ w∈W,w.toStr.size≤100) (D:Nat) (i:Int) :
  (z06 1 (kSq (z0v N) (z0j z2k [1,1,1,1,1,1,1]) (z30 (z0v N) none [(ResultVar.tmp 4)] [[.str]]))) (.exit 1) (stP q s4 W D i)=some (.str (zar (W.map IV.toStr++[zfl,z0p q.bu]) z4u),[]):=by
 refine (zpp N s4 W.length D (ic D) i q.k q.c q.a0 q.b0 q.a1 q.b1 q.a2 q.b2 q.a3 q.b3 q.a4 q.b4 q.lo q.hi q.ft q.fl q.bu W).trans ?_;have e2:(List.drop 0 (List.take 2 [IV.str { data:=#[98,117,100,103,101,116] },IV.str (z0p q.bu)]))=[IV.str { data:=#[98,117,100,103,101,116] },IV.str (z0p q.bu)]:=rfl;rw [y21,e2,v0w];have e3:List.drop 0 (List.take (W.length+List.length [IV.str { data:=#[98,117,100,103,101,116] },IV.str (z0p q.bu)]) (W++[IV.str { data:=#[98,117,100,103,101,116] },IV.str (z0p q.bu)]))=W++[IV.str { data:=#[98,117,100,103,101,116] },IV.str (z0p q.bu)]:=by
  rw [v11,v0z (by simp)]
 rw [e3];have e4:List.map IV.toStr (W++[IV.str { data:=#[98,117,100,103,101,116] },IV.str (z0p q.bu)])=W.map IV.toStr++[zfl,z0p q.bu]:=by simp [IV.toStr]
 rw [e4];have hz:=ycs (W.map IV.toStr++[zfl,z0p q.bu]) (fun w hw=>by
  rcases v0k.1 hw with h | h
  ·obtain ⟨x,hx,rfl⟩:=List.mem_map.1 h
   exact hs x hx
  ·simp only [v15,v1t,v3n] at h
   rcases h with rfl | rfl
   ·decide
   ·have:=y8v hq.bu
    omega)
 simp only [v08,v12,v05,v0o] at hz ⊢
 rw [v01 (show (W.length+(0+1+1))*16≤z0c by unfold z0c; omega),z00,v01 (show W.length+(0+1+1)≤strMax by unfold strMax; omega),
  v01 (show ByteArray.size (zar (W.map IV.toStr++[zfl,z0p q.bu]) { data:=#[32] })≤strMax from v1p hz (by unfold strMax; omega)),v1c,z00]
def yki (a b:Int):IV:=.str (y9v a b)
theorem y4u (N:Nat) (q:Qy) (s4:ByteArray) (W:List IV) (hW:W.length≤20) (D i:Nat) (hiD:i < D) (a b:Int) (again:St→Res) (k:Out→St→Res) (ha:InR a) (hb:InR b)
  (hab:(i=0∧a=q.a0∧b=q.b0)∨(i=1∧a=q.a1∧b=q.b1)∨(i=2∧a=q.a2∧b=q.b2)∨(i=3∧a=q.a3∧b=q.b3)) :
  rnd (z0v N) (z0j z2k [1,1,1,1,1,1,0,1,0,0]) (stP q s4 W D (i:Int)) (z3t again ⟨[2,4,6,75,76,77],[2,500],[⟨.tmp 6,500,9,false,[.str]⟩]⟩ k)=again (stP q s4 (W++[yki a b]) D ((i+1:Nat):Int)):=by
 refine (zj4 N s4 W.length D (ic D) i q.k q.c q.a0 q.b0 q.a1 q.b1 q.a2 q.b2 q.a3 q.b3 q.a4 q.b4 q.lo q.hi q.ft q.fl q.bu W again k).trans ?_;have d1:decide ((i:Int) < ic D)=true:=v01 (by simp only [ic]; omega)
 rw [d1,z00,z00];have h3:ByteArray.size { data:=#[46,46] }=2:=rfl;have sz:∀ x y:Int,InR x→InR y→decide (ByteArray.size (z0e x)+ByteArray.size { data:=#[46,46] }≤strMax)=true∧decide (ByteArray.size (z0e x++{ data:=#[46,46] })+ByteArray.size (z0e y)≤strMax)=true:=fun x y hx hy=>by
  have h1:=(zel x hx).2;have h2:=(zel y hy).2;refine ⟨v01 (by rw [h3]; unfold strMax; omega),v01 (by rw [v0g,h3]; unfold strMax; omega)⟩
 have e1:∀ x:IV,(List.drop 0 (List.take 1 [x]))=[x]:=fun _=>rfl
 have g16:∀ x:IV,decide ((W.length+List.length [x])*TI.bytes (Env.tyd (z0v N) 9)≤z0c)=true:=fun x=>v01 (by rw [y21]; simp only [v05,v0o]; unfold z0c; omega)
 have hl:∀ x:IV,W.length+List.length [x]=(W++[x]).length:=fun x=>by simp
 obtain ⟨s1,s2⟩:=sz a b ha hb;simp only [e1,g16,z00,v0w];rcases hab with ⟨rfl,rfl,rfl⟩ | ⟨rfl,rfl,rfl⟩ | ⟨rfl,rfl,rfl⟩ | ⟨rfl,rfl,rfl⟩
 ·rw [s1,s2,show decide (((0:Nat):Int)=ic 0)=true from rfl,z00,z00,z00,hl]
  rfl
 ·rw [s1,s2,show decide (((1:Nat):Int)=ic 0)=false from rfl,show decide (((1:Nat):Int)=ic 1)=true from rfl,z02,z00,z00,z00,hl]
  rfl
 ·rw [s1,s2,show decide (((2:Nat):Int)=ic 0)=false from rfl,show decide (((2:Nat):Int)=ic 1)=false from rfl,show decide (((2:Nat):Int)=ic 2)=true from rfl,z02,z02,z00,z00,z00,hl]
  rfl
 ·rw [s1,s2,show decide (((3:Nat):Int)=ic 0)=false from rfl,show decide (((3:Nat):Int)=ic 1)=false from rfl,show decide (((3:Nat):Int)=ic 2)=false from rfl,show decide (((3:Nat):Int)=ic 3)=true from rfl,z02,z02,z02,z00,z00,z00,hl]
  rfl
theorem y2y (N:Nat) (q:Qy) (hq:q.In) (s4:ByteArray) (D:Nat) (hD:D≤4) :
  ∀ (d i n:Nat) (W:List IV),i+d=D→d < n→W.length+d≤20→(∀ w∈W,w.toStr.size≤100) →
   lpE (z0v N) (z0j z2k [1,1,1,1,1,1,0,1,0,0]) ⟨[2,4,6,75,76,77],[2,500],[⟨.tmp 6,500,9,false,[.str]⟩]⟩ n (stP q s4 W D (i:Int)) (z06 1 (kSq (z0v N) (z0j z2k [1,1,1,1,1,1,1]) (z30 (z0v N) none [(ResultVar.tmp 4)] [[.str]]))) =
    some (.str (zar (W.map IV.toStr++(((q.spans.take D).drop i).map fun s=>y9v s.1 s.2)++[zfl,z0p q.bu]) z4u),[])
 | 0,i,n+1,W,hd,hn,hW,hs=>by
  have hi:i=D:=by omega
  rw [z05];refine (zj4 N s4 W.length D (ic D) i q.k q.c q.a0 q.b0 q.a1 q.b1 q.a2 q.b2 q.a3 q.b3 q.a4 q.b4 q.lo q.hi q.ft q.fl q.bu W _ _).trans ?_;rw [v07 (show ¬ (i:Int) < ic D by simp only [ic]; omega),z02]
  refine (yal N q hq s4 W (by omega) hs D i).trans ?_
  rw [v1e (by rw [v0j]; omega)]
  simp
 | d+1,i,n+1,W,hd,hn,hW,hs=>by
  obtain ⟨a,b,ha,hb,hab,hsp⟩:∃ a b,InR a∧InR b∧((i=0∧a=q.a0∧b=q.b0)∨(i=1∧a=q.a1∧b=q.b1)∨(i=2∧a=q.a2∧b=q.b2)∨(i=3∧a=q.a3∧b=q.b3))∧(q.spans.take D).drop i=(a,b) :: (q.spans.take D).drop (i+1):=by
   have hi:i=0∨i=1∨i=2∨i=3:=by omega
   have hDD:D=0∨D=1∨D=2∨D=3∨D=4:=by omega
   rcases hi with rfl | rfl | rfl | rfl
   ·exact ⟨q.a0,q.b0,hq.a0,hq.b0,.inl ⟨rfl,rfl,rfl⟩,by rcases hDD with rfl | rfl | rfl | rfl | rfl <;> first | rfl | omega⟩
   ·exact ⟨q.a1,q.b1,hq.a1,hq.b1,.inr (.inl ⟨rfl,rfl,rfl⟩),by rcases hDD with rfl | rfl | rfl | rfl | rfl <;> first | rfl | omega⟩
   ·exact ⟨q.a2,q.b2,hq.a2,hq.b2,.inr (.inr (.inl ⟨rfl,rfl,rfl⟩)),by rcases hDD with rfl | rfl | rfl | rfl | rfl <;> first | rfl | omega⟩
   ·exact ⟨q.a3,q.b3,hq.a3,hq.b3,.inr (.inr (.inr ⟨rfl,rfl,rfl⟩)),by rcases hDD with rfl | rfl | rfl | rfl | rfl <;> first | rfl | omega⟩
  rw [z05,y4u N q s4 W (by omega) D i (by omega) a b _ _ ha hb hab,hsp]
  have ih:=y2y N q hq s4 D hD d (i+1) n (W++[yki a b]) (by omega) (by omega) (by simp only [v08,v05,v0o]; omega) (fun w hw=>by
   rcases v0k.1 hw with h | h
   ·exact hs w h
   ·rw [v28] at h
    subst h
    have:=y9x ha hb
    simp only [yki,IV.toStr];omega)
  refine ih.trans ?_;simp [yki,IV.toStr]
 | _,_,0,_,_,h,_,_=>by omega
theorem zyv:z2y PR B0 18 zd6:=by
 refine z0i [(42,zcj),(41,ze6),(44,z6m),(43,z32),(45,z6z)] [(18,⟨[2,4,6,75,76,77],[2,500],[⟨.tmp 6,500,9,false,[.str]⟩]⟩)] zd6 [[.str]] Tryz.func18 y6t
  ⟨zye,y4b,zfm,z8t,zfz,trivial⟩ ?_
 intro vs r hwf h;unfold zd6 at h
 split at h
 ·rename_i k c a0 b0 a1 b1 a2 b2 a3 b3 a4 b4 lo hi ft fl bu d
  refine ⟨20,?_⟩;rw [R.get_ok] at h;rw [← h];refine (y3s 20 k c a0 b0 a1 b1 a2 b2 a3 b3 a4 b4 lo hi ft fl bu d).trans ?_;have hb:=hwf (by simp [zc8])
  have hq:Qy.In ⟨k,c,a0,b0,a1,b1,a2,b2,a3,b3,a4,b4,lo,hi,ft,fl,bu⟩:=by
   have:=hb.1
   simp only [wfV,wfLs,wfL,v18,v45] at this;obtain ⟨h1,h2,h3,h4,h5,h6,h7,h8,h9,h10,h11,h12,h13,h14,h15,h16⟩:=this;exact ⟨h1,h2,h3,h4,h5,h6,h7,h8,h9,h10,h11,h12,h13,h14,h15,h16⟩
  show cond (decide (d < 1)) _ (cond (decide (d > 4)) _ (cond _ (cond (!(Qy.eq ⟨k,c,a0,b0,a1,b1,a2,b2,a3,b3,a4,b4,lo,hi,ft,fl,bu⟩ (zg0 ⟨k,c,a0,b0,a1,b1,a2,b2,a3,b3,a4,b4,lo,hi,ft,fl,bu⟩ d))) _ _) _))=_;generalize hQ:(⟨k,c,a0,b0,a1,b1,a2,b2,a3,b3,a4,b4,lo,hi,ft,fl,bu⟩:Qy)=q at hq ⊢
  unfold y0e okQ;cases h1:decide (d < 1) with
  | true=>simp only [z00,z02,v0c,v0v]
  | false=>
   cases h4:decide (d > 4) with
   | true=>simp only [z00,z02,v0c,v0h,v0v,v2c]
   | false=>
    have h1:=v0s h1;have h4:=v0s h4;rw [v01 (show 0≤d by omega),v01 (show d≤5 by omega),v01 (show d≤ic 5 by simp only [ic]; omega)]
    simp only [v1c,z00,z02,v0h,v0r];cases he:q.eq (zg0 q d) with
    | false=>simp only [v0h,z00,z02,v0v]
    | true=>
     have ec:q.c=c:=by rw [← hQ]
     have ef:q.ft=ft:=by rw [← hQ]
     have eb:q.bu=bu:=by rw [← hQ]
     have ek:q.k=k:=by rw [← hQ]
     rw [ec,ef,eb,ek];cases hc:zha c with
     | false=>simp only [v0c,v0h,z00,z02,v0v,v0r]
     | true=>
      cases hf:zha ft with
      | false=>simp only [v0c,v0h,z00,z02,v0v,v0r]
      | true=>
       cases hbu:zha bu with
       | false=>simp only [v0c,v0h,z00,z02,v0v,v0r]
       | true=>
        simp only [v0c,z02,v0r];have hDn:d.toNat≤4:=by omega
        have run:=fun (W:List IV) (hW:W.length≤16) (hs:∀ w∈W,w.toStr.size≤100)=>y2y 20 q hq ⟨#[]⟩ d.toNat hDn d.toNat 0 20 W (by omega) (by omega) (by omega) hs
        have zi:∀ {n:Int},InR n→(z0p n).size≤100:=fun h=>by have:=y8v h; omega
        have zp:∀ {n:Int},InR n→(z0e n).size≤100:=fun h=>by have:=(zel _ h).2; omega
        have fin:∀ (W:List IV) (l:List ByteArray),W.map IV.toStr=l++[ygp]→yag q=l→zar (W.map IV.toStr++(((q.spans.take d.toNat).drop 0).map fun s=>y9v s.1 s.2)++[zfl,z0p q.bu]) z4u=zar (ydt q d.toNat) z4u:=fun W l hWl hl=>by
         unfold ydt;rw [hWl,hl,v11];simp
        subst hQ;cases k1:(k==1) with
        | true=>
         simp only [z00,v42];refine (run [IV.str znu,IV.str (z0p c),IV.str yea,IV.str (z0e lo),IV.str yko,IV.str (z0e hi),IV.str ygp] (by simp) (fun w hw=>?_)).trans ?_
         ·simp only [v15,v1t,v3n] at hw
          rcases hw with rfl | rfl | rfl | rfl | rfl | rfl | rfl
          ·decide
          ·exact zi hq.c
          ·decide
          ·exact zp hq.lo
          ·decide
          ·exact zp hq.hi
          ·decide
         ·rw [fin _ [znu,z0p c,yea,z0e lo,yko,z0e hi] rfl (by unfold yag; simp only [k1,z00])]
        | false=>
         simp only [z02,v2i];cases k2:(k==2) with
         | true=>
          simp only [z00,v42];refine (run [IV.str zvs,IV.str (z0p c),IV.str ygp] (by simp) (fun w hw=>?_)).trans ?_
          ·simp only [v15,v1t,v3n] at hw
           rcases hw with rfl | rfl | rfl
           ·decide
           ·exact zi hq.c
           ·decide
          ·rw [fin _ [zvs,z0p c] rfl (by unfold yag; simp only [k1,k2,z00,z02])]
         | false=>
          simp only [z02,v2i];cases k3:(k==3) with
          | false=>simp only [z02]
          | true=>
           simp only [z00];cases fl with
           | true=>
            simp only [z00];refine (run [IV.str zkc,IV.str (z0p c),IV.str yjo,IV.str (z0p ft),IV.str ygp] (by simp) (fun w hw=>?_)).trans ?_
            ·simp only [v15,v1t,v3n] at hw
             rcases hw with rfl | rfl | rfl | rfl | rfl
             ·decide
             ·exact zi hq.c
             ·decide
             ·exact zi hq.ft
             ·decide
            ·rw [fin _ [zkc,z0p c,yjo,z0p ft] rfl (by unfold yag; simp only [k1,k2,z00,z02])]
           | false=>
            simp only [z02];refine (run [IV.str zmt,IV.str (z0p c),IV.str yjo,IV.str (z0p ft),IV.str ygp] (by simp) (fun w hw=>?_)).trans ?_
            ·simp only [v15,v1t,v3n] at hw
             rcases hw with rfl | rfl | rfl | rfl | rfl
             ·decide
             ·exact zi hq.c
             ·decide
             ·exact zi hq.ft
             ·decide
            ·rw [fin _ [zmt,z0p c,yjo,z0p ft] rfl (by unfold yag; simp only [k1,k2,z02])]
 ·simp [R.get] at h
end Go.FM
