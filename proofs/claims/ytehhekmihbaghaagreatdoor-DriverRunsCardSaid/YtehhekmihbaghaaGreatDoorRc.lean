/-
  A small machine that reads a function of the program and reckons what a call of it comes to; what Go's library on the road comes to; the functions of the program, one by one. No conditions beyond each specification's own. (DERIVED: THE SHELF's CONTRACTS AT THIS DUMP, IN PLAIN WORDS , THE LIBRARY's strconv.FormatUint AT BASE 10: the number's de, WHAT THE LIBRARY's FUNCTIONS OVER SLICES OF STRINGS COME TO,, and so on.)
-/
import Derived.Shelf.Strings.Builder1
import Derived.Shelf.Strings.Builder2
import Derived.Shelf.Strings.OnBuilder
import Derived.Shelf.Strings.Trim
import Derived.Shelf.Small.Utf8
import Derived.Shelf.Small.Bits
import Derived.Shelf.Small.Strs
import Derived.Shelf.Small.Wraps
import Derived.Shelf.Strings.BuilderF
import Derived.Shelf.Strings.BuilderK
import Derived.Shelf.Utf8.RuneCount
import Derived.Shelf.Strconv.Atoi
import Derived.Shelf.Strconv.Itoa0
import Derived.Shelf.Strconv.Itoa1
import Derived.Shelf.LaysM
import Derived.Shelf.Strconv.Itoa2
import Derived.Shelf.Strconv.Itoa3
import Derived.Shelf.Strconv.AtoiErrFast
import Derived.Shelf.Strconv.ParseIntEmpty
import Derived.Shelf.Strconv.AtoiFail
import Derived.Shelf.Strconv.Clone
import Derived.Shelf.Strconv.SyntaxError
import Derived.Shelf.LaysC
import Derived.Shelf.Strconv.ToError
import Derived.Shelf.Strconv.Lower
import Derived.Shelf.Strconv.ParseUint10
import Derived.Shelf.Strconv.ParseUint10Empty
import Derived.Shelf.Strconv.ParseUint10Any
import Derived.Shelf.Strconv.ParseInt10
import Derived.Shelf.Strconv.AtoiLong
import Derived.Shelf.Strconv.AtoiInnerAll
import Derived.Shelf.Strconv.RangeError
import Derived.Shelf.Strconv.ToErrorRange
import Derived.Shelf.Strconv.AtoiAll
import Derived.Shelf.Strconv.ErrVarAll
import Derived.Shelf.Strconv.ParseUint10b64
import Derived.Ground.MpProg
import Derived.Shelf.Pu.ParseUintPublic10
import Derived.Shelf.Pu.ErrVarParseUint
import Derived.Shelf.Strings.Search1
import Derived.Shelf.Strings.Search2
import Derived.Shelf.Strings.Search3
import Derived.Shelf.Strings.Cut
import Derived.Shelf.Strings.Count
import Derived.Shelf.Strings.Shaped
import Derived.Shelf.Sort.Plain
import Derived.Shelf.Strings.Prefix
import Derived.Shelf.Strings.Split
import Derived.Shelf.Strings.SplitShaped
import Derived.Shelf.Unicode.Decode
import Derived.Shelf.Strings.Runes
import Derived.Shelf.Strings.RuneCount
import Derived.Shelf.Strings.AsciiSet
import Derived.Shelf.Strings.Explode
import Derived.Shelf.Bits.Mul64
import Derived.Shelf.Strings.Repeat
import Derived.Shelf.Unicode.DecodeSlow
import Derived.Shelf.Unicode.DecodeAny
import Derived.Shelf.Unicode.DecodeLast
import Derived.Shelf.Slices.Turned
import Derived.Ground.Names2Prog
import Derived.Shelf.Slices.Clone
import Derived.Shelf.Slices.CompactI
import Derived.Shelf.Slices.SearchI
import Derived.Shelf.Slices.Cells
import Derived.Shelf.Slices.In.SortNone
import Derived.Ground.SlgnProg
import Derived.Shelf.SlicesE.Compact
import Derived.Shelf.SlicesE.Clone
import Derived.Ground.SlgfProg
import Derived.Shelf.SlicesE.IndexFunc
import Derived.Shelf.SlicesE.DeleteFunc
import Derived.Test.YtehhekmihbaghaaGreatDoorProg
import Derived.Test.YtehhekmihbaghaaGreatDoorRb
import Derived.Lib.AppendIntMem
import Derived.Deep.LoopGhost
import Derived.Lib.Walk
import Derived.Lib.SliceRun
set_option linter.all false
set_option maxRecDepth 100000
namespace Go.Proofs
open Go.Shelf
def Tryz.lays156_ren:Go.Shelf.Ren:=⟨fun | 156=>45 | 165=>87 | 166=>60 | 169=>56 | 240=>103 | 241=>137 | 276=>153 | 277=>179 | n=>n,fun | 31=>66 | 9=>9 | 3=>3 | 4=>4 | 0=>0 | 20=>20 | 72=>108 | 76=>121 | 70=>106 | 37=>69 | 75=>120 | 127=>165 | 164=>211 | 5=>5 | 80=>114 | n=>n,fun | n=>n⟩
theorem Tryz.lays156:Go.Proofs.Lays.n156 Tryz.prog Tryz.lays156_ren:= by constructor <;> first | kernel_rfl | (intro _; kernel_rfl)
theorem Tryz.Builder_Extra_156:Builder.Extra Tryz.prog Tryz.lays156_ren:={
 sizeBuilder:=by kernel_rfl
 liesBuilder:=by kernel_rfl
 t5:=Tryz.underlying5
 a5:=Tryz.isAgg5
 z5:=Tryz.sizeOf5
 v5:=Tryz.zeroValue5
 infoByte:=by kernel_rfl
 cellsByte:=by kernel_rfl
 sizeByte:=by kernel_rfl
 neB5:=by decide }
open Go.RowKit in
theorem Tryz.strings_Join_none (a:Option Addr) (c:Nat) (sep:ByteArray) (w:World) :
 Calls Tryz.prog 45 #[.slice a 0 c,.string sep] w fun e w'=>e = .returned (.string ⟨#[]⟩)∧w'=w:=Any.strings_Join_none Tryz.lays156 Tryz.Builder_Extra_156 a c sep w
open Go.RowKit in
theorem Tryz.strings_Join (bk o c:Nat) (xs:List ByteArray) (sep:ByteArray) (w:World) (hcells:∀ (j:Nat) x,xs[j]?=some x→w.cell? ⟨bk,o+j,none⟩=some (.string x)) (hbk:bk < w.heap.size) (hN:xs.length≤140737488355328) (hcap:xs.length≤c) (hlen:(Lib.join (xs.map (·.data.toList)) sep.data.toList).length≤140737488355328) :
 Calls Tryz.prog 45 #[.slice (some ⟨bk,o,none⟩) xs.length c,.string sep] w fun e w'=>e = .returned (.string ⟨(Lib.join (xs.map (·.data.toList)) sep.data.toList).toArray⟩)∧Below w.heap.size w w':=Any.strings_Join Tryz.lays156 Tryz.Builder_Extra_156 bk o c xs sep w hcells hbk hN hcap hlen
def Tryz.lays162_ren:Go.Shelf.Ren:=⟨fun | 162=>85 | 232=>130 | 227=>131 | 234=>132 | 236=>133 | 228=>174 | 271=>175 | 151=>176 | 120=>208 | 197=>181 | 152=>209 | 260=>210 | 137=>102 | 119=>223 | 224=>212 | 225=>211 | 217=>152 | 266=>191 | n=>n,fun | 9=>9 | 4=>4 | 3=>3 | 5=>5 | 117=>195 | 116=>194 | 0=>0 | 124=>198 | 21=>21 | 105=>231 | 46=>152 | 119=>279 | 139=>282 | 138=>281 | n=>n,fun | 3=>4 | 4=>5 | n=>n⟩
theorem Tryz.lays162:Go.Proofs.Lays.n162 Tryz.prog Tryz.lays162_ren:={
 mixed:=by kernel_rfl
 f119:=Tryz.func223.trans (congrArg some (by kernel_rfl))
 f120:=Tryz.func208.trans (congrArg some (by kernel_rfl))
 f137:=Tryz.func102.trans (congrArg some (by kernel_rfl))
 f151:=Tryz.func176.trans (congrArg some (by kernel_rfl))
 f152:=Tryz.func209.trans (congrArg some (by kernel_rfl))
 f162:=Tryz.func85.trans (congrArg some (by kernel_rfl))
 f197:=Tryz.func181.trans (congrArg some (by kernel_rfl))
 f217:=Tryz.func152.trans (congrArg some (by kernel_rfl))
 f224:=Tryz.func212.trans (congrArg some (by kernel_rfl))
 f225:=Tryz.func211.trans (congrArg some (by kernel_rfl))
 f227:=Tryz.func131.trans (congrArg some (by kernel_rfl))
 f228:=Tryz.func174.trans (congrArg some (by kernel_rfl))
 f232:=Tryz.func130.trans (congrArg some (by kernel_rfl))
 f234:=Tryz.func132.trans (congrArg some (by kernel_rfl))
 f236:=Tryz.func133.trans (congrArg some (by kernel_rfl))
 f260:=Tryz.func210.trans (congrArg some (by kernel_rfl))
 f266:=Tryz.func191.trans (congrArg some (by kernel_rfl))
 f271:=Tryz.func175.trans (congrArg some (by kernel_rfl))
 t0:=Tryz.underlying0
 a0:=Tryz.isAgg0
 z0:=Tryz.sizeOf0
 v0:=Tryz.zeroValue0
 t3:=Tryz.underlying3
 a3:=Tryz.isAgg3
 z3:=Tryz.sizeOf3
 v3:=Tryz.zeroValue3
 t4:=Tryz.underlying4
 a4:=Tryz.isAgg4
 z4:=Tryz.sizeOf4
 v4:=Tryz.zeroValue4
 t5:=Tryz.underlying5
 a5:=Tryz.isAgg5
 z5:=Tryz.sizeOf5
 v5:=Tryz.zeroValue5
 t9:=Tryz.underlying9
 a9:=Tryz.isAgg9
 z9:=Tryz.sizeOf9
 v9:=Tryz.zeroValue9
 t21:=Tryz.underlying21
 a21:=Tryz.isAgg21
 z21:=Tryz.sizeOf21
 v21:=Tryz.zeroValue21
 t46:=Tryz.underlying152
 a46:=Tryz.isAgg152
 z46:=Tryz.sizeOf152
 v46:=Tryz.zeroValue152
 t105:=Tryz.underlying231
 a105:=Tryz.isAgg231
 z105:=Tryz.sizeOf231
 v105:=Tryz.zeroValue231
 t116:=Tryz.underlying194
 a116:=Tryz.isAgg194
 z116:=Tryz.sizeOf194
 t117:=Tryz.underlying195
 a117:=Tryz.isAgg195
 z117:=Tryz.sizeOf195
 v117:=Tryz.zeroValue195
 t119:=Tryz.underlying279
 a119:=Tryz.isAgg279
 z119:=Tryz.sizeOf279
 t124:=Tryz.underlying198
 a124:=Tryz.isAgg198
 z124:=Tryz.sizeOf198
 v124:=Tryz.zeroValue198
 t138:=Tryz.underlying281
 a138:=Tryz.isAgg281
 z138:=Tryz.sizeOf281
 v138:=Tryz.zeroValue281
 t139:=Tryz.underlying282
 a139:=Tryz.isAgg282
 z139:=Tryz.sizeOf282
 v139:=Tryz.zeroValue282
 g3:=by kernel_rfl
 g4:=by kernel_rfl }
open Go.RowKit in
theorem Tryz.strings_TrimRight_one (s:ByteArray) (c:UInt8) (hc:c.toNat < 128) (w:World) (hs:s.size≤9223372036854775807) :
 Calls Tryz.prog 85 #[.string s,.string ⟨#[c]⟩] w fun e w'=>e = .returned (.string ⟨(Lib.trimRightB s.data.toList c).toArray⟩)∧w'=w:=Any.strings_TrimRight_one Tryz.lays162 s c hc w hs
def Tryz.lays103_ren:Go.Shelf.Ren:=⟨fun | 103=>57 | 210=>101 | 206=>151 | n=>n,fun | 9=>9 | 4=>4 | 24=>115 | 3=>3 | n=>n,fun | n=>n⟩
theorem Tryz.lays103:Go.Proofs.Lays.n103 Tryz.prog Tryz.lays103_ren:= by constructor <;> first | kernel_rfl | (intro _; kernel_rfl)
open Go.RowKit in
theorem Tryz.strings_CutPrefix (s p:ByteArray) (w:World) :
 Calls Tryz.prog 57 #[.string s,.string p] w fun e w'=>e = .returned (.tuple #[.string ⟨(Lib.trimPrefix s.data.toList p.data.toList).toArray⟩,.bool (Lib.hasPrefix s.data.toList p.data.toList)])∧w'=w:=Any.strings_CutPrefix Tryz.lays103 s p w
def Tryz.lays283_ren:Go.Shelf.Ren:=⟨fun | 283=>170 | n=>n,fun | 3=>3 | 9=>9 | 4=>4 | n=>n,fun | n=>n⟩
theorem Tryz.lays283:Go.Proofs.Lays.n283 Tryz.prog Tryz.lays283_ren:= by constructor <;> first | kernel_rfl | (intro _; kernel_rfl)
open Go.Lib in
theorem Tryz.internal_strconv_small (i:Nat) (h:i < 100) (w:World) :
 Calls Tryz.prog 170 #[.int .i64 i] w fun e w'=>e = .returned (.string ⟨(Lib.decDigits i).toArray⟩)∧w'=w:=Any.internal_strconv_small Tryz.lays283 i h w
def Tryz.laysM284_ren:Go.Shelf.Ren:=⟨fun | 284=>171 | 129=>204 | 317=>203 | 318=>205 | n=>n,fun | 53=>103 | 3=>3 | 212=>262 | 0=>0 | 4=>4 | 46=>152 | 5=>5 | 9=>9 | n=>n,fun | 17=>0 | n=>n⟩
theorem Tryz.laysM284:Go.Proofs.LaysM.n284 Tryz.prog Tryz.laysM284_ren:={
 mixed:=by kernel_rfl
 f129:=Tryz.func204.trans (congrArg some (by kernel_rfl))
 f284:=Tryz.func171.trans (congrArg some (by kernel_rfl))
 f317:=Tryz.func203.trans (congrArg some (by kernel_rfl))
 f318:=Tryz.func205.trans (congrArg some (by kernel_rfl))
 t0:=Tryz.underlying0
 a0:=Tryz.isAgg0
 z0:=Tryz.sizeOf0
 v0:=Tryz.zeroValue0
 t3:=Tryz.underlying3
 a3:=Tryz.isAgg3
 z3:=Tryz.sizeOf3
 v3:=Tryz.zeroValue3
 t4:=Tryz.underlying4
 a4:=Tryz.isAgg4
 z4:=Tryz.sizeOf4
 v4:=Tryz.zeroValue4
 t5:=Tryz.underlying5
 a5:=Tryz.isAgg5
 z5:=Tryz.sizeOf5
 v5:=Tryz.zeroValue5
 t9:=Tryz.underlying9
 a9:=Tryz.isAgg9
 z9:=Tryz.sizeOf9
 v9:=Tryz.zeroValue9
 t46:=Tryz.underlying152
 a46:=Tryz.isAgg152
 z46:=Tryz.sizeOf152
 v46:=Tryz.zeroValue152
 t53:=Tryz.underlying103
 a53:=Tryz.isAgg103
 z53:=Tryz.sizeOf103
 v53:=Tryz.zeroValue103
 t212:=Tryz.underlying262
 a212:=Tryz.isAgg262
 z212:=Tryz.sizeOf262
 v212:=Tryz.zeroValue262
 g17:=by kernel_rfl
 i0:=by kernel_rfl
 i3:=by kernel_rfl
 i4:=by kernel_rfl
 i5:=by kernel_rfl
 i9:=by kernel_rfl
 i46:=by kernel_rfl
 i53:=by kernel_rfl
 i212:=by kernel_rfl
 m17:=by kernel_rfl }
open Go.Lib in
theorem Tryz.internal_strconv_numDigits (u:Nat) (h1:1≤u) (h2:u < 18446744073709551616) (w:World) (htab:Lib.TabIs Tryz.prog w "internal/strconv.uint64pow10" .u64 Lib.pow10Tab) :
 Calls Tryz.prog 171 #[.int .u64 u] w fun e w'=>e = .returned (.int .i64 (Lib.nDigits u))∧w'=w:=Any.internal_strconv_numDigits Tryz.laysM284 u h1 h2 w htab
def Tryz.lays285_ren:Go.Shelf.Ren:=⟨fun | 285=>172 | n=>n,fun | 37=>69 | 53=>103 | 3=>3 | 4=>4 | 51=>234 | 9=>9 | 5=>5 | 0=>0 | n=>n,fun | n=>n⟩
theorem Tryz.lays285:Go.Proofs.Lays.n285 Tryz.prog Tryz.lays285_ren:= by constructor <;> first | kernel_rfl | (intro _; kernel_rfl)
open Go.RowKit Go.Sort Go.Lib in
theorem Tryz.internal_strconv_formatBase10 (blk off cap:Nat) (u:Nat) (d:Array UInt8) (w:World) (hH:Holds (fun (b:UInt8)=>Value.int .u8 (b.toNat:Int)) w blk off d) (hu:u < 10 ^ d.size) (hu64:u < 18446744073709551616) (hsz:d.size < 4611686018427387904) :
 Calls Tryz.prog 172 #[.slice (some ⟨blk,off,none⟩) d.size cap,.int .u64 u] w fun e w'=>
  e = .returned (.tuple #[])∧∃ (n v':Nat) (dk:Array UInt8),w'=(putRow (fun (b:UInt8)=>Value.int .u8 (b.toNat:Int)) w blk off dk).drewN n∧FmtInv d.size u 0 v' dk:=Any.internal_strconv_formatBase10 Tryz.lays285 blk off cap u d w hH hu hu64 hsz
def Tryz.laysM171_ren:Go.Shelf.Ren:=⟨fun | 171=>43 | 243=>82 | 246=>128 | 283=>170 | 284=>171 | 285=>172 | 286=>173 | 129=>204 | 317=>203 | 318=>205 | 319=>206 | 320=>207 | 337=>221 | 338=>222 | n=>n,fun | 3=>3 | 9=>9 | 2=>2 | 4=>4 | 171=>225 | 0=>0 | 53=>103 | 37=>69 | 5=>5 | 173=>228 | 212=>262 | 51=>234 | 20=>20 | 213=>263 | 46=>152 | 232=>296 | 233=>297 | n=>n,fun | 17=>0 | 18=>6 | 19=>7 | n=>n⟩
theorem Tryz.laysM171:Go.Proofs.LaysM.n171 Tryz.prog Tryz.laysM171_ren:={
 mixed:=by kernel_rfl
 f129:=Tryz.func204.trans (congrArg some (by kernel_rfl))
 f171:=Tryz.func43.trans (congrArg some (by kernel_rfl))
 f243:=Tryz.func82.trans (congrArg some (by kernel_rfl))
 f246:=Tryz.func128.trans (congrArg some (by kernel_rfl))
 f283:=Tryz.func170.trans (congrArg some (by kernel_rfl))
 f284:=Tryz.func171.trans (congrArg some (by kernel_rfl))
 f285:=Tryz.func172.trans (congrArg some (by kernel_rfl))
 f286:=Tryz.func173.trans (congrArg some (by kernel_rfl))
 f317:=Tryz.func203.trans (congrArg some (by kernel_rfl))
 f318:=Tryz.func205.trans (congrArg some (by kernel_rfl))
 f319:=Tryz.func206.trans (congrArg some (by kernel_rfl))
 f320:=Tryz.func207.trans (congrArg some (by kernel_rfl))
 f337:=Tryz.func221.trans (congrArg some (by kernel_rfl))
 f338:=Tryz.func222.trans (congrArg some (by kernel_rfl))
 t0:=Tryz.underlying0
 a0:=Tryz.isAgg0
 z0:=Tryz.sizeOf0
 v0:=Tryz.zeroValue0
 t2:=Tryz.underlying2
 a2:=Tryz.isAgg2
 z2:=Tryz.sizeOf2
 v2:=Tryz.zeroValue2
 t3:=Tryz.underlying3
 a3:=Tryz.isAgg3
 z3:=Tryz.sizeOf3
 v3:=Tryz.zeroValue3
 t4:=Tryz.underlying4
 a4:=Tryz.isAgg4
 z4:=Tryz.sizeOf4
 v4:=Tryz.zeroValue4
 t5:=Tryz.underlying5
 a5:=Tryz.isAgg5
 z5:=Tryz.sizeOf5
 v5:=Tryz.zeroValue5
 t9:=Tryz.underlying9
 a9:=Tryz.isAgg9
 z9:=Tryz.sizeOf9
 v9:=Tryz.zeroValue9
 t20:=Tryz.underlying20
 a20:=Tryz.isAgg20
 z20:=Tryz.sizeOf20
 v20:=Tryz.zeroValue20
 t37:=Tryz.underlying69
 a37:=Tryz.isAgg69
 z37:=Tryz.sizeOf69
 v37:=Tryz.zeroValue69
 t46:=Tryz.underlying152
 a46:=Tryz.isAgg152
 z46:=Tryz.sizeOf152
 v46:=Tryz.zeroValue152
 t51:=Tryz.underlying234
 a51:=Tryz.isAgg234
 z51:=Tryz.sizeOf234
 v51:=Tryz.zeroValue234
 t53:=Tryz.underlying103
 a53:=Tryz.isAgg103
 z53:=Tryz.sizeOf103
 v53:=Tryz.zeroValue103
 t171:=Tryz.underlying225
 a171:=Tryz.isAgg225
 z171:=Tryz.sizeOf225
 v171:=Tryz.zeroValue225
 t173:=Tryz.underlying228
 a173:=Tryz.isAgg228
 z173:=Tryz.sizeOf228
 v173:=Tryz.zeroValue228
 t212:=Tryz.underlying262
 a212:=Tryz.isAgg262
 z212:=Tryz.sizeOf262
 v212:=Tryz.zeroValue262
 t213:=Tryz.underlying263
 a213:=Tryz.isAgg263
 z213:=Tryz.sizeOf263
 t232:=Tryz.underlying296
 a232:=Tryz.isAgg296
 z232:=Tryz.sizeOf296
 v232:=Tryz.zeroValue296
 t233:=Tryz.underlying297
 a233:=Tryz.isAgg297
 z233:=Tryz.sizeOf297
 v233:=Tryz.zeroValue297
 g17:=by kernel_rfl
 g18:=by kernel_rfl
 g19:=by kernel_rfl
 i0:=by kernel_rfl
 i2:=by kernel_rfl
 i3:=by kernel_rfl
 i4:=by kernel_rfl
 i5:=by kernel_rfl
 i9:=by kernel_rfl
 i20:=by kernel_rfl
 i37:=by kernel_rfl
 i46:=by kernel_rfl
 i51:=by kernel_rfl
 i53:=by kernel_rfl
 i171:=by kernel_rfl
 i173:=by kernel_rfl
 i212:=by kernel_rfl
 i232:=by kernel_rfl
 i233:=by kernel_rfl
 m17:=by kernel_rfl
 m18:=by kernel_rfl
 m19:=by kernel_rfl }
open Go.RowKit Go.Sort Go.Lib in
theorem Tryz.strconv_Itoa (n:Int) (h0 : -9223372036854775808≤n) (h1:n≤9223372036854775807) (w:World) (htab:Lib.TabIs Tryz.prog w "internal/strconv.uint64pow10" .u64 Lib.pow10Tab) :
 Calls Tryz.prog 43 #[.int .i64 n] w fun e w'=>e = .returned (.string ⟨(Lib.itoa n).toArray⟩)∧∃ k os,w'=grow (w.drewN k) os:=Any.strconv_Itoa Tryz.laysM171 n h0 h1 w htab
def Tryz.laysC172_ren:Go.Shelf.Ren:=⟨fun | 172=>90 | 244=>142 | 245=>143 | 247=>184 | 279=>185 | 280=>186 | 281=>187 | 282=>188 | 287=>214 | 316=>215 | 171=>43 | 205=>216 | 321=>225 | 322=>226 | 243=>82 | 246=>128 | 283=>170 | 284=>171 | 285=>172 | 286=>173 | 129=>204 | 317=>203 | 318=>205 | 319=>206 | 320=>207 | 337=>221 | 338=>222 | n=>n,fun | 9=>9 | 3=>3 | 75=>120 | 76=>121 | 4=>4 | 5=>5 | 167=>240 | 37=>69 | 0=>0 | 85=>241 | 2=>2 | 168=>243 | 53=>103 | 175=>246 | 46=>152 | 210=>268 | 127=>165 | 145=>288 | 143=>286 | 21=>21 | 171=>225 | 173=>228 | 212=>262 | 51=>234 | 20=>20 | 213=>263 | 232=>296 | 233=>297 | 80=>114 | n=>n,fun | 15=>2 | 16=>3 | 17=>0 | 18=>6 | 19=>7 | n=>n⟩
theorem Tryz.laysC172:Go.Proofs.LaysC.n172 Tryz.prog Tryz.laysC172_ren:={
 mixed:=by kernel_rfl
 f129:=Tryz.func204.trans (congrArg some (by kernel_rfl))
 f171:=Tryz.func43.trans (congrArg some (by kernel_rfl))
 f172:=Tryz.func90.trans (congrArg some (by kernel_rfl))
 f205:=Tryz.func216.trans (congrArg some (by kernel_rfl))
 f243:=Tryz.func82.trans (congrArg some (by kernel_rfl))
 f244:=Tryz.func142.trans (congrArg some (by kernel_rfl))
 f245:=Tryz.func143.trans (congrArg some (by kernel_rfl))
 f246:=Tryz.func128.trans (congrArg some (by kernel_rfl))
 f247:=Tryz.func184.trans (congrArg some (by kernel_rfl))
 f279:=Tryz.func185.trans (congrArg some (by kernel_rfl))
 f280:=Tryz.func186.trans (congrArg some (by kernel_rfl))
 f281:=Tryz.func187.trans (congrArg some (by kernel_rfl))
 f282:=Tryz.func188.trans (congrArg some (by kernel_rfl))
 f283:=Tryz.func170.trans (congrArg some (by kernel_rfl))
 f284:=Tryz.func171.trans (congrArg some (by kernel_rfl))
 f285:=Tryz.func172.trans (congrArg some (by kernel_rfl))
 f286:=Tryz.func173.trans (congrArg some (by kernel_rfl))
 f287:=Tryz.func214.trans (congrArg some (by kernel_rfl))
 f316:=Tryz.func215.trans (congrArg some (by kernel_rfl))
 f317:=Tryz.func203.trans (congrArg some (by kernel_rfl))
 f318:=Tryz.func205.trans (congrArg some (by kernel_rfl))
 f319:=Tryz.func206.trans (congrArg some (by kernel_rfl))
 f320:=Tryz.func207.trans (congrArg some (by kernel_rfl))
 f321:=Tryz.func225.trans (congrArg some (by kernel_rfl))
 f322:=Tryz.func226.trans (congrArg some (by kernel_rfl))
 f337:=Tryz.func221.trans (congrArg some (by kernel_rfl))
 f338:=Tryz.func222.trans (congrArg some (by kernel_rfl))
 t0:=Tryz.underlying0
 a0:=Tryz.isAgg0
 z0:=Tryz.sizeOf0
 v0:=Tryz.zeroValue0
 t2:=Tryz.underlying2
 a2:=Tryz.isAgg2
 z2:=Tryz.sizeOf2
 v2:=Tryz.zeroValue2
 t3:=Tryz.underlying3
 a3:=Tryz.isAgg3
 z3:=Tryz.sizeOf3
 v3:=Tryz.zeroValue3
 t4:=Tryz.underlying4
 a4:=Tryz.isAgg4
 z4:=Tryz.sizeOf4
 v4:=Tryz.zeroValue4
 t5:=Tryz.underlying5
 a5:=Tryz.isAgg5
 z5:=Tryz.sizeOf5
 v5:=Tryz.zeroValue5
 t9:=Tryz.underlying9
 a9:=Tryz.isAgg9
 z9:=Tryz.sizeOf9
 v9:=Tryz.zeroValue9
 t20:=Tryz.underlying20
 a20:=Tryz.isAgg20
 z20:=Tryz.sizeOf20
 v20:=Tryz.zeroValue20
 t21:=Tryz.underlying21
 a21:=Tryz.isAgg21
 z21:=Tryz.sizeOf21
 v21:=Tryz.zeroValue21
 t37:=Tryz.underlying69
 a37:=Tryz.isAgg69
 z37:=Tryz.sizeOf69
 v37:=Tryz.zeroValue69
 t46:=Tryz.underlying152
 a46:=Tryz.isAgg152
 z46:=Tryz.sizeOf152
 v46:=Tryz.zeroValue152
 t51:=Tryz.underlying234
 a51:=Tryz.isAgg234
 z51:=Tryz.sizeOf234
 v51:=Tryz.zeroValue234
 t53:=Tryz.underlying103
 a53:=Tryz.isAgg103
 z53:=Tryz.sizeOf103
 v53:=Tryz.zeroValue103
 t75:=Tryz.underlying120
 a75:=Tryz.isAgg120
 z75:=Tryz.sizeOf120
 v75:=Tryz.zeroValue120
 t76:=Tryz.underlying121
 a76:=Tryz.isAgg121
 z76:=Tryz.sizeOf121
 v76:=Tryz.zeroValue121
 t85:=Tryz.underlying241
 a85:=Tryz.isAgg241
 z85:=Tryz.sizeOf241
 v85:=Tryz.zeroValue241
 t127:=Tryz.underlying165
 a127:=Tryz.isAgg165
 z127:=Tryz.sizeOf165
 v127:=Tryz.zeroValue165
 t143:=Tryz.underlying286
 a143:=Tryz.isAgg286
 z143:=Tryz.sizeOf286
 v143:=Tryz.zeroValue286
 t145:=Tryz.underlying288
 a145:=Tryz.isAgg288
 z145:=Tryz.sizeOf288
 v145:=Tryz.zeroValue288
 t167:=Tryz.underlying240
 a167:=Tryz.isAgg240
 z167:=Tryz.sizeOf240
 v167:=Tryz.zeroValue240
 t168:=Tryz.underlying243
 a168:=Tryz.isAgg243
 z168:=Tryz.sizeOf243
 v168:=Tryz.zeroValue243
 t171:=Tryz.underlying225
 a171:=Tryz.isAgg225
 z171:=Tryz.sizeOf225
 v171:=Tryz.zeroValue225
 t173:=Tryz.underlying228
 a173:=Tryz.isAgg228
 z173:=Tryz.sizeOf228
 v173:=Tryz.zeroValue228
 t175:=Tryz.underlying246
 a175:=Tryz.isAgg246
 z175:=Tryz.sizeOf246
 v175:=Tryz.zeroValue246
 t210:=Tryz.underlying268
 a210:=Tryz.isAgg268
 z210:=Tryz.sizeOf268
 v210:=Tryz.zeroValue268
 t212:=Tryz.underlying262
 a212:=Tryz.isAgg262
 z212:=Tryz.sizeOf262
 v212:=Tryz.zeroValue262
 t213:=Tryz.underlying263
 a213:=Tryz.isAgg263
 z213:=Tryz.sizeOf263
 t232:=Tryz.underlying296
 a232:=Tryz.isAgg296
 z232:=Tryz.sizeOf296
 v232:=Tryz.zeroValue296
 t233:=Tryz.underlying297
 a233:=Tryz.isAgg297
 z233:=Tryz.sizeOf297
 v233:=Tryz.zeroValue297
 g15:=by kernel_rfl
 g16:=by kernel_rfl
 g17:=by kernel_rfl
 g18:=by kernel_rfl
 g19:=by kernel_rfl
 t80:=Tryz.underlying114
 a80:=Tryz.isAgg114
 z80:=Tryz.sizeOf114
 v80:=Tryz.zeroValue114
 i0:=by kernel_rfl
 i2:=by kernel_rfl
 i3:=by kernel_rfl
 i4:=by kernel_rfl
 i5:=by kernel_rfl
 i9:=by kernel_rfl
 i20:=by kernel_rfl
 i21:=by kernel_rfl
 i37:=by kernel_rfl
 i46:=by kernel_rfl
 i51:=by kernel_rfl
 i53:=by kernel_rfl
 i75:=by kernel_rfl
 i76:=by kernel_rfl
 i80:=by kernel_rfl
 i85:=by kernel_rfl
 i127:=by kernel_rfl
 i143:=by kernel_rfl
 i145:=by kernel_rfl
 i167:=by kernel_rfl
 i168:=by kernel_rfl
 i171:=by kernel_rfl
 i173:=by kernel_rfl
 i175:=by kernel_rfl
 i210:=by kernel_rfl
 i212:=by kernel_rfl
 i232:=by kernel_rfl
 i233:=by kernel_rfl
 m15:=by kernel_rfl
 m16:=by kernel_rfl
 m17:=by kernel_rfl
 m18:=by kernel_rfl
 m19:=by kernel_rfl
 c0:=by kernel_rfl
 c2:=by kernel_rfl
 c3:=by kernel_rfl
 c4:=by kernel_rfl
 c5:=by kernel_rfl
 c9:=by kernel_rfl
 c20:=by kernel_rfl
 c21:=by kernel_rfl
 c37:=by kernel_rfl
 c46:=by kernel_rfl
 c51:=by kernel_rfl
 c53:=by kernel_rfl
 c75:=by kernel_rfl
 c76:=by kernel_rfl
 c80:=by kernel_rfl
 c85:=by kernel_rfl
 c127:=by kernel_rfl
 c143:=by kernel_rfl
 c145:=by kernel_rfl
 c167:=by kernel_rfl
 c168:=by kernel_rfl
 c171:=by kernel_rfl
 c173:=by kernel_rfl
 c175:=by kernel_rfl
 c210:=by kernel_rfl
 c212:=by kernel_rfl
 c213:=by kernel_rfl
 c232:=by kernel_rfl
 c233:=by kernel_rfl }
open Go.RowKit in
theorem Tryz.strconv_Atoi_ok (s:ByteArray) (hmax:s.size≤9223372036854775806) (v:Int) (h:Lib.atoiAll s.data.toList = .ok v) (w:World) :
 Calls Tryz.prog 90 #[.string s] w fun e w'=>e = .returned (.tuple #[.int .i64 v,.nilIface])∧(w'=w∨∃ t,w'=Lib.bytesWorld w 5 t):=Any.strconv_Atoi_ok Tryz.laysC172 s hmax v h w
open Go.RowKit in
theorem Tryz.strconv_Atoi_syntax (s:ByteArray) (hlim:s.size≤281474976710656) (h:Lib.atoiAll s.data.toList=Lib.NumEnd.syntax) (ev:Value) (w:World) (hv:w.cell? ⟨2,0,none⟩=some ev) (hev:ev = .nilIface∨∃ te pe,ev = .iface te pe) :
 Calls Tryz.prog 90 #[.string s] w fun e w'=>∃ N,e = .returned (.tuple #[.int .i64 (0),.iface 243 (.pointer (some ⟨N,0,none⟩))])∧w.heap.size≤N∧w'.heap[N]?=some (.cells #[.string ⟨#[65,116,111,105]⟩,.string s,ev] 268 (0,0))∧Below w.heap.size w w':=Any.strconv_Atoi_syntax Tryz.laysC172 s hlim h ev w hv hev
open Go.RowKit in
theorem Tryz.strconv_Atoi_range (s:ByteArray) (hlim:s.size≤281474976710656) (h:Lib.atoiAll s.data.toList = .range) (ev:Value) (w:World) (hv:w.cell? ⟨3,0,none⟩=some ev) (hev:ev = .nilIface∨∃ te pe,ev = .iface te pe) :
 Calls Tryz.prog 90 #[.string s] w fun e w'=>∃ N,e = .returned (.tuple #[.int .i64 (Lib.atoiSat s.data.toList),.iface 243 (.pointer (some ⟨N,0,none⟩))])∧w.heap.size≤N∧w'.heap[N]?=some (.cells #[.string ⟨#[65,116,111,105]⟩,.string s,ev] 268 (0,0))∧Below w.heap.size w w':=Any.strconv_Atoi_range Tryz.laysC172 s hlim h ev w hv hev
def Tryz.laysPu14_ren:Go.Shelf.Ren:=⟨fun | 14=>189 | 16=>214 | 17=>143 | 19=>225 | 20=>226 | 21=>185 | 22=>186 | 23=>187 | 24=>188 | 25=>215 | 27=>43 | 26=>216 | 28=>82 | 29=>128 | 30=>170 | 31=>171 | 32=>172 | 33=>173 | 35=>204 | 34=>203 | 36=>205 | 37=>206 | 38=>207 | 39=>221 | 40=>222 | n=>n,fun | 9=>9 | 3=>3 | 22=>103 | 24=>120 | 25=>246 | 4=>4 | 34=>240 | 5=>5 | 36=>152 | 37=>69 | 0=>0 | 39=>243 | 21=>21 | 44=>268 | 47=>165 | 50=>288 | 48=>286 | 2=>2 | 52=>225 | 55=>228 | 59=>262 | 60=>234 | 20=>20 | 61=>263 | 65=>296 | 66=>297 | 67=>114 | n=>n,fun | 0=>2 | 1=>3 | 2=>0 | 3=>6 | 4=>7 | n=>n⟩
theorem Tryz.laysPu14:Go.Proofs.LaysPu.n14 Tryz.prog Tryz.laysPu14_ren:={
 mixed:=by kernel_rfl
 f14:=Tryz.func189.trans (congrArg some (by kernel_rfl))
 f16:=Tryz.func214.trans (congrArg some (by kernel_rfl))
 f17:=Tryz.func143.trans (congrArg some (by kernel_rfl))
 f19:=Tryz.func225.trans (congrArg some (by kernel_rfl))
 f20:=Tryz.func226.trans (congrArg some (by kernel_rfl))
 f21:=Tryz.func185.trans (congrArg some (by kernel_rfl))
 f22:=Tryz.func186.trans (congrArg some (by kernel_rfl))
 f23:=Tryz.func187.trans (congrArg some (by kernel_rfl))
 f24:=Tryz.func188.trans (congrArg some (by kernel_rfl))
 f25:=Tryz.func215.trans (congrArg some (by kernel_rfl))
 f26:=Tryz.func216.trans (congrArg some (by kernel_rfl))
 f27:=Tryz.func43.trans (congrArg some (by kernel_rfl))
 f28:=Tryz.func82.trans (congrArg some (by kernel_rfl))
 f29:=Tryz.func128.trans (congrArg some (by kernel_rfl))
 f30:=Tryz.func170.trans (congrArg some (by kernel_rfl))
 f31:=Tryz.func171.trans (congrArg some (by kernel_rfl))
 f32:=Tryz.func172.trans (congrArg some (by kernel_rfl))
 f33:=Tryz.func173.trans (congrArg some (by kernel_rfl))
 f34:=Tryz.func203.trans (congrArg some (by kernel_rfl))
 f35:=Tryz.func204.trans (congrArg some (by kernel_rfl))
 f36:=Tryz.func205.trans (congrArg some (by kernel_rfl))
 f37:=Tryz.func206.trans (congrArg some (by kernel_rfl))
 f38:=Tryz.func207.trans (congrArg some (by kernel_rfl))
 f39:=Tryz.func221.trans (congrArg some (by kernel_rfl))
 f40:=Tryz.func222.trans (congrArg some (by kernel_rfl))
 t0:=Tryz.underlying0
 a0:=Tryz.isAgg0
 z0:=Tryz.sizeOf0
 v0:=Tryz.zeroValue0
 i0:=by kernel_rfl
 t2:=Tryz.underlying2
 a2:=Tryz.isAgg2
 z2:=Tryz.sizeOf2
 v2:=Tryz.zeroValue2
 i2:=by kernel_rfl
 t3:=Tryz.underlying3
 a3:=Tryz.isAgg3
 z3:=Tryz.sizeOf3
 v3:=Tryz.zeroValue3
 i3:=by kernel_rfl
 t4:=Tryz.underlying4
 a4:=Tryz.isAgg4
 z4:=Tryz.sizeOf4
 v4:=Tryz.zeroValue4
 i4:=by kernel_rfl
 t5:=Tryz.underlying5
 a5:=Tryz.isAgg5
 z5:=Tryz.sizeOf5
 v5:=Tryz.zeroValue5
 i5:=by kernel_rfl
 t9:=Tryz.underlying9
 a9:=Tryz.isAgg9
 z9:=Tryz.sizeOf9
 v9:=Tryz.zeroValue9
 i9:=by kernel_rfl
 t20:=Tryz.underlying20
 a20:=Tryz.isAgg20
 z20:=Tryz.sizeOf20
 v20:=Tryz.zeroValue20
 i20:=by kernel_rfl
 t21:=Tryz.underlying21
 a21:=Tryz.isAgg21
 z21:=Tryz.sizeOf21
 v21:=Tryz.zeroValue21
 i21:=by kernel_rfl
 t22:=Tryz.underlying103
 a22:=Tryz.isAgg103
 z22:=Tryz.sizeOf103
 v22:=Tryz.zeroValue103
 i22:=by kernel_rfl
 t24:=Tryz.underlying120
 a24:=Tryz.isAgg120
 z24:=Tryz.sizeOf120
 v24:=Tryz.zeroValue120
 i24:=by kernel_rfl
 t25:=Tryz.underlying246
 a25:=Tryz.isAgg246
 z25:=Tryz.sizeOf246
 v25:=Tryz.zeroValue246
 i25:=by kernel_rfl
 t34:=Tryz.underlying240
 a34:=Tryz.isAgg240
 z34:=Tryz.sizeOf240
 v34:=Tryz.zeroValue240
 i34:=by kernel_rfl
 c34:=by kernel_rfl
 t36:=Tryz.underlying152
 a36:=Tryz.isAgg152
 z36:=Tryz.sizeOf152
 v36:=Tryz.zeroValue152
 i36:=by kernel_rfl
 t37:=Tryz.underlying69
 a37:=Tryz.isAgg69
 z37:=Tryz.sizeOf69
 v37:=Tryz.zeroValue69
 i37:=by kernel_rfl
 t39:=Tryz.underlying243
 a39:=Tryz.isAgg243
 z39:=Tryz.sizeOf243
 v39:=Tryz.zeroValue243
 i39:=by kernel_rfl
 t44:=Tryz.underlying268
 a44:=Tryz.isAgg268
 z44:=Tryz.sizeOf268
 v44:=Tryz.zeroValue268
 i44:=by kernel_rfl
 t47:=Tryz.underlying165
 a47:=Tryz.isAgg165
 z47:=Tryz.sizeOf165
 v47:=Tryz.zeroValue165
 i47:=by kernel_rfl
 t48:=Tryz.underlying286
 a48:=Tryz.isAgg286
 z48:=Tryz.sizeOf286
 v48:=Tryz.zeroValue286
 i48:=by kernel_rfl
 t50:=Tryz.underlying288
 a50:=Tryz.isAgg288
 z50:=Tryz.sizeOf288
 v50:=Tryz.zeroValue288
 i50:=by kernel_rfl
 t52:=Tryz.underlying225
 a52:=Tryz.isAgg225
 z52:=Tryz.sizeOf225
 v52:=Tryz.zeroValue225
 i52:=by kernel_rfl
 t55:=Tryz.underlying228
 a55:=Tryz.isAgg228
 z55:=Tryz.sizeOf228
 v55:=Tryz.zeroValue228
 i55:=by kernel_rfl
 t59:=Tryz.underlying262
 a59:=Tryz.isAgg262
 z59:=Tryz.sizeOf262
 v59:=Tryz.zeroValue262
 i59:=by kernel_rfl
 t60:=Tryz.underlying234
 a60:=Tryz.isAgg234
 z60:=Tryz.sizeOf234
 v60:=Tryz.zeroValue234
 i60:=by kernel_rfl
 t61:=Tryz.underlying263
 a61:=Tryz.isAgg263
 z61:=Tryz.sizeOf263
 t65:=Tryz.underlying296
 a65:=Tryz.isAgg296
 z65:=Tryz.sizeOf296
 v65:=Tryz.zeroValue296
 i65:=by kernel_rfl
 t66:=Tryz.underlying297
 a66:=Tryz.isAgg297
 z66:=Tryz.sizeOf297
 v66:=Tryz.zeroValue297
 i66:=by kernel_rfl
 t67:=Tryz.underlying114
 a67:=Tryz.isAgg114
 z67:=Tryz.sizeOf114
 v67:=Tryz.zeroValue114
 i67:=by kernel_rfl
 g0:=by kernel_rfl
 m0:=by kernel_rfl
 g1:=by kernel_rfl
 m1:=by kernel_rfl
 g2:=by kernel_rfl
 m2:=by kernel_rfl
 g3:=by kernel_rfl
 m3:=by kernel_rfl
 g4:=by kernel_rfl
 m4:=by kernel_rfl }
open Go.RowKit in
theorem Tryz.strconv_ParseUint_10_at64_ok (s:ByteArray) (hmax:s.size≤9223372036854775806) (u:Nat) (h:Lib.parseUintB 64 s.data.toList = .ok u) (w:World) :
 Calls Tryz.prog 189 #[.string s,.int .i64 10,.int .i64 64] w fun e w'=>e = .returned (.tuple #[.int .u64 u,.nilIface])∧(w'=w∨w'=Lib.bytesWorld w 5 s):=Any.strconv_ParseUint_10_at64_ok Tryz.laysPu14 s hmax u h w
open Go.RowKit in
theorem Tryz.strconv_ParseUint_10_at64_syntax (s:ByteArray) (hlim:s.size≤281474976710656) (h:Lib.parseUintB 64 s.data.toList=Lib.NumEnd.syntax) (ev:Value) (w:World) (hv:w.cell? ⟨2,0,none⟩=some ev) (hev:ev = .nilIface∨∃ te pe,ev = .iface te pe) :
 Calls Tryz.prog 189 #[.string s,.int .i64 10,.int .i64 64] w fun e w'=>∃ N,e = .returned (.tuple #[.int .u64 0,.iface 243 (.pointer (some ⟨N,0,none⟩))])∧w.heap.size≤N∧w'.heap[N]?=some (.cells #[.string ⟨#[80,97,114,115,101,85,105,110,116]⟩,.string s,ev] 268 (0,0))∧Below w.heap.size w w':=Any.strconv_ParseUint_10_at64_syntax Tryz.laysPu14 s hlim h ev w hv hev
open Go.RowKit in
theorem Tryz.strconv_ParseUint_10_at64_range (s:ByteArray) (hlim:s.size≤281474976710656) (h:Lib.parseUintB 64 s.data.toList = .range) (ev:Value) (w:World) (hv:w.cell? ⟨3,0,none⟩=some ev) (hev:ev = .nilIface∨∃ te pe,ev = .iface te pe) :
 Calls Tryz.prog 189 #[.string s,.int .i64 10,.int .i64 64] w fun e w'=>∃ N,e = .returned (.tuple #[.int .u64 18446744073709551615,.iface 243 (.pointer (some ⟨N,0,none⟩))])∧w.heap.size≤N∧w'.heap[N]?=some (.cells #[.string ⟨#[80,97,114,115,101,85,105,110,116]⟩,.string s,ev] 268 (0,0))∧Below w.heap.size w w':=Any.strconv_ParseUint_10_at64_range Tryz.laysPu14 s hlim h ev w hv hev
def Tryz.lays145_ren:Go.Shelf.Ren:=⟨fun | 145=>104 | 220=>154 | 219=>183 | 217=>152 | 225=>211 | 224=>212 | 267=>213 | 266=>191 | 314=>224 | n=>n,fun | 9=>9 | 4=>4 | 59=>117 | 3=>3 | 5=>5 | 46=>152 | 146=>235 | 51=>234 | n=>n,fun | 1=>1 | n=>n⟩
theorem Tryz.lays145:Go.Proofs.Lays.n145 Tryz.prog Tryz.lays145_ren:={
 mixed:=by kernel_rfl
 f145:=Tryz.func104.trans (congrArg some (by kernel_rfl))
 f217:=Tryz.func152.trans (congrArg some (by kernel_rfl))
 f219:=Tryz.func183.trans (congrArg some (by kernel_rfl))
 f220:=Tryz.func154.trans (congrArg some (by kernel_rfl))
 f224:=Tryz.func212.trans (congrArg some (by kernel_rfl))
 f225:=Tryz.func211.trans (congrArg some (by kernel_rfl))
 f266:=Tryz.func191.trans (congrArg some (by kernel_rfl))
 f267:=Tryz.func213.trans (congrArg some (by kernel_rfl))
 f314:=Tryz.func224.trans (congrArg some (by kernel_rfl))
 t3:=Tryz.underlying3
 a3:=Tryz.isAgg3
 z3:=Tryz.sizeOf3
 v3:=Tryz.zeroValue3
 t4:=Tryz.underlying4
 a4:=Tryz.isAgg4
 z4:=Tryz.sizeOf4
 v4:=Tryz.zeroValue4
 t5:=Tryz.underlying5
 a5:=Tryz.isAgg5
 z5:=Tryz.sizeOf5
 v5:=Tryz.zeroValue5
 t9:=Tryz.underlying9
 a9:=Tryz.isAgg9
 z9:=Tryz.sizeOf9
 v9:=Tryz.zeroValue9
 t46:=Tryz.underlying152
 a46:=Tryz.isAgg152
 z46:=Tryz.sizeOf152
 v46:=Tryz.zeroValue152
 t51:=Tryz.underlying234
 a51:=Tryz.isAgg234
 z51:=Tryz.sizeOf234
 v51:=Tryz.zeroValue234
 t59:=Tryz.underlying117
 a59:=Tryz.isAgg117
 z59:=Tryz.sizeOf117
 v59:=Tryz.zeroValue117
 t146:=Tryz.underlying235
 a146:=Tryz.isAgg235
 z146:=Tryz.sizeOf235
 v146:=Tryz.zeroValue235
 g1:=by kernel_rfl }
open Go.RowKit Go.Lib in
theorem Tryz.strings_Cut (s sep:ByteArray) (m:Int) (w:World) (hs:s.size < 4294967281) (hm:w.cell? ⟨1,0,none⟩=some (.int .i64 m)) :
 Calls Tryz.prog 104 #[.string s,.string sep] w fun e w'=>e = .returned (.tuple #[.string ⟨(Lib.cut s.data.toList sep.data.toList).1.toArray⟩,.string ⟨(Lib.cut s.data.toList sep.data.toList).2.1.toArray⟩,.bool (Lib.cut s.data.toList sep.data.toList).2.2])∧∃ n,w'=w.drewN n:=Any.strings_Cut Tryz.lays145 s sep m w hs hm
def Tryz.lays189_ren:Go.Shelf.Ren:=⟨fun | 189=>201 | 125=>220 | 257=>219 | 128=>236 | 129=>204 | 294=>227 | 295=>228 | 296=>229 | 297=>230 | 298=>231 | 299=>232 | 216=>233 | 300=>234 | 301=>235 | 328=>237 | 329=>238 | 330=>239 | 331=>240 | 332=>241 | 215=>242 | 343=>243 | n=>n,fun | 28=>22 | 3=>3 | 46=>152 | 0=>0 | 51=>234 | 53=>103 | 4=>4 | 183=>291 | 182=>290 | 131=>144 | 5=>5 | 9=>9 | 218=>298 | 222=>301 | 228=>303 | 229=>174 | n=>n,fun | n=>n⟩
theorem Tryz.lays189:Go.Proofs.Lays.n189 Tryz.prog Tryz.lays189_ren:= by constructor <;> first | kernel_rfl | (intro _; kernel_rfl)
open Go.Sort Go.RowKit in
theorem Tryz.slices_Sort_int (blk off cap:Nat) (zs:List Int) (w:World) (hH:Holds (Value.int .i64) w blk off zs.toArray) (hblk:blk < w.heap.size) (hsz:zs.length < 4611686018427387904) :
 Calls Tryz.prog 201 #[.slice (some ⟨blk,off,none⟩) zs.length cap] w fun e w'=>
  e = .returned (.tuple #[])∧∃ n os,w'=grow (putRow (Value.int .i64) (Sort.ahead w n) blk off (zs.mergeSort fun x y=>decide (x≤y)).toArray) os:=Any.slices_Sort_int Tryz.lays189 blk off cap zs w hH hblk hsz
def Tryz.lays146_ren:Go.Shelf.Ren:=⟨fun | 146=>46 | 221=>88 | 268=>138 | 138=>139 | 143=>140 | 195=>180 | 197=>181 | 218=>182 | 219=>183 | 260=>210 | 217=>152 | 225=>211 | 224=>212 | 267=>213 | 266=>191 | 314=>224 | n=>n,fun | 9=>9 | 31=>66 | 3=>3 | 4=>4 | 0=>0 | 105=>231 | 21=>21 | 5=>5 | 46=>152 | 119=>279 | 139=>282 | 138=>281 | 146=>235 | 51=>234 | n=>n,fun | 1=>1 | 3=>4 | 4=>5 | n=>n⟩
theorem Tryz.lays146:Go.Proofs.Lays.n146 Tryz.prog Tryz.lays146_ren:={
 mixed:=by kernel_rfl
 f138:=Tryz.func139.trans (congrArg some (by kernel_rfl))
 f143:=Tryz.func140.trans (congrArg some (by kernel_rfl))
 f146:=Tryz.func46.trans (congrArg some (by kernel_rfl))
 f195:=Tryz.func180.trans (congrArg some (by kernel_rfl))
 f197:=Tryz.func181.trans (congrArg some (by kernel_rfl))
 f217:=Tryz.func152.trans (congrArg some (by kernel_rfl))
 f218:=Tryz.func182.trans (congrArg some (by kernel_rfl))
 f219:=Tryz.func183.trans (congrArg some (by kernel_rfl))
 f221:=Tryz.func88.trans (congrArg some (by kernel_rfl))
 f224:=Tryz.func212.trans (congrArg some (by kernel_rfl))
 f225:=Tryz.func211.trans (congrArg some (by kernel_rfl))
 f260:=Tryz.func210.trans (congrArg some (by kernel_rfl))
 f266:=Tryz.func191.trans (congrArg some (by kernel_rfl))
 f267:=Tryz.func213.trans (congrArg some (by kernel_rfl))
 f268:=Tryz.func138.trans (congrArg some (by kernel_rfl))
 f314:=Tryz.func224.trans (congrArg some (by kernel_rfl))
 t0:=Tryz.underlying0
 a0:=Tryz.isAgg0
 z0:=Tryz.sizeOf0
 v0:=Tryz.zeroValue0
 t3:=Tryz.underlying3
 a3:=Tryz.isAgg3
 z3:=Tryz.sizeOf3
 v3:=Tryz.zeroValue3
 t4:=Tryz.underlying4
 a4:=Tryz.isAgg4
 z4:=Tryz.sizeOf4
 v4:=Tryz.zeroValue4
 t5:=Tryz.underlying5
 a5:=Tryz.isAgg5
 z5:=Tryz.sizeOf5
 v5:=Tryz.zeroValue5
 t9:=Tryz.underlying9
 a9:=Tryz.isAgg9
 z9:=Tryz.sizeOf9
 v9:=Tryz.zeroValue9
 t21:=Tryz.underlying21
 a21:=Tryz.isAgg21
 z21:=Tryz.sizeOf21
 v21:=Tryz.zeroValue21
 t31:=Tryz.underlying66
 a31:=Tryz.isAgg66
 z31:=Tryz.sizeOf66
 v31:=Tryz.zeroValue66
 t46:=Tryz.underlying152
 a46:=Tryz.isAgg152
 z46:=Tryz.sizeOf152
 v46:=Tryz.zeroValue152
 t51:=Tryz.underlying234
 a51:=Tryz.isAgg234
 z51:=Tryz.sizeOf234
 v51:=Tryz.zeroValue234
 t105:=Tryz.underlying231
 a105:=Tryz.isAgg231
 z105:=Tryz.sizeOf231
 v105:=Tryz.zeroValue231
 t119:=Tryz.underlying279
 a119:=Tryz.isAgg279
 z119:=Tryz.sizeOf279
 t138:=Tryz.underlying281
 a138:=Tryz.isAgg281
 z138:=Tryz.sizeOf281
 v138:=Tryz.zeroValue281
 t139:=Tryz.underlying282
 a139:=Tryz.isAgg282
 z139:=Tryz.sizeOf282
 v139:=Tryz.zeroValue282
 t146:=Tryz.underlying235
 a146:=Tryz.isAgg235
 z146:=Tryz.sizeOf235
 v146:=Tryz.zeroValue235
 g1:=by kernel_rfl
 g3:=by kernel_rfl
 g4:=by kernel_rfl }
open Go.RowKit Go.Lib in
theorem Tryz.strings_Split (s sep:ByteArray) (m:Int) (w:World) (hs:s.size < 4294967281) (hm:w.cell? ⟨1,0,none⟩=some (.int .i64 m)) (h1:1≤sep.size) :
 Calls Tryz.prog 46 #[.string s,.string sep] w fun e w'=>
  e = .returned (.slice (some ⟨w.heap.size,0,none⟩) (Lib.countB s sep+1) (Lib.countB s sep+1))∧w'=w.alloc (.cells ((Lib.splitB sep 0 (Lib.countB s sep) s).map Value.string).toArray 9):=Any.strings_Split Tryz.lays146 (by kernel_rfl) s sep m w hs hm h1
def Tryz.lays105_ren:Go.Shelf.Ren:=⟨fun | 105=>86 | 212=>134 | 99=>135 | 165=>87 | 166=>60 | 170=>136 | 169=>56 | 263=>177 | 264=>178 | 206=>151 | 240=>103 | 241=>137 | 276=>153 | 277=>179 | n=>n,fun | 9=>9 | 3=>3 | 4=>4 | 20=>20 | 0=>0 | 46=>152 | 109=>199 | 5=>5 | 72=>108 | 76=>121 | 51=>234 | 146=>235 | 53=>103 | 148=>237 | 70=>106 | 37=>69 | 75=>120 | 127=>165 | 164=>211 | 80=>114 | n=>n,fun | n=>n⟩
theorem Tryz.lays105:Go.Proofs.Lays.n105 Tryz.prog Tryz.lays105_ren:= by constructor <;> first | kernel_rfl | (intro _; kernel_rfl)
theorem Tryz.Builder_Extra_105:Builder.Extra Tryz.prog Tryz.lays105_ren:={
 sizeBuilder:=by kernel_rfl
 liesBuilder:=by kernel_rfl
 t5:=Tryz.underlying5
 a5:=Tryz.isAgg5
 z5:=Tryz.sizeOf5
 v5:=Tryz.zeroValue5
 infoByte:=by kernel_rfl
 cellsByte:=by kernel_rfl
 sizeByte:=by kernel_rfl
 neB5:=by decide }
open Go.RowKit Go.Lib in
theorem Tryz.strings_Repeat (s:ByteArray) (c:Nat) (w:World) (hc:c≤9223372036854775807) (hlen:s.size*c≤140737488355328) :
 Calls Tryz.prog 86 #[.string s,.int .i64 c] w fun e w'=>e = .returned (.string ⟨(Lib.repeatL s.data.toList c).toArray⟩)∧Below w.heap.size w w':=Any.strings_Repeat Tryz.lays105 Tryz.Builder_Extra_105 s c w hc hlen
def Tryz.laysNm220_ren:Go.Shelf.Ren:=⟨fun | 20=>202 | n=>n,fun | 22=>22 | 3=>3 | 4=>4 | 0=>0 | n=>n,fun | n=>n⟩
theorem Tryz.laysNm220:Go.Proofs.Lays2.n20 Tryz.prog Tryz.laysNm220_ren:={
 mixed:=by kernel_rfl
 f20:=Tryz.func202.trans (congrArg some (by kernel_rfl))
 t0:=Tryz.underlying0
 a0:=Tryz.isAgg0
 z0:=Tryz.sizeOf0
 v0:=Tryz.zeroValue0
 t3:=Tryz.underlying3
 a3:=Tryz.isAgg3
 z3:=Tryz.sizeOf3
 v3:=Tryz.zeroValue3
 t4:=Tryz.underlying4
 a4:=Tryz.isAgg4
 z4:=Tryz.sizeOf4
 v4:=Tryz.zeroValue4
 t22:=Tryz.underlying22
 a22:=Tryz.isAgg22
 z22:=Tryz.sizeOf22
 v22:=Tryz.zeroValue22
 i3:=by kernel_rfl }
open Go.RowKit Go.Lib Go.Sort in
theorem Tryz.slices_Compact_int (blk off cap:Nat) (zs:List Int) (w:World) (hH:Holds (Value.int .i64) w blk off zs.toArray) (hsz:zs.length≤9223372036854775807) (hcap:zs.length≤cap) :
 Calls Tryz.prog 202 #[.slice (some ⟨blk,off,none⟩) zs.length cap] w fun e w'=>e = .returned (.slice (some ⟨blk,off,none⟩) (Lib.compact zs).length cap)∧∃ q,w'=putRow (Value.int .i64) (Sort.ahead w q) blk off (Lib.compact zs++List.replicate (zs.length - (Lib.compact zs).length) 0).toArray:=Any.slices_Compact_int Tryz.laysNm220 blk off cap zs w hH hsz hcap
open Go.RowKit Go.Lib Go.Sort in
theorem Tryz.slices_Compact_int_empty (a:Option Addr) (cap:Nat) (w:World) :
 Calls Tryz.prog 202 #[.slice a 0 cap] w fun e w'=>e = .returned (.slice a 0 cap)∧w'=w:=Any.slices_Compact_int_empty Tryz.laysNm220 a cap w
open Go.RowKit Go.Sort in
theorem Tryz.slices_Sort_int_none (p:Option Addr) (cap:Nat) (w:World) :
 Calls Tryz.prog 201 #[.slice p 0 cap] w fun e w'=>e = .returned (.tuple #[])∧w'=w:=Any.slices_Sort_int_none Tryz.lays189 p cap w
def Tryz.laysSlH6_f200_ren:Go.Shelf.Ren:=⟨fun | 6=>200 | n=>n,fun | 22=>22 | 23=>3 | 25=>91 | 3=>3 | 0=>0 | 4=>4 | n=>n,fun | n=>n⟩
theorem Tryz.laysSlH6_f200:Go.Proofs.SlLaysH.n6 Tryz.prog Tryz.laysSlH6_f200_ren:={
 mixed:=by kernel_rfl
 f6:=⟨Tryz.f200.name,by decide,Tryz.func200.trans (congrArg some (by kernel_rfl))⟩
 t0:=Tryz.underlying0
 a0:=Tryz.isAgg0
 z0:=Tryz.sizeOf0
 v0:=Tryz.zeroValue0
 t3:=Tryz.underlying3
 a3:=Tryz.isAgg3
 z3:=Tryz.sizeOf3
 v3:=Tryz.zeroValue3
 t4:=Tryz.underlying4
 a4:=Tryz.isAgg4
 z4:=Tryz.sizeOf4
 v4:=Tryz.zeroValue4
 t22:=Tryz.underlying22
 a22:=Tryz.isAgg22
 z22:=Tryz.sizeOf22
 v22:=Tryz.zeroValue22
 a23:=Tryz.isAgg3
 z23:=Tryz.sizeOf3
 t25:=Tryz.underlying91
 a25:=Tryz.isAgg91
 z25:=Tryz.sizeOf91
 v25:=Tryz.zeroValue91 }
open Go.RowKit Go.Lib in
theorem Tryz.slices_IndexFunc_empty {α:Type} [Inhabited α] (a:Option Addr) (c:Nat) (fv:Value) (w:World) :
 Calls Tryz.prog 200 #[.slice a 0 c,fv] w fun e w'=>e = .returned (.int .i64 (-1))∧w'=w:=AnyE.slices_IndexFunc_empty Tryz.laysSlH6_f200 a c fv w
def Tryz.laysSlH10_f167_ren:Go.Shelf.Ren:=⟨fun | 10=>167 | 6=>200 | n=>n,fun | 22=>22 | 23=>3 | 25=>91 | 3=>3 | 4=>4 | 0=>0 | n=>n,fun | n=>n⟩
theorem Tryz.laysSlH10_f167:Go.Proofs.SlLaysH.n10 Tryz.prog Tryz.laysSlH10_f167_ren:={
 mixed:=by kernel_rfl
 f6:=⟨Tryz.f200.name,by decide,Tryz.func200.trans (congrArg some (by kernel_rfl))⟩
 f10:=⟨Tryz.f167.name,by decide,Tryz.func167.trans (congrArg some (by kernel_rfl))⟩
 t0:=Tryz.underlying0
 a0:=Tryz.isAgg0
 z0:=Tryz.sizeOf0
 v0:=Tryz.zeroValue0
 t3:=Tryz.underlying3
 a3:=Tryz.isAgg3
 z3:=Tryz.sizeOf3
 v3:=Tryz.zeroValue3
 t4:=Tryz.underlying4
 a4:=Tryz.isAgg4
 z4:=Tryz.sizeOf4
 v4:=Tryz.zeroValue4
 t22:=Tryz.underlying22
 a22:=Tryz.isAgg22
 z22:=Tryz.sizeOf22
 v22:=Tryz.zeroValue22
 a23:=Tryz.isAgg3
 z23:=Tryz.sizeOf3
 t25:=Tryz.underlying91
 a25:=Tryz.isAgg91
 z25:=Tryz.sizeOf91
 v25:=Tryz.zeroValue91 }
open Go.RowKit Go.Lib Go.Sort in
theorem Tryz.slices_DeleteFunc {α:Type} [Inhabited α] (enc:α→Value) (hO:OneCell enc) (p:α→Bool) (g:Nat) (lb:Array Value) (eg:∀ args w,(callFunc g args).run Tryz.prog w = .ok (.enter g args) w) (zr:α) (v23:∀ w,(zeroValue 3).run Tryz.prog w = .ok (enc zr) w) (blk off cap:Nat) (d:Array α) (w:World) (hp:PredAt Tryz.prog g lb enc p w) (hpo:PredOver Tryz.prog g lb enc p blk off d.size w) (hH:Holds enc w blk off d) (hsz:d.size≤9223372036854775807) (hcap:d.size≤cap) :
 Calls Tryz.prog 167 #[.slice (some ⟨blk,off,none⟩) d.size cap,.func (.func g) #[] lb] w fun e w'=>e = .returned (.slice (some ⟨blk,off,none⟩) (d.toList.filter fun x=>!p x).length cap)∧∃ q,w'=putRow enc (Sort.ahead w q) blk off ((d.toList.filter fun x=>!p x)++List.replicate (d.size - (d.toList.filter fun x=>!p x).length) zr).toArray:=AnyE.slices_DeleteFunc Tryz.laysSlH10_f167 enc hO p g lb eg zr v23 blk off cap d w hp hpo hH hsz hcap
end Go.Proofs
namespace Go.FM
open Go Go.Proofs Go.RowKit Go.Sort Go.Lib
set_option maxHeartbeats 12800000 in
theorem yel (u:Nat) (hu64:u < 18446744073709551616) (w:World) (htab:Lib.TabIs Tryz.prog w "internal/strconv.uint64pow10" .u64 Lib.pow10Tab) :
  Calls Tryz.prog 129 #[.int .u64 u,.int .i64 10] w fun e w'=>e = .returned (.string ⟨(Lib.decDigits u).toArray⟩)∧∃ k os,w'=grow (w.drewN k) os:=by
 by_cases hs:u < 100
 ·have hwr:IntKind.i64.wrap (u:Int)=(u:Int):=by rw [IntKind.wrap_i64]; omega
  have iu:(u:Int) < 100:=by omega
  go_enter Tryz.func129,Tryz.ntmps129
  go_wp2_with (go_at_call 170; refine (Tryz.internal_strconv_small u hs _).mono ?_; rintro e w' ⟨rfl,rfl⟩)
  go_ret
  exact ⟨rfl,0,#[],by simp [World.drewN_zero]⟩
 ·have hu1:1≤u:=by omega
  have hnd20:Lib.nDigits u≤20:=by have:=Lib.numDigits_eq u hu1 hu64; split at this <;> omega
  have hal:Tryz.prog.arrayLen 225=24:=by simp [Program.arrayLen,Tryz.underlying225]
  have hsl:∀ W,(Instr.sliceAt 225 (.pointer (some ⟨w.heap.size,0,none⟩)) none (some (.int .i64 (Lib.nDigits u:Int))) none).run Tryz.prog W = .ok (.slice (some ⟨w.heap.size,0,none⟩) (Lib.nDigits u) 24) W:=fun W=>by
   rw [run_sliceAt_array_h W 225 ⟨w.heap.size,0,none⟩ (by simp [Program.arrayLen,Program.elem,Tryz.underlying225]) .i64 (Lib.nDigits u:Int) (by omega) (by rw [hal]; omega)]
   go_simp
  have hH0:=Lib.holds_zero0 w 225 (Lib.nDigits u) (by omega)
  have hfmt:=Tryz.internal_strconv_formatBase10 w.heap.size 0 24 u (Array.replicate (Lib.nDigits u) 0) (w.alloc (.cells Lib.zeros24 225)) hH0 (by rw [v38]; exact Lib.lt_pow_nDigits u) hu64 (by rw [v38]; omega)
  rw [v38] at hfmt;have HH0:=Lib.hid hH0;have iu:¬ (u:Int) < 100:=by omega
  clear hH0 hal hs
  go_enter Tryz.func129,Tryz.ntmps129
  go_wp2_with (first
   | (go_at_call 171; refine (Tryz.internal_strconv_numDigits u hu1 hu64 _ (Lib.tabIs_alloc htab _)).mono ?_; rintro e w' ⟨rfl,rfl⟩))
  go_at_call 172
  refine hfmt.mono ?_
  rintro e w' ⟨rfl,k,v',dk,rfl,hF⟩
  have hcv:(convert 69 9 (.slice (some ⟨w.heap.size,0,none⟩) (Lib.nDigits u) 24)).run Tryz.prog ((putRow (fun (b:UInt8)=>Value.int .u8 (b.toNat:Int)) (w.alloc (.cells Lib.zeros24 225)) w.heap.size 0 dk).drewN k) = .ok (.string ⟨(Lib.decDigits u).toArray⟩) ((putRow (fun (b:UInt8)=>Value.int .u8 (b.toNat:Int)) (w.alloc (.cells Lib.zeros24 225)) w.heap.size 0 dk).drewN k):=by
   have h:=run_convert_bytes_back (P:=Tryz.prog) ((putRow (fun (b:UInt8)=>Value.int .u8 (b.toNat:Int)) (w.alloc (.cells Lib.zeros24 225)) w.heap.size 0 dk).drewN k) 69 9 5 ⟨w.heap.size,0,none⟩ 24 (Lib.decDigits u) Tryz.underlying69 Tryz.underlying5 Tryz.underlying9 (fun j hj=>by
    rw [Lib.row_is_numeral hF j hj,Lib.add_plain,World.cell?_drewN];exact cell?_putRow (fun (b:UInt8)=>Value.int .u8 (b.toNat:Int)) _ w.heap.size 0 _ dk HH0.out (by rw [hF.size,v38]) j (by rw [hF.size]; rw [Lib.decDigits_length] at hj; exact hj))
   rw [Lib.decDigits_length] at h;exact h
  go_wp2
  go_ret
  obtain ⟨os,eo⟩:=Lib.fin_at w (.cells Lib.zeros24 225) dk k 0;exact ⟨rfl,k,os,eo⟩
set_option maxHeartbeats 1600000 in
theorem ykj (u:Nat) (hu64:u < 18446744073709551616) (w:World) (htab:Lib.TabIs Tryz.prog w "internal/strconv.uint64pow10" .u64 Lib.pow10Tab) :
  Calls Tryz.prog 83 #[.int .u64 u,.int .i64 10] w fun e w'=>e = .returned (.string ⟨(Lib.decDigits u).toArray⟩)∧∃ k os,w'=grow (w.drewN k) os:=by
 go_enter Tryz.func83,Tryz.ntmps83
 go_wp2_with (go_at_call 129; refine (yel u hu64 _ htab).mono ?_; rintro e w' ⟨rfl,hw⟩)
 go_ret
 exact ⟨rfl,hw⟩
theorem yf2:(PR.info? 9).map (fun i=>(i.zero,i.size,i.bytes))=some (some (.string .empty),1,16):=by kernel_rfl
set_option maxHeartbeats 4000000 in
theorem ycl (b:Addr) (n c:Nat) (news:List Value) (w:World) (hl:news.length=n) (hn:n≤maxLen) (hbig:n*16≤140737488355328)
  (hc:∀ j u,news[j]?=some u→w.cell? (b.add j)=some u) (h1:∀ u∈news,u.oneCell'=true) :
  Calls Tryz.prog 161 #[.slice (some b) n c] w fun e w'=>∃ v',e = .returned v'∧w'.ownsRow w.heap.size 9 1 v' n news∧Below w.heap.size w w':=by
 obtain ⟨i0,hi,hz0,hz1,hz2⟩:=info_parts yf2;have qS:∀ (w:World) (a:Option Addr) (n c n' c':Nat),(binOp .eql 66 (.slice a n c) (.slice none n' c')).run Tryz.prog w = .ok (.bool a.isNone) w:=fun w a n c n' c'=>Lib.run_eql_slice_nil w _ _ a n c n' c' Tryz.underlying66
 have A:Aside (∀ j u,news[j]?=some u→w.cell? (b.add j)=some u):=hc;clear hc
 go_enter Tryz.func161,Tryz.ntmps161
 go_wp2_with (at_builtin; refine wpList_append_own _ rfl _ _ 66 rfl w.heap.size 9 i0 (.string .empty) 1 16 Tryz.underlying66 hi hz0 hz1 hz2 rfl (by decide) _ _ _ rfl (World.ownsRow_made w #[] 0 (v08 _) (v0y _) (by simp)) b n c news rfl ?qc1 ?qc2 ?qc3 ?qc4 ?qc5 ?qc6 ?_)
 case qc1=>rw [v3u]; exact hl
 case qc2=>
  intro j u hj;exact Lib.cell?_alloc_some _ (A.out j u hj)
 case qc3=>exact h1
 case qc4=>rw [v0n]; exact hn
 case qc5=>rw [v0n]; exact hbig
 case qc6=>simp
 intro v' w1 hown hgrow hnil
 go_wp2
 go_ret
 refine ⟨v',rfl,by simpa using hown,?_⟩
 exact ((Below.refl _ w).alloc (v08 _) _).grown hgrow (by simp) (by intro k hk; simp [Value.ownBlock] at hk; omega)
set_option maxHeartbeats 1000000 in
theorem ybr (n c:Nat) (w:World):Calls Tryz.prog 161 #[.slice none n c] w fun e w'=>e = .returned (.slice none 0 0)∧w'=w:=by
 have qS:∀ (w:World) (a:Option Addr) (n c n' c':Nat),(binOp .eql 66 (.slice a n c) (.slice none n' c')).run Tryz.prog w = .ok (.bool a.isNone) w:=fun w a n c n' c'=>Lib.run_eql_slice_nil w _ _ a n c n' c' Tryz.underlying66
 go_enter Tryz.func161,Tryz.ntmps161
 go_wp2
 go_ret
 exact ⟨rfl,rfl⟩
open Go Go.RowKit
def z30:z0n
 | [.list false [.str] l]=>.br (decide (l.length≤4294967296)) (.ok (.vec 9 false [.str] l) []) .no
 | _=>.no
def z27:z0n
 | [.list false [.str] l,.str s]=>.ok (.int .i64 (zfc l s 0)) []
 | _=>.no
open Go Go.Proofs Go.RowKit
structure GF (h:Nat→Option Obj):Prop where
 unit:True
 gm:∃ c T fr m,h 1=some (.cells c T fr)∧c[0]?=some (.int .i64 m)
 gp:∃ T fr,h 0=some (.cells (Lib.pow10Tab.map fun z=>Value.int .u64 z).toArray T fr)
 gs:∃ c T fr te pe,h 2=some (.cells c T fr)∧c[0]?=some (.iface te pe)
 gr:∃ c T fr te pe,h 3=some (.cells c T fr)∧c[0]?=some (.iface te pe)
def B0:BT:={ T:=108,e:=5,ng:=4,F:=GF }
theorem zld {w:World} {h:Nat→Option Obj} (hh:h=fun b=>if b < B0.ng then w.heap[b]? else none) {g:Nat} (hg:g < 4) {o:Obj} (ho:h g=some o):w.heap[g]?=some o:=by
 rw [hh] at ho;simp only at ho;rw [v1c (show g < B0.ng from hg)] at ho
 exact ho
theorem y75 {w:World} (h:Glob B0 w):∃ m,w.cell? ⟨1,0,none⟩=some (.int .i64 m):=by
 obtain ⟨c,T,fr,m,h1,h2⟩:=h.2.gm;exact ⟨m,by simp only [World.cell?,zld rfl (by decide) h1]; exact h2⟩
theorem y6m {w:World} (h:Glob B0 w):Lib.TabIs Tryz.prog w "internal/strconv.uint64pow10" .u64 Lib.pow10Tab:=by
 obtain ⟨T,fr,h1⟩:=h.2.gp;have hn:Tryz.prog.globalNamed "internal/strconv.uint64pow10" = some 0:=by kernel_rfl
 unfold Lib.TabIs World.var?;rw [hn];simp only [Option.bind_some,zld rfl (by decide) h1]
theorem y7m {w:World} (h:Glob B0 w):∃ ev,w.cell? ⟨2,0,none⟩=some ev∧(ev = .nilIface∨∃ te pe,ev = .iface te pe):=by
 obtain ⟨c,T,fr,te,pe,h1,h2⟩:=h.2.gs;exact ⟨_,by simp only [World.cell?,zld rfl (by decide) h1]; exact h2,.inr ⟨te,pe,rfl⟩⟩
theorem y7c {w:World} (h:Glob B0 w):∃ ev,w.cell? ⟨3,0,none⟩=some ev∧(ev = .nilIface∨∃ te pe,ev = .iface te pe):=by
 obtain ⟨c,T,fr,te,pe,h1,h2⟩:=h.2.gr;exact ⟨_,by simp only [World.cell?,zld rfl (by decide) h1]; exact h2,.inr ⟨te,pe,rfl⟩⟩
theorem Keep.below {w w':World} (h:Below w.heap.size w w'):Keep (fun _=>False) w w':=⟨h.os,h.tape,h.output,h.size,fun b hb _=>h.block b hb⟩
theorem Keep.drewN {O:Nat→Prop} (w:World):∀ n,Keep O w (w.drewN n):=fun _=>⟨rfl,rfl,rfl,v08 _,fun _ _ _=>rfl⟩
theorem Keep.grow (w:World) (os:Array Obj):Keep (fun _=>False) w (Go.Sort.grow w os):=⟨rfl,rfl,rfl,by simp [Go.Sort.grow],fun b hb _=>by simp [Go.Sort.grow,v2z hb]⟩
theorem z3i:z2u PR B0 60 z0v:=by
 intro w X γ vs xs r out hsp hg hx hR hV;unfold z0v at hsp;simp only at hsp
 split at hsp
 ·rename_i s t
  cases hc:decide (s.size+t.size≤strMax) with
  | false=>rw [hc] at hsp; simp [R.get] at hsp
  | true=>
   rw [hc] at hsp;simp only [R.get,v00,v04] at hsp;obtain ⟨rfl,rfl⟩:=hsp;have hle:s.size+t.size≤strMax:=v0d hc;refine y3u hR rfl rfl (fun γ' o w' O x h=>by
    simp only [VRel] at h ⊢
    obtain ⟨cs,rfl,h⟩:=h;refine ⟨cs,rfl,?_⟩
    match cs,h with
    | ⟨[a,b]⟩,h=>simp only [VRels,VRel] at h ⊢; exact h) (fun b v p hgm hB=>?_)
   obtain ⟨x0,x1,rfl⟩:∃ x0 x1,xs=[x0,x1]:=by
    have:=hV.length
    simp at this
    match xs,this with
    | [a,b],_=>exact ⟨a,b,rfl⟩
   simp only [v0e,v10,z8p,VRels] at hV;have h0:=y3m hgm hV.1;have h1:=hV.2.1;simp only [VRel] at h1;obtain ⟨rfl,ht⟩:=h1;subst h0;refine Does.of_calls Tryz.func60 (by kernel_rfl) (by kernel_rfl) ((zqz b p v (Lib.strCells s) t w hB.self hB.heap (by rw [Lib.strCells_length]; exact hB.own) hB.ne (by rw [Lib.strCells_length]; unfold strMax at hle; omega)).mono ?_)
   rintro e w' ⟨rfl,v',q1,q2,q3,q4,q5⟩
   refine ⟨_,rfl,⟨_,v',⟨.inr rfl,q1,?_,q3,?_⟩,q4,q5⟩,fun O=>?_⟩
   ·have e1:Lib.strCells (s++t)=Lib.strCells s++Lib.strCells t:=by simp [Lib.strCells]
    have e2:(s++t).size=(Lib.strCells s++Lib.strCells t).length:=by simp [Lib.strCells_length]
    rw [e1,e2];exact q2
   ·simp only [v0f]; exact hle
   ·simp only [VRel]
    refine ⟨_,rfl,?_⟩;simp only [VRels,VRel,ic,v18];refine ⟨trivial,?_,?_⟩
    ·have:IntKind.i64.min = -9223372036854775808:=rfl
     omega
    ·have:IntKind.i64.max=9223372036854775807:=rfl
     unfold strMax at hle;omega
 ·simp [R.get] at hsp
theorem y5r {c:Int} (h0:IntKind.u8.min≤c) (h1:c≤IntKind.u8.max):(Value.int .u8 ((zde c).toNat:Int)) = .int .u8 c:=by
 have e1:IntKind.u8.min=0:=rfl;have e2:IntKind.u8.max=255:=rfl
 have:((zde c).toNat:Int)=c:=by
  unfold zde;rw [UInt8.toNat_ofNat_of_lt' (by simp [UInt8.size]; omega)]
  omega
 rw [this]
theorem z6l:z2u PR B0 97 z1p:=by
 intro w X γ vs xs r out hsp hg hx hR hV;unfold z1p at hsp;simp only at hsp
 split at hsp
 ·rename_i s c
  cases hc:decide (s.size+1≤strMax) with
  | false=>rw [hc] at hsp; simp [R.get] at hsp
  | true=>
   rw [hc] at hsp;simp only [R.get,v00,v04] at hsp;obtain ⟨rfl,rfl⟩:=hsp;have hle:s.size+1≤strMax:=v0d hc;refine y3u hR rfl rfl (fun γ' o w' O x h=>by simp only [VRel] at h ⊢; exact h) (fun b v p hgm hB=>?_)
   obtain ⟨x0,x1,rfl⟩:∃ x0 x1,xs=[x0,x1]:=by
    have:=hV.length
    simp at this
    match xs,this with
    | [a,b],_=>exact ⟨a,b,rfl⟩
   simp only [v0e,v10,z8p,VRels] at hV;have h0:=y3m hgm hV.1;have h1:=hV.2.1;simp only [VRel] at h1;obtain ⟨rfl,hc0,hc1⟩:=h1;subst h0;refine Does.of_calls Tryz.func97 (by kernel_rfl) (by kernel_rfl) ((zy3 b p v (Lib.strCells s) c w hB.self hB.heap (by rw [Lib.strCells_length]; exact hB.own) hB.ne (by rw [Lib.strCells_length]; unfold strMax at hle; omega)).mono ?_)
   rintro e w' ⟨rfl,v',q1,q2,q3,q4,q5⟩
   refine ⟨_,rfl,⟨_,v',⟨.inr rfl,q1,?_,q3,?_⟩,q4,q5⟩,fun O=>by simp only [VRel]⟩
   ·have e1:Lib.strCells (s.push (zde c))=Lib.strCells s++[.int .u8 c]:=by
     rw [← y5r hc0 hc1];simp [Lib.strCells]
    have e2:(s.push (zde c)).size=(Lib.strCells s++[Value.int .u8 c]).length:=by simp [Lib.strCells_length]
    rw [e1,e2];exact q2
   ·simp only [v3f]; exact hle
 ·simp [R.get] at hsp
theorem z4s:z2u PR B0 56 z1b:=by
 intro w X γ vs xs r out hsp hg hx hR hV;unfold z1b at hsp;simp only at hsp
 split at hsp
 ·rename_i s
  simp only [R.get,v00,v04] at hsp;obtain ⟨rfl,rfl⟩:=hsp;refine y3u hR rfl rfl (fun γ' o w' O x h=>by simp only [VRel] at h ⊢; exact h) (fun b v p hgm hB=>?_)
  obtain ⟨x0,rfl⟩:∃ x0,xs=[x0]:=by
   have:=hV.length
   simp at this
   match xs,this with
   | [a],_=>exact ⟨a,rfl⟩
  simp only [v0e,v10,z8p,VRels] at hV;have h0:=y3m hgm hV.1;subst h0;refine Does.of_calls Tryz.func56 (by kernel_rfl) (by kernel_rfl) ((y97 b p v s w hB.heap hB.own hB.ne).mono ?_)
  rintro e w' ⟨rfl,q1,q2,q3⟩
  exact ⟨_,rfl,⟨p,v,⟨hB.self,q1,q2,hB.ne,hB.size⟩,q3,fun k hk=>.inl hk⟩,fun O=>by simp only [VRel]; exact ⟨trivial,hB.size⟩⟩
 ·simp [R.get] at hsp
theorem z8h:z2u PR B0 43 z2x:=by
 intro w X γ vs xs r out hsp hg hx hR hV;unfold z2x at hsp;simp only at hsp
 split at hsp
 ·rename_i n
  simp only [R.get,v00,v04] at hsp;obtain ⟨rfl,rfl⟩:=hsp;obtain ⟨x0,rfl⟩:∃ x0,xs=[x0]:=by
   have:=hV.length
   simp at this
   match xs,this with
   | [a],_=>exact ⟨a,rfl⟩
  simp only [v0e,v10,z8p,VRels,VRel,v18] at hV;obtain ⟨rfl,h0,h1⟩:=hV;refine z87 hR rfl rfl (Does.of_calls Tryz.func43 (by kernel_rfl) (by kernel_rfl) ((Tryz.strconv_Itoa n h0 h1 w (y6m hg)).mono ?_))
  rintro e w' ⟨rfl,k,os,rfl⟩
  exact ⟨_,rfl,((Keep.drewN w k).trans (Keep.grow _ os) (fun _ _ h=>h)),fun O _=>by
   simp only [VRel];exact ⟨rfl,by have:=zm5 h0 h1; unfold strMax; omega⟩⟩
 ·simp [R.get] at hsp
theorem zfe:z2u PR B0 90 z6s:=by
 intro w X γ vs xs r out hsp hg hx hR hV;unfold z6s at hsp;simp only at hsp
 split at hsp
 ·rename_i s
  simp only [R.get,v00,v04] at hsp;obtain ⟨rfl,rfl⟩:=hsp;obtain ⟨x0,rfl⟩:∃ x0,xs=[x0]:=by
   have:=hV.length
   simp at this
   match xs,this with
   | [a],_=>exact ⟨a,rfl⟩
  simp only [v0e,v10,z8p,VRels,VRel,v18] at hV;obtain ⟨rfl,hs⟩:=hV;unfold strMax at hs;have hb:=y5s s;refine z87 hR rfl rfl (Does.of_calls Tryz.func90 (by kernel_rfl) (by kernel_rfl) ?_)
  cases ha:Lib.atoiAll s.data.toList
  ·rename_i v
   refine (Tryz.strconv_Atoi_ok s (by omega) v ha w).mono ?_
   rintro e w' ⟨rfl,hw⟩
   have e1:z6m s=v:=by unfold z6m; rw [ha]
   have e2:zsk s=true:=by unfold zsk; rw [ha]
   rw [e1] at hb ⊢
   rw [e2];refine ⟨_,rfl,?_,fun O _=>?_⟩
   ·rcases hw with rfl | ⟨t,rfl⟩
    ·exact Keep.refl _ _
    ·unfold Lib.bytesWorld
     have h1:=Keep.alloc (fun _=>False) w.drew (.cells (Lib.bytesCells w 5 t) 5)
     refine ((Keep.drew (fun _=>False) w).trans h1 (fun _ _ h=>h)).trans (Keep.freeze (O:=fun k=>k=w.heap.size) _ ⟨w.heap.size,_,none⟩ 1 rfl) (fun b hb h=>?_)
     subst h;exact absurd hb (Nat.lt_irrefl _)
   ·simp only [VRel]
    exact ⟨_,rfl,by simp only [VRels,VRel,v18,v43]; exact hb⟩
  ·skip
   obtain ⟨ev,h1,h2⟩:=y7m hg;refine (Tryz.strconv_Atoi_syntax s (by omega) ha ev w h1 h2).mono ?_
   rintro e w' ⟨N,rfl,_,_,hw⟩
   have e1:z6m s=0:=by unfold z6m; rw [ha]
   have e2:zsk s=false:=by unfold zsk; rw [ha]
   rw [e1] at hb ⊢
   rw [e2];refine ⟨_,rfl,Keep.below hw,fun O _=>?_⟩
   simp only [VRel];exact ⟨_,rfl,by simp only [VRels,VRel,v18]; exact ⟨⟨trivial,hb⟩,_,_,rfl⟩⟩
  ·skip
   obtain ⟨ev,h1,h2⟩:=y7c hg;refine (Tryz.strconv_Atoi_range s (by omega) ha ev w h1 h2).mono ?_
   rintro e w' ⟨N,rfl,_,_,hw⟩
   have e1:z6m s=Lib.atoiSat s.data.toList:=by unfold z6m; rw [ha]
   have e2:zsk s=false:=by unfold zsk; rw [ha]
   rw [e1] at hb ⊢
   rw [e2];refine ⟨_,rfl,Keep.below hw,fun O _=>?_⟩
   simp only [VRel];exact ⟨_,rfl,by simp only [VRels,VRel,v18]; exact ⟨⟨trivial,hb⟩,_,_,rfl⟩⟩
 ·simp [R.get] at hsp
theorem zg1:z2u PR B0 83 z5m:=by
 intro w X γ vs xs r out hsp hg hx hR hV;unfold z5m at hsp;simp only at hsp
 split at hsp
 ·rename_i n b
  cases hc:decide (b=10) with
  | false=>rw [hc] at hsp; simp [R.get] at hsp
  | true=>
   rw [hc] at hsp;have hb:=v0d hc;subst hb;simp only [R.get,v00,v04] at hsp;obtain ⟨rfl,rfl⟩:=hsp;obtain ⟨x0,x1,rfl⟩:∃ x0 x1,xs=[x0,x1]:=by
    have:=hV.length
    simp at this
    match xs,this with
    | [a,b],_=>exact ⟨a,b,rfl⟩
   simp only [v0e,v10,z8p,VRels,VRel,v18] at hV;obtain ⟨⟨rfl,h0,h1⟩,rfl,_⟩:=hV;have e0:IntKind.u64.min=0:=rfl;have e1:IntKind.u64.max=18446744073709551615:=rfl;rw [e0] at h0;rw [e1] at h1;obtain ⟨u,rfl⟩:∃ u:Nat,n=u:=⟨n.toNat,by omega⟩
   refine z87 hR rfl rfl (Does.of_calls Tryz.func83 (by kernel_rfl) (by kernel_rfl) ((ykj u (by omega) w (y6m hg)).mono ?_))
   rintro e w' ⟨rfl,k,os,rfl⟩
   refine ⟨_,rfl,((Keep.drewN w k).trans (Keep.grow _ os) (fun _ _ h=>h)),fun O _=>?_⟩
   simp only [VRel];have hz:=zsp h0 h1;exact ⟨by simp [za0],by unfold strMax; omega⟩
 ·simp [R.get] at hsp
theorem zgw:z2u PR B0 189 z6i:=by
 intro w X γ vs xs r out hsp hg hx hR hV;unfold z6i at hsp;simp only at hsp
 split at hsp
 ·rename_i s b c
  cases hc:(decide (b=10)&&decide (c=64)) with
  | false=>rw [hc] at hsp; simp [R.get] at hsp
  | true=>
   rw [hc] at hsp;simp only [v02,v06] at hc;obtain ⟨rfl,rfl⟩:=hc;simp only [R.get,v00,v04] at hsp;obtain ⟨rfl,rfl⟩:=hsp;obtain ⟨x0,x1,x2,rfl⟩:∃ x0 x1 x2,xs=[x0,x1,x2]:=by
    have:=hV.length
    simp at this
    match xs,this with
    | [a,b,c],_=>exact ⟨a,b,c,rfl⟩
   simp only [v0e,v10,z8p,VRels,VRel,v18] at hV;obtain ⟨⟨rfl,hs⟩,⟨rfl,_⟩,rfl,_⟩:=hV;unfold strMax at hs;have hb:=zqf s;refine z87 hR rfl rfl (Does.of_calls Tryz.func189 (by kernel_rfl) (by kernel_rfl) ?_)
   cases ha:Lib.parseMag s.data.toList
   ·rename_i v
    refine (Tryz.strconv_ParseUint_10_at64_ok s (by omega) v (by rw [Lib.parseUintB_64]; exact ha) w).mono ?_
    rintro e w' ⟨rfl,hw⟩
    have e1:puV s=v:=by unfold puV; rw [ha]
    have e2:puN s=true:=by unfold puN; rw [ha]
    rw [e1] at hb ⊢
    rw [e2];refine ⟨_,rfl,?_,fun O _=>?_⟩
    ·rcases hw with rfl | rfl
     ·exact Keep.refl _ _
     ·unfold Lib.bytesWorld
      have h1:=Keep.alloc (fun _=>False) w.drew (.cells (Lib.bytesCells w 5 s) 5)
      refine ((Keep.drew (fun _=>False) w).trans h1 (fun _ _ h=>h)).trans (Keep.freeze (O:=fun k=>k=w.heap.size) _ ⟨w.heap.size,_,none⟩ 1 rfl) (fun b hb h=>?_)
      subst h;exact absurd hb (Nat.lt_irrefl _)
    ·simp only [VRel]
     exact ⟨_,rfl,by simp only [VRels,VRel,v18,v43]; exact hb⟩
   ·skip
    obtain ⟨ev,h1,h2⟩:=y7m hg;refine (Tryz.strconv_ParseUint_10_at64_syntax s (by omega) (by rw [Lib.parseUintB_64]; exact ha) ev w h1 h2).mono ?_
    rintro e w' ⟨N,rfl,_,_,hw⟩
    have e1:puV s=0:=by unfold puV; rw [ha]
    have e2:puN s=false:=by unfold puN; rw [ha]
    rw [e1] at hb ⊢
    rw [e2];refine ⟨_,rfl,Keep.below hw,fun O _=>?_⟩
    simp only [VRel];exact ⟨_,rfl,by simp only [VRels,VRel,v18]; exact ⟨⟨trivial,hb⟩,_,_,rfl⟩⟩
   ·skip
    obtain ⟨ev,h1,h2⟩:=y7c hg;refine (Tryz.strconv_ParseUint_10_at64_range s (by omega) (by rw [Lib.parseUintB_64]; exact ha) ev w h1 h2).mono ?_
    rintro e w' ⟨N,rfl,_,_,hw⟩
    have e1:puV s=18446744073709551615:=by unfold puV; rw [ha]
    have e2:puN s=false:=by unfold puN; rw [ha]
    rw [e1] at hb ⊢
    rw [e2];refine ⟨_,rfl,Keep.below hw,fun O _=>?_⟩
    simp only [VRel];exact ⟨_,rfl,by simp only [VRels,VRel,v18]; exact ⟨⟨trivial,hb⟩,_,_,rfl⟩⟩
 ·simp [R.get] at hsp
theorem zgg:z2u PR B0 85 z6e:=by
 intro w X γ vs xs r out hsp hg hx hR hV;unfold z6e at hsp;simp only at hsp
 split at hsp
 ·rename_i s cs
  cases hc:(decide (cs.size=1)&&decide ((cs.data.toList.headD 0).toNat < 128)) with
  | false=>rw [hc] at hsp; simp [R.get] at hsp
  | true=>
   rw [hc] at hsp;simp only [v02,v06] at hc;simp only [R.get,v00,v04] at hsp;obtain ⟨rfl,rfl⟩:=hsp;obtain ⟨c,rfl⟩:∃ c,cs=⟨#[c]⟩:=by
    obtain ⟨⟨l⟩⟩:=cs;have h1:l.length=1:=hc.1
    match l,h1 with
    | [c],_=>exact ⟨c,rfl⟩
   obtain ⟨x0,x1,rfl⟩:∃ x0 x1,xs=[x0,x1]:=by
    have:=hV.length
    simp at this
    match xs,this with
    | [a,b],_=>exact ⟨a,b,rfl⟩
   simp only [v0e,v10,z8p,VRels,VRel,v18] at hV;obtain ⟨⟨rfl,hs⟩,rfl,_⟩:=hV;have hz:=zql s ⟨#[c]⟩;unfold strMax at hs;refine z87 hR rfl rfl (Does.of_calls Tryz.func85 (by kernel_rfl) (by kernel_rfl) ((Tryz.strings_TrimRight_one s c hc.2 w (by omega)).mono ?_))
   rintro e w' ⟨rfl,rfl⟩
   refine ⟨_,rfl,Keep.refl _ _,fun O _=>?_⟩
   simp only [VRel];exact ⟨rfl,by unfold strMax; omega⟩
 ·simp [R.get] at hsp
theorem zd9:z2u PR B0 86 z4t:=by
 intro w X γ vs xs r out hsp hg hx hR hV;unfold z4t at hsp;simp only at hsp
 split at hsp
 ·rename_i s n
  cases hc:(decide (0≤n)&&decide (s.size*n.toNat≤strMax)) with
  | false=>rw [hc] at hsp; simp [R.get] at hsp
  | true=>
   rw [hc] at hsp;simp only [v02,v06] at hc;simp only [R.get,v00,v04] at hsp;obtain ⟨rfl,rfl⟩:=hsp;obtain ⟨x0,x1,rfl⟩:∃ x0 x1,xs=[x0,x1]:=by
    have:=hV.length
    simp at this
    match xs,this with
    | [a,b],_=>exact ⟨a,b,rfl⟩
   simp only [v0e,v10,z8p,VRels,VRel,v18] at hV;obtain ⟨⟨rfl,hs⟩,rfl,_,hn1⟩:=hV;have e1:IntKind.i64.max=9223372036854775807:=rfl;rw [e1] at hn1;obtain ⟨c,rfl⟩:∃ c:Nat,n=c:=⟨n.toNat,by omega⟩
   have hz:=zq7 s c;have hle:=hc.2;simp only [v0l] at hle ⊢
   unfold strMax at hle;refine z87 hR rfl rfl (Does.of_calls Tryz.func86 (by kernel_rfl) (by kernel_rfl) ((Tryz.strings_Repeat s c w (by omega) (by omega)).mono ?_))
   rintro e w' ⟨rfl,hw⟩
   refine ⟨_,rfl,Keep.below hw,fun O _=>?_⟩
   simp only [VRel];exact ⟨rfl,by rw [hz]; unfold strMax; omega⟩
 ·simp [R.get] at hsp
theorem zga:z2u PR B0 57 z69:=by
 intro w X γ vs xs r out hsp hg hx hR hV;unfold z69 at hsp;simp only at hsp
 split at hsp
 ·rename_i s p
  simp only [R.get,v00,v04] at hsp;obtain ⟨rfl,rfl⟩:=hsp;obtain ⟨x0,x1,rfl⟩:∃ x0 x1,xs=[x0,x1]:=by
   have:=hV.length
   simp at this
   match xs,this with
   | [a,b],_=>exact ⟨a,b,rfl⟩
  simp only [v0e,v10,z8p,VRels,VRel,v18] at hV;obtain ⟨⟨rfl,hs⟩,rfl,_⟩:=hV;have hz:=zl5 s p;refine z87 hR rfl rfl (Does.of_calls Tryz.func57 (by kernel_rfl) (by kernel_rfl) ((Tryz.strings_CutPrefix s p w).mono ?_))
  rintro e w' ⟨rfl,rfl⟩
  refine ⟨_,rfl,Keep.refl _ _,fun O _=>?_⟩
  simp only [VRel];exact ⟨_,rfl,by simp only [VRels,VRel,v18]; exact ⟨⟨rfl,by omega⟩,rfl⟩⟩
 ·simp [R.get] at hsp
theorem zh0:z2u PR B0 104 z7n:=by
 intro w X γ vs xs r out hsp hg hx hR hV;unfold z7n at hsp;simp only at hsp
 split at hsp
 ·rename_i s sep
  cases hc:decide (s.size < 4294967281) with
  | false=>rw [hc] at hsp; simp [R.get] at hsp
  | true=>
   rw [hc] at hsp;simp only [R.get,v00,v04] at hsp;obtain ⟨rfl,rfl⟩:=hsp;obtain ⟨x0,x1,rfl⟩:∃ x0 x1,xs=[x0,x1]:=by
    have:=hV.length
    simp at this
    match xs,this with
    | [a,b],_=>exact ⟨a,b,rfl⟩
   simp only [v0e,v10,z8p,VRels,VRel,v18] at hV;obtain ⟨⟨rfl,hs⟩,rfl,hsep⟩:=hV;obtain ⟨m,hm⟩:=y75 hg;refine z87 hR rfl rfl (Does.of_calls Tryz.func104 (by kernel_rfl) (by kernel_rfl) ((Tryz.strings_Cut s sep m w (v0d hc) hm).mono ?_))
   rintro e w' ⟨rfl,n,rfl⟩
   have hsz:=y1v s sep;refine ⟨_,rfl,Keep.drewN w n,fun O _=>?_⟩
   simp only [VRel];exact ⟨_,rfl,by simp only [VRels,VRel,v18]; exact ⟨⟨rfl,by omega⟩,⟨rfl,by omega⟩,rfl⟩⟩
 ·simp [R.get] at hsp
theorem z7l:z2u PR B0 46 z2k:=by
 intro w X γ vs xs r out hsp hg hx hR hV;unfold z2k at hsp;simp only at hsp
 split at hsp
 ·rename_i s sep
  cases hc:(decide (s.size < 4294967281)&&decide (1≤sep.size)) with
  | false=>rw [hc] at hsp; simp [R.get] at hsp
  | true=>
   rw [hc] at hsp;simp only [v02,v06] at hc;simp only [R.get,v00,v04] at hsp;obtain ⟨rfl,rfl⟩:=hsp;obtain ⟨x0,x1,rfl⟩:∃ x0 x1,xs=[x0,x1]:=by
    have:=hV.length
    simp at this
    match xs,this with
    | [a,b],_=>exact ⟨a,b,rfl⟩
   simp only [v0e,v10,z8p,VRels,VRel,v18] at hV;obtain ⟨⟨rfl,hs⟩,rfl,hsep⟩:=hV;obtain ⟨m,hm⟩:=y75 hg;have hlen:=Lib.splitB_all sep hc.2 0 _ s rfl;have hcnt:=Lib.countB_le sep hc.2 s.size s (v08 _);refine z87 hR rfl rfl (Does.of_calls Tryz.func46 (by kernel_rfl) (by kernel_rfl) ((Tryz.strings_Split s sep m w hc.1 hm hc.2).mono ?_))
   rintro e w' ⟨rfl,rfl⟩
   refine ⟨_,rfl,Keep.alloc _ w _,fun O hO=>?_⟩
   simp only [VRel]
   have:=yew (w:=w) (w':=w.alloc (.cells ((z0p s sep).map Value.string).toArray 9)) hO (g:=w.heap.size) (v08 _) (heap_alloc_new w _) (l:=z0p s sep) (c:=Lib.countB s sep+1) (by unfold z0p; omega) (by unfold maxLen; omega) (by unfold z0p strMax; omega) (fun p hp=>v1m ((z96 sep _ s).2 p hp) hs)
   unfold z0p at this ⊢
   rw [hlen] at this;exact this
 ·simp [R.get] at hsp
theorem y12 {w:World} {O:Nat→Prop} {l:List IV} {x:Value} (h:Kd.Rel w O (.list false [.str]) (.list l) x):∃ p c,x = .slice p l.length c∧l.length≤c∧c≤maxLen∧l.length≤strMax∧∀ j y,l[j]?=some y→∃ b o,p=some ⟨b,o,none⟩∧b < w.heap.size∧w.cell? ⟨b,o+j,none⟩=some (.string y.toStr)∧y.toStr.size≤strMax:=by
 simp only [Kd.Rel,IV.toList] at h;obtain ⟨p,c,rfl,hc,hm,hl,hi⟩:=h;refine ⟨p,c,rfl,hc,hm,hl,fun j y hy=>?_⟩
 obtain ⟨b,o,rfl,_,hb,hr⟩:=hi j y hy;simp only [Kd.RelAll,v05,v0o,v0n,v3u,v1j,v18] at hr;obtain ⟨u,hu,hs⟩:=hr;simp only [Kd.Rel,z2q] at hs;obtain ⟨rfl,hs⟩:=hs;exact ⟨b,o,rfl,hb,hu,hs⟩
theorem zft:z2u PR B0 45 z6p:=by
 intro w X γ vs xs r out hsp hg hx hR hV;unfold z6p at hsp;simp only at hsp
 split at hsp
 ·rename_i l sep
  cases hc:(decide (l.length≤strMax)&&decide ((zah (l.map IV.toStr) sep).size≤strMax)) with
  | false=>rw [hc] at hsp; simp [R.get] at hsp
  | true=>
   rw [hc] at hsp;simp only [v02,v06] at hc;simp only [R.get,v00,v04] at hsp;obtain ⟨rfl,rfl⟩:=hsp;obtain ⟨x0,x1,rfl⟩:∃ x0 x1,xs=[x0,x1]:=by
    have:=hV.length
    simp at this
    match xs,this with
    | [a,b],_=>exact ⟨a,b,rfl⟩
   simp only [v0e,v10,z8p,VRels,VRel,v18] at hV;obtain ⟨h0,rfl,_⟩:=hV;obtain ⟨p,c,rfl,hc1,hc2,hc3,hcell⟩:=y12 h0;have hz:(zah (l.map IV.toStr) sep).size=(Lib.join ((l.map IV.toStr).map (·.data.toList)) sep.data.toList).length:=by
    show (Array.size (List.toArray _))=_;rw [v1k]
   have hle:=hc.2;rw [hz] at hle;unfold strMax at hle hc3;refine z87 hR rfl rfl (Does.of_calls Tryz.func45 (by kernel_rfl) (by kernel_rfl) (Calls.mono (R:=fun e w'=>e = .returned (.string (zah (l.map IV.toStr) sep))∧Below w.heap.size w w') ?_ ?_))
   ·cases l with
    | nil=>
     refine (Tryz.strings_Join_none p c sep w).mono ?_
     rintro e w' ⟨rfl,rfl⟩
     exact ⟨rfl,Below.refl _ _⟩
    | cons y r=>
     obtain ⟨b,o,rfl,hb,_⟩:=hcell 0 y rfl
     have:=Tryz.strings_Join b o c ((y :: r).map IV.toStr) sep w (fun j x hj=>by
      rw [v19,v26] at hj;obtain ⟨y',hj,rfl⟩:=hj;obtain ⟨b',o',hp,_,hu,_⟩:=hcell j y' hj;simp only [v00,Addr.mk.injEq,v18] at hp;obtain ⟨rfl,rfl⟩:=hp;exact hu) hb (by rw [v15]; omega) (by rw [v15]; omega) (by omega)
     rw [v15] at this;exact this
   ·rintro e w' ⟨rfl,hw⟩
    refine ⟨_,rfl,Keep.below hw,fun O _=>?_⟩
    simp only [VRel];exact ⟨trivial,by rw [hz]; unfold strMax; omega⟩
 ·simp [R.get] at hsp
theorem zbr:z2u PR B0 161 z30:=by
 intro w X γ vs xs r out hsp hg hx hR hV;unfold z30 at hsp;simp only at hsp
 split at hsp
 ·rename_i l
  cases hc:decide (l.length≤4294967296) with
  | false=>rw [hc] at hsp; simp [R.get] at hsp
  | true=>
   rw [hc] at hsp;have hc:=v0d hc;simp only [R.get,v00,v04] at hsp;obtain ⟨rfl,rfl⟩:=hsp;obtain ⟨x0,rfl⟩:∃ x0,xs=[x0]:=by
    have:=hV.length
    simp at this
    match xs,this with
    | [a],_=>exact ⟨a,rfl⟩
   simp only [v0e,v10,z8p,VRels,VRel,v18] at hV;obtain ⟨p,c,rfl,hc1,hc2,hc3,hcell⟩:=y12 hV;have hel:∀ (w':World) (O:Nat→Prop) i y,l[i]?=some y→Kd.RelAll w' O [.str] (z2q false y) 0 (fun j u=>(l.map fun y=>Value.string y.toStr)[i*[Kd.str].length+j]?=some u):=fun w' O i y hy=>by
    obtain ⟨b,o,_,_,_,hs⟩:=hcell i y hy;simp only [Kd.RelAll,v05,v0o,v0n,v3u,v1j,v18];refine ⟨.string y.toStr,by rw [v19,hy]; rfl,?_⟩
    simp only [Kd.Rel,z2q];exact ⟨trivial,hs⟩
   refine y0u hR rfl (by decide) (by decide) hc3 (Does.of_calls Tryz.func161 (by kernel_rfl) (by kernel_rfl) ?_)
   cases p with
   | none=>
    have h0:l=[]:=by
     cases l with
     | nil=>rfl
     | cons y r=>
      obtain ⟨b,o,hp,_⟩:=hcell 0 y rfl;cases hp
    subst h0;refine (ybr _ c w).mono ?_
    rintro e w' ⟨rfl,rfl⟩
    exact ⟨_,[],rfl,Keep.refl _ _,⟨rfl,.inl ⟨rfl,rfl⟩⟩,hel _⟩
   | some a=>
    refine (ycl a l.length c (l.map fun y=>Value.string y.toStr) w (by rw [v15]) (by unfold maxLen; omega) (by omega) (fun j u hj=>?_) (fun u hu=>?_)).mono ?_
    ·rw [v19,v26] at hj
     obtain ⟨y,hj,rfl⟩:=hj;obtain ⟨b,o,hp,_,hu,_⟩:=hcell j y hj;simp only [v00] at hp;subst hp;rw [Addr.add_lit];exact hu
    ·rw [List.mem_map] at hu
     obtain ⟨y,_,rfl⟩:=hu
     rfl
    ·rintro e w' ⟨v',rfl,hown,hw⟩
     exact ⟨v',_,rfl,Keep.below hw,hown,hel _⟩
 ·simp [R.get] at hsp
def SpsOK:List (Nat × z0n)→Prop
 | []=>True
 | (f,sp) :: r=>z2u PR B0 f sp∧SpsOK r
theorem SpsOK.get:∀ {l:List (Nat × z0n)},SpsOK l→∀ f sp,lk l f=some sp→z2u PR B0 f sp
 | [],_,f,sp,h=>by simp [lk] at h
 | (g,sg) :: r,hs,f,sp,h=>by
  simp only [lk] at h
  split at h
  ·rename_i hb
   simp only [v00] at h;subst h;rw [← z1j.1 hb];exact hs.1
  ·exact SpsOK.get hs.2 f sp h
theorem z0f {f:Nat} {fn:Func} {code:Code} {rs:List ResultVar} {nt:Nat} (sps:List (Nat × z0n)) (lp:List (Nat × KP)) (sp:z0n) (rks:List (List Kd)) (hf:PR.funcs[f]?=some fn)
  (hc:(fn.name == "runtime.NumGoroutine")=false∧fn.body=some code∧fn.ntmps=nt∧Nat.ble nt 900000=true∧fn.results.toList=rs) (hs:SpsOK sps)
  (h:∀ vs r,(zbw vs (z6a vs)→yey vs)→(sp vs).get=some r→∃ N,z0y (mkE sps lp nt N) code rs rks vs=some r):z2u PR B0 f sp:=
 yb5 (mkE sps lp nt) sp rks hf hc (fun _=>rfl) yi4 (fun _=>ybh rfl yic) (fun _=>yal rfl yhu) (fun _=>hs.get) (fun _ f p hp=>by cases hp) (fun _ h=>ya5 h) h
def IpsOK:List (Nat × Ip)→Prop
 | []=>True
 | (f,p) :: r=>zwu PR f p∧IpsOK r
theorem IpsOK.get:∀ {l:List (Nat × Ip)},IpsOK l→∀ f p,lk l f=some p→zwu PR f p
 | [],_,f,p,h=>by simp [lk] at h
 | (g,pg) :: r,hs,f,p,h=>by
  simp only [lk] at h
  split at h
  ·rename_i hb
   simp only [v00] at h;subst h;rw [← z1j.1 hb];exact hs.1
  ·exact IpsOK.get hs.2 f p h
theorem ya7 {f:Nat} {fn:Func} {code:Code} {rs:List ResultVar} {nt:Nat} (sps:List (Nat × z0n)) (ips:List (Nat × Ip)) (lp:List (Nat × KP)) (sp:z0n) (rks:List (List Kd)) (hf:PR.funcs[f]?=some fn)
  (hc:(fn.name == "runtime.NumGoroutine")=false∧fn.body=some code∧fn.ntmps=nt∧Nat.ble nt 900000=true∧fn.results.toList=rs) (hs:SpsOK sps) (hi:IpsOK ips)
  (h:∀ vs r,(zbw vs (z6a vs)→yey vs)→(sp vs).get=some r→∃ N,z0y (mkI sps ips lp nt N) code rs rks vs=some r):z2u PR B0 f sp:=
 yb5 (mkI sps ips lp nt) sp rks hf hc (fun _=>rfl) yi4 (fun _=>ybh rfl yic) (fun _=>yal rfl yhu) (fun _=>hs.get) (fun _=>hi.get) (fun _ h=>ya5 h) h
open Go Go.RowKit
theorem z15 {n:Int} (h0 : -9223372036854775808≤n) (h1:n≤9223372036854775807):IntKind.wrap .i64 n=n:=by
 have e:IntKind.wrap .i64 n=(n+9223372036854775808) % 18446744073709551616 - 9223372036854775808:=by
  simp [IntKind.wrap,IntKind.bits,IntKind.signed];omega
 rw [e];omega
theorem z9z {α:Type} {l:List α} {i:Nat} (h:i < l.length):decide ((i:Int) < ic l.length)=true:=by simp [ic]; omega
theorem zau {α:Type} {l:List α} {i:Nat} (h:l.length≤i):decide ((i:Int) < ic l.length)=false:=by simp [ic]; omega
theorem zg5 {i:Nat}:decide (0≤(i:Int))=true:=by simp
theorem z7z {i:Nat} (h:i < 9223372036854775807):IntKind.wrap .i64 ((i:Int)+1)=((i+1:Nat):Int):=by rw [z15 (by omega) (by omega)]; rfl
theorem zbl {α:Type} [Inhabited α] {l:List α} {i:Nat} (h:i < l.length):l.getD (i:Int).toNat default=l[i]:=by simp [h]
theorem zni (a b:Int):decide (a≤b)=!decide (b < a):=by rw [v2r]; simp
theorem yd5 (a b:Int):decide (a > b)=decide (b < a):=rfl
theorem zjp (a b:Int):(a==b)=decide (a=b):=rfl
theorem yav (a b:Int):(a != b)=!decide (a=b):=rfl
theorem z00 {α:Type _} (a b:α):cond true a b=a:=v41 (Eq.refl a) (Eq.refl a)
theorem z02 {α:Type _} (a b:α):cond false a b=b:=v41 (Eq.refl b) (Eq.refl b)
open Go
def zd2 (n:Int):Int:=IntKind.wrap .i64 n
def zwm (n:Int):Int:=IntKind.wrap .u64 n
def zj5 (lo hi:Int):Int:=zd2 (zd2 (hi - lo)+1)
def zab (n lo hi:Int):Int:=cond (decide (n.tmod (zj5 lo hi) < 0)) (zd2 (lo+zd2 (zd2 (zd2 (n.tmod (zj5 lo hi)+hi) - lo)+1))) (zd2 (lo+n.tmod (zj5 lo hi)))
abbrev zqu:ByteArray:=⟨#[45]⟩
abbrev yc1:ByteArray:=⟨#[46]⟩
abbrev yet:ByteArray:=⟨#[48]⟩
abbrev y74:ByteArray:=⟨#[]⟩
def zag:z0n
 | []=>.ok (.int .u64 390625) []
 | _=>.no
def ztp (r:Nat):List UInt8:=Lib.trimRightB (Lib.repeatL [48] (8 - (Lib.decDigits (r*390625)).length)++Lib.decDigits (r*390625)) 48
def zt1 (u:Nat):List UInt8:=Lib.decDigits (u / 256)++(if u % 256=0 then [] else 46 :: ztp (u % 256))
def zqx (n:Int):List UInt8:=if n < 0 then 45 :: zt1 n.natAbs else zt1 n.natAbs
def z0b (n:Int):ByteArray:=⟨(zqx n).toArray⟩
def z68:z0n
 | [.int .i64 n]=>.ok (.str (z0b n)) []
 | _=>.no
def zb4:z0n
 | [.str s]=>.ok (.tup [.int .u64 (puV s),.bool (puN s)]) []
 | _=>.no
def zdh (s:ByteArray):ByteArray:=cutL (z1s s zqu) yc1
def z6y (s:ByteArray):ByteArray:=zjz (z1s s zqu) yc1
def zbo (s:ByteArray):ByteArray:=z6y s++zlu yet (8 - (z6y s).size)
def zel (s:ByteArray):Int:=zwm (zwm (puV (zdh s)*256)+puV (zbo s) / 390625)
def ybg (s:ByteArray):Int:=zd2 (cond (znj s zqu) (zwm (0 - zel s)) (zel s))
def ye7 (s:ByteArray):Bool:=
 decide ((z6y s).size≤8)&&(puN (zdh s)&&(puN (zbo s)&&(decide (puV (zdh s)≤36028797018963968)&&(decide (puV (zbo s) % 390625=0)&&decide (z0b (ybg s)=s)))))
def zi5 (s:ByteArray):Int:=cond (ye7 s) (ybg s) 0
def zai:z0n
 | [.str s]=>.br (decide (s.size < 4294967281)) (.ok (.tup [.int .i64 (zi5 s),.bool (ye7 s)]) []) .no
 | _=>.no
open Go Go.Proofs
def y9p (N:Nat):Env:=mkE [] [(3,⟨[0,1,2],[],[]⟩)] 8 N
def y0b (N:Nat):Env:=mkE [(189,z6i)] [] 19 N
theorem zwv (N:Nat) (s:ByteArray):z0y (y0b N) zo7 [.tmp 2,.tmp 3] [[.int .u64],[.bool]] [(.str s)] =
 (cond (puN s)
 (cond (decide (0≤0)&&decide (0 < ic (ByteArray.size s)))
 (some ((.tup [(.int .u64 (puV s)),(.bool (ic (UInt8.toNat (List.getD (Array.toList (ByteArray.data s)) (Int.toNat 0) 0)) != 43))]),[]))
 none)
 (some ((.tup [(.int .u64 (puV s)),(.bool false)]),[]))):=by kernel_rfl
def y4f (N:Nat):Env:=mkE [(84,zag),(83,z5m),(86,z4t),(85,z6e)] [] 38 N
theorem y1i (N:Nat) (n:Int):z0y (y4f N) zrd [.tmp 2] [[.str]] [(.i n)] =
 (cond (decide (n < 0))
 (cond (decide (ByteArray.size { data:=#[45] }+ByteArray.size (za0 (Int.fdiv (IntKind.wrap IntKind.u64 (0 - IntKind.wrap IntKind.u64 n)) (2 ^ min (Int.toNat 8) (IntKind.bits IntKind.u64))))≤strMax))
 (cond (IntKind.wrap IntKind.u64 (ic (BitVec.toNat (BitVec.ofInt (IntKind.bits IntKind.u64) (IntKind.wrap IntKind.u64 (0 - IntKind.wrap IntKind.u64 n)) &&& BitVec.ofInt (IntKind.bits IntKind.u64) 255)))==0)
 (some ((.str ({ data:=#[45] }++za0 (Int.fdiv (IntKind.wrap IntKind.u64 (0 - IntKind.wrap IntKind.u64 n)) (2 ^ min (Int.toNat 8) (IntKind.bits IntKind.u64))))),[]))
 (cond (decide (ByteArray.size ({ data:=#[45] }++za0 (Int.fdiv (IntKind.wrap IntKind.u64 (0 - IntKind.wrap IntKind.u64 n)) (2 ^ min (Int.toNat 8) (IntKind.bits IntKind.u64))))+ByteArray.size { data:=#[46] }≤strMax))
 (cond (decide (0≤IntKind.wrap IntKind.i64 (8 - ic (ByteArray.size (za0 (IntKind.wrap IntKind.u64 (IntKind.wrap IntKind.u64 (ic (BitVec.toNat (BitVec.ofInt (IntKind.bits IntKind.u64) (IntKind.wrap IntKind.u64 (0 - IntKind.wrap IntKind.u64 n)) &&& BitVec.ofInt (IntKind.bits IntKind.u64) 255)))*390625))))))&&decide (ByteArray.size { data:=#[48] }*Int.toNat (IntKind.wrap IntKind.i64 (8 - ic (ByteArray.size (za0 (IntKind.wrap IntKind.u64 (IntKind.wrap IntKind.u64 (ic (BitVec.toNat (BitVec.ofInt (IntKind.bits IntKind.u64) (IntKind.wrap IntKind.u64 (0 - IntKind.wrap IntKind.u64 n)) &&& BitVec.ofInt (IntKind.bits IntKind.u64) 255)))*390625))))))≤strMax))
 (cond (decide (ByteArray.size (zlu { data:=#[48] } (Int.toNat (IntKind.wrap IntKind.i64 (8 - ic (ByteArray.size (za0 (IntKind.wrap IntKind.u64 (IntKind.wrap IntKind.u64 (ic (BitVec.toNat (BitVec.ofInt (IntKind.bits IntKind.u64) (IntKind.wrap IntKind.u64 (0 - IntKind.wrap IntKind.u64 n)) &&& BitVec.ofInt (IntKind.bits IntKind.u64) 255)))*390625))))))))+ByteArray.size (za0 (IntKind.wrap IntKind.u64 (IntKind.wrap IntKind.u64 (ic (BitVec.toNat (BitVec.ofInt (IntKind.bits IntKind.u64) (IntKind.wrap IntKind.u64 (0 - IntKind.wrap IntKind.u64 n)) &&& BitVec.ofInt (IntKind.bits IntKind.u64) 255)))*390625)))≤strMax))
 (cond (decide (ByteArray.size ({ data:=#[45] }++za0 (Int.fdiv (IntKind.wrap IntKind.u64 (0 - IntKind.wrap IntKind.u64 n)) (2 ^ min (Int.toNat 8) (IntKind.bits IntKind.u64)))++{ data:=#[46] })+ByteArray.size (zff (zlu { data:=#[48] } (Int.toNat (IntKind.wrap IntKind.i64 (8 - ic (ByteArray.size (za0 (IntKind.wrap IntKind.u64 (IntKind.wrap IntKind.u64 (ic (BitVec.toNat (BitVec.ofInt (IntKind.bits IntKind.u64) (IntKind.wrap IntKind.u64 (0 - IntKind.wrap IntKind.u64 n)) &&& BitVec.ofInt (IntKind.bits IntKind.u64) 255)))*390625)))))))++za0 (IntKind.wrap IntKind.u64 (IntKind.wrap IntKind.u64 (ic (BitVec.toNat (BitVec.ofInt (IntKind.bits IntKind.u64) (IntKind.wrap IntKind.u64 (0 - IntKind.wrap IntKind.u64 n)) &&& BitVec.ofInt (IntKind.bits IntKind.u64) 255)))*390625))) { data:=#[48] })≤strMax))
 (some ((.str ({ data:=#[45] }++za0 (Int.fdiv (IntKind.wrap IntKind.u64 (0 - IntKind.wrap IntKind.u64 n)) (2 ^ min (Int.toNat 8) (IntKind.bits IntKind.u64)))++{ data:=#[46] }++zff (zlu { data:=#[48] } (Int.toNat (IntKind.wrap IntKind.i64 (8 - ic (ByteArray.size (za0 (IntKind.wrap IntKind.u64 (IntKind.wrap IntKind.u64 (ic (BitVec.toNat (BitVec.ofInt (IntKind.bits IntKind.u64) (IntKind.wrap IntKind.u64 (0 - IntKind.wrap IntKind.u64 n)) &&& BitVec.ofInt (IntKind.bits IntKind.u64) 255)))*390625)))))))++za0 (IntKind.wrap IntKind.u64 (IntKind.wrap IntKind.u64 (ic (BitVec.toNat (BitVec.ofInt (IntKind.bits IntKind.u64) (IntKind.wrap IntKind.u64 (0 - IntKind.wrap IntKind.u64 n)) &&& BitVec.ofInt (IntKind.bits IntKind.u64) 255)))*390625))) { data:=#[48] })),[]))
 none)
 none)
 none)
 none))
 none)
 (cond (decide (ByteArray.size { data:=#[] }+ByteArray.size (za0 (Int.fdiv (IntKind.wrap IntKind.u64 n) (2 ^ min (Int.toNat 8) (IntKind.bits IntKind.u64))))≤strMax))
 (cond (IntKind.wrap IntKind.u64 (ic (BitVec.toNat (BitVec.ofInt (IntKind.bits IntKind.u64) (IntKind.wrap IntKind.u64 n) &&& BitVec.ofInt (IntKind.bits IntKind.u64) 255)))==0)
 (some ((.str ({ data:=#[] }++za0 (Int.fdiv (IntKind.wrap IntKind.u64 n) (2 ^ min (Int.toNat 8) (IntKind.bits IntKind.u64))))),[]))
 (cond (decide (ByteArray.size ({ data:=#[] }++za0 (Int.fdiv (IntKind.wrap IntKind.u64 n) (2 ^ min (Int.toNat 8) (IntKind.bits IntKind.u64))))+ByteArray.size { data:=#[46] }≤strMax))
 (cond (decide (0≤IntKind.wrap IntKind.i64 (8 - ic (ByteArray.size (za0 (IntKind.wrap IntKind.u64 (IntKind.wrap IntKind.u64 (ic (BitVec.toNat (BitVec.ofInt (IntKind.bits IntKind.u64) (IntKind.wrap IntKind.u64 n) &&& BitVec.ofInt (IntKind.bits IntKind.u64) 255)))*390625))))))&&decide (ByteArray.size { data:=#[48] }*Int.toNat (IntKind.wrap IntKind.i64 (8 - ic (ByteArray.size (za0 (IntKind.wrap IntKind.u64 (IntKind.wrap IntKind.u64 (ic (BitVec.toNat (BitVec.ofInt (IntKind.bits IntKind.u64) (IntKind.wrap IntKind.u64 n) &&& BitVec.ofInt (IntKind.bits IntKind.u64) 255)))*390625))))))≤strMax))
 (cond (decide (ByteArray.size (zlu { data:=#[48] } (Int.toNat (IntKind.wrap IntKind.i64 (8 - ic (ByteArray.size (za0 (IntKind.wrap IntKind.u64 (IntKind.wrap IntKind.u64 (ic (BitVec.toNat (BitVec.ofInt (IntKind.bits IntKind.u64) (IntKind.wrap IntKind.u64 n) &&& BitVec.ofInt (IntKind.bits IntKind.u64) 255)))*390625))))))))+ByteArray.size (za0 (IntKind.wrap IntKind.u64 (IntKind.wrap IntKind.u64 (ic (BitVec.toNat (BitVec.ofInt (IntKind.bits IntKind.u64) (IntKind.wrap IntKind.u64 n) &&& BitVec.ofInt (IntKind.bits IntKind.u64) 255)))*390625)))≤strMax))
 (cond (decide (ByteArray.size ({ data:=#[] }++za0 (Int.fdiv (IntKind.wrap IntKind.u64 n) (2 ^ min (Int.toNat 8) (IntKind.bits IntKind.u64)))++{ data:=#[46] })+ByteArray.size (zff (zlu { data:=#[48] } (Int.toNat (IntKind.wrap IntKind.i64 (8 - ic (ByteArray.size (za0 (IntKind.wrap IntKind.u64 (IntKind.wrap IntKind.u64 (ic (BitVec.toNat (BitVec.ofInt (IntKind.bits IntKind.u64) (IntKind.wrap IntKind.u64 n) &&& BitVec.ofInt (IntKind.bits IntKind.u64) 255)))*390625)))))))++za0 (IntKind.wrap IntKind.u64 (IntKind.wrap IntKind.u64 (ic (BitVec.toNat (BitVec.ofInt (IntKind.bits IntKind.u64) (IntKind.wrap IntKind.u64 n) &&& BitVec.ofInt (IntKind.bits IntKind.u64) 255)))*390625))) { data:=#[48] })≤strMax))
 (some ((.str ({ data:=#[] }++za0 (Int.fdiv (IntKind.wrap IntKind.u64 n) (2 ^ min (Int.toNat 8) (IntKind.bits IntKind.u64)))++{ data:=#[46] }++zff (zlu { data:=#[48] } (Int.toNat (IntKind.wrap IntKind.i64 (8 - ic (ByteArray.size (za0 (IntKind.wrap IntKind.u64 (IntKind.wrap IntKind.u64 (ic (BitVec.toNat (BitVec.ofInt (IntKind.bits IntKind.u64) (IntKind.wrap IntKind.u64 n) &&& BitVec.ofInt (IntKind.bits IntKind.u64) 255)))*390625)))))))++za0 (IntKind.wrap IntKind.u64 (IntKind.wrap IntKind.u64 (ic (BitVec.toNat (BitVec.ofInt (IntKind.bits IntKind.u64) (IntKind.wrap IntKind.u64 n) &&& BitVec.ofInt (IntKind.bits IntKind.u64) 255)))*390625))) { data:=#[48] })),[]))
 none)
 none)
 none)
 none))
 none)):=by kernel_rfl
open Go Go.Proofs
open Go
theorem zdw {s t:ByteArray} (h:s.data.toList=t.data.toList):s=t:=ByteArray.ext (Array.ext' h)
theorem y2r (s t:ByteArray):(s.toList==t.toList)=decide (s=t):=by
 rw [Lib.toList_data,Lib.toList_data]
 by_cases h:s=t
 ·subst h; simp
 ·rw [v07 h,v1i]
  exact fun e=>h (zdw e)
theorem zeg (s:ByteArray):s.size=s.data.toList.length:=by rw [v16]; rfl
theorem y2c (u:Nat):∀ c∈Lib.decDigits u,48≤c.toNat∧c.toNat≤57:=by
 induction u using Nat.strongRecOn with
 | _ u ih=>
  intro c hc;rw [Lib.decDigits] at hc
  split at hc
  ·rename_i h
   simp only [v28] at hc;subst hc;rw [UInt8.toNat_ofNat_of_lt' (by simp [UInt8.size]; omega)]
   omega
  ·rename_i h
   rw [v0k,v28] at hc;rcases hc with hc | hc
   ·exact ih (u / 10) (by omega) c hc
   ·subst hc
    rw [UInt8.toNat_ofNat_of_lt' (by simp [UInt8.size]; omega)]
    omega
theorem y3a (u:Nat):Lib.decDigits u≠[]:=by
 rw [Lib.decDigits]
 split <;> simp
open Go
theorem yea {n m:Int} (h:0 < m) : -m < n.tmod m∧n.tmod m < m:=by
 constructor
 ·rcases Int.lt_or_le n 0 with hn | hn
  ·have e:n.tmod m = -((-n).tmod m):=by rw [Int.neg_tmod,Int.neg_neg]
   have:=Int.tmod_lt_of_pos (-n) h
   omega
  ·have:=Int.tmod_nonneg m hn
   omega
 ·exact Int.tmod_lt_of_pos n h
theorem yas {n lo hi:Int} (h:lo≤hi) (h0 : -2000000000000000000≤lo) (h1:hi≤2000000000000000000):zj5 lo hi=hi - lo+1∧lo≤zab n lo hi∧zab n lo hi≤hi:=by
 have e1:zd2 (hi - lo)=hi - lo:=z15 (by omega) (by omega)
 have e2:zj5 lo hi=hi - lo+1:=by
  unfold zj5;rw [e1];exact z15 (by omega) (by omega)
 refine ⟨e2,?_⟩;unfold zab;rw [e2];obtain ⟨t0,t1⟩:=yea (n:=n) (m:=hi - lo+1) (by omega)
 generalize n.tmod (hi - lo+1)=q at t0 t1 ⊢
 cases hq:decide (q < 0) with
 | true=>
  have hq:=v0d hq;simp only [v2f];have a1:zd2 (q+hi)=q+hi:=z15 (by omega) (by omega)
  have a2:zd2 (q+hi - lo)=q+hi - lo:=z15 (by omega) (by omega)
  have a3:zd2 (q+hi - lo+1)=q+hi - lo+1:=z15 (by omega) (by omega)
  have a4:zd2 (lo+(q+hi - lo+1))=lo+(q+hi - lo+1):=z15 (by omega) (by omega)
  rw [a1,a2,a3,a4];omega
 | false=>
  have hq:=v0t hq;simp only [v1n];have a1:zd2 (lo+q)=lo+q:=z15 (by omega) (by omega)
  rw [a1];omega
theorem yek (n:Int):IntKind.wrap .u64 n=n % 18446744073709551616:=by simp [IntKind.wrap,IntKind.bits,IntKind.signed]
abbrev InR (n:Int):Prop := -9223372036854775808≤n∧n≤9223372036854775807
theorem yii {f:Nat→Bool} (h:(List.range 256).all f=true) {r:Nat} (hr:r < 256):f r=true:=v30.1 h r (List.mem_range.2 hr)
def yf5 (r:Nat):Bool:=Nat.beq r 0||(Nat.ble (ztp r).length 8&&((ztp r).all (fun c=>Nat.ble 48 c.toNat&&Nat.ble c.toNat 57)&&(match (ztp r).reverse with | []=>false | c :: _=>!(Nat.beq c.toNat 48))))
theorem ydq:(List.range 256).all yf5=true:=by kernel_rfl
theorem yh5 {r:Nat} (h0:r≠0) (h:r < 256):(ztp r).length≤8∧(∀ c∈ztp r,48≤c.toNat∧c.toNat≤57)∧∃ l c,ztp r=l++[c]∧c.toNat≠48:=by
 have:=yii ydq h
 unfold yf5 at this;simp only [v2y,v02,v30] at this;rcases this with h1 | ⟨h1,h2,h3⟩
 ·exact absurd (Nat.eq_of_beq_eq_true h1) h0
 ·refine ⟨v03 h1,fun c hc=>⟨v03 (h2 c hc).1,v03 (h2 c hc).2⟩,?_⟩
  cases hr:(ztp r).reverse with
  | nil=>rw [hr] at h3; cases h3
  | cons c l=>
   rw [hr] at h3;refine ⟨l.reverse,c,?_,?_⟩
   ·have:=congrArg List.reverse hr
    simpa using this
   ·intro e
    have h3:(!c.toNat.beq 48)=true:=h3;rw [e] at h3;cases h3
theorem y7f (u:Nat):zt1 u=Lib.decDigits (u / 256)++(if u % 256=0 then [] else 46 :: ztp (u % 256)):=rfl
theorem yco (v:Nat):∃ c r,Lib.decDigits v=c :: r∧48≤c.toNat∧c.toNat≤57:=by
 cases h:Lib.decDigits v with
 | nil=>exact absurd h (y3a v)
 | cons c r=>exact ⟨c,r,rfl,y2c v c (by rw [h]; exact v09 ..)⟩
theorem y9t (u:Nat):∃ c r,zt1 u=c :: r∧48≤c.toNat∧c.toNat≤57:=by
 obtain ⟨c,r,h,h1⟩:=yco (u / 256);exact ⟨c,r++_,by rw [y7f,h]; rfl,h1⟩
theorem y3n (n:Int):∃ c r,(z0b n).data.toList=c :: r∧c.toNat≠43:=by
 show ∃ c r,zqx n=c :: r∧c.toNat≠43;unfold zqx
 split
 ·exact ⟨45,_,rfl,by decide⟩
 ·obtain ⟨c,r,h,h1,_⟩:=y9t n.natAbs
  exact ⟨c,r,h,by omega⟩
theorem ze9 (n:Int) (hn:InR n):1≤(z0b n).size∧(z0b n).size≤40:=by
 obtain ⟨c,r,h,_⟩:=y3n n;refine ⟨by rw [zeg,h]; simp,?_⟩
 rw [zeg];show (zqx n).length≤40;have hs:(zt1 n.natAbs).length≤30:=by
  rw [y7f,v0a];have h1:(Lib.decDigits (n.natAbs / 256)).length≤20:=by
   have:=zsp (n:=((n.natAbs / 256:Nat):Int)) (by omega) (by obtain ⟨_,_⟩:=hn; omega)
   rw [zeg] at this;exact this
  split
  ·simp; omega
  ·rename_i h0
   have:=(yh5 h0 (by omega:n.natAbs % 256 < 256)).1
   simp only [v05];omega
 unfold zqx
 split
 ·simp only [v05]; omega
 ·omega
open Go
structure Qy where
 k:Int
 c:Int
 a0:Int
 b0:Int
 a1:Int
 b1:Int
 a2:Int
 b2:Int
 a3:Int
 b3:Int
 a4:Int
 b4:Int
 lo:Int
 hi:Int
 ft:Int
 fl:Bool
 bu:Int
def Qy.V (q:Qy):V:=.agg [.int .i64 q.k,.int .i64 q.c,.int .i64 q.a0,.int .i64 q.b0,.int .i64 q.a1,.int .i64 q.b1,.int .i64 q.a2,.int .i64 q.b2,.int .i64 q.a3,.int .i64 q.b3,.int .i64 q.a4,.int .i64 q.b4,.int .i64 q.lo,.int .i64 q.hi,.int .i64 q.ft,.bool q.fl,.int .i64 q.bu]
def Qy.none:Qy:=⟨0,0,0,0,0,0,0,0,0,0,0,0,0,0,0,false,0⟩
def Qy.eq (p q:Qy):Bool:=
 (p.k==q.k)&&((p.c==q.c)&&((p.a0==q.a0)&&((p.b0==q.b0)&&((p.a1==q.a1)&&((p.b1==q.b1)&&((p.a2==q.a2)&&((p.b2==q.b2)&&((p.a3==q.a3)&&((p.b3==q.b3)&&((p.a4==q.a4)&&((p.b4==q.b4)&&((p.lo==q.lo)&&((p.hi==q.hi)&&((p.ft==q.ft)&&((p.fl==q.fl)&&((p.bu==q.bu)&&true))))))))))))))))
def zfm (q:Qy) (d:Int):Qy:=
 ⟨q.k,q.c,cond (decide (0 < d)) q.a0 0,cond (decide (0 < d)) q.b0 0,cond (decide (1 < d)) q.a1 0,cond (decide (1 < d)) q.b1 0,cond (decide (2 < d)) q.a2 0,cond (decide (2 < d)) q.b2 0,cond (decide (3 < d)) q.a3 0,cond (decide (3 < d)) q.b3 0,cond (decide (4 < d)) q.a4 0,cond (decide (4 < d)) q.b4 0,
  cond (q.k==1) q.lo 0,cond (q.k==1) q.hi 0,cond (q.k==3) q.ft 0,cond (q.k==3) q.fl false,q.bu⟩
def ze5:z0n
 | [.agg [.int .i64 k,.int .i64 c,.int .i64 a0,.int .i64 b0,.int .i64 a1,.int .i64 b1,.int .i64 a2,.int .i64 b2,.int .i64 a3,.int .i64 b3,.int .i64 a4,.int .i64 b4,.int .i64 lo,.int .i64 hi,.int .i64 ft,.bool fl,.int .i64 bu],.int .i64 d]=>
  .br (decide (0≤d)&&decide (d≤5)) (.ok (.agg [.int .i64 (zfm ⟨k,c,a0,b0,a1,b1,a2,b2,a3,b3,a4,b4,lo,hi,ft,fl,bu⟩ d).k,.int .i64 (zfm ⟨k,c,a0,b0,a1,b1,a2,b2,a3,b3,a4,b4,lo,hi,ft,fl,bu⟩ d).c,
   .int .i64 (zfm ⟨k,c,a0,b0,a1,b1,a2,b2,a3,b3,a4,b4,lo,hi,ft,fl,bu⟩ d).a0,.int .i64 (zfm ⟨k,c,a0,b0,a1,b1,a2,b2,a3,b3,a4,b4,lo,hi,ft,fl,bu⟩ d).b0,
   .int .i64 (zfm ⟨k,c,a0,b0,a1,b1,a2,b2,a3,b3,a4,b4,lo,hi,ft,fl,bu⟩ d).a1,.int .i64 (zfm ⟨k,c,a0,b0,a1,b1,a2,b2,a3,b3,a4,b4,lo,hi,ft,fl,bu⟩ d).b1,
   .int .i64 (zfm ⟨k,c,a0,b0,a1,b1,a2,b2,a3,b3,a4,b4,lo,hi,ft,fl,bu⟩ d).a2,.int .i64 (zfm ⟨k,c,a0,b0,a1,b1,a2,b2,a3,b3,a4,b4,lo,hi,ft,fl,bu⟩ d).b2,
   .int .i64 (zfm ⟨k,c,a0,b0,a1,b1,a2,b2,a3,b3,a4,b4,lo,hi,ft,fl,bu⟩ d).a3,.int .i64 (zfm ⟨k,c,a0,b0,a1,b1,a2,b2,a3,b3,a4,b4,lo,hi,ft,fl,bu⟩ d).b3,
   .int .i64 (zfm ⟨k,c,a0,b0,a1,b1,a2,b2,a3,b3,a4,b4,lo,hi,ft,fl,bu⟩ d).a4,.int .i64 (zfm ⟨k,c,a0,b0,a1,b1,a2,b2,a3,b3,a4,b4,lo,hi,ft,fl,bu⟩ d).b4,
   .int .i64 (zfm ⟨k,c,a0,b0,a1,b1,a2,b2,a3,b3,a4,b4,lo,hi,ft,fl,bu⟩ d).lo,.int .i64 (zfm ⟨k,c,a0,b0,a1,b1,a2,b2,a3,b3,a4,b4,lo,hi,ft,fl,bu⟩ d).hi,
   .int .i64 (zfm ⟨k,c,a0,b0,a1,b1,a2,b2,a3,b3,a4,b4,lo,hi,ft,fl,bu⟩ d).ft,.bool (zfm ⟨k,c,a0,b0,a1,b1,a2,b2,a3,b3,a4,b4,lo,hi,ft,fl,bu⟩ d).fl,
   .int .i64 (zfm ⟨k,c,a0,b0,a1,b1,a2,b2,a3,b3,a4,b4,lo,hi,ft,fl,bu⟩ d).bu]) []) .no
 | _=>.no
def zh7 (n:Int):Bool:=decide (0≤n)&&decide (n≤1073741824)
def zcx:z0n
 | [.int .i64 n]=>.ok (.bool (zh7 n)) []
 | _=>.no
def z8w:z0n
 | [.str s]=>.ok (.int .i64 (z6m s)) []
 | _=>.no
def zaj:z0n
 | [.str s]=>.br (decide (s.size < 4294967281)) (.ok (.int .i64 (zi5 s)) []) .no
 | _=>.no
abbrev zmf:ByteArray:=⟨#[114,97,110,103,101]⟩
abbrev zvk:ByteArray:=⟨#[98,101,115,116]⟩
abbrev zn6:ByteArray:=⟨#[114,105,115,101,115]⟩
abbrev zjo:ByteArray:=⟨#[102,97,108,108,115]⟩
abbrev ycq:ByteArray:=⟨#[102,114,111,109]⟩
abbrev yjw:ByteArray:=⟨#[116,111]⟩
abbrev yit:ByteArray:=⟨#[98,121]⟩
abbrev yf7:ByteArray:=⟨#[105,110]⟩
abbrev zep:ByteArray:=⟨#[98,117,100,103,101,116]⟩
abbrev y6f:ByteArray:=⟨#[46,46]⟩
abbrev z4k:ByteArray:=⟨#[32]⟩
def y8e (a b:Int):ByteArray:=z0b a++y6f++z0b b
def y9r (q:Qy):List ByteArray:=
 cond (q.k==1) [zmf,z0l q.c,ycq,z0b q.lo,yjw,z0b q.hi]
 (cond (q.k==2) [zvk,z0l q.c] [cond q.fl zjo zn6,z0l q.c,yit,z0l q.ft])
def Qy.spans (q:Qy):List (Int × Int):=[(q.a0,q.b0),(q.a1,q.b1),(q.a2,q.b2),(q.a3,q.b3),(q.a4,q.b4)]
def yc2 (q:Qy) (d:Nat):List ByteArray:=y9r q++yf7 :: ((q.spans.take d).map fun s=>y8e s.1 s.2)++[zep,z0l q.bu]
def okQ (q:Qy) (d:Int):Bool:=
 (!(decide (d < 1))&&!(decide (d > 4)))&&(q.eq (zfm q d)&&(zh7 q.c&&(zh7 q.ft&&(zh7 q.bu&&((q.k==1)||((q.k==2)||(q.k==3)))))))
def y36 (q:Qy) (d:Int):ByteArray:=cond (okQ q d) (zah (yc2 q d.toNat) z4k) y74
def zct:z0n
 | [.agg [.int .i64 k,.int .i64 c,.int .i64 a0,.int .i64 b0,.int .i64 a1,.int .i64 b1,.int .i64 a2,.int .i64 b2,.int .i64 a3,.int .i64 b3,.int .i64 a4,.int .i64 b4,.int .i64 lo,.int .i64 hi,.int .i64 ft,.bool fl,.int .i64 bu],.int .i64 d]=>
  .ok (.str (y36 ⟨k,c,a0,b0,a1,b1,a2,b2,a3,b3,a4,b4,lo,hi,ft,fl,bu⟩ d)) []
 | _=>.no
def wAt (l:List IV) (i:Nat):ByteArray:=(l.getD i default).toStr
def z2t (l:List IV):Qy:=
 cond ((wAt l 0).toList==zmf.toList) ⟨1,z6m (wAt l 1),0,0,0,0,0,0,0,0,0,0,zi5 (wAt l 3),zi5 (wAt l 5),0,false,0⟩
 (cond ((wAt l 0).toList==zvk.toList) ⟨2,z6m (wAt l 1),0,0,0,0,0,0,0,0,0,0,0,0,0,false,0⟩
 (cond ((wAt l 0).toList==zn6.toList||(wAt l 0).toList==zjo.toList) ⟨3,z6m (wAt l 1),0,0,0,0,0,0,0,0,0,0,0,0,z6m (wAt l 3),(wAt l 0).toList==zjo.toList,0⟩
 ⟨0,z6m (wAt l 1),0,0,0,0,0,0,0,0,0,0,0,0,0,false,0⟩))
def zdz:z0n
 | [.list false [.str] l]=>.br (decide (l.length≤4294967290)&&l.all (fun x=>decide (x.toStr.size < 4294967281)))
  (.ok (.agg [.int .i64 (z2t l).k,.int .i64 (z2t l).c,.int .i64 (z2t l).a0,.int .i64 (z2t l).b0,.int .i64 (z2t l).a1,.int .i64 (z2t l).b1,.int .i64 (z2t l).a2,.int .i64 (z2t l).b2,.int .i64 (z2t l).a3,.int .i64 (z2t l).b3,.int .i64 (z2t l).a4,.int .i64 (z2t l).b4,
   .int .i64 (z2t l).lo,.int .i64 (z2t l).hi,.int .i64 (z2t l).ft,.bool (z2t l).fl,.int .i64 (z2t l).bu]) []) .no
 | _=>.no
def spA (l:List IV) (i:Nat):Int:=zi5 (cutL (wAt l i) y6f)
def spB (l:List IV) (i:Nat):Int:=zi5 (zjz (wAt l i) y6f)
def yjj (l:List IV) (i d:Nat):Qy:=
 ⟨(
  z2t (l.take i)).k,(z2t (l.take i)).c,
  cond (Nat.blt 0 d) (spA l (i+1)) 0,cond (Nat.blt 0 d) (spB l (i+1)) 0,cond (Nat.blt 1 d) (spA l (i+2)) 0,cond (Nat.blt 1 d) (spB l (i+2)) 0,cond (Nat.blt 2 d) (spA l (i+3)) 0,cond (Nat.blt 2 d) (spB l (i+3)) 0,cond (Nat.blt 3 d) (spA l (i+4)) 0,cond (Nat.blt 3 d) (spB l (i+4)) 0,0,0,
  (z2t (l.take i)).lo,(z2t (l.take i)).hi,(z2t (l.take i)).ft,(z2t (l.take i)).fl,z6m (wAt l (l.length - 1))⟩
def za6 (s:ByteArray):List IV:=(z0p s z4k).map IV.str
def zp1 (s:ByteArray):Int:=zfc (za6 s) yf7 0
def zr8 (s:ByteArray):Int:=ic (za6 s).length - 2 - zp1 s - 1
def yg5 (s:ByteArray):Qy:=yjj (za6 s) (zp1 s).toNat (zr8 s).toNat
def y4n (s:ByteArray):Bool:=(!(decide (zp1 s < 0))&&(!(decide (zr8 s < 1))&&!(decide (zr8 s > 4))))&&(y36 (yg5 s) (zr8 s)).toList==s.toList
def zjy (s:ByteArray):Qy:=cond (y4n s) (yg5 s) Qy.none
def yg9 (s:ByteArray):Int:=cond (y4n s) (zr8 s) 0
def zcz:z0n
 | [.str s]=>.br (decide (s.size < 4294967281))
  (.ok (.tup [.agg [.int .i64 (zjy s).k,.int .i64 (zjy s).c,.int .i64 (zjy s).a0,.int .i64 (zjy s).b0,.int .i64 (zjy s).a1,.int .i64 (zjy s).b1,.int .i64 (zjy s).a2,.int .i64 (zjy s).b2,.int .i64 (zjy s).a3,.int .i64 (zjy s).b3,.int .i64 (zjy s).a4,.int .i64 (zjy s).b4,
   .int .i64 (zjy s).lo,.int .i64 (zjy s).hi,.int .i64 (zjy s).ft,.bool (zjy s).fl,.int .i64 (zjy s).bu],.int .i64 (yg9 s),.bool (y4n s)]) []) .no
 | _=>.no
open Go
def y94 (l:List IV) (i:Int):Int:=cond (ic l.length==0) 0 (l.getD (i.tmod (ic l.length)).toNat default).toInt
def z1r (n:Int):Bool:=decide (-2147483648≤n)&&decide (n≤2147483647)
def z6o:z0n
 | [.int .i64 n,.int .i64 w]=>.br (decide (w=32)) (.ok (.bool (z1r n)) []) .no
 | _=>.no
def y1q (lf:Bool) (v f a l r:Int):Bool:=
 cond lf (z1r v&&((f==0)&&((a==0)&&((l==0)&&(r==0)))))
  ((v==0)&&(decide (0≤f)&&(decide (f < 4)&&(z1r a&&(decide (1≤l)&&(decide (l < 31)&&(decide (1≤r)&&decide (r < 31))))))))
def z3p:z0n
 | [.agg [.bool lf,.int .i64 v,.int .i64 f,.int .i64 a,.int .i64 l,.int .i64 r]]=>.ok (.bool (y1q lf v f a l r)) []
 | _=>.no
def yj6 (a b:Int):Int:=zwm (ic (BitVec.toNat (BitVec.ofInt (IntKind.bits IntKind.u64) a &&& BitVec.ofInt (IntKind.bits IntKind.u64) b)))
def orU (a b:Int):Int:=zwm (ic (BitVec.toNat (BitVec.ofInt (IntKind.bits IntKind.u64) a ||| BitVec.ofInt (IntKind.bits IntKind.u64) b)))
def yhg (a:Int) (k:Nat):Int:=zwm (a*2 ^ k)
def zyb (lf:Bool) (v f a l r:Int):Int:=
 cond (y1q lf v f a l r)
  (cond lf (orU 9223372036854775808 (yj6 (zwm v) 4294967295))
   (orU (orU (orU (yj6 (zwm a) 4294967295) (yhg (zwm f) 32)) (yhg (zwm l) 40)) (yhg (zwm r) 48)))
  0
def z6n:z0n
 | [.agg [.bool lf,.int .i64 v,.int .i64 f,.int .i64 a,.int .i64 l,.int .i64 r]]=>.ok (.int .u64 (zyb lf v f a l r)) []
 | _=>.no
def mkN (lf:Bool) (v f a l r:Int):IV:=.agg [.bool lf,.int v,.int f,.int a,.int l,.int r]
def yft (v:Int):IV:=mkN true v 0 0 0 0
def yjc (x:IV):IV:=.int (zyb (x.cell 0).toBool (x.cell 1).toInt (x.cell 2).toInt (x.cell 3).toInt (x.cell 4).toInt (x.cell 5).toInt)
structure Ns where
 nodes:List IV
 leaves:List IV
def nsK (part:List IV) (i:Nat) (s:Ns):Int:=zab (part.getD i default).toInt 0 (ic s.leaves.length - 1)
def ykf (part:List IV) (i:Nat) (s:Ns):Int:=(s.leaves.getD (nsK part i s).toNat default).toInt
def y1b (part byl atl val:List IV) (dim:Int) (i:Nat) (s:Ns):Ns:=
 ⟨s.nodes.set (ykf part i s).toNat (mkN false 0 (zab (y94 byl (i:Int)) 0 (dim - 1)) (zab (y94 atl (i:Int)) 0 9) (ic s.nodes.length) (ic s.nodes.length+1)) ++
   [yft (zab (y94 val (2*(i:Int)+1)) (-3000) 3000),yft (zab (y94 val (2*(i:Int)+2)) (-3000) 3000)],
  s.leaves.take (nsK part i s).toNat++s.leaves.drop ((nsK part i s).toNat+1)++[.int (ic s.nodes.length),.int (ic s.nodes.length+1)]⟩
def yhr (part byl atl val:List IV) (dim:Int):Nat→Nat→Ns→Ns
 | 0,_,s=>s
 | d+1,i,s=>yhr part byl atl val dim d (i+1) (y1b part byl atl val dim i s)
def yhv (part byl atl val:List IV) (dim:Int):Ns:=yhr part byl atl val dim (min part.length 7) 0 ⟨[yft (zab (y94 val 0) (-3000) 3000)],[.int 0]⟩
def yht (part byl atl val:List IV) (dim:Int):List IV:=(yhv part byl atl val dim).nodes.map yjc
def yk3 (d:Int):Int:=zab d 1 3
def yjq (c:Int):Int:=zab c 1 3
def ygb (c:Int) (bias:List IV) (j:Int):Int:=cond (decide (j < yjq c)) (zab (y94 bias j) (-500) 500) 0
def yjn (d c:Int) (t:IV):IV:=.agg [.int (zab (t.cell 0).toInt 0 (yjq c - 1)),.list (yht (t.cell 1).toList (t.cell 2).toList (t.cell 3).toList (t.cell 4).toList (yk3 d))]
def yi9 (d c:Int) (ts:List IV):List IV:=(ts.take 4).map (yjn d c)
structure Ak where
 k:Int
 c:Int
 lo:Int
 size:Int
 ft:Int
 bu:Int
 fl:Bool
 sp:List IV
open Go Go.Proofs
def zpl (N:Nat):Env:=mkE [] [] 27 N
theorem zmg (N:Nat) (n w:Int):z0y (zpl N) zfj [.tmp 4] [[.bool]] [(.i n),(.i w)]=(cond (decide (w < 1)) (some ((.bool false),[])) (cond (decide (w > 64)) (some ((.bool false),[])) (cond (w==64) (some ((.bool true),[])) (cond (decide (IntKind.wrap IntKind.i64 (w - 1) < 0)) none (cond (decide (n≥IntKind.wrap IntKind.i64 (0 - IntKind.wrap IntKind.i64 (1*2 ^ min (Int.toNat (IntKind.wrap IntKind.i64 (w - 1))) (IntKind.bits IntKind.i64))))) (some ((.bool (decide (n≤IntKind.wrap IntKind.i64 (IntKind.wrap IntKind.i64 (1*2 ^ min (Int.toNat (IntKind.wrap IntKind.i64 (w - 1))) (IntKind.bits IntKind.i64)) - 1)))),[])) (some ((.bool false),[]))))))):=by kernel_rfl
def zh2 (N:Nat):Env:=mkE [(160,z6o)] [] 66 N
theorem zg4 (N:Nat) (u01:Bool) (u04 u00 n_At u02 u03:Int):z0y (zh2 N) zb1 [.tmp 2] [[.bool]] [(.agg [(.bool u01),(.i u04),(.i u00),(.i n_At),(.i u02),(.i u03)])]=(cond u01 (cond (z1r u04) (cond (u00==0) (cond (n_At==0) (cond (u02==0) (some ((.bool (u03==0)),[])) (some ((.bool false),[]))) (some ((.bool false),[]))) (some ((.bool false),[]))) (some ((.bool false),[]))) (cond (u04==0) (cond (decide (u00≥0)) (cond (decide (u00 < 4)) (cond (z1r n_At) (cond (decide (u02≥1)) (cond (decide (u02 < 31)) (cond (decide (u03≥1)) (some ((.bool (decide (u03 < 31))),[])) (some ((.bool false),[]))) (some ((.bool false),[]))) (some ((.bool false),[]))) (some ((.bool false),[]))) (some ((.bool false),[]))) (some ((.bool false),[]))) (some ((.bool false),[])))):=by kernel_rfl
def zp9 (N:Nat):Env:=mkE [(117,z3p)] [] 32 N
theorem zmq (N:Nat) (u01:Bool) (u04 u00 n_At u02 u03:Int):z0y (zp9 N) zfv [.tmp 2] [[.int .u64]] [(.agg [(.bool u01),(.i u04),(.i u00),(.i n_At),(.i u02),(.i u03)])]=(cond (!y1q u01 u04 u00 n_At u02 u03) (some ((.int .u64 0),[])) (cond u01 (some ((.int .u64 (IntKind.wrap IntKind.u64 (ic (BitVec.toNat (BitVec.ofInt (IntKind.bits IntKind.u64) 9223372036854775808 ||| BitVec.ofInt (IntKind.bits IntKind.u64) (IntKind.wrap IntKind.u64 (ic (BitVec.toNat (BitVec.ofInt (IntKind.bits IntKind.u64) (IntKind.wrap IntKind.u64 u04) &&& BitVec.ofInt (IntKind.bits IntKind.u64) 4294967295))))))))),[])) (some ((.int .u64 (IntKind.wrap IntKind.u64 (ic (BitVec.toNat (BitVec.ofInt (IntKind.bits IntKind.u64) (IntKind.wrap IntKind.u64 (ic (BitVec.toNat (BitVec.ofInt (IntKind.bits IntKind.u64) (IntKind.wrap IntKind.u64 (ic (BitVec.toNat (BitVec.ofInt (IntKind.bits IntKind.u64) (IntKind.wrap IntKind.u64 (ic (BitVec.toNat (BitVec.ofInt (IntKind.bits IntKind.u64) (IntKind.wrap IntKind.u64 n_At) &&& BitVec.ofInt (IntKind.bits IntKind.u64) 4294967295)))) ||| BitVec.ofInt (IntKind.bits IntKind.u64) (IntKind.wrap IntKind.u64 (IntKind.wrap IntKind.u64 u00*2 ^ min (Int.toNat 32) (IntKind.bits IntKind.u64))))))) ||| BitVec.ofInt (IntKind.bits IntKind.u64) (IntKind.wrap IntKind.u64 (IntKind.wrap IntKind.u64 u02*2 ^ min (Int.toNat 40) (IntKind.bits IntKind.u64))))))) ||| BitVec.ofInt (IntKind.bits IntKind.u64) (IntKind.wrap IntKind.u64 (IntKind.wrap IntKind.u64 u03*2 ^ min (Int.toNat 48) (IntKind.bits IntKind.u64)))))))),[])))):=by kernel_rfl
open Go Go.Proofs
open Go Go.Proofs
theorem zk6:z2u PR B0 160 z6o:=by
 refine z0f [] [] z6o [[.bool]] Tryz.func160 zoz trivial ?_;intro vs r hwf h;unfold z6o at h
 split at h
 ·rename_i n w
  cases hc:decide (w=32) with
  | false=>rw [hc] at h; simp [R.get] at h
  | true=>
   rw [hc,R.get_br,z00,R.get_ok] at h;have hc:=v0d hc;subst hc;refine ⟨0,?_⟩;rw [← h];refine (zmg 0 n 32).trans ?_;have e1:IntKind.wrap IntKind.i64 (0 - IntKind.wrap IntKind.i64 (1*2 ^ min (Int.toNat (IntKind.wrap IntKind.i64 ((32:Int) - 1))) (IntKind.bits IntKind.i64))) = -2147483648:=by kernel_rfl
   have e2:IntKind.wrap IntKind.i64 (IntKind.wrap IntKind.i64 (1*2 ^ min (Int.toNat (IntKind.wrap IntKind.i64 ((32:Int) - 1))) (IntKind.bits IntKind.i64)) - 1)=2147483647:=by kernel_rfl
   have e3:decide (IntKind.wrap IntKind.i64 ((32:Int) - 1) < 0)=false:=by kernel_rfl
   rw [e1,e2,e3];unfold z1r;have e4:decide (n ≥ -2147483648)=decide (-2147483648≤n):=rfl;rw [e4];cases decide (-2147483648≤n) <;> rfl
 ·simp [R.get] at h
theorem y23 (a b:Bool):cond a (some (V.bool b,[])) (some (V.bool false,[]))=(some (V.bool (a&&b),[]):Res):=by cases a <;> rfl
theorem zex:z2u PR B0 117 z3p:=by
 refine z0f [(160,z6o)] [] z3p [[.bool]] Tryz.func117 zg6 ⟨zk6,trivial⟩ ?_;intro vs r hwf h;unfold z3p at h
 split at h
 ·rename_i lf v f a l r'
  refine ⟨0,?_⟩;rw [← h];refine (zg4 0 lf v f a l r').trans ?_;simp only [R.get_ok,y23];unfold y1q;cases lf with
  | true=>rfl
  | false=>rfl
 ·simp [R.get] at h
theorem zl1:z2u PR B0 71 z6n:=by
 refine z0f [(117,z3p)] [] z6n [[.int .u64]] Tryz.func71 zp5 ⟨zex,trivial⟩ ?_;intro vs r hwf h;unfold z6n at h
 split at h
 ·rename_i lf v f a l r'
  refine ⟨0,?_⟩;rw [← h];refine (zmq 0 lf v f a l r').trans ?_;unfold zyb;cases y1q lf v f a l r' with
  | false=>rfl
  | true=>cases lf <;> rfl
 ·simp [R.get] at h
open Go
def z6d:z0n
 | [.int .i64 n,.int .i64 w]=>.br (decide (w=32)) (.ok (.bool (z1r n)) []) .no
 | _=>.no
def z7f:z0n
 | [.int .i64 a,.int .i64 w]=>.br (decide (0≤a)&&decide (a < 64)) (.ok (.bool (decide (1≤w)&&decide (w≤64 - a))) []) .no
 | _=>.no
def y4i (w:Int):Int:=(18446744073709551615:Int).fdiv (2 ^ (64 - w).toNat)
def z8q:z0n
 | [.int .i64 w]=>.br (decide (1≤w)&&decide (w≤64)) (.ok (.int .u64 (y4i w)) []) .no
 | _=>.no
def yg6 (a b:Int):Int:=zwm (ic (BitVec.toNat (BitVec.ofInt (IntKind.bits IntKind.u64) a &&& ~~~ (BitVec.ofInt (IntKind.bits IntKind.u64) b))))
def yaj (x a w y:Int):Int:=orU (yg6 x (yhg (y4i w) a.toNat)) (yj6 (yhg y a.toNat) (yhg (y4i w) a.toNat))
def znz (x a w:Int):Int:=yj6 (x.fdiv (2 ^ a.toNat)) (y4i w)
def zdu:z0n
 | [.int .u64 x,.int .i64 a,.int .i64 w,.int .u64 y]=>.br (decide (0≤a)&&(decide (a < 64)&&(decide (1≤w)&&decide (w≤64 - a)))) (.ok (.int .u64 (yaj x a w y)) []) .no
 | _=>.no
def z7q:z0n
 | [.int .u64 x,.int .i64 a,.int .i64 w]=>.br (decide (0≤a)&&(decide (a < 64)&&(decide (1≤w)&&decide (w≤64 - a)))) (.ok (.int .u64 (znz x a w)) []) .no
 | _=>.no
def ycs (n:Int):Int:=(zd2 (n*2 ^ 32)).fdiv (2 ^ 32)
def zcf:z0n
 | [.int .i64 n,.int .i64 w]=>.br (decide (w=32)) (.ok (.int .i64 (ycs n)) []) .no
 | _=>.no
def zm9 (x:Int):Int:=ycs (zd2 (znz x 0 32))
def z9s:z0n
 | [.int .u64 x,.int .i64 a,.int .i64 w]=>.br (decide (a=0)&&decide (w=32)) (.ok (.int .i64 (zm9 x)) []) .no
 | _=>.no
structure Nd where
 lf:Bool
 v:Int
 f:Int
 a:Int
 l:Int
 r:Int
def Nd.eq (x y:Nd):Bool:=(x.lf==y.lf)&&((x.v==y.v)&&((x.f==y.f)&&((x.a==y.a)&&((x.l==y.l)&&((x.r==y.r)&&true)))))
def Nd.zero:Nd:=⟨false,0,0,0,0,0⟩
def zlb (n:Int):Bool:=decide (1≤n)&&decide (n < 31)
def zbf:z0n
 | [.int .i64 n]=>.ok (.bool (zlb n)) []
 | _=>.no
def zam (x:Nd):Bool:=
 cond x.lf (x.eq ⟨true,x.v,0,0,0,0⟩&&z1r x.v)
  ((x.v==0)&&(decide (0≤x.f)&&(decide (x.f < 4)&&(z1r x.a&&(zlb x.l&&zlb x.r)))))
def zb7:z0n
 | [.agg [.bool lf,.int .i64 v,.int .i64 f,.int .i64 a,.int .i64 l,.int .i64 r]]=>.ok (.bool (zam ⟨lf,v,f,a,l,r⟩)) []
 | _=>.no
def z7s (x:Nd):Int:=
 cond (zam x)
  (cond x.lf (yaj 9223372036854775808 0 32 (zwm x.v))
   (yaj (yaj (yaj (yaj 0 0 32 (zwm x.a)) 32 4 (zwm x.f)) 40 8 (zwm x.l)) 48 8 (zwm x.r)))
  0
def z8m:z0n
 | [.agg [.bool lf,.int .i64 v,.int .i64 f,.int .i64 a,.int .i64 l,.int .i64 r]]=>.ok (.int .u64 (z7s ⟨lf,v,f,a,l,r⟩)) []
 | _=>.no
def zqv (w:Int):Nd:=
 cond (znz w 63 1==0) ⟨false,0,zd2 (znz w 32 4),zm9 w,zd2 (znz w 40 8),zd2 (znz w 48 8)⟩ ⟨true,zm9 w,0,0,0,0⟩
def zaf (w:Int):Bool:=!(w==0)&&(z7s (zqv w)==w)
def z04 (w:Int):Nd:=cond (zaf w) (zqv w) Nd.zero
def z1t:z0n
 | [.int .u64 w]=>.ok (.tup [.agg [.bool (z04 w).lf,.int .i64 (z04 w).v,.int .i64 (z04 w).f,.int .i64 (z04 w).a,.int .i64 (z04 w).l,.int .i64 (z04 w).r],.bool (zaf w)]) []
 | _=>.no
def z7d:z0n
 | [.int .i64 a,.int .i64 w,.bor [.int .u64 x]]=>.br (decide (0≤a)&&(decide (a < 64)&&(decide (1≤w)&&decide (w≤64 - a)))) (.ok (.int .i64 (zd2 (znz x a w))) [[.int .u64 x]]) .no
 | _=>.no
def zdj (x:Nd) (j:Nat):Nat:=cond x.lf 0 ((if x.l=(j:Int) then 1 else 0)+(if x.r=(j:Int) then 1 else 0))
def z5a (l:List IV) (j:Nat):Nat:=(l.map fun w=>zdj (z04 w.toInt) j).sum
def zxf (dim n:Int) (i:Nat) (x:Nd):Bool:=
 cond x.lf true (!(decide (x.f≥dim))&&(!(x.l==x.r)&&(!(decide (min x.l x.r≤(i:Int)))&&!(decide (max x.l x.r≥n)))))
def zcl (dim n:Int):Nat→List IV→Bool
 | _,[]=>true
 | i,w :: r=>(zaf w.toInt&&zxf dim n i (z04 w.toInt))&&zcl dim n (i+1) r
def yao (l:List IV):Bool:=(List.range (l.length - 1)).all fun j=>z5a l (j+1)==1
def z8v (l:List IV) (dim:Int):Bool:=(Nat.ble 1 l.length&&Nat.ble l.length 31)&&(zcl dim (ic l.length) 0 l&&yao l)
def z7e:z0n
 | [.list false [.int .u64] l,.int .i64 dim]=>.ok (.bool (z8v l dim)) []
 | _=>.no
structure Md where
 d:Int
 c:Int
 b0:Int
 b1:Int
 b2:Int
 ts:List IV
def z7u (d c:Int) (t:IV):Bool:=!(decide ((t.cell 0).toInt < 0))&&(!(decide ((t.cell 0).toInt≥c))&&z8v (t.cell 1).toList d)
def zfz (c j b:Int):Bool:=z1r b&&!(decide (j≥c)&&!(b==0))
def z26 (m:Md):Bool:=
 (!(decide (m.d < 1))&&(!(decide (m.d > 4))&&(!(decide (m.c < 1))&&(!(decide (m.c > 3))&&Nat.ble m.ts.length 8)))) &&
  ((zfz m.c 0 m.b0&&(zfz m.c 1 m.b1&&zfz m.c 2 m.b2))&&m.ts.all (z7u m.d m.c))
abbrev zji:List Kd:=[.int .i64,.list false [.int .u64]]
def z4o:z0n
 | [.agg [.int .i64 k,.list false [.int .u64] l],.bor [.int .i64 d,.int .i64 c,.int .i64 b0,.int .i64 b1,.int .i64 b2,.list true [.int .i64,.list false [.int .u64]] ts]]=>
  .ok (.bool (!(z7u d c (.agg [.int k,.list l])))) [[.int .i64 d,.int .i64 c,.int .i64 b0,.int .i64 b1,.int .i64 b2,.list true zji ts]]
 | _=>.no
def zqr (d c:Int):List IV→Int→Int
 | [],_ => -1
 | t :: r,i=>cond (z7u d c t) (zqr d c r (i+1)) i
def z1g:z0n
 | [.list true [.int .i64,.list false [.int .u64]] l,.clo 95 [.bor [.int .i64 d,.int .i64 c,.int .i64 b0,.int .i64 b1,.int .i64 b2,.list true [.int .i64,.list false [.int .u64]] ts]]]=>
  .ok (.int .i64 (zqr d c l 0)) [[.int .i64 d,.int .i64 c,.int .i64 b0,.int .i64 b1,.int .i64 b2,.list true zji ts]]
 | _=>.no
def z17:z0n
 | [.list true [.int .i64,.list false [.int .u64]] l,.clo 95 [.bor [.int .i64 d,.int .i64 c,.int .i64 b0,.int .i64 b1,.int .i64 b2,.list true [.int .i64,.list false [.int .u64]] ts]]]=>
  .ok (.bool (!(l.all (z7u d c)))) [[.int .i64 d,.int .i64 c,.int .i64 b0,.int .i64 b1,.int .i64 b2,.list true zji ts]]
 | _=>.no
def z1u:z0n
 | [.agg [.int .i64 d,.int .i64 c,.int .i64 b0,.int .i64 b1,.int .i64 b2,.list true [.int .i64,.list false [.int .u64]] ts]]=>.ok (.bool (z26 ⟨d,c,b0,b1,b2,ts⟩)) []
 | _=>.no
abbrev zdc:ByteArray:=⟨#[102,111,114,101,115,116]⟩
abbrev zfw:ByteArray:=⟨#[98,105,97,115]⟩
abbrev zof:ByteArray:=⟨#[116,114,101,101]⟩
abbrev zvw:ByteArray:=⟨#[108,101,97,102]⟩
abbrev yju:ByteArray:=⟨#[105,102]⟩
abbrev yjx:ByteArray:=⟨#[60,61]⟩
abbrev yab:ByteArray:=⟨#[116,104,101,110]⟩
abbrev ycu:ByteArray:=⟨#[101,108,115,101]⟩
abbrev ygi:ByteArray:=⟨#[10]⟩
def z5s (ws:List ByteArray):ByteArray:=zah ws z4k++ygi
def za4:List (List ByteArray)→ByteArray
 | []=>ByteArray.empty
 | l :: r=>z5s l++za4 r
def zzn (x:Nd):List ByteArray:=
 cond x.lf [zvw,z0b x.v] [yju,z0l x.f,yjx,z0b x.a,yab,z0l x.l,ycu,z0l x.r]
def zit (l:List IV):List (List ByteArray):=l.map fun w=>zzn (z04 w.toInt)
def y3s (t:IV):List (List ByteArray):=[zof,z0l (t.cell 0).toInt,z0l (ic (t.cell 1).toList.length)] :: zit (t.cell 1).toList
def zir:List IV→List (List ByteArray)
 | []=>[]
 | t :: r=>y3s t++zir r
def yex (m:Md):List (List ByteArray):=[[zdc,z0l m.d,z0l m.c],zfw :: ([m.b0,m.b1,m.b2].take m.c.toNat).map z0b]
def yfd (m:Md):List (List ByteArray):=yex m++zir m.ts
def y1t (m:Md):ByteArray:=cond (z26 m) (za4 (yfd m)) y74
def zec (s:ByteArray) (most:Int):Int:=cond (zsk s&&(!(decide (z6m s < 0))&&!(decide (z6m s > most)))) (z6m s) 0
def z3g (ls:List IV):List IV:=match ls with | []=>[] | l :: _=>za6 l.toStr
def yh1 (l:List IV):Nd:=
 cond ((wAt l 0).toList==zvw.toList) ⟨true,zi5 (wAt l 1),0,0,0,0⟩ ⟨false,0,zec (wAt l 1) 4,zi5 (wAt l 3),zec (wAt l 5) 31,zec (wAt l 7) 31⟩
def zbn (ls:List IV) (k:Nat):List IV:=(List.range k).map fun i=>.int (z7s (yh1 (z3g (ls.drop i))))
def rdK (ls:List IV):Nat:=(zec (wAt (z3g ls) 2) 31).toNat
def y7d (ls:List IV):IV:=.agg [.int (zec (wAt (z3g ls) 1) 3),.list (zbn (ls.drop 1) (rdK ls))]
def zal:Nat→List IV→List IV
 | 0,_=>[]
 | n+1,ls=>match ls with
  | []=>[]
  | l :: r=>y7d (l :: r) :: zal n (r.drop (rdK (l :: r)))
def zcw (ls:List IV) (c:Int) (j:Nat):Int:=cond (decide ((j:Int) < c)) (zi5 (wAt (z3g (ls.drop 1)) (1+j))) 0
def rdC (ls:List IV):Int:=zec (wAt (z3g ls) 2) 3
def yh7 (ls:List IV):Md:=⟨zec (wAt (z3g ls) 1) 4,rdC ls,zcw ls (rdC ls) 0,zcw ls (rdC ls) 1,zcw ls (rdC ls) 2,zal 9 (ls.drop 2)⟩
def zqo (s t:ByteArray):Bool:=decide (t.size≤s.size)&&(s.extract (s.size - t.size) s.size).toList==t.toList
def z5c (s t:ByteArray):ByteArray:=cond (zqo s t) (s.extract 0 (s.size - t.size)) s
def ya1 (s:ByteArray):ByteArray:=z5c s ygi
def zq4 (s:ByteArray):List IV:=(z0p (ya1 s) ygi).map IV.str
def yee (s:ByteArray):Md:=yh7 (zq4 s)
def Md.zero:Md:=⟨0,0,0,0,0,[]⟩
def zw8 (s:ByteArray):Bool:=!(s.toList==y74.toList)&&(y1t (yee s)).toList==s.toList
def zdm (s:ByteArray):Md:=cond (zw8 s) (yee s) Md.zero
def z6c (l:List IV):Bool:=l.all fun x=>decide (x.toStr.size < 4294967281)
def zck:z0n
 | [.bor [.bld s],.list false [.str] ws]=>.br (Nat.ble ws.length 1000&&decide (s.size+(z5s (ws.map IV.toStr)).size≤1000000000)) (.ok (.tup []) [[.bld (s++z5s (ws.map IV.toStr))]]) .no
 | _=>.no
def z7b:z0n
 | [.agg [.int .i64 d,.int .i64 c,.int .i64 b0,.int .i64 b1,.int .i64 b2,.list true [.int .i64,.list false [.int .u64]] ts]]=>.ok (.str (y1t ⟨d,c,b0,b1,b2,ts⟩)) []
 | _=>.no
def z33:z0n
 | [.bor [.list false [.str] ls]]=>.br (z6c ls) (.ok (.list false [.str] (z3g ls)) [[.list false [.str] (ls.drop 1)]]) .no
 | _=>.no
def z8o:z0n
 | [.list false [.str] l,.int .i64 i]=>.br (decide (0≤i)) (.ok (.str (wAt l i.toNat)) []) .no
 | _=>.no
def z77:z0n
 | [.str s,.int .i64 most]=>.ok (.int .i64 (zec s most)) []
 | _=>.no
def z8u:z0n
 | [.str s]=>.br (decide (s.size < 4294967281)) (.ok (.int .i64 (zi5 s)) []) .no
 | _=>.no
def z4u:z0n
 | [.bor [.list false [.str] ls]]=>.br (z6c ls) (.ok (.int .u64 (z7s (yh1 (z3g ls)))) [[.list false [.str] (ls.drop 1)]]) .no
 | _=>.no
def z1i:z0n
 | [.str s,.str t]=>.ok (.bool (zqo s t)) []
 | _=>.no
def z1h:z0n
 | [.str s,.str t]=>.ok (.str (z5c s t)) []
 | _=>.no
def z2h:z0n
 | [.str s,.str t]=>.ok (.str (z5c s t)) []
 | _=>.no
def zbg:z0n
 | [.str s]=>.br (decide (s.size < 4294967281)) (.ok (.tup [.agg [.int .i64 (zdm s).d,.int .i64 (zdm s).c,.int .i64 (zdm s).b0,.int .i64 (zdm s).b1,.int .i64 (zdm s).b2,.list true zji (zdm s).ts],.bool (zw8 s)]) []) .no
 | _=>.no
open Go Go.Proofs
def y49 (N:Nat):Env:=mkE [] [] 25 N
theorem zzx (N:Nat) (n w:Int):z0y (y49 N) zqa [.tmp 4] [[.bool]] [(.i n),(.i w)]=(cond (decide (w < 1)) (some ((.bool false),[])) (cond (decide (w > 64)) (some ((.bool false),[])) (cond (decide (IntKind.wrap IntKind.u64 (IntKind.wrap IntKind.i64 (w - 1)) < 0)) none (cond (Int.fdiv n (2 ^ min (Int.toNat (IntKind.wrap IntKind.u64 (IntKind.wrap IntKind.i64 (w - 1)))) (IntKind.bits IntKind.i64))==0) (some ((.bool true),[])) (cond (decide (IntKind.wrap IntKind.u64 (IntKind.wrap IntKind.i64 (w - 1)) < 0)) none (some ((.bool (Int.fdiv n (2 ^ min (Int.toNat (IntKind.wrap IntKind.u64 (IntKind.wrap IntKind.i64 (w - 1)))) (IntKind.bits IntKind.i64)) == -1)),[]))))))):=by kernel_rfl
def y5m (N:Nat):Env:=mkE [] [] 21 N
theorem y0l (N:Nat) (n w:Int):z0y (y5m N) zs7 [.tmp 4] [[.int .i64]] [(.i n),(.i w)]=(cond (decide (w < 1)) (some ((.i n),[])) (cond (decide (w≥64)) (some ((.i n),[])) (cond (decide (IntKind.wrap IntKind.u64 (IntKind.wrap IntKind.i64 (64 - w)) < 0)) none (cond (decide (IntKind.wrap IntKind.u64 (IntKind.wrap IntKind.i64 (64 - w)) < 0)) none (some ((.i (Int.fdiv (IntKind.wrap IntKind.i64 (n*2 ^ min (Int.toNat (IntKind.wrap IntKind.u64 (IntKind.wrap IntKind.i64 (64 - w)))) (IntKind.bits IntKind.i64))) (2 ^ min (Int.toNat (IntKind.wrap IntKind.u64 (IntKind.wrap IntKind.i64 (64 - w)))) (IntKind.bits IntKind.i64)))),[])))))):=by kernel_rfl
def y3c (N:Nat):Env:=mkE [] [] 21 N
theorem zya (N:Nat) (atv w:Int):z0y (y3c N) zoh [.tmp 4] [[.bool]] [(.i atv),(.i w)]=(cond (decide (atv≥0)) (cond (decide (atv < 64)) (cond (decide (w≥1)) (some ((.bool (decide (w≤IntKind.wrap IntKind.i64 (64 - atv)))),[])) (some ((.bool false),[]))) (some ((.bool false),[]))) (some ((.bool false),[]))):=by kernel_rfl
def y57 (N:Nat):Env:=mkE [] [] 7 N
theorem y1n (N:Nat) (w:Int):z0y (y57 N) zr1 [.tmp 2] [[.int .u64]] [(.i w)]=(cond (decide (IntKind.wrap IntKind.u64 (IntKind.wrap IntKind.i64 (64 - w)) < 0)) none (some ((.int .u64 (Int.fdiv 18446744073709551615 (2 ^ min (Int.toNat (IntKind.wrap IntKind.u64 (IntKind.wrap IntKind.i64 (64 - w)))) (IntKind.bits IntKind.u64)))),[]))):=by kernel_rfl
def y8b (N:Nat):Env:=mkE [(149,z7f),(150,z8q)] [] 30 N
theorem y3y (N:Nat) (x atv w y:Int):z0y (y8b N) zwa [.tmp 8] [[.int .u64]] [(.int .u64 x),(.i atv),(.i w),(.int .u64 y)]=(cond (decide (0≤atv)&&decide (atv < 64)) (cond (! (decide (1≤w)&&decide (w≤64 - atv))) (some ((.int .u64 x),[])) (cond (decide (1≤w)&&decide (w≤64)) (cond (decide (IntKind.wrap IntKind.u64 atv < 0)) none (cond (decide (IntKind.wrap IntKind.u64 atv < 0)) none (some ((.int .u64 (IntKind.wrap IntKind.u64 (ic (BitVec.toNat (BitVec.ofInt (IntKind.bits IntKind.u64) (IntKind.wrap IntKind.u64 (ic (BitVec.toNat (BitVec.ofInt (IntKind.bits IntKind.u64) x &&& ~~~BitVec.ofInt (IntKind.bits IntKind.u64) (IntKind.wrap IntKind.u64 (y4i w*2 ^ min (Int.toNat (IntKind.wrap IntKind.u64 atv)) (IntKind.bits IntKind.u64))))))) ||| BitVec.ofInt (IntKind.bits IntKind.u64) (IntKind.wrap IntKind.u64 (ic (BitVec.toNat (BitVec.ofInt (IntKind.bits IntKind.u64) (IntKind.wrap IntKind.u64 (y*2 ^ min (Int.toNat (IntKind.wrap IntKind.u64 atv)) (IntKind.bits IntKind.u64))) &&& BitVec.ofInt (IntKind.bits IntKind.u64) (IntKind.wrap IntKind.u64 (y4i w*2 ^ min (Int.toNat (IntKind.wrap IntKind.u64 atv)) (IntKind.bits IntKind.u64)))))))))))),[])))) none)) none):=by kernel_rfl
def y9k (N:Nat):Env:=mkE [(149,z7f),(150,z8q)] [] 18 N
theorem y5j (N:Nat) (x atv w:Int):z0y (y9k N) zvn [.tmp 6] [[.int .u64]] [(.int .u64 x),(.i atv),(.i w)]=(cond (decide (0≤atv)&&decide (atv < 64)) (cond (! (decide (1≤w)&&decide (w≤64 - atv))) (some ((.int .u64 0),[])) (cond (decide (IntKind.wrap IntKind.u64 atv < 0)) none (cond (decide (1≤w)&&decide (w≤64)) (some ((.int .u64 (IntKind.wrap IntKind.u64 (ic (BitVec.toNat (BitVec.ofInt (IntKind.bits IntKind.u64) (Int.fdiv x (2 ^ min (Int.toNat (IntKind.wrap IntKind.u64 atv)) (IntKind.bits IntKind.u64))) &&& BitVec.ofInt (IntKind.bits IntKind.u64) (y4i w)))))),[])) none))) none):=by kernel_rfl
def zyl (N:Nat):Env:=mkE [(99,z7q),(148,zcf)] [] 14 N
theorem zt4 (N:Nat) (x atv w:Int):z0y (zyl N) zkb [.tmp 6] [[.int .i64]] [(.int .u64 x),(.i atv),(.i w)]=(cond (decide (0≤atv)&&(decide (atv < 64)&&(decide (1≤w)&&decide (w≤64 - atv)))) (cond (decide (w=32)) (some ((.i (ycs (IntKind.wrap IntKind.i64 (znz x atv w)))),[])) none) none):=by kernel_rfl
def y0j (N:Nat):Env:=mkE [] [] 9 N
theorem zxi (N:Nat) (n:Int):z0y (y0j N) zok [.tmp 2] [[.bool]] [(.i n)]=(cond (decide (n≥1)) (some ((.bool (decide (n < 31))),[])) (some ((.bool false),[]))):=by kernel_rfl
def y2v (N:Nat):Env:=mkE [(93,z6d),(190,zbf)] [] 43 N
theorem zx2 (N:Nat) (u01:Bool) (u04 u00 n_At u02 u03:Int):z0y (y2v N) zoo [.tmp 2] [[.bool]] [(.agg [(.bool u01),(.i u04),(.i u00),(.i n_At),(.i u02),(.i u03)])]=(cond u01 (cond (u01==true&&(u04==u04&&(u00==0&&(n_At==0&&(u02==0&&(u03==0&&true)))))) (some ((.bool (z1r u04)),[])) (some ((.bool false),[]))) (cond (u04==0) (cond (decide (u00≥0)) (cond (decide (u00 < 4)) (cond (z1r n_At) (cond (zlb u02) (some ((.bool (zlb u03)),[])) (some ((.bool false),[]))) (some ((.bool false),[]))) (some ((.bool false),[]))) (some ((.bool false),[]))) (some ((.bool false),[])))):=by kernel_rfl
def y62 (N:Nat):Env:=mkE [(146,zdu),(145,zb7)] [] 32 N
theorem y1o (N:Nat) (u01:Bool) (u04 u00 n_At u02 u03:Int):z0y (y62 N) zr4 [.tmp 2] [[.int .u64]] [(.agg [(.bool u01),(.i u04),(.i u00),(.i n_At),(.i u02),(.i u03)])]=(cond (!zam {lf:=u01,v:=u04,f:=u00,a:=n_At,l:=u02,r:=u03}) (some ((.int .u64 0),[])) (cond u01 (some ((.int .u64 (yaj 9223372036854775808 0 32 (IntKind.wrap IntKind.u64 u04))),[])) (some ((.int .u64 (yaj (yaj (yaj (yaj 0 0 32 (IntKind.wrap IntKind.u64 n_At)) 32 4 (IntKind.wrap IntKind.u64 u00)) 40 8 (IntKind.wrap IntKind.u64 u02)) 48 8 (IntKind.wrap IntKind.u64 u03))),[])))):=by kernel_rfl
def zqj (N:Nat):Env:=mkE [(99,z7q)] [] 11 N
theorem zp2 (N:Nat) (a w x:Int):z0y (zqj N) zh8 [.tmp 5] [[.int .i64]] [(.i a),(.i w),(.bor [.int .u64 x])]=(cond (decide (0≤a)&&(decide (a < 64)&&(decide (1≤w)&&decide (w≤64 - a)))) (some ((.i (IntKind.wrap IntKind.i64 (znz x a w))),[[(.int .u64 x)]])) none):=by kernel_rfl
def zyt (N:Nat):Env:=mkE [(99,z7q),(98,z9s),(92,z8m),(100,z7d)] [] 33 N
theorem zuc (N:Nat) (w:Int):z0y (zyt N) zlh [.cell 2 111,.tmp 3] [[.bool,.int .i64,.int .i64,.int .i64,.int .i64,.int .i64],[.bool]] [(.int .u64 w)]=(cond (znz w 63 1==0) (cond (w==0) (some ((.tup [(.agg [(.bool false),(.i 0),(.i 0),(.i 0),(.i 0),(.i 0)]),(.bool false)]),[])) (cond (z7s {lf:=false,v:=0,f:=zd2 (znz w 32 4),a:=zm9 w,l:=zd2 (znz w 40 8),r:=zd2 (znz w 48 8)} != w) (some ((.tup [(.agg [(.bool false),(.i 0),(.i 0),(.i 0),(.i 0),(.i 0)]),(.bool false)]),[])) (some ((.tup [(.agg [(.bool false),(.i 0),(.i (zd2 (znz w 32 4))),(.i (zm9 w)),(.i (zd2 (znz w 40 8))),(.i (zd2 (znz w 48 8)))]),(.bool true)]),[])))) (cond (w==0) (some ((.tup [(.agg [(.bool false),(.i 0),(.i 0),(.i 0),(.i 0),(.i 0)]),(.bool false)]),[])) (cond (z7s {lf:=true,v:=zm9 w,f:=0,a:=0,l:=0,r:=0} != w) (some ((.tup [(.agg [(.bool false),(.i 0),(.i 0),(.i 0),(.i 0),(.i 0)]),(.bool false)]),[])) (some ((.tup [(.agg [(.bool true),(.i (zm9 w)),(.i 0),(.i 0),(.i 0),(.i 0)]),(.bool true)]),[]))))):=by kernel_rfl
open Go Go.Proofs
theorem yax {n:Int} (h0:0≤n) (h1:n < 18446744073709551616):IntKind.wrap IntKind.u64 n=n:=by
 rw [yek];omega
theorem zev:z2u PR B0 93 z6d:=by
 refine z0f [] [] z6d [[.bool]] Tryz.func93 y4l trivial ?_;intro vs r hwf h;unfold z6d at h
 split at h
 ·rename_i n w
  cases hc:decide (w=32) with
  | false=>rw [hc] at h; simp [R.get] at h
  | true=>
   rw [hc,R.get_br,z00,R.get_ok] at h;have hc:=v0d hc;subst hc;refine ⟨0,?_⟩;rw [← h];refine (zzx 0 n 32).trans ?_;have e3:decide (IntKind.wrap IntKind.u64 (IntKind.wrap IntKind.i64 ((32:Int) - 1)) < 0)=false:=by kernel_rfl
   have e4:(2:Int) ^ min (Int.toNat (IntKind.wrap IntKind.u64 (IntKind.wrap IntKind.i64 ((32:Int) - 1)))) (IntKind.bits IntKind.i64)=2147483648:=by kernel_rfl
   rw [e3,e4,v07 (show ¬ (32:Int) < 1 by omega),v07 (show ¬ (32:Int) > 64 by omega),z02,z02,z02,z02]
   have h0:=Int.fdiv_mul_add_fmod n 2147483648;have h1:=Int.fmod_nonneg_of_pos n (show (0:Int) < 2147483648 by omega)
   have h2:=Int.fmod_lt_of_pos n (show (0:Int) < 2147483648 by omega)
   generalize Int.fdiv n 2147483648=q at h0 ⊢
   generalize Int.fmod n 2147483648=m at h0 h1 h2;unfold z1r;rw [zjp,zjp];cases hq:decide (q=0) with
   | true=>
    have hq:=v0d hq;rw [v01 (show -2147483648≤n by omega),v01 (show n≤2147483647 by omega)]
    rfl
   | false=>
    have hq:=v0t hq;cases hp:decide (q = -1) with
    | true=>
     have hp:=v0d hp;rw [v01 (show -2147483648≤n by omega),v01 (show n≤2147483647 by omega)]
     rfl
    | false=>
     have hp:=v0t hp;rw [z02]
     congr 3
     symm
     rw [Bool.and_eq_false_iff,v14,v14];omega
 ·simp [R.get] at h
theorem zxs:z2u PR B0 148 zcf:=by
 refine z0f [] [] zcf [[.int .i64]] Tryz.func148 y52 trivial ?_;intro vs r hwf h;unfold zcf at h
 split at h
 ·rename_i n w
  cases hc:decide (w=32) with
  | false=>rw [hc] at h; simp [R.get] at h
  | true=>
   rw [hc,R.get_br,z00,R.get_ok] at h;have hc:=v0d hc;subst hc;refine ⟨0,?_⟩;rw [← h];refine (y0l 0 n 32).trans ?_;have e3:decide (IntKind.wrap IntKind.u64 (IntKind.wrap IntKind.i64 ((64:Int) - 32)) < 0)=false:=by kernel_rfl
   have e4:min (Int.toNat (IntKind.wrap IntKind.u64 (IntKind.wrap IntKind.i64 ((64:Int) - 32)))) (IntKind.bits IntKind.i64)=32:=by kernel_rfl
   rw [e3,e4,v07 (show ¬ (32:Int) < 1 by omega),v07 (show ¬ (32:Int)≥64 by omega),z02,z02,z02,z02]
   rfl
 ·simp [R.get] at h
theorem ziw:z2u PR B0 149 z7f:=by
 refine z0f [] [] z7f [[.bool]] Tryz.func149 y1m trivial ?_;intro vs r hwf h;unfold z7f at h
 split at h
 ·rename_i a w
  cases hc:(decide (0≤a)&&decide (a < 64)) with
  | false=>rw [hc] at h; simp [R.get] at h
  | true=>
   rw [hc,R.get_br,z00,R.get_ok] at h;rw [v02,v06,v06] at hc;refine ⟨0,?_⟩;rw [← h];refine (zya 0 a w).trans ?_;have e:IntKind.wrap IntKind.i64 (64 - a)=64 - a:=z15 (by omega) (by omega)
   have e1:decide (w≥1)=decide (1≤w):=rfl;rw [v01 (show a≥0 by omega),v01 hc.2,z00,z00,e,e1]
   cases decide (1≤w) <;> rfl
 ·simp [R.get] at h
theorem zl3:z2u PR B0 150 z8q:=by
 refine z0f [] [] z8q [[.int .u64]] Tryz.func150 y46 trivial ?_;intro vs r hwf h;unfold z8q at h
 split at h
 ·rename_i w
  cases hc:(decide (1≤w)&&decide (w≤64)) with
  | false=>rw [hc] at h; simp [R.get] at h
  | true=>
   rw [hc,R.get_br,z00,R.get_ok] at h;rw [v02,v06,v06] at hc;refine ⟨0,?_⟩;rw [← h];refine (y1n 0 w).trans ?_;have e:IntKind.wrap IntKind.i64 (64 - w)=64 - w:=z15 (by omega) (by omega)
   have e2:IntKind.wrap IntKind.u64 (64 - w)=64 - w:=yax (by omega) (by omega)
   have e3:min (64 - w).toNat (IntKind.bits IntKind.u64)=(64 - w).toNat:=by
    have:IntKind.bits IntKind.u64=64:=rfl
    omega
   rw [e,e2,e3,v07 (show ¬ (64 - w < 0) by omega),z02]
   rfl
 ·simp [R.get] at h
theorem zzm {a w:Int} (hc:(decide (0≤a)&&(decide (a < 64)&&(decide (1≤w)&&decide (w≤64 - a))))=true):0≤a∧a < 64∧1≤w∧w≤64 - a:=by
 simpa only [v02,v06] using hc
theorem y2f:z2u PR B0 146 zdu:=by
 refine z0f [(149,z7f),(150,z8q)] [] zdu [[.int .u64]] Tryz.func146 y8q ⟨ziw,zl3,trivial⟩ ?_;intro vs r hwf h;unfold zdu at h
 split at h
 ·rename_i x a w y
  cases hc:(decide (0≤a)&&(decide (a < 64)&&(decide (1≤w)&&decide (w≤64 - a)))) with
  | false=>rw [hc] at h; simp [R.get] at h
  | true=>
   rw [hc,R.get_br,z00,R.get_ok] at h;obtain ⟨h1,h2,h3,h4⟩:=zzm hc;refine ⟨0,?_⟩;rw [← h];refine (y3y 0 x a w y).trans ?_;have e2:IntKind.wrap IntKind.u64 a=a:=yax (by omega) (by omega)
   have e3:min a.toNat (IntKind.bits IntKind.u64)=a.toNat:=by
    have:IntKind.bits IntKind.u64=64:=rfl
    omega
   rw [e2,e3,v01 h1,v01 h2,v01 h3,v01 h4,v01 (show w≤64 by omega),v07 (show ¬ a < 0 by omega)]
   simp only [v0u,v0c,z00,z02]
   rfl
 ·simp [R.get] at h
theorem zgd:z2u PR B0 99 z7q:=by
 refine z0f [(149,z7f),(150,z8q)] [] z7q [[.int .u64]] Tryz.func99 y8a ⟨ziw,zl3,trivial⟩ ?_;intro vs r hwf h;unfold z7q at h
 split at h
 ·rename_i x a w
  cases hc:(decide (0≤a)&&(decide (a < 64)&&(decide (1≤w)&&decide (w≤64 - a)))) with
  | false=>rw [hc] at h; simp [R.get] at h
  | true=>
   rw [hc,R.get_br,z00,R.get_ok] at h;obtain ⟨h1,h2,h3,h4⟩:=zzm hc;refine ⟨0,?_⟩;rw [← h];refine (y5j 0 x a w).trans ?_;have e2:IntKind.wrap IntKind.u64 a=a:=yax (by omega) (by omega)
   have e3:min a.toNat (IntKind.bits IntKind.u64)=a.toNat:=by
    have:IntKind.bits IntKind.u64=64:=rfl
    omega
   rw [e2,e3,v01 h1,v01 h2,v01 h3,v01 h4,v01 (show w≤64 by omega),v07 (show ¬ a < 0 by omega)]
   simp only [v0u,v0c,z00,z02]
   rfl
 ·simp [R.get] at h
theorem zsm:z2u PR B0 98 z9s:=by
 refine z0f [(99,z7q),(148,zcf)] [] z9s [[.int .i64]] Tryz.func98 zxm ⟨zgd,zxs,trivial⟩ ?_;intro vs r hwf h;unfold z9s at h
 split at h
 ·rename_i x a w
  cases hc:(decide (a=0)&&decide (w=32)) with
  | false=>rw [hc] at h; simp [R.get] at h
  | true=>
   rw [hc,R.get_br,z00,R.get_ok] at h;rw [v02,v06,v06] at hc;obtain ⟨rfl,rfl⟩:=hc;refine ⟨0,?_⟩;rw [← h];refine (zt4 0 x 0 32).trans ?_
   rfl
 ·simp [R.get] at h
theorem zty:z2u PR B0 190 zbf:=by
 refine z0f [] [] zbf [[.bool]] Tryz.func190 y1y trivial ?_;intro vs r hwf h;unfold zbf at h
 split at h
 ·rename_i n
  refine ⟨0,?_⟩;rw [R.get_ok] at h;rw [← h];refine (zxi 0 n).trans ?_;unfold zlb;have e1:decide (n≥1)=decide (1≤n):=rfl;rw [e1];cases decide (1≤n) <;> rfl
 ·simp [R.get] at h
theorem zud:z2u PR B0 145 zb7:=by
 refine z0f [(93,z6d),(190,zbf)] [] zb7 [[.bool]] Tryz.func145 y2s ⟨zev,zty,trivial⟩ ?_;intro vs r hwf h;unfold zb7 at h
 split at h
 ·rename_i lf v f a l r'
  refine ⟨0,?_⟩;rw [← h];refine (zx2 0 lf v f a l r').trans ?_;simp only [R.get_ok,y23];unfold zam;cases lf with
  | true=>rfl
  | false=>rfl
 ·simp [R.get] at h
theorem zl6:z2u PR B0 92 z8m:=by
 refine z0f [(146,zdu),(145,zb7)] [] z8m [[.int .u64]] Tryz.func92 y5e ⟨y2f,zud,trivial⟩ ?_;intro vs r hwf h;unfold z8m at h
 split at h
 ·rename_i lf v f a l r'
  refine ⟨0,?_⟩;rw [← h];refine (y1o 0 lf v f a l r').trans ?_;unfold z7s;cases zam ⟨lf,v,f,a,l,r'⟩ with
  | false=>rfl
  | true=>cases lf <;> rfl
 ·simp [R.get] at h
theorem zn9:z2u PR B0 100 z7d:=by
 refine z0f [(99,z7q)] [] z7d [[.int .i64]] Tryz.func100 zrz ⟨zgd,trivial⟩ ?_;intro vs r hwf h;unfold z7d at h
 split at h
 ·rename_i a w x
  cases hc:(decide (0≤a)&&(decide (a < 64)&&(decide (1≤w)&&decide (w≤64 - a)))) with
  | false=>rw [hc] at h; simp [R.get] at h
  | true=>
   rw [hc,R.get_br,z00,R.get_ok] at h;refine ⟨0,?_⟩;rw [← h];refine (zp2 0 a w x).trans ?_;rw [hc]
   rfl
 ·simp [R.get] at h
theorem z5n:z2u PR B0 55 z1t:=by
 refine z0f [(99,z7q),(98,z9s),(92,z8m),(100,z7d)] [] z1t [[.bool,.int .i64,.int .i64,.int .i64,.int .i64,.int .i64],[.bool]] Tryz.func55 zx5 ⟨zgd,zsm,zl6,zn9,trivial⟩ ?_;intro vs r hwf h;unfold z1t at h
 split at h
 ·rename_i w
  refine ⟨0,?_⟩;rw [← h];refine (zuc 0 w).trans ?_;rw [R.get_ok];unfold z04 zaf zqv;cases (znz w 63 1==0) with
  | true=>
   simp only [v2f];cases hw:(w==0) with
   | true=>rfl
   | false=>
    simp only [v1n,v0i,v0r];have e:(z7s ⟨false,0,zd2 (znz w 32 4),zm9 w,zd2 (znz w 40 8),zd2 (znz w 48 8)⟩ != w)=!(z7s ⟨false,0,zd2 (znz w 32 4),zm9 w,zd2 (znz w 40 8),zd2 (znz w 48 8)⟩==w):=rfl;rw [e];cases (z7s ⟨false,0,zd2 (znz w 32 4),zm9 w,zd2 (znz w 40 8),zd2 (znz w 48 8)⟩==w) <;> rfl
  | false=>
   simp only [v1n];cases hw:(w==0) with
   | true=>rfl
   | false=>
    simp only [v1n,v0i,v0r];have e:(z7s ⟨true,zm9 w,0,0,0,0⟩ != w)=!(z7s ⟨true,zm9 w,0,0,0,0⟩==w):=rfl;rw [e];cases (z7s ⟨true,zm9 w,0,0,0,0⟩==w) <;> rfl
 ·simp [R.get] at h
open Go Go.Proofs
def z0q (N:Nat):Env:=mkE [(55,z1t)] [(5,⟨[0,1,4,5,23,24,25],[22],[]⟩),(17,⟨[4,85,86,87],[22],[]⟩)] 94 N
abbrev z2a (l0:List IV) (x1:Int) (b4:Bool) (n5:Nat) (l23:List IV) (x24 x25:Int) (lo22:List IV):St:=⟨[(0,(.list false [(.int .u64)] l0)),(1,(.i x1)),(4,(.bool b4)),(5,(.row 22 0 n5)),(23,(.list false [(.int .u64)] l23)),(24,(.i x24)),(25,(.i x25))],[(22,(some (.row true 3 false [(.int .i64)] lo22)))]⟩
abbrev z5d (b4:Bool) (n85:Nat) (x86 x87:Int) (lo22:List IV):St:=⟨[(4,(.bool b4)),(85,(.row 22 1 n85)),(86,(.i x86)),(87,(.i x87))],[(22,(some (.row true 3 false [(.int .i64)] lo22)))]⟩
theorem zz4 (N:Nat) (l:List IV) (a1:Int):z0y (z0q N) z1w [.tmp 4] [[.bool]] [(.list false [.int .u64] l),(.i a1)]=(cond (decide (ic (List.length l) < 1)) (some ((.bool false),[])) (cond (decide (ic (List.length l) > 31)) (some ((.bool false),[])) (cond (Nat.blt 0 (TI.size (Env.tyd (z0q N) 3))&&(Nat.blt 3 1000000&&decide (0≤ic (List.length l)))&&(decide (ic (List.length l)=ic (List.length l))&&decide (ic (List.length l)*ic (TI.bytes (Env.tyd (z0q N) 3))≤ic z09))) (lpE (z0q N) (z0i z1w [1,1,1,0,1,0,0]) ⟨[0,1,4,5,23,24,25],[22],[]⟩ N (z2a l a1 false (Int.toNat (ic (List.length l))) l (ic (List.length l)) 0 (List.replicate (Int.toNat (ic (List.length l))) (IV.int 0))) (z06 0 (kSq (z0q N) (z0i z1w [1,1,1,1]) (z2v (z0q N) none [(ResultVar.tmp 4)] [[.bool]])))) none))):=by kernel_rfl
theorem zgn (N:Nat) (l0:List IV) (x1:Int) (b4:Bool) (n5:Nat) (l23:List IV) (x24 x25:Int) (lo22:List IV) (again:St→Res) (k:Out→St→Res):rnd (z0q N) (z0i z1w [1,1,1,0,1,0,0]) (z2a l0 x1 b4 n5 l23 x24 x25 lo22) (z3v again ⟨[0,1,4,5,23,24,25],[22],[]⟩ k)=(cond (decide (x25 < x24)) (cond (decide (0≤x25)&&decide (x25 < ic (List.length l23))) (cond (!zaf (IV.toInt (List.getD l23 (Int.toNat x25) default))) (k .ret (z2a l0 x1 false n5 l23 x24 x25 lo22)) (cond (Nd.lf (z04 (IV.toInt (List.getD l23 (Int.toNat x25) default)))) (again (z2a l0 x1 b4 n5 l23 x24 (IntKind.wrap IntKind.i64 (x25+1)) lo22)) (cond (decide (Nd.f (z04 (IV.toInt (List.getD l23 (Int.toNat x25) default)))≥x1)) (k .ret (z2a l0 x1 false n5 l23 x24 x25 lo22)) (cond (Nd.l (z04 (IV.toInt (List.getD l23 (Int.toNat x25) default)))==Nd.r (z04 (IV.toInt (List.getD l23 (Int.toNat x25) default)))) (k .ret (z2a l0 x1 false n5 l23 x24 x25 lo22)) (cond (decide (min (Nd.l (z04 (IV.toInt (List.getD l23 (Int.toNat x25) default)))) (Nd.r (z04 (IV.toInt (List.getD l23 (Int.toNat x25) default))))≤x25)) (k .ret (z2a l0 x1 false n5 l23 x24 x25 lo22)) (cond (decide (max (Nd.l (z04 (IV.toInt (List.getD l23 (Int.toNat x25) default)))) (Nd.r (z04 (IV.toInt (List.getD l23 (Int.toNat x25) default))))≥ic (List.length l0))) (k .ret (z2a l0 x1 false n5 l23 x24 x25 lo22)) (cond (decide (0≤Nd.l (z04 (IV.toInt (List.getD l23 (Int.toNat x25) default))))&&decide (Nd.l (z04 (IV.toInt (List.getD l23 (Int.toNat x25) default))) < ic (n5 - 0))) (cond (decide (0≤Nd.l (z04 (IV.toInt (List.getD l23 (Int.toNat x25) default))))&&decide (Nd.l (z04 (IV.toInt (List.getD l23 (Int.toNat x25) default))) < ic (n5 - 0))) (cond (decide (0≤Nd.r (z04 (IV.toInt (List.getD l23 (Int.toNat x25) default))))&&decide (Nd.r (z04 (IV.toInt (List.getD l23 (Int.toNat x25) default))) < ic (n5 - 0))) (cond (decide (0≤Nd.r (z04 (IV.toInt (List.getD l23 (Int.toNat x25) default))))&&decide (Nd.r (z04 (IV.toInt (List.getD l23 (Int.toNat x25) default))) < ic (n5 - 0))) (again (z2a l0 x1 b4 n5 l23 x24 (IntKind.wrap IntKind.i64 (x25+1)) (List.set (List.set lo22 (0+Int.toNat (Nd.l (z04 (IV.toInt (List.getD l23 (Int.toNat x25) default))))) (zu3 false [Kd.int IntKind.i64] (List.getD lo22 (0+Int.toNat (Nd.l (z04 (IV.toInt (List.getD l23 (Int.toNat x25) default))))) default) 0 [IV.int (IntKind.wrap IntKind.i64 (IV.toInt (List.getD lo22 (0+Int.toNat (Nd.l (z04 (IV.toInt (List.getD l23 (Int.toNat x25) default))))) default)+1))])) (0+Int.toNat (Nd.r (z04 (IV.toInt (List.getD l23 (Int.toNat x25) default))))) (zu3 false [Kd.int IntKind.i64] (List.getD (List.set lo22 (0+Int.toNat (Nd.l (z04 (IV.toInt (List.getD l23 (Int.toNat x25) default))))) (zu3 false [Kd.int IntKind.i64] (List.getD lo22 (0+Int.toNat (Nd.l (z04 (IV.toInt (List.getD l23 (Int.toNat x25) default))))) default) 0 [IV.int (IntKind.wrap IntKind.i64 (IV.toInt (List.getD lo22 (0+Int.toNat (Nd.l (z04 (IV.toInt (List.getD l23 (Int.toNat x25) default))))) default)+1))])) (0+Int.toNat (Nd.r (z04 (IV.toInt (List.getD l23 (Int.toNat x25) default))))) default) 0 [IV.int (IntKind.wrap IntKind.i64 (IV.toInt (List.getD (List.set lo22 (0+Int.toNat (Nd.l (z04 (IV.toInt (List.getD l23 (Int.toNat x25) default))))) (zu3 false [Kd.int IntKind.i64] (List.getD lo22 (0+Int.toNat (Nd.l (z04 (IV.toInt (List.getD l23 (Int.toNat x25) default))))) default) 0 [IV.int (IntKind.wrap IntKind.i64 (IV.toInt (List.getD lo22 (0+Int.toNat (Nd.l (z04 (IV.toInt (List.getD l23 (Int.toNat x25) default))))) default)+1))])) (0+Int.toNat (Nd.r (z04 (IV.toInt (List.getD l23 (Int.toNat x25) default))))) default)+1))])))) none) none) none) none))))))) none) (k (.exit 0) (z2a l0 x1 b4 n5 l23 x24 x25 lo22))):=by kernel_rfl
theorem zmc (N:Nat) (l0:List IV) (x1:Int) (b4:Bool) (n5:Nat) (l23:List IV) (x24 x25:Int) (lo22:List IV):(z06 0 (kSq (z0q N) (z0i z1w [1,1,1,1]) (z2v (z0q N) none [(ResultVar.tmp 4)] [[.bool]]))) (.exit 0) (z2a l0 x1 b4 n5 l23 x24 x25 lo22)=(cond (decide (0≤1)&&decide (1≤ic (n5 - 0))) (lpE (z0q N) (z0i z1w [1,1,1,1,0,1,0,0]) ⟨[4,85,86,87],[22],[]⟩ N (z5d b4 (0+(n5 - 0)) (ic (0+(n5 - 0) - 1)) 0 lo22) (z06 2 (kSq (z0q N) (z0i z1w [1,1,1,1,1]) (z2v (z0q N) none [(ResultVar.tmp 4)] [[.bool]])))) none):=by kernel_rfl
theorem zm4 (N:Nat) (l0:List IV) (x1:Int) (b4:Bool) (n5:Nat) (l23:List IV) (x24 x25:Int) (lo22:List IV):(z06 0 (kSq (z0q N) (z0i z1w [1,1,1,1]) (z2v (z0q N) none [(ResultVar.tmp 4)] [[.bool]]))) .ret (z2a l0 x1 b4 n5 l23 x24 x25 lo22)=(some ((.bool b4),[])):=by kernel_rfl
theorem zg7 (N:Nat) (b4:Bool) (n85:Nat) (x86 x87:Int) (lo22:List IV) (again:St→Res) (k:Out→St→Res):rnd (z0q N) (z0i z1w [1,1,1,1,0,1,0,0]) (z5d b4 n85 x86 x87 lo22) (z3v again ⟨[4,85,86,87],[22],[]⟩ k)=(cond (decide (x87 < x86)) (cond (decide (0≤x87)&&decide (x87 < ic (n85 - 1))) (cond (IV.toInt (List.getD lo22 (1+Int.toNat x87) default) != 1) (k .ret (z5d false n85 x86 x87 lo22)) (again (z5d b4 n85 x86 (IntKind.wrap IntKind.i64 (x87+1)) lo22))) none) (k (.exit 2) (z5d b4 n85 x86 x87 lo22))):=by kernel_rfl
theorem zmr (N:Nat) (b4:Bool) (n85:Nat) (x86 x87:Int) (lo22:List IV):(z06 2 (kSq (z0q N) (z0i z1w [1,1,1,1,1]) (z2v (z0q N) none [(ResultVar.tmp 4)] [[.bool]]))) (.exit 2) (z5d b4 n85 x86 x87 lo22)=(some ((.bool true),[])):=by kernel_rfl
theorem znm (N:Nat) (b4:Bool) (n85:Nat) (x86 x87:Int) (lo22:List IV):(z06 2 (kSq (z0q N) (z0i z1w [1,1,1,1,1]) (z2v (z0q N) none [(ResultVar.tmp 4)] [[.bool]]))) .ret (z5d b4 n85 x86 x87 lo22)=(some ((.bool b4),[])):=by kernel_rfl
def zqs (N:Nat):Env:=mkE [(96,z7e)] [] 22 N
theorem zp3 (N:Nat) (k:Int) (l:List IV) (d c b0 b1 b2:Int) (ts:List IV):z0y (zqs N) zhc [.tmp 3] [[.bool]] [(.agg [.int .i64 k,.list false [.int .u64] l]),(.bor [.int .i64 d,.int .i64 c,.int .i64 b0,.int .i64 b1,.int .i64 b2,.list true [.int .i64,.list false [.int .u64]] ts])]=(cond (decide (k < 0)) (some ((.bool true),[[(.i d),(.i c),(.i b0),(.i b1),(.i b2),(.list true [(.int .i64),(.list false [(.int .u64)])] ts)]])) (cond (decide (k≥c)) (some ((.bool true),[[(.i d),(.i c),(.i b0),(.i b1),(.i b2),(.list true [(.int .i64),(.list false [(.int .u64)])] ts)]])) (some ((.bool (!z8v l d)),[[(.i d),(.i c),(.i b0),(.i b1),(.i b2),(.list true [(.int .i64),(.list false [(.int .u64)])] ts)]])))):=by kernel_rfl
def z07 (N:Nat):Env:=mkE [(95,z4o)] [(2,⟨[0,1,4,7,8],[900000],[]⟩)] 19 N
abbrev z0o (l0:List IV) (x4 x7 x8 u01 u02 u03 u04 u05:Int) (u00:List IV):St:=⟨[(0,(.list true [(.int .i64),(.list false [(.int .u64)])] l0)),(1,(.clo 95 [(.ptr 900000 0 0)])),(4,(.i x4)),(7,(.i x7)),(8,(.i x8))],[(900000,(some (.box [(.i u01),(.i u02),(.i u03),(.i u04),(.i u05),(.list true [(.int .i64),(.list false [(.int .u64)])] u00)])))]⟩
theorem z98 (N:Nat) (l:List IV) (d c b0 b1 b2:Int) (ts:List IV):z0y (z07 N) z0e [.tmp 4] [[.int .i64]] [(.list true [.int .i64,.list false [.int .u64]] l),(.clo 95 [.bor [.int .i64 d,.int .i64 c,.int .i64 b0,.int .i64 b1,.int .i64 b2,.list true [.int .i64,.list false [.int .u64]] ts]])]=(lpE (z07 N) (z0i z0e [1,0,1,0,0]) ⟨[0,1,4,7,8],[900000],[]⟩ N (z0o l 0 (ic (List.length l)) 0 d c b0 b1 b2 ts) (z06 0 (kSq (z07 N) (z0i z0e [1,1]) (z2v (z07 N) (some [(.i d),(.i c),(.i b0),(.i b1),(.i b2),(.list true [(.int .i64),(.list false [(.int .u64)])] ts)]) [(ResultVar.tmp 4)] [[(.int .i64)]])))):=by kernel_rfl
theorem z4f (N:Nat) (l0:List IV) (x4 x7 x8 u01 u02 u03 u04 u05:Int) (u00:List IV) (again:St→Res) (k:Out→St→Res):rnd (z07 N) (z0i z0e [1,0,1,0,0]) (z0o l0 x4 x7 x8 u01 u02 u03 u04 u05 u00) (z3v again ⟨[0,1,4,7,8],[900000],[]⟩ k)=(cond (decide (x8 < x7)) (cond (decide (0≤x8)&&decide (x8 < ic (List.length l0))) (cond (!z7u u01 u02 (IV.agg [IV.int (IV.toInt (IV.cell (List.getD l0 (Int.toNat x8) default) 0)),IV.list (IV.toList (IV.cell (List.getD l0 (Int.toNat x8) default) 1))])) (k .ret (z0o l0 x8 x7 x8 u01 u02 u03 u04 u05 u00)) (again (z0o l0 x4 x7 (IntKind.wrap IntKind.i64 (x8+1)) u01 u02 u03 u04 u05 u00))) none) (k (.exit 0) (z0o l0 x4 x7 x8 u01 u02 u03 u04 u05 u00))):=by kernel_rfl
theorem z7j (N:Nat) (d c b0 b1 b2:Int) (ts l0:List IV) (x4 x7 x8 u01 u02 u03 u04 u05:Int) (u00:List IV):(z06 0 (kSq (z07 N) (z0i z0e [1,1]) (z2v (z07 N) (some [(.i d),(.i c),(.i b0),(.i b1),(.i b2),(.list true [(.int .i64),(.list false [(.int .u64)])] ts)]) [(ResultVar.tmp 4)] [[(.int .i64)]]))) (.exit 0) (z0o l0 x4 x7 x8 u01 u02 u03 u04 u05 u00)=(some ((.i (-1)),[[(.i u01),(.i u02),(.i u03),(.i u04),(.i u05),(.list true [(.int .i64),(.list false [(.int .u64)])] u00)]])):=by kernel_rfl
theorem z7o (N:Nat) (d c b0 b1 b2:Int) (ts l0:List IV) (x4 x7 x8 u01 u02 u03 u04 u05:Int) (u00:List IV):(z06 0 (kSq (z07 N) (z0i z0e [1,1]) (z2v (z07 N) (some [(.i d),(.i c),(.i b0),(.i b1),(.i b2),(.list true [(.int .i64),(.list false [(.int .u64)])] ts)]) [(ResultVar.tmp 4)] [[(.int .i64)]]))) .ret (z0o l0 x4 x7 x8 u01 u02 u03 u04 u05 u00)=(some ((.i x4),[[(.i u01),(.i u02),(.i u03),(.i u04),(.i u05),(.list true [(.int .i64),(.list false [(.int .u64)])] u00)]])):=by kernel_rfl
def z86 (N:Nat):Env:=mkE [(147,z1g)] [] 9 N
theorem z7w (N:Nat) (l:List IV) (d c b0 b1 b2:Int) (ts:List IV):z0y (z86 N) z4h [.tmp 4] [[.bool]] [(.list true [.int .i64,.list false [.int .u64]] l),(.clo 95 [.bor [.int .i64 d,.int .i64 c,.int .i64 b0,.int .i64 b1,.int .i64 b2,.list true [.int .i64,.list false [.int .u64]] ts]])]=(some ((.bool (decide (zqr d c l 0≥0))),[[(.i d),(.i c),(.i b0),(.i b1),(.i b2),(.list true [(.int .i64),(.list false [(.int .u64)])] ts)]])):=by kernel_rfl
def z2c (N:Nat):Env:=mkE [(93,z6d),(95,z4o),(94,z17)] [(4,⟨[1,2,30,31],[1,53005],[]⟩)] 54 N
abbrev z10 (b2:Bool) (u01 u02 u03 x31 u04 u05 u06 u07 u08:Int) (u00:List IV):St:=⟨[(1,(.ptr 1 0 0)),(2,(.bool b2)),(30,(.agg [(.i u01),(.i u02),(.i u03)])),(31,(.i x31))],[(1,(some (.box [(.i u04),(.i u05),(.i u06),(.i u07),(.i u08),(.list true [(.int .i64),(.list false [(.int .u64)])] u00)]))),(53005,none)]⟩
theorem ztl (N:Nat) (u04 u03 u00 u01 u02:Int) (u05:List IV):z0y (z2c N) z3n [.tmp 2] [[.bool]] [(.agg [(.i u04),(.i u03),(.i u00),(.i u01),(.i u02),(.list true [.int .i64,.list false [.int .u64]] u05)])]=(cond (decide (u04 < 1)) (some ((.bool false),[])) (cond (decide (u04 > 4)) (some ((.bool false),[])) (cond (decide (u03 < 1)) (some ((.bool false),[])) (cond (decide (u03 > 3)) (some ((.bool false),[])) (cond (decide (ic (List.length u05) > 8)) (some ((.bool false),[])) (lpE (z2c N) (z0i z3n [1,1,0,1,0,0]) ⟨[1,2,30,31],[1,53005],[]⟩ N (z10 false u00 u01 u02 0 u04 u03 u00 u01 u02 u05) (z06 0 (kSq (z2c N) (z0i z3n [1,1,1]) (z2v (z2c N) none [(ResultVar.tmp 2)] [[.bool]]))))))))):=by kernel_rfl
theorem zfk (N:Nat) (b2:Bool) (u01 u02 u03 x31 u04 u05 u06 u07 u08:Int) (u00:List IV) (again:St→Res) (k:Out→St→Res):rnd (z2c N) (z0i z3n [1,1,0,1,0,0]) (z10 b2 u01 u02 u03 x31 u04 u05 u06 u07 u08 u00) (z3v again ⟨[1,2,30,31],[1,53005],[]⟩ k)=(cond (decide (x31 < 3)) (cond (decide (x31=ic 0)) (cond (!z1r u01) (k .ret (z10 false u01 u02 u03 x31 u04 u05 u06 u07 u08 u00)) (cond (decide (x31≥u05)) (cond (u01 != 0) (k .ret (z10 false u01 u02 u03 x31 u04 u05 u06 u07 u08 u00)) (again (z10 b2 u01 u02 u03 (IntKind.wrap IntKind.i64 (x31+1)) u04 u05 u06 u07 u08 u00))) (again (z10 b2 u01 u02 u03 (IntKind.wrap IntKind.i64 (x31+1)) u04 u05 u06 u07 u08 u00)))) (cond (decide (x31=ic 1)) (cond (!z1r u02) (k .ret (z10 false u01 u02 u03 x31 u04 u05 u06 u07 u08 u00)) (cond (decide (x31≥u05)) (cond (u02 != 0) (k .ret (z10 false u01 u02 u03 x31 u04 u05 u06 u07 u08 u00)) (again (z10 b2 u01 u02 u03 (IntKind.wrap IntKind.i64 (x31+1)) u04 u05 u06 u07 u08 u00))) (again (z10 b2 u01 u02 u03 (IntKind.wrap IntKind.i64 (x31+1)) u04 u05 u06 u07 u08 u00)))) (cond (decide (x31=ic 2)) (cond (!z1r u03) (k .ret (z10 false u01 u02 u03 x31 u04 u05 u06 u07 u08 u00)) (cond (decide (x31≥u05)) (cond (u03 != 0) (k .ret (z10 false u01 u02 u03 x31 u04 u05 u06 u07 u08 u00)) (again (z10 b2 u01 u02 u03 (IntKind.wrap IntKind.i64 (x31+1)) u04 u05 u06 u07 u08 u00))) (again (z10 b2 u01 u02 u03 (IntKind.wrap IntKind.i64 (x31+1)) u04 u05 u06 u07 u08 u00)))) none))) (k (.exit 0) (z10 b2 u01 u02 u03 x31 u04 u05 u06 u07 u08 u00))):=by kernel_rfl
theorem zkk (N:Nat) (b2:Bool) (u01 u02 u03 x31 u04 u05 u06 u07 u08:Int) (u00:List IV):(z06 0 (kSq (z2c N) (z0i z3n [1,1,1]) (z2v (z2c N) none [(ResultVar.tmp 2)] [[.bool]]))) (.exit 0) (z10 b2 u01 u02 u03 x31 u04 u05 u06 u07 u08 u00)=(some ((.bool (!!List.all u00 (z7u u04 u05))),[])):=by kernel_rfl
theorem zk8 (N:Nat) (b2:Bool) (u01 u02 u03 x31 u04 u05 u06 u07 u08:Int) (u00:List IV):(z06 0 (kSq (z2c N) (z0i z3n [1,1,1]) (z2v (z2c N) none [(ResultVar.tmp 2)] [[.bool]]))) .ret (z10 b2 u01 u02 u03 x31 u04 u05 u06 u07 u08 u00)=(some ((.bool b2),[])):=by kernel_rfl
open Go Go.Proofs
theorem zw7 {l:List IV} {i:Nat} {w:IV} (h:l[i]?=some w) (j:Nat):z5a (l.take (i+1)) j=z5a (l.take i) j+zdj (z04 w.toInt) j:=by
 unfold z5a;rw [List.take_add_one,h];simp
theorem yag (x:Nd) (j:Nat):zdj x j≤2:=by
 unfold zdj;cases x.lf
 ·simp only [v1n]
  split <;> split <;> omega
 ·simp only [v2f]
  omega
theorem y78:∀ (l:List IV) (j:Nat),z5a l j≤2*l.length
 | [],_=>v08 _
 | w :: l,j=>by
  have:=y78 l j
  have:=yag (z04 w.toInt) j
  unfold z5a at *;simp only [v0e,v3z,v05];omega
def NM (l:List IV) (i:Nat):List IV:=(List.range l.length).map fun j=>IV.int (z5a (l.take i) j:Nat)
theorem y15 (l:List IV) (i:Nat):(NM l i).length=l.length:=by simp [NM]
theorem zv5 (l:List IV) (i:Nat) {j:Nat} (h:j < l.length):(NM l i)[j]?=some (IV.int (z5a (l.take i) j:Nat)):=by
 unfold NM;rw [v19,List.getElem?_range h]
 rfl
theorem yh9 (l:List IV):NM l 0=List.replicate l.length (IV.int 0):=by
 apply List.ext_getElem?;intro j
 by_cases h:j < l.length
 ·rw [zv5 l 0 h,v3s,v1c h]
  simp [z5a]
 ·rw [v0p (by rw [y15]; omega),v0p (by simp; omega)]
theorem yg3 {l:List IV} {i:Nat} {w:IV} (h:l[i]?=some w) (hl:(z04 w.toInt).lf=true):NM l (i+1)=NM l i:=by
 unfold NM
 congr 1
 funext j
 rw [zw7 h];unfold zdj;rw [hl]
 rfl
theorem yfp {l:List IV} {i:Nat} {w:IV} (h:l[i]?=some w) (hl:(z04 w.toInt).lf=false) (hn:l.length≤31) {a b:Nat} (ha:(z04 w.toInt).l=(a:Int)) (hb:(z04 w.toInt).r=(b:Int)) (hab:a≠b) (al:a < l.length) (bl:b < l.length) :
  ((NM l i).set a (IV.int (IntKind.wrap IntKind.i64 (((NM l i).getD a default).toInt+1)))).set b (IV.int (IntKind.wrap IntKind.i64 ((((NM l i).set a (IV.int (IntKind.wrap IntKind.i64 (((NM l i).getD a default).toInt+1)))).getD b default).toInt+1)))=NM l (i+1):=by
 have hil:i < l.length:=(List.getElem?_eq_some_iff.1 h).1;have hsm:∀ j,z5a (l.take i) j≤62:=fun j=>by
  have:=y78 (l.take i) j
  rw [v0h] at this;omega
 have ga:((NM l i).getD a default).toInt=(z5a (l.take i) a:Nat):=by
  rw [v0m,zv5 l i al]
  rfl
 have gb:(((NM l i).set a (IV.int (IntKind.wrap IntKind.i64 (((NM l i).getD a default).toInt+1)))).getD b default).toInt=(z5a (l.take i) b:Nat):=by
  rw [v0m,List.getElem?_set_ne hab,zv5 l i bl]
  rfl
 rw [gb,ga,z15 (by omega) (by have:=hsm a; omega),z15 (by omega) (by have:=hsm b; omega)]
 apply List.ext_getElem?;intro j
 by_cases hj:j < l.length
 ·rw [zv5 l (i+1) hj,zw7 h]
  have e:zdj (z04 w.toInt) j=(if a=j then 1 else 0)+(if b=j then 1 else 0):=by
   unfold zdj;rw [hl,ha,hb,v1n];have e1:((a:Int)=(j:Int))↔a=j:=by omega
   have e2:((b:Int)=(j:Int))↔b=j:=by omega
   simp only [e1,e2]
  rw [e]
  by_cases h1:b=j
  ·subst h1
   rw [List.getElem?_set_self (by rw [v2e,y15]; exact bl),v0x hab,v1c rfl]
   congr 2
  ·rw [List.getElem?_set_ne h1]
   by_cases h2:a=j
   ·subst h2
    rw [List.getElem?_set_self (by rw [y15]; exact al),v1c rfl,v0x h1]
    congr 2
   ·rw [List.getElem?_set_ne h2,zv5 l i hj,v0x h1,v0x h2]
    congr 2
 ·rw [v0p (by rw [v2e,v2e,y15]; omega),v0p (by rw [y15]; omega)]
abbrev yiz (l:List IV) (dim:Int) (b:Bool) (i:Int) (nm:List IV):St:=
 ⟨[(0,(.list false [(.int .u64)] l)),(1,(.int .i64 dim)),(4,(.bool b)),(5,(.row 22 0 l.length)),(23,(.list false [(.int .u64)] l)),(24,(.int .i64 (ic l.length))),(25,(.int .i64 i))],[(22,(some (.row true 3 false [(.int .i64)] nm)))]⟩
theorem zx8 (N:Nat) (l:List IV) (dim:Int) (hl:l.length≤31) (K:Out→St→Res) (hK:∀ i nm,K .ret (yiz l dim false i nm)=some (.bool false,[])):∀ (d i n:Nat),i+d=l.length→d < n →
  lpE (z0q N) (z0i z1w [1,1,1,0,1,0,0]) ⟨[0,1,4,5,23,24,25],[22],[]⟩ n (yiz l dim false (i:Int) (NM l i)) K =
   cond (zcl dim (ic l.length) i (l.drop i)) (K (.exit 0) (yiz l dim false (ic l.length) (NM l l.length))) (some (.bool false,[]))
 | d,i,0,_,h=>absurd h (by omega)
 | 0,i,n+1,hd,_=>by
  have hi:i=l.length:=by omega
  subst hi;rw [z05,zgn];rw [v07 (show ¬ ((l.length:Nat):Int) < ic l.length by simp only [ic]; omega),z02,v1z]
  rfl
 | d+1,i,n+1,hd,hn=>by
  have hil:i < l.length:=by omega
  have hw:l[i]?=some l[i]:=v0g hil;rw [z05,zgn,v0j hil];have hg:l.getD (Int.toNat (i:Int)) default=l[i]:=by
   rw [v0l,v0m,hw]
   rfl
  rw [hg];generalize l[i]=w at hw ⊢
  have ei:IntKind.wrap IntKind.i64 ((i:Int)+1)=((i+1:Nat):Int):=by
   rw [z15 (by omega) (by omega)]
   omega
  rw [ei,v01 (show (i:Int) < ic l.length by simp only [ic]; omega),z00,v01 (show (0:Int)≤(i:Int) by omega),v0u,z00]
  unfold zcl;cases hb:zaf w.toInt with
  | false=>
   simp only [v0i,z00,v0v,z02];exact hK (i:Int) (NM l i)
  | true=>
   simp only [v0c,z02,v0r];unfold zxf;cases hlf:(z04 w.toInt).lf with
   | true=>
    simp only [z00,v0r];rw [← yg3 hw hlf];exact zx8 N l dim hl K hK d (i+1) n (by omega) (by omega)
   | false=>
    simp only [z02];cases h1:decide ((z04 w.toInt).f≥dim) with
    | true=>
     simp only [z00,v0c,v0v,z02];exact hK (i:Int) (NM l i)
    | false=>
    cases h2:((z04 w.toInt).l==(z04 w.toInt).r) with
    | true=>
     simp only [z00,z02,v0c,v0i,v0v,v2b];exact hK (i:Int) (NM l i)
    | false=>
    cases h3:decide (min (z04 w.toInt).l (z04 w.toInt).r≤(i:Int)) with
    | true=>
     simp only [z00,z02,v0c,v0i,v0v,v2b];exact hK (i:Int) (NM l i)
    | false=>
    cases h4:decide (max (z04 w.toInt).l (z04 w.toInt).r≥ic l.length) with
    | true=>
     simp only [z00,z02,v0c,v0i,v0v,v2b];exact hK (i:Int) (NM l i)
    | false=>
     have g2:(z04 w.toInt).l≠(z04 w.toInt).r:=v1i.1 h2;have g3:=v0t h3;have g4:=v0t h4;simp only [ic] at g4;obtain ⟨a,ha⟩:∃ a:Nat,(z04 w.toInt).l=(a:Int):=⟨(z04 w.toInt).l.toNat,by omega⟩
     obtain ⟨b,hb'⟩:∃ b:Nat,(z04 w.toInt).r=(b:Int):=⟨(z04 w.toInt).r.toNat,by omega⟩
     have hab:a≠b:=fun e=>g2 (by rw [ha,hb',e])
     have al:a < l.length:=by omega
     have bl:b < l.length:=by omega
     have hN:=yfp hw hlf hl ha hb' hab al bl;rw [ha,hb'];rw [v01 (show (0:Int)≤(a:Int) by omega),v01 (show (0:Int)≤(b:Int) by omega),v01 (show (a:Int) < ic (l.length - 0) by simp only [ic]; omega),v01 (show (b:Int) < ic (l.length - 0) by simp only [ic]; omega)]
     simp only [z00,z02,v0i,v0u,v0r,v0l,v0n];refine v41 ?_ (zx8 N l dim hl K hK d (i+1) n (by omega) (by omega))
     rw [← hN]
     rfl
abbrev ykk (l:List IV) (b:Bool) (j:Int):St:=
 ⟨[(4,(.bool b)),(85,(.row 22 1 (0+(l.length - 0)))),(86,(.int .i64 (ic (0+(l.length - 0) - 1)))),(87,(.int .i64 j))],[(22,(some (.row true 3 false [(.int .i64)] (NM l l.length))))]⟩
theorem y6y (N:Nat) (l:List IV) (hl:l.length≤31):∀ (d j n:Nat),j+d=l.length - 1→d < n →
  lpE (z0q N) (z0i z1w [1,1,1,1,0,1,0,0]) ⟨[4,85,86,87],[22],[]⟩ n (ykk l false (j:Int)) (z06 2 (kSq (z0q N) (z0i z1w [1,1,1,1,1]) (z2v (z0q N) none [(ResultVar.tmp 4)] [[.bool]]))) =
   some (.bool ((List.range' j d).all fun j=>z5a l (j+1)==1),[])
 | d,j,0,_,h=>absurd h (by omega)
 | 0,j,n+1,hd,_=>by
  rw [z05,zg7,v07 (show ¬ (j:Int) < ic (0+(l.length - 0) - 1) by simp only [ic]; omega),z02]
  exact zmr N false _ _ _ _
 | d+1,j,n+1,hd,hn=>by
  have ej:IntKind.wrap IntKind.i64 ((j:Int)+1)=((j+1:Nat):Int):=by
   rw [z15 (by omega) (by omega)]
   omega
  rw [z05,zg7,ej,v01 (show (j:Int) < ic (0+(l.length - 0) - 1) by simp only [ic]; omega),z00,v01 (show (0:Int)≤(j:Int) by omega),v0u,z00]
  have hg:((NM l l.length).getD (1+Int.toNat (j:Int)) default).toInt=(z5a l (j+1):Nat):=by
   rw [v0l,Nat.add_comm 1 j,v0m,zv5 l l.length (by omega),v0w]
   rfl
  rw [hg,List.range'_succ,v2w];have e:(((z5a l (j+1):Nat):Int) != 1)=!(z5a l (j+1)==1):=by
   show (!(((z5a l (j+1):Nat):Int)==1))=_
   congr 1
   rw [v2r,v1d,v1d];omega
  rw [e];cases (z5a l (j+1)==1) with
  | false=>
   rw [v0i,z00];exact znm N false _ _ _ _
  | true=>
   rw [v0c,z02,v0r];exact y6y N l hl d (j+1) n (by omega) (by omega)
theorem ycp (N:Nat) (l:List IV) (dim:Int) (hl:l.length≤31) (h1:1≤l.length) (hN:40≤N) (i:Int) :
  (z06 0 (kSq (z0q N) (z0i z1w [1,1,1,1]) (z2v (z0q N) none [(ResultVar.tmp 4)] [[.bool]]))) (.exit 0) (yiz l dim false i (NM l l.length))=some (.bool (yao l),[]):=by
 refine (zmc N l dim false l.length l (ic l.length) i (NM l l.length)).trans ?_;rw [v01 (show (0:Nat)≤1 by omega),v01 (show (1:Int)≤ic (l.length - 0) by simp only [ic]; omega),v0u,z00]
 have:=y6y N l hl (l.length - 1) 0 N (by omega) (by omega)
 refine this.trans ?_;unfold yao;rw [v3m]
theorem zif:z2u PR B0 96 z7e:=by
 refine z0f [(55,z1t)] [(5,⟨[0,1,4,5,23,24,25],[22],[]⟩),(17,⟨[4,85,86,87],[22],[]⟩)] z7e [[.bool]] Tryz.func96 y3d ⟨z5n,trivial⟩ ?_;intro vs r hwf h;unfold z7e at h
 split at h
 ·rename_i l dim
  refine ⟨40,?_⟩;rw [R.get_ok] at h;rw [← h];refine (zz4 40 l dim).trans ?_;unfold z8v
  by_cases h1:1≤l.length
  ·by_cases h2:l.length≤31
   ·have eb:ic (TI.bytes (Env.tyd (z0q 40) 3))=8:=rfl
    rw [v07 (show ¬ ic l.length < 1 by simp only [ic]; omega),v07 (show ¬ ic l.length > 31 by simp only [ic]; omega),z02,z02,eb,
     v01 (show (0:Int)≤ic l.length by simp only [ic]; omega),v01 (show ic l.length=ic l.length from rfl),v01 (show ic l.length*8≤ic z09 by unfold z09; simp only [ic]; omega)]
    have e0:(Nat.blt 0 (TI.size (Env.tyd (z0q 40) 3))&&(Nat.blt 3 1000000&&true)&&(true&&true))=true:=rfl;have e1:Int.toNat (ic l.length)=l.length:=by simp only [ic]; omega
    rw [e0,z00,e1,← yh9,v1g h1,v1g h2];refine (zx8 40 l dim h2 _ (fun i nm=>?_) l.length 0 40 (by omega) (by omega)).trans ?_
    ·exact zm4 40 l dim false l.length l (ic l.length) i nm
    ·rw [v11,ycp 40 l dim h2 h1 (by omega)]
     cases zcl dim (ic l.length) 0 l <;> rfl
   ·have e:Nat.ble l.length 31=false:=by
     cases hb:Nat.ble l.length 31 with
     | false=>rfl
     | true=>exact absurd (v03 hb) h2
    rw [v07 (show ¬ ic l.length < 1 by simp only [ic]; omega),v01 (show ic l.length > 31 by simp only [ic]; omega),z02,z00,e,v2b,v0v]
  ·have e:Nat.ble 1 l.length=false:=by
    cases hb:Nat.ble 1 l.length with
    | false=>rfl
    | true=>exact absurd (v03 hb) h1
   rw [v01 (show ic l.length < 1 by simp only [ic]; omega),z00,e,v0v,v0v]
 ·simp [R.get] at h
theorem zdy:z2u PR B0 95 z4o:=by
 refine z0f [(96,z7e)] [] z4o [[.bool]] Tryz.func95 zq2 ⟨zif,trivial⟩ ?_;intro vs r hwf h;unfold z4o at h
 split at h
 ·rename_i k l d c b0 b1 b2 ts
  refine ⟨0,?_⟩;rw [R.get_ok] at h;rw [← h];refine (zp3 0 k l d c b0 b1 b2 ts).trans ?_;have e:z7u d c (.agg [.int k,.list l])=(!(decide (k < 0))&&(!(decide (k≥c))&&z8v l d)):=rfl;rw [e];cases decide (k < 0) with
  | true=>rfl
  | false=>
   cases decide (k≥c) with
   | true=>rfl
   | false=>rfl
 ·simp [R.get] at h
abbrev yki (l:List IV) (d c b0 b1 b2:Int) (ts:List IV) (r i:Int):St:=
 ⟨[(0,(.list true [(.int .i64),(.list false [(.int .u64)])] l)),(1,(.clo 95 [(.ptr 900000 0 0)])),(4,(.int .i64 r)),(7,(.int .i64 (ic l.length))),(8,(.int .i64 i))],[(900000,(some (.box [(.int .i64 d),(.int .i64 c),(.int .i64 b0),(.int .i64 b1),(.int .i64 b2),(.list true [(.int .i64),(.list false [(.int .u64)])] ts)])))]⟩
theorem y82 (d c:Int) (t:IV):z7u d c (.agg [.int (IV.toInt (IV.cell t 0)),.list (IV.toList (IV.cell t 1))])=z7u d c t:=rfl
theorem zzz (N:Nat) (l:List IV) (hl:l.length≤strMax) (d c b0 b1 b2:Int) (ts:List IV):∀ (m i n:Nat),i+m=l.length→m < n →
  lpE (z07 N) (z0i z0e [1,0,1,0,0]) ⟨[0,1,4,7,8],[900000],[]⟩ n (yki l d c b0 b1 b2 ts 0 (i:Int)) (z06 0 (kSq (z07 N) (z0i z0e [1,1]) (z2v (z07 N) (some [(.int .i64 d),(.int .i64 c),(.int .i64 b0),(.int .i64 b1),(.int .i64 b2),(.list true [(.int .i64),(.list false [(.int .u64)])] ts)]) [(ResultVar.tmp 4)] [[(.int .i64)]]))) =
   some (.int .i64 (zqr d c (l.drop i) (i:Int)),[[(.int .i64 d),(.int .i64 c),(.int .i64 b0),(.int .i64 b1),(.int .i64 b2),(.list true zji ts)]])
 | m,i,0,_,h=>absurd h (by omega)
 | 0,i,n+1,hd,_=>by
  have hi:i=l.length:=by omega
  subst hi;rw [z05,z4f,v07 (show ¬ ((l.length:Nat):Int) < ic l.length by simp only [ic]; omega),z02,v1z]
  exact z7j N d c b0 b1 b2 ts l 0 (ic l.length) (l.length:Int) d c b0 b1 b2 ts
 | m+1,i,n+1,hd,hn=>by
  have hil:i < l.length:=by omega
  have m':strMax=140737488355327:=rfl;have ei:IntKind.wrap IntKind.i64 ((i:Int)+1)=((i+1:Nat):Int):=by
   rw [z15 (by omega) (by omega)]
   omega
  have hg:l.getD (Int.toNat (i:Int)) default=l[i]:=by
   rw [v0l,v0m,v0g hil]
   rfl
  rw [z05,z4f,ei,hg,y82,v01 (show (i:Int) < ic l.length by simp only [ic]; omega),z00,v01 (show (0:Int)≤(i:Int) by omega),v0u,z00,v0j hil,zqr]
  cases z7u d c l[i] with
  | true=>
   rw [v0c,z02,z00];exact zzz N l hl d c b0 b1 b2 ts m (i+1) n (by omega) (by omega)
  | false=>
   rw [v0i,z00,z02];exact z7o N d c b0 b1 b2 ts l (i:Int) (ic l.length) (i:Int) d c b0 b1 b2 ts
theorem z8n:z2u PR B0 147 z1g:=by
 refine z0f [(95,z4o)] [(2,⟨[0,1,4,7,8],[900000],[]⟩)] z1g [[.int .i64]] Tryz.func147 z9c ⟨zdy,trivial⟩ ?_;intro vs r hwf h;unfold z1g at h
 split at h
 ·rename_i l d c b0 b1 b2 ts
  refine ⟨l.length+1,?_⟩;rw [R.get_ok] at h;rw [← h];refine (z98 (l.length+1) l d c b0 b1 b2 ts).trans ?_;have hl:l.length≤strMax:=by
   have hb:=hwf (by simp [zbw])
   have:=hb.1
   simp only [wfV,wfL] at this;exact this.1
  exact zzz (l.length+1) l hl d c b0 b1 b2 ts l.length 0 (l.length+1) (by omega) (by omega)
 ·simp [R.get] at h
theorem yb9 (d c:Int):∀ (l:List IV) (i:Nat),decide (zqr d c l (i:Int)≥0)=!(l.all (z7u d c))
 | [],i=>rfl
 | t :: l,i=>by
  unfold zqr;rw [v2w];cases z7u d c t with
  | true=>
   rw [z00,v0r];exact yb9 d c l (i+1)
  | false=>
   rw [z02,v0v,v01 (show (i:Int)≥0 by omega)]
   rfl
theorem z7p:z2u PR B0 94 z17:=by
 refine z0f [(147,z1g)] [] z17 [[.bool]] Tryz.func94 z82 ⟨z8n,trivial⟩ ?_;intro vs r hwf h;unfold z17 at h
 split at h
 ·rename_i l d c b0 b1 b2 ts
  refine ⟨0,?_⟩;rw [R.get_ok] at h;rw [← h];refine (z7w 0 l d c b0 b1 b2 ts).trans ?_
  have:=yb9 d c l 0
  rw [show ((0:Nat):Int)=0 from rfl] at this
  rw [this]
 ·simp [R.get] at h
abbrev yhk (d c b0 b1 b2:Int) (ts:List IV) (b:Bool) (i:Int):St:=
 ⟨[(1,(.ptr 1 0 0)),(2,(.bool b)),(30,(.agg [(.int .i64 b0),(.int .i64 b1),(.int .i64 b2)])),(31,(.int .i64 i))],[(1,(some (.box [(.int .i64 d),(.int .i64 c),(.int .i64 b0),(.int .i64 b1),(.int .i64 b2),(.list true [(.int .i64),(.list false [(.int .u64)])] ts)]))),(53005,none)]⟩
theorem ycx (c j b:Int) {α:Type _} (x y:α):cond (!z1r b) y (cond (decide (j≥c)) (cond (b != 0) y x) x)=cond (zfz c j b) x y:=by
 unfold zfz;have e:(b != 0)=!(b==0):=rfl;rw [e];cases z1r b <;> cases decide (j≥c) <;> cases (b==0) <;> rfl
theorem znh (N:Nat) (d c b0 b1 b2:Int) (ts:List IV) (j:Nat) (b:Int) (h:(j=0∧b=b0)∨(j=1∧b=b1)∨(j=2∧b=b2)) (again:St→Res) (k:Out→St→Res) :
  rnd (z2c N) (z0i z3n [1,1,0,1,0,0]) (yhk d c b0 b1 b2 ts false (j:Int)) (z3v again ⟨[1,2,30,31],[1,53005],[]⟩ k) =
   cond (zfz c (j:Int) b) (again (yhk d c b0 b1 b2 ts false ((j+1:Nat):Int))) (k .ret (yhk d c b0 b1 b2 ts false (j:Int))):=by
 rw [zfk];have ej:IntKind.wrap IntKind.i64 ((j:Int)+1)=((j+1:Nat):Int):=by
  rw [z15 (by omega) (by omega)]
  omega
 rw [ej,← ycx,v01 (show (j:Int) < 3 by omega),z00]
 rcases h with ⟨rfl,rfl⟩ | ⟨rfl,rfl⟩ | ⟨rfl,rfl⟩ <;> rfl
theorem z5q:z2u PR B0 53 z1u:=by
 refine z0f [(93,z6d),(95,z4o),(94,z17)] [(4,⟨[1,2,30,31],[1,53005],[]⟩)] z1u [[.bool]] Tryz.func53 zy7 ⟨zev,zdy,z7p,trivial⟩ ?_;intro vs r hwf h;unfold z1u at h
 split at h
 ·rename_i d c b0 b1 b2 ts
  refine ⟨6,?_⟩;rw [R.get_ok] at h;rw [← h];refine (ztl 6 d c b0 b1 b2 ts).trans ?_;have run:lpE (z2c 6) (z0i z3n [1,1,0,1,0,0]) ⟨[1,2,30,31],[1,53005],[]⟩ 6 (yhk d c b0 b1 b2 ts false 0) (z06 0 (kSq (z2c 6) (z0i z3n [1,1,1]) (z2v (z2c 6) none [(ResultVar.tmp 2)] [[.bool]]))) =
    some (.bool ((zfz c 0 b0&&(zfz c 1 b1&&zfz c 2 b2))&&ts.all (z7u d c)),[]):=by
   have e0:yhk d c b0 b1 b2 ts false 0=yhk d c b0 b1 b2 ts false ((0:Nat):Int):=rfl;have R2:=fun j=>zk8 6 false b0 b1 b2 j d c b0 b1 b2 ts
   have R1:=fun j=>zkk 6 false b0 b1 b2 j d c b0 b1 b2 ts
   rw [e0,z05,znh 6 d c b0 b1 b2 ts 0 b0 (by simp),R2]
   cases h0:zfz c ((0:Nat):Int) b0 with
   | false=>rfl
   | true=>
    rw [z00,z05,znh 6 d c b0 b1 b2 ts 1 b1 (by simp),R2]
    cases h1:zfz c ((1:Nat):Int) b1 with
    | false=>rfl
    | true=>
     rw [z00,z05,znh 6 d c b0 b1 b2 ts 2 b2 (by simp),R2]
     cases h2:zfz c ((2:Nat):Int) b2 with
     | false=>rfl
     | true=>
      rw [z00,z05,zfk,v07 (show ¬ ((2+1:Nat):Int) < 3 by omega),z02,R1,Bool.not_not]
      rfl
  unfold z26;cases decide (d < 1) with
  | true=>rfl
  | false=>
  cases decide (d > 4) with
  | true=>rfl
  | false=>
  cases decide (c < 1) with
  | true=>rfl
  | false=>
  cases decide (c > 3) with
  | true=>rfl
  | false=>
   simp only [z02,v0i,v0r]
   by_cases h8:ts.length≤8
   ·rw [v07 (show ¬ ic ts.length > 8 by simp only [ic]; omega),z02,v1g h8,v0r]
    exact run
   ·have e:Nat.ble ts.length 8=false:=by
     cases hb:Nat.ble ts.length 8 with
     | false=>rfl
     | true=>exact absurd (v03 hb) h8
    rw [v01 (show ic ts.length > 8 by simp only [ic]; omega),z00,e,v0v]
 ·simp [R.get] at h
open Go Go.Proofs
def y8w (N:Nat):Env:=mkE [(44,z68),(144,zb4),(84,zag),(104,z7n),(57,z69),(86,z4t)] [] 76 N
theorem y3z (N:Nat) (s:ByteArray):z0y (y8w N) zwc [.tmp 2,.tmp 3] [[.int .i64],[.bool]] [(.str s)] =
 (cond (decide (ByteArray.size (z1s s { data:=#[45] }) < 4294967281))
 (cond (decide (ic (ByteArray.size (zjz (z1s s { data:=#[45] }) { data:=#[46] })) > 8))
 (some ((.tup [(.i 0),(.bool false)]),[]))
 (cond (decide (0≤IntKind.wrap IntKind.i64 (8 - ic (ByteArray.size (zjz (z1s s { data:=#[45] }) { data:=#[46] }))))&&decide (ByteArray.size { data:=#[48] }*Int.toNat (IntKind.wrap IntKind.i64 (8 - ic (ByteArray.size (zjz (z1s s { data:=#[45] }) { data:=#[46] }))))≤strMax))
 (cond (decide (ByteArray.size (zjz (z1s s { data:=#[45] }) { data:=#[46] })+ByteArray.size (zlu { data:=#[48] } (Int.toNat (IntKind.wrap IntKind.i64 (8 - ic (ByteArray.size (zjz (z1s s { data:=#[45] }) { data:=#[46] }))))))≤strMax))
 (cond (!puN (cutL (z1s s { data:=#[45] }) { data:=#[46] }))
 (some ((.tup [(.i 0),(.bool false)]),[]))
 (cond (!puN (zjz (z1s s { data:=#[45] }) { data:=#[46] }++zlu { data:=#[48] } (Int.toNat (IntKind.wrap IntKind.i64 (8 - ic (ByteArray.size (zjz (z1s s { data:=#[45] }) { data:=#[46] })))))))
 (some ((.tup [(.i 0),(.bool false)]),[]))
 (cond (decide (puV (cutL (z1s s { data:=#[45] }) { data:=#[46] }) > 36028797018963968))
 (some ((.tup [(.i 0),(.bool false)]),[]))
 (cond (Int.tmod (puV (zjz (z1s s { data:=#[45] }) { data:=#[46] }++zlu { data:=#[48] } (Int.toNat (IntKind.wrap IntKind.i64 (8 - ic (ByteArray.size (zjz (z1s s { data:=#[45] }) { data:=#[46] }))))))) 390625 != 0)
 (some ((.tup [(.i 0),(.bool false)]),[]))
 (cond (znj s { data:=#[45] })
 (cond (ByteArray.toList (z0b (IntKind.wrap IntKind.i64 (IntKind.wrap IntKind.u64 (0 - IntKind.wrap IntKind.u64 (IntKind.wrap IntKind.u64 (puV (cutL (z1s s { data:=#[45] }) { data:=#[46] })*2 ^ min (Int.toNat 8) (IntKind.bits IntKind.u64))+IntKind.wrap IntKind.u64 (Int.tdiv (puV (zjz (z1s s { data:=#[45] }) { data:=#[46] }++zlu { data:=#[48] } (Int.toNat (IntKind.wrap IntKind.i64 (8 - ic (ByteArray.size (zjz (z1s s { data:=#[45] }) { data:=#[46] }))))))) 390625))))))==ByteArray.toList s)
 (some ((.tup [(.i (IntKind.wrap IntKind.i64 (IntKind.wrap IntKind.u64 (0 - IntKind.wrap IntKind.u64 (IntKind.wrap IntKind.u64 (puV (cutL (z1s s { data:=#[45] }) { data:=#[46] })*2 ^ min (Int.toNat 8) (IntKind.bits IntKind.u64))+IntKind.wrap IntKind.u64 (Int.tdiv (puV (zjz (z1s s { data:=#[45] }) { data:=#[46] }++zlu { data:=#[48] } (Int.toNat (IntKind.wrap IntKind.i64 (8 - ic (ByteArray.size (zjz (z1s s { data:=#[45] }) { data:=#[46] }))))))) 390625)))))),(.bool true)]),[]))
 (some ((.tup [(.i 0),(.bool false)]),[])))
 (cond (ByteArray.toList (z0b (IntKind.wrap IntKind.i64 (IntKind.wrap IntKind.u64 (IntKind.wrap IntKind.u64 (puV (cutL (z1s s { data:=#[45] }) { data:=#[46] })*2 ^ min (Int.toNat 8) (IntKind.bits IntKind.u64))+IntKind.wrap IntKind.u64 (Int.tdiv (puV (zjz (z1s s { data:=#[45] }) { data:=#[46] }++zlu { data:=#[48] } (Int.toNat (IntKind.wrap IntKind.i64 (8 - ic (ByteArray.size (zjz (z1s s { data:=#[45] }) { data:=#[46] }))))))) 390625)))))==ByteArray.toList s)
 (some ((.tup [(.i (IntKind.wrap IntKind.i64 (IntKind.wrap IntKind.u64 (IntKind.wrap IntKind.u64 (puV (cutL (z1s s { data:=#[45] }) { data:=#[46] })*2 ^ min (Int.toNat 8) (IntKind.bits IntKind.u64))+IntKind.wrap IntKind.u64 (Int.tdiv (puV (zjz (z1s s { data:=#[45] }) { data:=#[46] }++zlu { data:=#[48] } (Int.toNat (IntKind.wrap IntKind.i64 (8 - ic (ByteArray.size (zjz (z1s s { data:=#[45] }) { data:=#[46] }))))))) 390625))))),(.bool true)]),[]))
 (some ((.tup [(.i 0),(.bool false)]),[]))))))))
 none)
 none))
 none):=by kernel_rfl
open Go Go.Proofs
theorem zoe:z2u PR B0 84 zag:=by
 refine z0f [] [(3,⟨[0,1,2],[],[]⟩)] zag [[.int .u64]] Tryz.func84 y8f trivial ?_;intro vs r hwf h;unfold zag at h
 split at h
 ·refine ⟨9,?_⟩
  rw [← h];show z0y (y9p 9) zw6 [.tmp 0] [[.int .u64]] []=_
  kernel_rfl
 ·simp [R.get] at h
theorem ygx {s:ByteArray} (h:puN s=true):0 < s.size:=by
 unfold puN at h
 split at h
 ·rename_i v hv
  have:s.data.toList≠[]:=fun e=>by rw [e] at hv; cases hv
  rw [zeg];exact List.length_pos_iff.2 this
 ·cases h
theorem yaw {s:ByteArray} (h:puN s=true):(List.getD s.data.toList 0 0).toNat≠43:=by
 unfold puN at h
 split at h
 ·rename_i v hv
  revert hv
  cases s.data.toList with
  | nil=>intro _; decide
  | cons c r=>
   intro hv he;have he:c.toNat=43:=he;unfold Lib.parseMag at hv;rw [v0x (by simp),Lib.parseUint10,v0x (by omega)] at hv
   cases hv
 ·cases h
theorem zuh:z2u PR B0 144 zb4:=by
 refine z0f [(189,z6i)] [] zb4 [[.int .u64],[.bool]] Tryz.func144 y00 ⟨zgw,trivial⟩ ?_;intro vs r hwf h;unfold zb4 at h
 split at h
 ·rename_i s
  refine ⟨0,?_⟩;rw [← h];refine (zwv 0 s).trans ?_;simp only [R.get_ok];cases hp:puN s with
  | false=>simp only [z02]
  | true=>
   have h1:(decide (0≤0)&&decide (0 < ic (ByteArray.size s)))=true:=by
    have:=ygx hp
    simp [ic]; omega
   have h2:(ic (UInt8.toNat (List.getD (Array.toList (ByteArray.data s)) (Int.toNat 0) 0)) != 43)=true:=by
    have:=yaw hp
    rw [yav];simp only [ic,Int.toNat_zero];simp only [v12,v14];omega
   rw [h1,h2];simp only [z00]
 ·simp [R.get] at h
theorem ybd {n:Int} (h0:0≤n) (h1:n < 18446744073709551616):IntKind.wrap .u64 n=n:=by rw [IntKind.wrap_u64]; omega
theorem ye0 {n:Int} (h0:n < 0) (h1 : -9223372036854775808≤n):IntKind.wrap .u64 (0 - IntKind.wrap .u64 n)=(n.natAbs:Int):=by rw [IntKind.wrap_u64,IntKind.wrap_u64]; omega
theorem ydu {n:Int} (h0:¬ n < 0) (h1:n≤9223372036854775807):IntKind.wrap .u64 n=(n.natAbs:Int):=by rw [IntKind.wrap_u64]; omega
theorem ycw (u:Nat) (h:u < 18446744073709551616):IntKind.wrap .u64 (ic (BitVec.toNat (BitVec.ofInt (IntKind.bits IntKind.u64) (u:Int) &&& BitVec.ofInt (IntKind.bits IntKind.u64) 255)))=((u % 256:Nat):Int):=by
 have e:BitVec.toNat (BitVec.ofInt (IntKind.bits IntKind.u64) (u:Int) &&& BitVec.ofInt (IntKind.bits IntKind.u64) 255)=u % 256:=by
  have h1:(BitVec.ofInt (IntKind.bits IntKind.u64) (u:Int)).toNat=u:=by
   show (BitVec.ofInt 64 (u:Int)).toNat=u;rw [BitVec.toNat_ofInt];omega
  have h2:(BitVec.ofInt (IntKind.bits IntKind.u64) 255).toNat=2 ^ 8 - 1:=by rfl
  rw [BitVec.toNat_and,h1,h2,Nat.and_two_pow_sub_one_eq_mod]
 rw [e];exact ybd (by simp [ic]; omega) (by simp [ic]; omega)
theorem yhx (u:Nat):Int.fdiv (u:Int) (2 ^ min (Int.toNat 8) (IntKind.bits IntKind.u64))=((u / 256:Nat):Int):=by
 have e:(2:Int) ^ min (Int.toNat 8) (IntKind.bits IntKind.u64)=((256:Nat):Int):=rfl;rw [e,Int.fdiv_eq_ediv_of_nonneg _ (by omega)]
 rfl
theorem y7k {r:Nat} (h:r < 256):IntKind.wrap .u64 ((r:Int)*390625)=((r*390625:Nat):Int):=by
 rw [ybd (by omega) (by omega)]
 omega
theorem zwq (u:Nat):za0 (u:Int)=⟨(Lib.decDigits u).toArray⟩:=rfl
theorem yb4:(List.range 256).all (fun r=>Nat.ble (Lib.decDigits (r*390625)).length 8)=true:=by kernel_rfl
theorem ydf {r:Nat} (h:r < 256):(Lib.decDigits (r*390625)).length≤8:=by
 have:=v30.1 yb4 r (List.mem_range.2 h)
 exact v03 this
theorem ybp (l:List UInt8):(⟨l.toArray⟩:ByteArray).data.toList=l:=rfl
theorem zlr (s t:ByteArray):(s++t).data.toList=s.data.toList++t.data.toList:=by simp
theorem ygf (l:List UInt8):(⟨l.toArray⟩:ByteArray).size=l.length:=by rw [zeg]
theorem zvo {u:Nat} (hu:u < 18446744073709551616) (sg:ByteArray) (hsg:sg.size≤1) (K:ByteArray) (hK:K=sg++⟨(zt1 u).toArray⟩) :
  (cond (decide (ByteArray.size sg+ByteArray.size (za0 ((u / 256:Nat):Int))≤strMax))
   (cond (((u % 256:Nat):Int)==0)
    (some ((.str (sg++za0 ((u / 256:Nat):Int))),[]))
    (cond (decide (ByteArray.size (sg++za0 ((u / 256:Nat):Int))+ByteArray.size { data:=#[46] }≤strMax))
     (cond (decide (0≤IntKind.wrap IntKind.i64 (8 - ic (ByteArray.size (za0 ((u % 256*390625:Nat):Int)))))&&decide (ByteArray.size { data:=#[48] }*Int.toNat (IntKind.wrap IntKind.i64 (8 - ic (ByteArray.size (za0 ((u % 256*390625:Nat):Int)))))≤strMax))
      (cond (decide (ByteArray.size (zlu { data:=#[48] } (Int.toNat (IntKind.wrap IntKind.i64 (8 - ic (ByteArray.size (za0 ((u % 256*390625:Nat):Int)))))))+ByteArray.size (za0 ((u % 256*390625:Nat):Int))≤strMax))
       (cond (decide (ByteArray.size (sg++za0 ((u / 256:Nat):Int)++{ data:=#[46] })+ByteArray.size (zff (zlu { data:=#[48] } (Int.toNat (IntKind.wrap IntKind.i64 (8 - ic (ByteArray.size (za0 ((u % 256*390625:Nat):Int))))))++za0 ((u % 256*390625:Nat):Int)) { data:=#[48] })≤strMax))
        (some ((.str (sg++za0 ((u / 256:Nat):Int)++{ data:=#[46] }++zff (zlu { data:=#[48] } (Int.toNat (IntKind.wrap IntKind.i64 (8 - ic (ByteArray.size (za0 ((u % 256*390625:Nat):Int))))))++za0 ((u % 256*390625:Nat):Int)) { data:=#[48] })),[]))
        none)
       none)
      none)
     none))
   none)=(some (V.str K,[]):Res):=by
 have hr:u % 256 < 256:=by omega
 have l1:(za0 ((u / 256:Nat):Int)).size≤20:=zsp (by omega) (by omega)
 have l2:(za0 ((u % 256*390625:Nat):Int)).size=(Lib.decDigits (u % 256*390625)).length:=by rw [zwq,ygf]
 have l3:=ydf hr;generalize hD:Lib.decDigits (u % 256*390625)=D at l2 l3;have e8:IntKind.wrap IntKind.i64 (8 - ic (ByteArray.size (za0 ((u % 256*390625:Nat):Int))))=((8 - D.length:Nat):Int):=by
  rw [l2,z15 (by simp [ic]; omega) (by simp [ic]; omega)]
  simp only [ic];omega
 rw [e8];simp only [v0l];have s46:ByteArray.size { data:=#[46] }=1:=rfl;have s48:ByteArray.size { data:=#[48] }=1:=rfl;have l4:(zlu { data:=#[48] } (8 - D.length)).size=8 - D.length:=by rw [zq7,s48]; omega
 have l5:=zql (zlu { data:=#[48] } (8 - D.length)++za0 ((u % 256*390625:Nat):Int)) { data:=#[48] };rw [v0f,l4,l2] at l5;rw [v01 (show ByteArray.size sg+ByteArray.size (za0 ((u / 256:Nat):Int))≤strMax by unfold strMax; omega),
  v01 (show ByteArray.size (sg++za0 ((u / 256:Nat):Int))+ByteArray.size { data:=#[46] }≤strMax by rw [v0f,s46]; unfold strMax; omega),
  v01 (show (0:Int)≤((8 - D.length:Nat):Int) by omega),
  v01 (show ByteArray.size { data:=#[48] }*(8 - D.length)≤strMax by rw [s48]; unfold strMax; omega),
  v01 (show ByteArray.size (zlu { data:=#[48] } (8 - D.length))+ByteArray.size (za0 ((u % 256*390625:Nat):Int))≤strMax by rw [l4,l2]; unfold strMax; omega),
  v01 (show ByteArray.size (sg++za0 ((u / 256:Nat):Int)++{ data:=#[46] })+ByteArray.size (zff (zlu { data:=#[48] } (8 - D.length)++za0 ((u % 256*390625:Nat):Int)) { data:=#[48] })≤strMax by rw [v0f,v0f,s46]; unfold strMax; omega)]
 simp only [z00,v1f];subst hK
 by_cases h0:u % 256=0
 ·have e0:(((u % 256:Nat):Int)==0)=true:=by rw [zjp]; exact v01 (by omega)
  rw [e0,z00]
  have:sg++za0 ((u / 256:Nat):Int)=sg++⟨(zt1 u).toArray⟩:=by
   apply zdw;rw [zlr,zlr,zwq,ybp,ybp,zt1,v1c h0,v2k]
  rw [this]
 ·have e0:(((u % 256:Nat):Int)==0)=false:=by rw [zjp]; exact v07 (by omega)
  rw [e0,z02]
  have:sg++za0 ((u / 256:Nat):Int)++{ data:=#[46] }++zff (zlu { data:=#[48] } (8 - D.length)++za0 ((u % 256*390625:Nat):Int)) { data:=#[48] }=sg++⟨(zt1 u).toArray⟩:=by
   apply zdw;simp only [zlr,zwq,zt1,v0x h0,zff,zlu,ztp,hD,v3b]
   rfl
  rw [this]
theorem zez:z2u PR B0 44 z68:=by
 refine z0f [(84,zag),(83,z5m),(86,z4t),(85,z6e)] [] z68 [[.str]] Tryz.func44 y4a ⟨zoe,zg1,zd9,zgg,trivial⟩ ?_;intro vs r hwf h;unfold z68 at h
 split at h
 ·rename_i n
  refine ⟨0,?_⟩;rw [← h];refine (y1i 0 n).trans ?_;simp only [R.get_ok];have hb:=(hwf (by simp [zbw])).1
  simp only [wfV,wfL] at hb;obtain ⟨h0,h1⟩:=hb;have e0:IntKind.i64.min = -9223372036854775808:=rfl;have e1:IntKind.i64.max=9223372036854775807:=rfl;rw [e0] at h0;rw [e1] at h1;have hu:n.natAbs < 18446744073709551616:=by omega
  by_cases hn:n < 0
  ·rw [v01 hn,z00,ye0 hn h0,yhx,ycw _ hu,y7k (by omega)]
   exact zvo hu ⟨#[45]⟩ (by decide) _ (by apply zdw; rw [zlr]; unfold z0b zqx; rw [v1c hn]; rfl)
  ·rw [v07 hn,z02,ydu hn h1,yhx,ycw _ hu,y7k (by omega)]
   exact zvo hu ⟨#[]⟩ (by decide) _ (by apply zdw; rw [zlr]; unfold z0b zqx; rw [v0x hn]; rfl)
 ·simp [R.get] at h
open Go Go.Proofs
theorem zo6:z2u PR B0 91 zai:=by
 refine z0f [(44,z68),(144,zb4),(84,zag),(104,z7n),(57,z69),(86,z4t)] [] zai [[.int .i64],[.bool]] Tryz.func91 y84
  ⟨zez,zuh,zoe,zh0,zga,zd9,trivial⟩ ?_
 intro vs r hwf h;unfold zai at h
 split at h
 ·rename_i s
  refine ⟨0,?_⟩;cases hs:decide (s.size < 4294967281) with
  | false=>rw [hs] at h; simp [R.get] at h
  | true=>
   rw [hs,R.get_br,z00,R.get_ok] at h;have hs:=v0d hs;rw [← h];refine (y3z 0 s).trans ?_;have hz:=zl5 s { data:=#[45] };rw [v01 (show ByteArray.size (z1s s { data:=#[45] }) < 4294967281 by omega),z00]
   have eW:cutL (z1s s { data:=#[45] }) { data:=#[46] }=zdh s:=rfl;have eP:zjz (z1s s { data:=#[45] }) { data:=#[46] }=z6y s:=rfl;have eM:znj s { data:=#[45] }=znj s zqu:=rfl;rw [eW,eP,eM];unfold zi5
   by_cases h8:(z6y s).size≤8
   ·have c1:decide (ic (ByteArray.size (z6y s)) > 8)=false:=v07 (by simp only [ic]; omega)
    have e8:IntKind.wrap IntKind.i64 (8 - ic (ByteArray.size (z6y s)))=((8 - (z6y s).size:Nat):Int):=by
     rw [z15 (by simp only [ic]; omega) (by simp only [ic]; omega)]
     simp only [ic];omega
    rw [c1,z02,e8];simp only [v0l];have s48:ByteArray.size { data:=#[48] }=1:=rfl;have eF:z6y s++zlu { data:=#[48] } (8 - (z6y s).size)=zbo s:=rfl;have l4:(zlu { data:=#[48] } (8 - (z6y s).size)).size=8 - (z6y s).size:=by rw [zq7,s48]; omega
    rw [v01 (show (0:Int)≤((8 - (z6y s).size:Nat):Int) by omega),v01 (show ByteArray.size { data:=#[48] }*(8 - (z6y s).size)≤strMax by rw [s48]; unfold strMax; omega),v1f,z00,
     v01 (show ByteArray.size (z6y s)+ByteArray.size (zlu { data:=#[48] } (8 - (z6y s).size))≤strMax by rw [l4]; unfold strMax; omega),z00,eF]
    have hw:=zqf (zdh s);have hf:=zqf (zbo s);have b0:IntKind.u64.min=0:=rfl;have b1:IntKind.u64.max=18446744073709551615:=rfl;rw [b0,b1] at hw hf;have em:Int.tmod (puV (zbo s)) 390625=puV (zbo s) % 390625:=Int.tmod_eq_emod_of_nonneg hf.1;have ed:IntKind.wrap IntKind.u64 (Int.tdiv (puV (zbo s)) 390625)=puV (zbo s) / 390625:=by
     rw [Int.tdiv_eq_ediv_of_nonneg hf.1,ybd (by omega) (by omega)]
    have e2:(2:Int) ^ min (Int.toNat 8) (IntKind.bits IntKind.u64)=256:=rfl;rw [em,ed,e2];have eS:IntKind.wrap IntKind.u64 (IntKind.wrap IntKind.u64 (puV (zdh s)*256)+puV (zbo s) / 390625)=zel s:=rfl;rw [eS];unfold ye7;rw [v01 h8,yd5,zni,yav];cases hp1:puN (zdh s) with
    | false=>simp only [v0i,z00,z02,v0v,v2b]
    | true=>
     cases hp2:puN (zbo s) with
     | false=>simp only [v0i,v0c,z00,z02,v0v,v2b]
     | true=>
      simp only [v0c,z02,v0r];cases hc:decide (36028797018963968 < puV (zdh s)) with
      | true=>simp only [v0c,z00,z02,v0v]
      | false=>
       cases hd:decide (puV (zbo s) % 390625=0) with
       | false=>simp only [v0i,z00,z02,v0v,v0r]
       | true=>
        simp only [v0i,v0c,z02,v0r];unfold ybg;cases hm:znj s zqu with
        | false=>
         simp only [z02];rw [show IntKind.wrap IntKind.i64 (zel s)=zd2 (zel s) from rfl,y2r]
         cases decide (z0b (zd2 (zel s))=s) <;> simp only [z00,z02]
        | true=>
         simp only [z00];rw [show IntKind.wrap IntKind.i64 (IntKind.wrap IntKind.u64 (0 - zel s))=zd2 (zwm (0 - zel s)) from rfl,y2r]
         cases decide (z0b (zd2 (zwm (0 - zel s)))=s) <;> simp only [z00,z02]
   ·have c1:decide (ic (ByteArray.size (z6y s)) > 8)=true:=v01 (by simp only [ic]; omega)
    rw [c1,z00];unfold ye7;rw [v07 h8,v0v,z02]
 ·simp [R.get] at h
open Go Go.Proofs
def z0u (N:Nat):Env:=mkE [(44,z68),(53,z1u),(55,z1t),(43,z2x),(56,z1b),(54,zck)] [(7,⟨[1,2,3,4,28,29,30],[1,3,500],[⟨.tmp 4,500,9,false,[.str]⟩]⟩),(13,⟨[2,3,43,44,45],[3],[]⟩),(17,⟨[2,3,43,44,45,59,60,61],[3],[]⟩)] 94 N
abbrev z56 (s2:ByteArray) (n4 n28:Nat) (x29 x30 u02 u03 u04 u05 u06:Int) (u00:List IV) (so3:ByteArray) (u01:List IV):St:=⟨[(1,(.ptr 1 0 0)),(2,(.str s2)),(3,(.ptr 3 0 0)),(4,(.row 500 0 n4)),(28,(.bview 1 2 3 1 n28)),(29,(.i x29)),(30,(.i x30))],[(1,(some (.box [(.i u02),(.i u03),(.i u04),(.i u05),(.i u06),(.list true [(.int .i64),(.list false [(.int .u64)])] u00)]))),(3,(some (.bld so3))),(500,(some (.row true 9 false [.str] u01)))]⟩
abbrev z8g (s2:ByteArray) (l43:List IV) (x44 x45:Int) (so3:ByteArray):St:=⟨[(2,(.str s2)),(3,(.ptr 3 0 0)),(43,(.list true [(.int .i64),(.list false [(.int .u64)])] l43)),(44,(.i x44)),(45,(.i x45))],[(3,(some (.bld so3)))]⟩
abbrev z6t (s2:ByteArray) (l43:List IV) (x44 x45:Int) (l59:List IV) (x60 x61:Int) (so3:ByteArray):St:=⟨[(2,(.str s2)),(3,(.ptr 3 0 0)),(43,(.list true [(.int .i64),(.list false [(.int .u64)])] l43)),(44,(.i x44)),(45,(.i x45)),(59,(.list false [(.int .u64)] l59)),(60,(.i x60)),(61,(.i x61))],[(3,(some (.bld so3)))]⟩
theorem zyq (N:Nat) (u04 u03 u00 u01 u02:Int) (u05:List IV):z0y (z0u N) z1m [.tmp 2] [[.str]] [(.agg [(.i u04),(.i u03),(.i u00),(.i u01),(.i u02),(.list true [.int .i64,.list false [.int .u64]] u05)])]=(cond (!z26 {d:=u04,c:=u03,b0:=u00,b1:=u01,b2:=u02,ts:=u05}) (some ((.str ({data:=#[]})),[])) (cond (Nat.ble (List.length (List.drop 0 (List.take 3 [IV.str {data:=#[102,111,114,101,115,116]},IV.str (z0l u04),IV.str (z0l u03)]))) 1000&&decide (ByteArray.size ByteArray.empty+ByteArray.size (z5s (List.map IV.toStr (List.drop 0 (List.take 3 [IV.str {data:=#[102,111,114,101,115,116]},IV.str (z0l u04),IV.str (z0l u03)]))))≤1000000000)) (cond (decide (0≤u03)&&decide (u03≤ic 3)) (lpE (z0u N) (z0i z1m [1,1,1,1,1,0,1,0,0]) ⟨[1,2,3,4,28,29,30],[1,3,500],[⟨(.tmp 4),500,9,false,[.str]⟩]⟩ N (z56 ({data:=#[]}) 1 (Int.toNat u03) (ic (Int.toNat u03)) 0 u04 u03 u00 u01 u02 u05 (ByteArray.empty++z5s (List.map IV.toStr (List.drop 0 (List.take 3 [IV.str {data:=#[102,111,114,101,115,116]},IV.str (z0l u04),IV.str (z0l u03)])))) [(IV.str {data:=#[98,105,97,115]})]) (z06 0 (kSq (z0u N) (z0i z1m [1,1,1,1,1,1]) (z2v (z0u N) none [(ResultVar.tmp 2)] [[.str]])))) none) none)):=by kernel_rfl
theorem z9w (N:Nat) (s2:ByteArray) (n4 n28:Nat) (x29 x30 u02 u03 u04 u05 u06:Int) (u00:List IV) (so3:ByteArray) (u01:List IV) (again:St→Res) (k:Out→St→Res):rnd (z0u N) (z0i z1m [1,1,1,1,1,0,1,0,0]) (z56 s2 n4 n28 x29 x30 u02 u03 u04 u05 u06 u00 so3 u01) (z3v again ⟨[1,2,3,4,28,29,30],[1,3,500],[⟨(.tmp 4),500,9,false,[.str]⟩]⟩ k)=(cond (decide (x30 < x29)) (cond (decide (x30 < ic n28)) (cond (decide (x30=ic 0)) (cond (decide ((n4+List.length (List.drop 0 (List.take 1 [IV.str (z0b u04)])))*TI.bytes (Env.tyd (z0u N) 9)≤z09)) (again (z56 s2 (n4+List.length (List.drop 0 (List.take 1 [IV.str (z0b u04)]))) n28 x29 (IntKind.wrap IntKind.i64 (x30+1)) u02 u03 u04 u05 u06 u00 so3 (List.take n4 u01++List.drop 0 (List.take 1 [IV.str (z0b u04)])))) none) (cond (decide (x30=ic 1)) (cond (decide ((n4+List.length (List.drop 0 (List.take 1 [IV.str (z0b u05)])))*TI.bytes (Env.tyd (z0u N) 9)≤z09)) (again (z56 s2 (n4+List.length (List.drop 0 (List.take 1 [IV.str (z0b u05)]))) n28 x29 (IntKind.wrap IntKind.i64 (x30+1)) u02 u03 u04 u05 u06 u00 so3 (List.take n4 u01++List.drop 0 (List.take 1 [IV.str (z0b u05)])))) none) (cond (decide (x30=ic 2)) (cond (decide ((n4+List.length (List.drop 0 (List.take 1 [IV.str (z0b u06)])))*TI.bytes (Env.tyd (z0u N) 9)≤z09)) (again (z56 s2 (n4+List.length (List.drop 0 (List.take 1 [IV.str (z0b u06)]))) n28 x29 (IntKind.wrap IntKind.i64 (x30+1)) u02 u03 u04 u05 u06 u00 so3 (List.take n4 u01++List.drop 0 (List.take 1 [IV.str (z0b u06)])))) none) none))) none) (k (.exit 0) (z56 s2 n4 n28 x29 x30 u02 u03 u04 u05 u06 u00 so3 u01))):=by kernel_rfl
theorem znl (N:Nat) (s2:ByteArray) (n4 n28:Nat) (x29 x30 u02 u03 u04 u05 u06:Int) (u00:List IV) (so3:ByteArray) (u01:List IV):(z06 0 (kSq (z0u N) (z0i z1m [1,1,1,1,1,1]) (z2v (z0u N) none [(ResultVar.tmp 2)] [[.str]]))) (.exit 0) (z56 s2 n4 n28 x29 x30 u02 u03 u04 u05 u06 u00 so3 u01)=(cond (Nat.ble (List.length (List.drop 0 (List.take n4 u01))) 1000&&decide (ByteArray.size so3+ByteArray.size (z5s (List.map IV.toStr (List.drop 0 (List.take n4 u01))))≤1000000000)) (lpE (z0u N) (z0i z1m [1,1,1,1,1,1,1,0,1,0,0]) ⟨[2,3,43,44,45],[3],[]⟩ N (z8g s2 u00 (ic (List.length u00)) 0 (so3++z5s (List.map IV.toStr (List.drop 0 (List.take n4 u01))))) (z06 2 (kSq (z0u N) (z0i z1m [1,1,1,1,1,1,1,1]) (z2v (z0u N) none [(ResultVar.tmp 2)] [[.str]])))) none):=by kernel_rfl
theorem zgc (N:Nat) (s2:ByteArray) (l43:List IV) (x44 x45:Int) (so3:ByteArray) (again:St→Res) (k:Out→St→Res):rnd (z0u N) (z0i z1m [1,1,1,1,1,1,1,0,1,0,0]) (z8g s2 l43 x44 x45 so3) (z3v again ⟨[2,3,43,44,45],[3],[]⟩ k)=(cond (decide (x45 < x44)) (cond (decide (0≤x45)&&decide (x45 < ic (List.length l43))) (cond (Nat.ble (List.length (List.drop 0 (List.take 3 [IV.str {data:=#[116,114,101,101]},IV.str (z0l (IV.toInt (IV.cell (List.getD l43 (Int.toNat x45) default) 0))),IV.str (z0l (ic (List.length (IV.toList (IV.cell (List.getD l43 (Int.toNat x45) default) 1)))))]))) 1000&&decide (ByteArray.size so3+ByteArray.size (z5s (List.map IV.toStr (List.drop 0 (List.take 3 [IV.str {data:=#[116,114,101,101]},IV.str (z0l (IV.toInt (IV.cell (List.getD l43 (Int.toNat x45) default) 0))),IV.str (z0l (ic (List.length (IV.toList (IV.cell (List.getD l43 (Int.toNat x45) default) 1)))))]))))≤1000000000)) (lpE (z0u N) (z0i z1m [1,1,1,1,1,1,1,0,1,0,0,1,1,0,0,1,1,1,0,0]) ⟨[2,3,43,44,45,59,60,61],[3],[]⟩ N (z6t s2 l43 x44 x45 (IV.toList (IV.cell (List.getD l43 (Int.toNat x45) default) 1)) (ic (List.length (IV.toList (IV.cell (List.getD l43 (Int.toNat x45) default) 1)))) 0 (so3++z5s (List.map IV.toStr (List.drop 0 (List.take 3 [IV.str {data:=#[116,114,101,101]},IV.str (z0l (IV.toInt (IV.cell (List.getD l43 (Int.toNat x45) default) 0))),IV.str (z0l (ic (List.length (IV.toList (IV.cell (List.getD l43 (Int.toNat x45) default) 1)))))]))))) (z06 4 (z06 3 (kSq (z0u N) (z0i z1m [1,1,1,1,1,1,1,0,1,0,0,1,1,1]) (z3v again ⟨[2,3,43,44,45],[3],[]⟩ k))))) none) none) (k (.exit 2) (z8g s2 l43 x44 x45 so3))):=by kernel_rfl
theorem zgh (N:Nat) (s2:ByteArray) (l43:List IV) (x44 x45:Int) (l59:List IV) (x60 x61:Int) (so3:ByteArray) (again:St→Res) (k:Out→St→Res):rnd (z0u N) (z0i z1m [1,1,1,1,1,1,1,0,1,0,0,1,1,0,0,1,1,1,0,0]) (z6t s2 l43 x44 x45 l59 x60 x61 so3) (z3v again ⟨[2,3,43,44,45,59,60,61],[3],[]⟩ k)=(cond (decide (x61 < x60)) (cond (decide (0≤x61)&&decide (x61 < ic (List.length l59))) (cond (Nd.lf (z04 (IV.toInt (List.getD l59 (Int.toNat x61) default)))) (cond (Nat.ble (List.length (List.drop 0 (List.take 2 [IV.str {data:=#[108,101,97,102]},IV.str (z0b (Nd.v (z04 (IV.toInt (List.getD l59 (Int.toNat x61) default)))))]))) 1000&&decide (ByteArray.size so3+ByteArray.size (z5s (List.map IV.toStr (List.drop 0 (List.take 2 [IV.str {data:=#[108,101,97,102]},IV.str (z0b (Nd.v (z04 (IV.toInt (List.getD l59 (Int.toNat x61) default)))))]))))≤1000000000)) (again (z6t s2 l43 x44 x45 l59 x60 (IntKind.wrap IntKind.i64 (x61+1)) (so3++z5s (List.map IV.toStr (List.drop 0 (List.take 2 [IV.str {data:=#[108,101,97,102]},IV.str (z0b (Nd.v (z04 (IV.toInt (List.getD l59 (Int.toNat x61) default)))))])))))) none) (cond (Nat.ble (List.length (List.drop 0 (List.take 8 [IV.str {data:=#[105,102]},IV.str (z0l (Nd.f (z04 (IV.toInt (List.getD l59 (Int.toNat x61) default))))),IV.str {data:=#[60,61]},IV.str (z0b (Nd.a (z04 (IV.toInt (List.getD l59 (Int.toNat x61) default))))),IV.str {data:=#[116,104,101,110]},IV.str (z0l (Nd.l (z04 (IV.toInt (List.getD l59 (Int.toNat x61) default))))),IV.str {data:=#[101,108,115,101]},IV.str (z0l (Nd.r (z04 (IV.toInt (List.getD l59 (Int.toNat x61) default)))))]))) 1000&&decide (ByteArray.size so3+ByteArray.size (z5s (List.map IV.toStr (List.drop 0 (List.take 8 [IV.str {data:=#[105,102]},IV.str (z0l (Nd.f (z04 (IV.toInt (List.getD l59 (Int.toNat x61) default))))),IV.str {data:=#[60,61]},IV.str (z0b (Nd.a (z04 (IV.toInt (List.getD l59 (Int.toNat x61) default))))),IV.str {data:=#[116,104,101,110]},IV.str (z0l (Nd.l (z04 (IV.toInt (List.getD l59 (Int.toNat x61) default))))),IV.str {data:=#[101,108,115,101]},IV.str (z0l (Nd.r (z04 (IV.toInt (List.getD l59 (Int.toNat x61) default)))))]))))≤1000000000)) (again (z6t s2 l43 x44 x45 l59 x60 (IntKind.wrap IntKind.i64 (x61+1)) (so3++z5s (List.map IV.toStr (List.drop 0 (List.take 8 [IV.str {data:=#[105,102]},IV.str (z0l (Nd.f (z04 (IV.toInt (List.getD l59 (Int.toNat x61) default))))),IV.str {data:=#[60,61]},IV.str (z0b (Nd.a (z04 (IV.toInt (List.getD l59 (Int.toNat x61) default))))),IV.str {data:=#[116,104,101,110]},IV.str (z0l (Nd.l (z04 (IV.toInt (List.getD l59 (Int.toNat x61) default))))),IV.str {data:=#[101,108,115,101]},IV.str (z0l (Nd.r (z04 (IV.toInt (List.getD l59 (Int.toNat x61) default)))))])))))) none)) none) (k (.exit 4) (z6t s2 l43 x44 x45 l59 x60 x61 so3))):=by kernel_rfl
theorem znt (N:Nat) (s2:ByteArray) (l43:List IV) (x44 x45:Int) (so3:ByteArray):(z06 2 (kSq (z0u N) (z0i z1m [1,1,1,1,1,1,1,1]) (z2v (z0u N) none [(ResultVar.tmp 2)] [[.str]]))) (.exit 2) (z8g s2 l43 x44 x45 so3)=(some ((.str so3),[])):=by kernel_rfl
theorem zm6 (N:Nat) (again:St→Res) (k:Out→St→Res) (s2:ByteArray) (l43:List IV) (x44 x45:Int) (l59:List IV) (x60 x61:Int) (so3:ByteArray):(z06 4 (z06 3 (kSq (z0u N) (z0i z1m [1,1,1,1,1,1,1,0,1,0,0,1,1,1]) (z3v again ⟨[2,3,43,44,45],[3],[]⟩ k)))) (.exit 4) (z6t s2 l43 x44 x45 l59 x60 x61 so3)=(again (z8g s2 l43 x44 (IntKind.wrap IntKind.i64 (x45+1)) so3)):=by kernel_rfl
def y51 (N:Nat):Env:=mkE [(97,z1p),(60,z0v),(45,z6p)] [] 10 N
theorem y19 (N:Nat) (b:ByteArray) (u00:List IV):z0y (y51 N) zsx [] [] [(.bor [.bld b]),(.list false [.str] u00)]=(cond (decide (List.length u00≤strMax)&&decide (ByteArray.size (zah (List.map IV.toStr u00) {data:=#[32]})≤strMax)) (cond (decide (ByteArray.size b+ByteArray.size (zah (List.map IV.toStr u00) {data:=#[32]})≤strMax)) (cond (decide (ByteArray.size (b++zah (List.map IV.toStr u00) {data:=#[32]})+1≤strMax)) (some ((.tup []),[[(.bld (ByteArray.push (b++zah (List.map IV.toStr u00) {data:=#[32]}) (zde 10)))]])) none) none) none):=by kernel_rfl
def zlc (N:Nat):Env:=mkE [(46,z2k)] [] 26 N
theorem zju (N:Nat) (u00:List IV):z0y (zlc N) zdk [.tmp 2] [[.list false [.str]]] [(.bor [(.list false [.str] u00)])]=(cond (ic (List.length u00)==0) (some ((.list false [.str] []),[[(.list false [.str] u00)]])) (cond (decide (0≤0)&&decide (0 < ic (List.length u00))) (cond (decide (0≤1)&&decide (1≤ic (List.length u00))) (cond (decide (ByteArray.size (IV.toStr (List.getD u00 (Int.toNat 0) default)) < 4294967281)&&decide (1≤ByteArray.size {data:=#[32]})) (some ((.list false [.str] (List.map IV.str (z0p (IV.toStr (List.getD u00 (Int.toNat 0) default)) {data:=#[32]}))),[[(.list false [.str] (List.drop (Int.toNat 1) (List.take (List.length u00) u00)))]])) none) none) none)):=by kernel_rfl
def y4j (N:Nat):Env:=mkE [] [] 13 N
theorem y2y (N:Nat) (l:List IV) (i:Int):z0y (y4j N) zqp [.tmp 4] [[.str]] [(.list false [.str] l),(.i i)]=(cond (decide (i≥ic (List.length l))) (some ((.str ({data:=#[]})),[])) (cond (decide (0≤i)&&decide (i < ic (List.length l))) (some ((.str (IV.toStr (List.getD l (Int.toNat i) default))),[])) none)):=by kernel_rfl
def y0z (N:Nat):Env:=mkE [(90,z6s)] [] 24 N
theorem zxb (N:Nat) (s:ByteArray) (most:Int):z0y (y0z N) zo5 [.tmp 4] [[.int .i64]] [(.str s),(.i most)]=(cond (!zsk s) (some ((.i 0),[])) (cond (decide (z6m s < 0)) (some ((.i 0),[])) (cond (decide (z6m s > most)) (some ((.i 0),[])) (some ((.i (z6m s)),[]))))):=by kernel_rfl
def y5o (N:Nat):Env:=mkE [(91,zai)] [] 11 N
theorem zzw (N:Nat) (s:ByteArray):z0y (y5o N) zss [.tmp 2] [[.int .i64]] [(.str s)]=(cond (decide (ByteArray.size s < 4294967281)) (some ((.i (zi5 s)),[])) none):=by kernel_rfl
def zkg (N:Nat):Env:=mkE [(92,z8m),(49,z77),(48,z33),(51,z8u),(50,z8o)] [] 28 N
theorem zjx (N:Nat) (u00:List IV):z0y (zkg N) zda [.tmp 2] [[.int .u64]] [(.bor [(.list false [.str] u00)])]=(cond (z6c u00) (cond (ByteArray.toList (wAt (z3g u00) (Int.toNat 0))==ByteArray.toList {data:=#[108,101,97,102]}) (cond (decide (ByteArray.size (wAt (z3g u00) (Int.toNat 1)) < 4294967281)) (some ((.int .u64 (z7s {lf:=true,v:=zi5 (wAt (z3g u00) (Int.toNat 1)),f:=0,a:=0,l:=0,r:=0})),[[(.list false [.str] (List.drop 1 u00))]])) none) (cond (decide (ByteArray.size (wAt (z3g u00) (Int.toNat 3)) < 4294967281)) (some ((.int .u64 (z7s {lf:=false,v:=0,f:=zec (wAt (z3g u00) (Int.toNat 1)) 4,a:=zi5 (wAt (z3g u00) (Int.toNat 3)),l:=zec (wAt (z3g u00) (Int.toNat 5)) 31,r:=zec (wAt (z3g u00) (Int.toNat 7)) 31})),[[(.list false [.str] (List.drop 1 u00))]])) none)) none):=by kernel_rfl
def za8 (N:Nat):Env:=mkE [] [] 21 N
theorem z9k (N:Nat) (s u00:ByteArray):z0y (za8 N) z5h [.tmp 4] [[.bool]] [(.str s),(.str u00)]=(cond (decide (ic (ByteArray.size s)≥ic (ByteArray.size u00))) (cond (decide (0≤IntKind.wrap IntKind.i64 (ic (ByteArray.size s) - ic (ByteArray.size u00)))&&decide (IntKind.wrap IntKind.i64 (ic (ByteArray.size s) - ic (ByteArray.size u00))≤ic (ByteArray.size s))) (some ((.bool (ByteArray.toList (ByteArray.extract s (Int.toNat (IntKind.wrap IntKind.i64 (ic (ByteArray.size s) - ic (ByteArray.size u00)))) (ByteArray.size s))==ByteArray.toList u00)),[])) none) (some ((.bool false),[]))):=by kernel_rfl
def z9j (N:Nat):Env:=mkE [(141,z1i)] [] 16 N
theorem z97 (N:Nat) (s u00:ByteArray):z0y (z9j N) z54 [.tmp 4] [[.str]] [(.str s),(.str u00)]=(cond (zqo s u00) (cond (decide (0≤IntKind.wrap IntKind.i64 (ic (ByteArray.size s) - ic (ByteArray.size u00)))&&decide (IntKind.wrap IntKind.i64 (ic (ByteArray.size s) - ic (ByteArray.size u00))≤ic (ByteArray.size s))) (some ((.str (ByteArray.extract s 0 (Int.toNat (IntKind.wrap IntKind.i64 (ic (ByteArray.size s) - ic (ByteArray.size u00)))))),[])) none) (some ((.str s),[]))):=by kernel_rfl
def zia (N:Nat):Env:=mkE [(89,z1h)] [] 8 N
theorem zgq (N:Nat) (s u00:ByteArray):z0y (zia N) zbv [.tmp 4] [[.str]] [(.str s),(.str u00)]=(some ((.str (z5c s u00)),[])):=by kernel_rfl
open Go Go.Proofs
theorem y9e (l:List ByteArray) (h:∀ w∈l,w.size≤100):(zah l z4k).size≤101*l.length:=by
 have hs:(zah l z4k).size=(Lib.join (l.map (·.data.toList)) [32]).length:=by
  show (Array.size (List.toArray _))=_;rw [v1k]
 rw [hs];cases l with
 | nil=>simp [Lib.join_nil]
 | cons x r=>
  rw [v0e,Lib.join_length]
  have:∀ (r:List ByteArray),(∀ w∈r,w.size≤100)→Lib.lens (r.map (·.data.toList))≤100*r.length:=fun r=>by
   induction r with
   | nil=>intro _; simp [Lib.lens]
   | cons y r ih=>
    intro h;have h1:=h y (v09 ..);rw [zeg] at h1;have h2:=ih (fun w hw=>h w (v0b _ hw))
    rw [v0e,v05];simp only [Lib.lens,v0e,v3z] at h2 ⊢
    omega
  have:=this (x :: r) h
  rw [v0e] at this;simp only [v05,v15,v0o] at this ⊢
  omega
theorem zgu (ws:List ByteArray) (hl:ws.length≤8) (h:∀ w∈ws,w.size≤100):(z5s ws).size≤809:=by
 unfold z5s
 have:=y9e ws h
 rw [v0f];have e:ByteArray.size ygi=1:=rfl;rw [e];omega
theorem zs1:∀ (a b:List (List ByteArray)),za4 (a++b)=za4 a++za4 b
 | [],b=>by
  show za4 b=ByteArray.empty++za4 b;rw [ByteArray.empty_append]
 | l :: a,b=>by
  rw [v1x,za4,za4,zs1 a b,v2c]
theorem y2n:∀ (L:List (List ByteArray)),(∀ l∈L,l.length≤8∧∀ w∈l,w.size≤100)→(za4 L).size≤809*L.length
 | [],_=>by
  have:ByteArray.size (za4 [])=0:=rfl
  omega
 | l :: L,h=>by
  have h1:=zgu l (h l (v09 ..)).1 (h l (v09 ..)).2;have h2:=y2n L fun x hx=>h x (v0b _ hx)
  rw [za4,v0f,v05];omega
theorem zcp {n:Int} (h:InR n):(z0l n).size≤100:=by
 have:=zm5 h.1 h.2
 omega
theorem zh4 {n:Int} (h:InR n):(z0b n).size≤100:=by
 have:=(ze9 n h).2
 omega
theorem y4h {n:Int} (h:z1r n=true) : -2147483648≤n∧n≤2147483647:=by
 unfold z1r at h
 rwa [v02,v06,v06] at h
structure Nd.In (x:Nd):Prop where
 v : -2147483648≤x.v∧x.v≤2147483647
 f:0≤x.f∧x.f < 4
 a : -2147483648≤x.a∧x.a≤2147483647
 l:0≤x.l∧x.l < 31
 r:0≤x.r∧x.r < 31
 lf:x.lf=true→x.f=0∧x.a=0∧x.l=0∧x.r=0
 fk:x.lf=false→x.v=0
theorem ydt {x:Nd} (h:zam x=true):x.In:=by
 obtain ⟨lf,v,f,a,l,r⟩:=x;unfold zam at h;cases lf with
 | true=>
  simp only [v2f,v02,Nd.eq,v1d] at h;obtain ⟨⟨_,_,h1,h2,h3,h4,_⟩,hv⟩:=h;subst h1 h2 h3 h4;have z4:(0:Int)≤0∧(0:Int) < 4:=by decide
  have z31:(0:Int)≤0∧(0:Int) < 31:=by decide
  have zf:(-2147483648:Int)≤0∧(0:Int)≤2147483647:=by decide
  exact ⟨y4h hv,z4,zf,z31,z31,fun _=>⟨rfl,rfl,rfl,rfl⟩,fun h=>Bool.noConfusion h⟩
 | false=>
  simp only [v1n,v02,v1d,v06,zlb] at h;obtain ⟨hv,hf0,hf1,ha,⟨hl0,hl1⟩,hr0,hr1⟩:=h;subst hv;have zf:(-2147483648:Int)≤0∧(0:Int)≤2147483647:=by decide
  have l0:(0:Int)≤l:=by omega
  have r0:(0:Int)≤r:=by omega
  exact ⟨zf,⟨hf0,hf1⟩,y4h ha,⟨l0,hl1⟩,⟨r0,hr1⟩,fun h=>Bool.noConfusion h,fun _=>rfl⟩
theorem y6t {x:Nd} (h:x.In):(zzn x).length≤8∧∀ w∈zzn x,w.size≤100:=by
 have hv:InR x.v:=by have:=h.v; unfold InR; omega
 have hf:InR x.f:=by have:=h.f; unfold InR; omega
 have ha:InR x.a:=by have:=h.a; unfold InR; omega
 have hl:InR x.l:=by have:=h.l; unfold InR; omega
 have hr:InR x.r:=by have:=h.r; unfold InR; omega
 unfold zzn;cases x.lf with
 | true=>
  refine ⟨by simp,fun w hw=>?_⟩
  simp only [v2f,v13,v1q,v3i] at hw;rcases hw with rfl | rfl
  ·decide
  ·exact zh4 hv
 | false=>
  refine ⟨by simp,fun w hw=>?_⟩
  simp only [v1n,v13,v1q,v3i] at hw;rcases hw with rfl | rfl | rfl | rfl | rfl | rfl | rfl | rfl
  ·decide
  ·exact zcp hf
  ·decide
  ·exact zh4 ha
  ·decide
  ·exact zcp hl
  ·decide
  ·exact zcp hr
theorem y7n {dim n:Int}:∀ {l:List IV} {i:Nat},zcl dim n i l=true→∀ w∈l,zaf w.toInt=true
 | [],_,_,w,hw=>by cases hw
 | x :: l,i,h,w,hw=>by
  unfold zcl at h;rw [v02,v02] at h;rcases v13.1 hw with rfl | hw
  ·exact h.1.1
  ·exact y7n h.2 w hw
theorem y6v {w:Int} (h:zaf w=true):(z04 w).In:=by
 have hn:z04 w=zqv w:=by unfold z04; rw [h]; rfl
 unfold zaf at h;simp only [v02,v12,v1d,v1i] at h;rw [hn];apply ydt;cases hr:zam (zqv w) with
 | true=>rfl
 | false=>
  have:=h.2
  unfold z7s at this;rw [hr] at this;exact absurd this.symm h.1
theorem zxv:z2u PR B0 54 zck:=by
 refine z0f [(97,z1p),(60,z0v),(45,z6p)] [] zck [] Tryz.func54 y55 ⟨z6l,z3i,zft,trivial⟩ ?_;intro vs r hwf h;unfold zck at h
 split at h
 ·rename_i s ws
  cases hc:(Nat.ble ws.length 1000&&decide (s.size+(z5s (ws.map IV.toStr)).size≤1000000000)) with
  | false=>rw [hc] at h; simp [R.get] at h
  | true=>
   rw [hc,R.get_br,z00,R.get_ok] at h;rw [v02,v06] at hc;have h1:=v03 hc.1;have h2:=hc.2;have m:strMax=140737488355327:=rfl;refine ⟨0,?_⟩;rw [← h];refine (y19 0 s ws).trans ?_;have e:ByteArray.push (s++zah (ws.map IV.toStr) z4k) (zde 10)=s++z5s (ws.map IV.toStr):=by
    apply zdw;unfold z5s;simp
    rfl
   have e2:(z5s (ws.map IV.toStr)).size=(zah (ws.map IV.toStr) z4k).size+1:=by
    unfold z5s;rw [v0f]
    rfl
   rw [e2] at h2;rw [v01 (show ws.length≤strMax by omega),v01 (show (zah (ws.map IV.toStr) z4k).size≤strMax by omega),v01 (show s.size+(zah (ws.map IV.toStr) z4k).size≤strMax by omega),
    v01 (show ByteArray.size (s++zah (ws.map IV.toStr) z4k)+1≤strMax by rw [v0f]; omega),v0u,z00,z00,z00,e]
 ·simp [R.get] at h
theorem y60 (s:ByteArray) (hs:s.size < 4294967281):∀ i,(wAt (za6 s) i).size < 4294967281:=by
 intro i;unfold wAt;rw [v0m];cases h:(za6 s)[i]? with
 | none=>decide
 | some x=>
  have hx:x∈za6 s:=v1o h;unfold za6 at hx;obtain ⟨w,hw,rfl⟩:=List.mem_map.1 hx
  have:=(z96 z4k _ s).2 w hw
  exact v3t this hs
theorem zly {ls:List IV} (h:z6c ls=true) (i:Nat):(wAt (z3g ls) i).size < 4294967281:=by
 unfold z6c at h;cases ls with
 | nil=>
  show ByteArray.size (IV.toStr (List.getD [] i default)) < _;rw [List.getD_nil]
  decide
 | cons l r=>
  rw [v2w,v02,v06] at h;exact y60 _ h.1 i
theorem z6z {ls:List IV} (h:z6c ls=true) (k:Nat):z6c (ls.drop k)=true:=by
 unfold z6c at h ⊢
 rw [v30] at h ⊢
 exact fun x hx=>h x (v2l hx)
theorem zbx:z2u PR B0 48 z33:=by
 refine z0f [(46,z2k)] [] z33 [[.list false [.str]]] Tryz.func48 zkr ⟨z7l,trivial⟩ ?_;intro vs r hwf h;unfold z33 at h
 split at h
 ·rename_i ls
  cases hc:z6c ls with
  | false=>rw [hc] at h; simp [R.get] at h
  | true=>
   rw [hc,R.get_br,z00,R.get_ok] at h;refine ⟨0,?_⟩;rw [← h];refine (zju 0 ls).trans ?_;cases ls with
   | nil=>rfl
   | cons l r=>
    unfold z6c at hc;rw [v2w,v02] at hc;have e0:(ic (List.length (l :: r))==0)=false:=by
     rw [zjp];exact v07 (by simp only [ic,v05]; omega)
    have e1:IV.toStr (List.getD (l :: r) (Int.toNat 0) default)=l.toStr:=rfl;have e2:List.drop (Int.toNat 1) (List.take (List.length (l :: r)) (l :: r))=List.drop 1 (l :: r):=by rw [v0w]; rfl
    have e3:decide (1≤ByteArray.size z4k)=true:=rfl;rw [e0,e1,e2,e3,hc.1,z02];simp only [v01 (show (0:Int) < ic (List.length (l :: r)) by simp only [ic,v05]; omega),v01 (show (1:Int)≤ic (List.length (l :: r)) by simp only [ic,v05]; omega)]
    rfl
 ·simp [R.get] at h
theorem zke:z2u PR B0 50 z8o:=by
 refine z0f [] [] z8o [[.str]] Tryz.func50 y4w trivial ?_;intro vs r hwf h;unfold z8o at h
 split at h
 ·rename_i l i
  cases hc:decide (0≤i) with
  | false=>rw [hc] at h; simp [R.get] at h
  | true=>
   rw [hc,R.get_br,z00,R.get_ok] at h;have h0:=v0d hc;refine ⟨0,?_⟩;rw [← h];refine (y2y 0 l i).trans ?_;cases hi:decide (i≥ic l.length) with
   | true=>
    have hi:=v0d hi;simp only [ic] at hi;have e:wAt l i.toNat=ByteArray.empty:=by
     unfold wAt;rw [v0m,v0p (by omega)]
     rfl
    rw [e,z00]
    rfl
   | false=>
    have hi:=v0t hi;rw [z02,v01 h0,v01 (show i < ic l.length by omega),v0u,z00]
    rfl
 ·simp [R.get] at h
theorem zin:z2u PR B0 49 z77:=by
 refine z0f [(90,z6s)] [] z77 [[.int .i64]] Tryz.func49 y02 ⟨zfe,trivial⟩ ?_;intro vs r hwf h;unfold z77 at h
 split at h
 ·rename_i s most
  refine ⟨0,?_⟩;rw [R.get_ok] at h;rw [← h];refine (zxb 0 s most).trans ?_;unfold zec;cases zsk s <;> cases decide (z6m s < 0) <;> cases decide (z6m s > most) <;> rfl
 ·simp [R.get] at h
theorem zkd:z2u PR B0 51 z8u:=by
 refine z0f [(91,zai)] [] z8u [[.int .i64]] Tryz.func51 y4v ⟨zo6,trivial⟩ ?_;intro vs r hwf h;unfold z8u at h
 split at h
 ·rename_i s
  cases hc:decide (s.size < 4294967281) with
  | false=>rw [hc] at h; simp [R.get] at h
  | true=>
   rw [hc,R.get_br,z00,R.get_ok] at h;refine ⟨0,?_⟩;rw [← h];refine (zzw 0 s).trans ?_;rw [hc,z00]
 ·simp [R.get] at h
theorem zib:z2u PR B0 52 z4u:=by
 refine z0f [(92,z8m),(49,z77),(48,z33),(51,z8u),(50,z8o)] [] z4u [[.int .u64]] Tryz.func52 zln ⟨zl6,zin,zbx,zkd,zke,trivial⟩ ?_;intro vs r hwf h;unfold z4u at h
 split at h
 ·rename_i ls
  cases hc:z6c ls with
  | false=>rw [hc] at h; simp [R.get] at h
  | true=>
   rw [hc,R.get_br,z00,R.get_ok] at h;refine ⟨0,?_⟩;rw [← h];refine (zjx 0 ls).trans ?_;rw [hc,z00,v01 (zly hc (Int.toNat 1)),v01 (zly hc (Int.toNat 3)),z00,z00];unfold yh1;have e:(ByteArray.toList (wAt (z3g ls) (Int.toNat 0))==ByteArray.toList { data:=#[108,101,97,102] })=((wAt (z3g ls) 0).toList==zvw.toList):=rfl;rw [e];cases ((wAt (z3g ls) 0).toList==zvw.toList) <;> rfl
 ·simp [R.get] at h
theorem z99:z2u PR B0 141 z1i:=by
 refine z0f [] [] z1i [[.bool]] Tryz.func141 za3 trivial ?_;intro vs r hwf h;unfold z1i at h
 split at h
 ·rename_i s t
  refine ⟨0,?_⟩;rw [R.get_ok] at h;rw [← h];refine (z9k 0 s t).trans ?_;have hb:=hwf (by simp [zbw])
  have hs:s.size≤strMax:=hb.1;have m:strMax=140737488355327:=rfl;unfold zqo
  by_cases hl:t.size≤s.size
  ·have e:IntKind.wrap IntKind.i64 (ic s.size - ic t.size)=((s.size - t.size:Nat):Int):=by
    rw [z15 (by simp only [ic]; omega) (by simp only [ic]; omega)]
    simp only [ic];omega
   rw [e,v01 (show ic s.size≥ic t.size by simp only [ic]; omega),z00,v01 (show (0:Int)≤((s.size - t.size:Nat):Int) by omega),v01 (show ((s.size - t.size:Nat):Int)≤ic s.size by simp only [ic]; omega),v0u,z00,v01 hl,v0r,v0l]
  ·rw [v07 (show ¬ ic s.size≥ic t.size by simp only [ic]; omega),z02,v07 hl,v0v]
 ·simp [R.get] at h
theorem z8x:z2u PR B0 89 z1h:=by
 refine z0f [(141,z1i)] [] z1h [[.str]] Tryz.func89 z9l ⟨z99,trivial⟩ ?_;intro vs r hwf h;unfold z1h at h
 split at h
 ·rename_i s t
  refine ⟨0,?_⟩;rw [R.get_ok] at h;rw [← h];refine (z97 0 s t).trans ?_;have hb:=hwf (by simp [zbw])
  have hs:s.size≤strMax:=hb.1;have m:strMax=140737488355327:=rfl;unfold z5c;cases hh:zqo s t with
  | false=>rfl
  | true=>
   have hl:t.size≤s.size:=by
    unfold zqo at hh;rw [v02,v06] at hh;exact hh.1
   have e:IntKind.wrap IntKind.i64 (ic s.size - ic t.size)=((s.size - t.size:Nat):Int):=by
    rw [z15 (by simp only [ic]; omega) (by simp only [ic]; omega)]
    simp only [ic];omega
   rw [e,z00,z00,v01 (show (0:Int)≤((s.size - t.size:Nat):Int) by omega),v01 (show ((s.size - t.size:Nat):Int)≤ic s.size by simp only [ic]; omega),v0u,z00,v0l]
 ·simp [R.get] at h
theorem za9:z2u PR B0 47 z2h:=by
 refine z0f [(89,z1h)] [] z2h [[.str]] Tryz.func47 zi7 ⟨z8x,trivial⟩ ?_;intro vs r hwf h;unfold z2h at h
 split at h
 ·rename_i s t
  refine ⟨0,?_⟩;rw [R.get_ok] at h;rw [← h];exact zgq 0 s t
 ·simp [R.get] at h
abbrev yk6 (ts:List IV) (i:Int) (l:List IV) (j:Int) (so:ByteArray):St:=
 ⟨[(2,(.str { data:=#[] })),(3,(.ptr 3 0 0)),(43,(.list true [(.int .i64),(.list false [(.int .u64)])] ts)),(44,(.int .i64 (ic ts.length))),(45,(.int .i64 i)),(59,(.list false [(.int .u64)] l)),(60,(.int .i64 (ic l.length))),(61,(.int .i64 j))],[(3,(some (.bld so)))]⟩
theorem zq0 (N:Nat) (ts:List IV) (i:Int) (l:List IV) (hl:l.length≤31) (hn:∀ w∈l,zaf w.toInt=true) (K:Out→St→Res):∀ (d j n:Nat) (so:ByteArray),j+d=l.length→d < n→so.size+809*d≤1000000000 →
  lpE (z0u N) (z0i z1m [1,1,1,1,1,1,1,0,1,0,0,1,1,0,0,1,1,1,0,0]) ⟨[2,3,43,44,45,59,60,61],[3],[]⟩ n (yk6 ts i l (j:Int) so) K =
   K (.exit 4) (yk6 ts i l (ic l.length) (so++za4 (zit (l.drop j))))
 | d,j,0,_,_,h,_=>absurd h (by omega)
 | 0,j,n+1,so,hd,_,_=>by
  have hj:j=l.length:=by omega
  subst hj;rw [z05,zgh,v07 (show ¬ ((l.length:Nat):Int) < ic l.length by simp only [ic]; omega),z02,v1z]
  have e:so++za4 (zit [])=so:=by
   show so++ByteArray.empty=so;rw [v3h]
  rw [e]
 | d+1,j,n+1,so,hd,hn',hz=>by
  have hjl:j < l.length:=by omega
  have ej:IntKind.wrap IntKind.i64 ((j:Int)+1)=((j+1:Nat):Int):=by
   rw [z15 (by omega) (by omega)]
   omega
  have hg:l.getD (Int.toNat (j:Int)) default=l[j]:=by
   rw [v0l,v0m,v0g hjl]
   rfl
  have hin:=y6v (hn l[j] (v2o hjl));have hw:=y6t hin;have hls:=zgu _ hw.1 hw.2;rw [z05,zgh,ej,hg,v01 (show (j:Int) < ic l.length by simp only [ic]; omega),z00,v01 (show (0:Int)≤(j:Int) by omega),v0u,z00,v0j hjl]
  have hr:za4 (zit (l[j] :: l.drop (j+1)))=z5s (zzn (z04 l[j].toInt))++za4 (zit (l.drop (j+1))):=rfl;rw [hr,← v2c];have ih:=zq0 N ts i l hl hn K d (j+1) n (so++z5s (zzn (z04 l[j].toInt))) (by omega) (by omega) (by rw [v0f]; omega)
  rw [← ih];have hsz:decide (so.size+(z5s (zzn (z04 l[j].toInt))).size≤1000000000)=true:=v01 (by omega)
  revert hsz
  unfold zzn;cases (z04 l[j].toInt).lf with
  | true=>
   intro hsz;have hsz:decide (ByteArray.size so+ByteArray.size (z5s [zvw,z0b (z04 l[j].toInt).v])≤1000000000)=true:=hsz;have e:List.map IV.toStr (List.drop 0 (List.take 2 [IV.str { data:=#[108,101,97,102] },IV.str (z0b (Nd.v (z04 (IV.toInt l[j]))))]))=[zvw,z0b (z04 l[j].toInt).v]:=rfl;rw [z00,e,hsz]
   rfl
  | false=>
   intro hsz;have hsz:decide (ByteArray.size so+ByteArray.size (z5s [yju,z0l (z04 l[j].toInt).f,yjx,z0b (z04 l[j].toInt).a,yab,z0l (z04 l[j].toInt).l,ycu,z0l (z04 l[j].toInt).r])≤1000000000)=true:=hsz;have e:List.map IV.toStr (List.drop 0 (List.take 8 [IV.str { data:=#[105,102] },IV.str (z0l (Nd.f (z04 (IV.toInt l[j])))),IV.str { data:=#[60,61] },IV.str (z0b (Nd.a (z04 (IV.toInt l[j])))),IV.str { data:=#[116,104,101,110] },IV.str (z0l (Nd.l (z04 (IV.toInt l[j])))),IV.str { data:=#[101,108,115,101] },IV.str (z0l (Nd.r (z04 (IV.toInt l[j]))))]))=[yju,z0l (z04 l[j].toInt).f,yjx,z0b (z04 l[j].toInt).a,yab,z0l (z04 l[j].toInt).l,ycu,z0l (z04 l[j].toInt).r]:=rfl;rw [z02,e,hsz]
   rfl
theorem zv0 {d c:Int} {t:IV} (h:z7u d c t=true):0≤(t.cell 0).toInt∧(t.cell 0).toInt < c∧1≤(t.cell 1).toList.length∧(t.cell 1).toList.length≤31∧∀ w∈(t.cell 1).toList,zaf w.toInt=true:=by
 unfold z7u z8v at h;simp only [v02,v12,v14] at h;obtain ⟨h1,h2,⟨h3,h4⟩,h5,_⟩:=h;exact ⟨by omega,by omega,v03 h3,v03 h4,y7n h5⟩
theorem yeb {d c:Int} {t:IV} (hc:c≤3) (h:z7u d c t=true):(∀ l∈y3s t,l.length≤8∧∀ w∈l,w.size≤100)∧(y3s t).length≤32:=by
 obtain ⟨h1,h2,h3,h4,h5⟩:=zv0 h;constructor
 ·intro l hl
  unfold y3s at hl;rcases v13.1 hl with rfl | hl
  ·refine ⟨by simp,fun w hw=>?_⟩
   simp only [v13,v1q,v3i] at hw;rcases hw with rfl | rfl | rfl
   ·decide
   ·exact zcp (by unfold InR; omega)
   ·exact zcp (by unfold InR; simp only [ic]; omega)
  ·unfold zit at hl
   obtain ⟨w,hw,rfl⟩:=List.mem_map.1 hl;exact y6t (y6v (h5 w hw))
 ·unfold y3s zit
  rw [v05,v15];omega
abbrev yhp (ts:List IV) (i:Int) (so:ByteArray):St:=
 ⟨[(2,(.str { data:=#[] })),(3,(.ptr 3 0 0)),(43,(.list true [(.int .i64),(.list false [(.int .u64)])] ts)),(44,(.int .i64 (ic ts.length))),(45,(.int .i64 i))],[(3,(some (.bld so)))]⟩
theorem zqh (N:Nat) (hN:40≤N) (d c:Int) (hc:c≤3) (ts:List IV) (hl:ts.length≤8) (ht:ts.all (z7u d c)=true) (K:Out→St→Res):∀ (m i n:Nat) (so:ByteArray),i+m=ts.length→m < n→so.size+30000*m≤1000000000 →
  lpE (z0u N) (z0i z1m [1,1,1,1,1,1,1,0,1,0,0]) ⟨[2,3,43,44,45],[3],[]⟩ n (yhp ts (i:Int) so) K =
   K (.exit 2) (yhp ts (ic ts.length) (so++za4 (zir (ts.drop i))))
 | m,i,0,_,_,h,_=>absurd h (by omega)
 | 0,i,n+1,so,hd,_,_=>by
  have hi:i=ts.length:=by omega
  subst hi;rw [z05,zgc,v07 (show ¬ ((ts.length:Nat):Int) < ic ts.length by simp only [ic]; omega),z02,v1z]
  have e:so++za4 (zir [])=so:=by
   show so++ByteArray.empty=so;rw [v3h]
  rw [e]
 | m+1,i,n+1,so,hd,hn,hz=>by
  have hil:i < ts.length:=by omega
  have ei:IntKind.wrap IntKind.i64 ((i:Int)+1)=((i+1:Nat):Int):=by
   rw [z15 (by omega) (by omega)]
   omega
  have hg:ts.getD (Int.toNat (i:Int)) default=ts[i]:=by
   rw [v0l,v0m,v0g hil]
   rfl
  have hok:=v30.1 ht ts[i] (v2o hil);have hw:=yeb hc hok;have hts:=y2n _ hw.1;obtain ⟨h1,h2,h3,h4,h5⟩:=zv0 hok;have hh:∀ w∈[zof,z0l (ts[i].cell 0).toInt,z0l (ic (ts[i].cell 1).toList.length)],w.size≤100:=(hw.1 _ (by unfold y3s; exact v09 ..)).2
  have hls:=zgu _ (by simp) hh
  have e:List.map IV.toStr (List.drop 0 (List.take 3 [IV.str { data:=#[116,114,101,101] },IV.str (z0l (IV.toInt (IV.cell ts[i] 0))),IV.str (z0l (ic (List.length (IV.toList (IV.cell ts[i] 1)))))]))=[zof,z0l (ts[i].cell 0).toInt,z0l (ic (ts[i].cell 1).toList.length)]:=rfl;have el:Nat.ble (List.length (List.drop 0 (List.take 3 [IV.str { data:=#[116,114,101,101] },IV.str (z0l (IV.toInt (IV.cell ts[i] 0))),IV.str (z0l (ic (List.length (IV.toList (IV.cell ts[i] 1)))))]))) 1000=true:=rfl;rw [z05,zgc,hg,e,el,v01 (show (i:Int) < ic ts.length by simp only [ic]; omega),z00,v01 (show (0:Int)≤(i:Int) by omega),v0u,z00,
   v01 (show so.size+(z5s [zof,z0l (ts[i].cell 0).toInt,z0l (ic (ts[i].cell 1).toList.length)]).size≤1000000000 by omega),v0u,z00]
  refine (zq0 N ts (i:Int) (ts[i].cell 1).toList h4 h5 _ (ts[i].cell 1).toList.length 0 N (so++z5s [zof,z0l (ts[i].cell 0).toInt,z0l (ic (ts[i].cell 1).toList.length)]) (by omega) (by omega) (by rw [v0f]; omega)).trans ?_
  rw [zm6,ei,v11,v0j hil];have hr:za4 (zir (ts[i] :: ts.drop (i+1)))=(z5s [zof,z0l (ts[i].cell 0).toInt,z0l (ic (ts[i].cell 1).toList.length)]++za4 (zit (ts[i].cell 1).toList))++za4 (zir (ts.drop (i+1))):=by
   rw [zir,zs1]
   rfl
  rw [hr,← v2c (a:=so),← v2c (a:=so)];have hsz:(z5s [zof,z0l (ts[i].cell 0).toInt,z0l (ic (ts[i].cell 1).toList.length)]++za4 (zit (ts[i].cell 1).toList)).size≤26000:=by
   have:za4 (y3s ts[i])=z5s [zof,z0l (ts[i].cell 0).toInt,z0l (ic (ts[i].cell 1).toList.length)]++za4 (zit (ts[i].cell 1).toList):=rfl
   rw [← this]
   have:=hw.2
   omega
  exact zqh N hN d c hc ts hl ht K m (i+1) n _ (by omega) (by omega) (by rw [v2c,v0f]; omega)
abbrev yhi (d c b0 b1 b2:Int) (ts:List IV) (C:Nat) (so:ByteArray) (ws:List IV) (n:Nat) (i:Int):St:=
 ⟨[(1,(.ptr 1 0 0)),(2,(.str { data:=#[] })),(3,(.ptr 3 0 0)),(4,(.row 500 0 n)),(28,(.bview 1 2 3 1 C)),(29,(.int .i64 (ic C))),(30,(.int .i64 i))],[(1,(some (.box [(.int .i64 d),(.int .i64 c),(.int .i64 b0),(.int .i64 b1),(.int .i64 b2),(.list true [(.int .i64),(.list false [(.int .u64)])] ts)]))),(3,(some (.bld so))),(500,(some (.row true 9 false [.str] ws)))]⟩
theorem zhn (N:Nat) (d c b0 b1 b2:Int) (ts:List IV) (C:Nat) (so:ByteArray) (ws:List IV) (n i:Nat) (b:Int) (hi:i < C) (hn:n≤10) (h:(i=0∧b=b0)∨(i=1∧b=b1)∨(i=2∧b=b2)) (again:St→Res) (k:Out→St→Res) :
  rnd (z0u N) (z0i z1m [1,1,1,1,1,0,1,0,0]) (yhi d c b0 b1 b2 ts C so ws n (i:Int)) (z3v again ⟨[1,2,3,4,28,29,30],[1,3,500],[⟨.tmp 4,500,9,false,[.str]⟩]⟩ k) =
   again (yhi d c b0 b1 b2 ts C so (ws.take n++[.str (z0b b)]) (n+1) ((i+1:Nat):Int)):=by
 rw [z9w];have ei:IntKind.wrap IntKind.i64 ((i:Int)+1)=((i+1:Nat):Int):=by
  rw [z15 (by omega) (by omega)]
  omega
 have eb:TI.bytes (Env.tyd (z0u N) 9)=16:=rfl;have e1:∀ x:IV,List.length (List.drop 0 (List.take 1 [x]))=1:=fun x=>rfl
 rw [ei,eb,e1,e1,e1,v01 (show (i:Int) < ic C by simp only [ic]; omega),z00,z00,v01 (show (n+1)*16≤z09 by unfold z09; omega)]
 rcases h with ⟨rfl,rfl⟩ | ⟨rfl,rfl⟩ | ⟨rfl,rfl⟩ <;> rfl
theorem y4p (N:Nat) (hN:10≤N) (d b0 b1 b2:Int) (ts:List IV) (C:Nat) (h1:1≤C) (h3:C≤3) (so:ByteArray) (K:Out→St→Res) :
  lpE (z0u N) (z0i z1m [1,1,1,1,1,0,1,0,0]) ⟨[1,2,3,4,28,29,30],[1,3,500],[⟨.tmp 4,500,9,false,[.str]⟩]⟩ N (yhi d (C:Int) b0 b1 b2 ts C so [.str zfw] 1 0) K =
   K (.exit 0) (yhi d (C:Int) b0 b1 b2 ts C so ((zfw :: (([b0,b1,b2].take C).map z0b)).map IV.str) (1+C) (C:Int)):=by
 obtain ⟨M,rfl⟩:∃ M,N=M+4:=⟨N - 4,by omega⟩
 have e0:yhi d (C:Int) b0 b1 b2 ts C so [.str zfw] 1 0=yhi d (C:Int) b0 b1 b2 ts C so [.str zfw] 1 ((0:Nat):Int):=rfl;rw [e0,z05,zhn (M+4) d (C:Int) b0 b1 b2 ts C so _ 1 0 b0 (by omega) (by omega) (by simp)]
 match C,h1,h3 with
 | 1,_,_=>
  rw [z05,z9w,v07 (show ¬ ((0+1:Nat):Int) < ic 1 by decide),z02]
  rfl
 | 2,_,_=>
  rw [z05,zhn (M+4) d _ b0 b1 b2 ts 2 so _ _ 1 b1 (by omega) (by omega) (by simp),z05,z9w,v07 (show ¬ ((1+1:Nat):Int) < ic 2 by decide),z02]
  rfl
 | 3,_,_=>
  rw [z05,zhn (M+4) d _ b0 b1 b2 ts 3 so _ _ 1 b1 (by omega) (by omega) (by simp),z05,zhn (M+4) d _ b0 b1 b2 ts 3 so _ _ 2 b2 (by omega) (by omega) (by simp),z05,z9w,v07 (show ¬ ((2+1:Nat):Int) < ic 3 by decide),z02]
  rfl
theorem y08 {m:Md} (h:z26 m=true):(1≤m.d∧m.d≤4)∧(1≤m.c∧m.c≤3)∧m.ts.length≤8∧(zfz m.c 0 m.b0=true∧zfz m.c 1 m.b1=true∧zfz m.c 2 m.b2=true)∧m.ts.all (z7u m.d m.c)=true:=by
 unfold z26 at h;simp only [v02,v12,v14] at h;obtain ⟨⟨h1,h2,h3,h4,h5⟩,⟨h6,h7,h8⟩,h9⟩:=h;exact ⟨⟨by omega,by omega⟩,⟨by omega,by omega⟩,v03 h5,⟨h6,h7,h8⟩,h9⟩
theorem zx6 {c j b:Int} (h:zfz c j b=true):(-2147483648≤b∧b≤2147483647)∧(c≤j→b=0):=by
 unfold zfz at h;rw [v02] at h;refine ⟨y4h h.1,fun hj=>?_⟩
 have:=h.2
 rw [v01 (show j≥c from hj)] at this
 simpa using this
theorem ydx {m:Md} (h:z26 m=true):∀ l∈yex m,l.length≤8∧∀ w∈l,w.size≤100:=by
 obtain ⟨hd,hc,_,⟨g0,g1,g2⟩,_⟩:=y08 h;have i0:=(zx6 g0).1;have i1:=(zx6 g1).1;have i2:=(zx6 g2).1;intro l hl;unfold yex at hl;simp only [v13,v1q,v3i] at hl;rcases hl with rfl | rfl
 ·refine ⟨by simp,fun w hw=>?_⟩
  simp only [v13,v1q,v3i] at hw;rcases hw with rfl | rfl | rfl
  ·decide
  ·exact zcp (by unfold InR; omega)
  ·exact zcp (by unfold InR; omega)
 ·refine ⟨by simp only [v05,v15,v0h,v0o]; omega,fun w hw=>?_⟩
  rcases v13.1 hw with rfl | hw
  ·decide
  ·obtain ⟨b,hb,rfl⟩:=List.mem_map.1 hw
   have hb:=v2m hb;simp only [v13,v1q,v3i] at hb;rcases hb with rfl | rfl | rfl
   ·exact zh4 (by unfold InR; omega)
   ·exact zh4 (by unfold InR; omega)
   ·exact zh4 (by unfold InR; omega)
set_option maxHeartbeats 1000000 in
theorem zik:z2u PR B0 20 z7b:=by
 refine z0f [(44,z68),(53,z1u),(55,z1t),(43,z2x),(56,z1b),(54,zck)] [(7,⟨[1,2,3,4,28,29,30],[1,3,500],[⟨.tmp 4,500,9,false,[.str]⟩]⟩),(13,⟨[2,3,43,44,45],[3],[]⟩),(17,⟨[2,3,43,44,45,59,60,61],[3],[]⟩)] z7b [[.str]] Tryz.func20 y0w ⟨zez,z5q,z5n,z8h,z4s,zxv,trivial⟩ ?_;intro vs r hwf h;unfold z7b at h
 split at h
 ·rename_i d c b0 b1 b2 ts
  refine ⟨40,?_⟩;rw [R.get_ok] at h;rw [← h];refine (zyq 40 d c b0 b1 b2 ts).trans ?_;unfold y1t;cases hm:z26 ⟨d,c,b0,b1,b2,ts⟩ with
  | false=>rfl
  | true=>
   obtain ⟨hd,hc,hl,_,ht⟩:=y08 hm;simp only at hd hc hl ht;have hh:=ydx hm;have hh1:=hh _ (v09 ..);have hh2:=hh _ (v0b _ (v09 ..));have z1:=zgu _ hh1.1 hh1.2;have z2:=zgu _ hh2.1 hh2.2;obtain ⟨C,rfl⟩:∃ C:Nat,c=(C:Int):=⟨c.toNat,by omega⟩
   have e1:List.map IV.toStr (List.drop 0 (List.take 3 [IV.str { data:=#[102,111,114,101,115,116] },IV.str (z0l d),IV.str (z0l (C:Int))]))=[zdc,z0l d,z0l (C:Int)]:=rfl;have e2:Nat.ble (List.length (List.drop 0 (List.take 3 [IV.str { data:=#[102,111,114,101,115,116] },IV.str (z0l d),IV.str (z0l (C:Int))]))) 1000=true:=rfl;have e3:ByteArray.size ByteArray.empty=0:=rfl;have z1:(z5s [zdc,z0l d,z0l (C:Int)]).size≤809:=z1;rw [v0c,z02,z00,e1,e2,e3,v01 (show 0+(z5s [zdc,z0l d,z0l (C:Int)]).size≤1000000000 by omega),v0u,z00,v01 (show (0:Int)≤(C:Int) by omega),v01 (show (C:Int)≤ic 3 by simp only [ic]; omega),v0u,z00,v0l,ByteArray.empty_append]
   refine (y4p 40 (by omega) d b0 b1 b2 ts C (by omega) (by omega) (z5s [zdc,z0l d,z0l (C:Int)]) _).trans ?_
   rw [znl];have e4:List.map IV.toStr (List.drop 0 (List.take (1+C) ((zfw :: (([b0,b1,b2].take C).map z0b)).map IV.str)))=zfw :: (([b0,b1,b2].take C).map z0b):=by
    match C,hc with
    | 0,hc=>exact absurd hc.1 (by decide)
    | 1,_=>rfl
    | 2,_=>rfl
    | 3,_=>rfl
    | C+4,hc=>exact absurd hc.2 (by omega)
   have e5:Nat.ble (List.length (List.drop 0 (List.take (1+C) ((zfw :: (([b0,b1,b2].take C).map z0b)).map IV.str)))) 1000=true:=by
    apply v1g;rw [v1h,v0h];omega
   have z2:(z5s (zfw :: (([b0,b1,b2].take C).map z0b))).size≤809:=by
    have:(([b0,b1,b2].take (C:Int).toNat).map z0b)=(([b0,b1,b2].take C).map z0b):=by rw [v0l]
    rw [← this];exact z2
   rw [e4,e5,v01 (show (z5s [zdc,z0l d,z0l (C:Int)]).size+(z5s (zfw :: (([b0,b1,b2].take C).map z0b))).size≤1000000000 by omega),v0u,z00]
   refine (zqh 40 (by omega) d (C:Int) (by omega) ts hl ht _ ts.length 0 40 _ (by omega) (by omega) (by rw [v0f]; omega)).trans ?_
   rw [znt,v11];have e6:za4 (yfd ⟨d,(C:Int),b0,b1,b2,ts⟩)=z5s [zdc,z0l d,z0l (C:Int)]++z5s (zfw :: (([b0,b1,b2].take C).map z0b))++za4 (zir ts):=by
    show za4 (yex ⟨d,(C:Int),b0,b1,b2,ts⟩++zir ts)=_;rw [zs1];show z5s [zdc,z0l d,z0l (C:Int)]++(z5s (zfw :: (([b0,b1,b2].take (C:Int).toNat).map z0b))++ByteArray.empty)++za4 (zir ts)=_;rw [v3h,v0l]
   rw [e6]
 ·simp [R.get] at h
open Go Go.Proofs
def z0k (N:Nat):Env:=mkE [(46,z2k),(47,z2h),(20,z7b),(49,z77),(48,z33),(52,z4u),(51,z8u),(50,z8o)] [(6,⟨[0,2,3,4,6,7,28,29],[2,6,15],[]⟩),(10,⟨[0,2,3,4,6],[2,6,15,500],[⟨.cell 6 5,500,88,true,[.int .i64,.list false [.int .u64]]⟩]⟩),(14,⟨[0,2,3,4,6,10,61,62],[2,6,10,15,500,501],[⟨.cell 6 5,500,88,true,[.int .i64,.list false [.int .u64]]⟩,⟨.cell 10 1,501,103,false,[.int .u64]⟩]⟩)] 88 N
abbrev z5e (s0:ByteArray) (b3:Bool) (l7:List IV) (x28 x29 u01 u02 u03 u04 u05 u06 u07 u08 u09 u0a:Int) (u00:List IV):St:=⟨[(0,(.str s0)),(2,(.ptr 2 0 0)),(3,(.bool b3)),(4,(.ptr 15 0 0)),(6,(.ptr 6 0 0)),(7,(.list false [.str] l7)),(28,(.i x28)),(29,(.i x29))],[(2,(some (.box [(.i u01),(.i u02),(.i u03),(.i u04),(.i u05),.zs]))),(6,(some (.box [(.i u06),(.i u07),(.i u08),(.i u09),(.i u0a),.zs]))),(15,(some (.box [(.list false [.str] u00)])))]⟩
abbrev z6r (s0:ByteArray) (b3:Bool) (u03 u04 u05 u06 u07 u08 u09 u0a u0b u0c:Int) (u02:Nat) (u00 u01:List IV):St:=⟨[(0,(.str s0)),(2,(.ptr 2 0 0)),(3,(.bool b3)),(4,(.ptr 15 0 0)),(6,(.ptr 6 0 0))],[(2,(some (.box [(.i u03),(.i u04),(.i u05),(.i u06),(.i u07),.zs]))),(6,(some (.box [(.i u08),(.i u09),(.i u0a),(.i u0b),(.i u0c),(.row 500 0 u02)]))),(15,(some (.box [(.list false [.str] u00)]))),(500,(some (.row true 88 true [(.int .i64),(.list false [(.int .u64)])] u01)))]⟩
abbrev z8b (s0:ByteArray) (b3:Bool) (x61 x62 u06 u07 u08 u09 u0a u0b u0c u0d u0e u0f:Int) (u04:Nat) (u05:Int) (u03:Nat) (u00 u01 u02:List IV):St:=⟨[(0,(.str s0)),(2,(.ptr 2 0 0)),(3,(.bool b3)),(4,(.ptr 15 0 0)),(6,(.ptr 6 0 0)),(10,(.ptr 10 0 0)),(61,(.i x61)),(62,(.i x62))],[(2,(some (.box [(.i u06),(.i u07),(.i u08),(.i u09),(.i u0a),.zs]))),(6,(some (.box [(.i u0b),(.i u0c),(.i u0d),(.i u0e),(.i u0f),(.row 500 0 u04)]))),(10,(some (.box [(.i u05),(.row 501 0 u03)]))),(15,(some (.box [(.list false [.str] u00)]))),(500,(some (.row true 88 true [(.int .i64),(.list false [(.int .u64)])] u01))),(501,(some (.row true 103 false [(.int .u64)] u02)))]⟩
theorem zx3 (N:Nat) (s:ByteArray):z0y (z0k N) z18 [.cell 2 30,.tmp 3] [[.int .i64,.int .i64,.int .i64,.int .i64,.int .i64,.list true [.int .i64,.list false [.int .u64]]],[.bool]] [(.str s)]=(cond (decide (ByteArray.size (z5c s {data:=#[10]}) < 4294967281)&&decide (1≤ByteArray.size {data:=#[10]})) (cond (z6c (List.map IV.str (z0p (z5c s {data:=#[10]}) {data:=#[10]}))) (cond (z6c (List.drop 1 (List.map IV.str (z0p (z5c s {data:=#[10]}) {data:=#[10]})))) (lpE (z0k N) (z0i z18 [1,1,1,1,1,0,1,0,0]) ⟨[0,2,3,4,6,7,28,29],[2,6,15],[]⟩ N (z5e s false (z3g (List.drop 1 (List.map IV.str (z0p (z5c s {data:=#[10]}) {data:=#[10]})))) (zec (wAt (z3g (List.map IV.str (z0p (z5c s {data:=#[10]}) {data:=#[10]}))) (Int.toNat 2)) 3) 0 0 0 0 0 0 (zec (wAt (z3g (List.map IV.str (z0p (z5c s {data:=#[10]}) {data:=#[10]}))) (Int.toNat 1)) 4) (zec (wAt (z3g (List.map IV.str (z0p (z5c s {data:=#[10]}) {data:=#[10]}))) (Int.toNat 2)) 3) 0 0 0 (List.drop 1 (List.drop 1 (List.map IV.str (z0p (z5c s {data:=#[10]}) {data:=#[10]}))))) (z06 0 (kSq (z0k N) (z0i z18 [1,1,1,1,1,1]) (z2v (z0k N) none [(ResultVar.cell 2 30),(ResultVar.tmp 3)] [[(.int .i64),(.int .i64),(.int .i64),(.int .i64),(.int .i64),(.list true [(.int .i64),(.list false [(.int .u64)])])],[.bool]])))) none) none) none):=by kernel_rfl
theorem z7g (N:Nat) (s0:ByteArray) (b3:Bool) (l7:List IV) (x28 x29 u01 u02 u03 u04 u05 u06 u07 u08 u09 u0a:Int) (u00:List IV) (again:St→Res) (k:Out→St→Res):rnd (z0k N) (z0i z18 [1,1,1,1,1,0,1,0,0]) (z5e s0 b3 l7 x28 x29 u01 u02 u03 u04 u05 u06 u07 u08 u09 u0a u00) (z3v again ⟨[0,2,3,4,6,7,28,29],[2,6,15],[]⟩ k)=(cond (decide (x29 < x28)) (cond (decide (0≤IntKind.wrap IntKind.i64 (1+x29))) (cond (decide (ByteArray.size (wAt l7 (Int.toNat (IntKind.wrap IntKind.i64 (1+x29)))) < 4294967281)) (cond (decide (x29=ic 0)) (again (z5e s0 b3 l7 x28 (IntKind.wrap IntKind.i64 (x29+1)) u01 u02 u03 u04 u05 u06 u07 (zi5 (wAt l7 (Int.toNat (IntKind.wrap IntKind.i64 (1+x29))))) u09 u0a u00)) (cond (decide (x29=ic 1)) (again (z5e s0 b3 l7 x28 (IntKind.wrap IntKind.i64 (x29+1)) u01 u02 u03 u04 u05 u06 u07 u08 (zi5 (wAt l7 (Int.toNat (IntKind.wrap IntKind.i64 (1+x29))))) u0a u00)) (cond (decide (x29=ic 2)) (again (z5e s0 b3 l7 x28 (IntKind.wrap IntKind.i64 (x29+1)) u01 u02 u03 u04 u05 u06 u07 u08 u09 (zi5 (wAt l7 (Int.toNat (IntKind.wrap IntKind.i64 (1+x29))))) u00)) none))) none) none) (k (.exit 0) (z5e s0 b3 l7 x28 x29 u01 u02 u03 u04 u05 u06 u07 u08 u09 u0a u00))):=by kernel_rfl
theorem znd (N:Nat) (s0:ByteArray) (b3:Bool) (l7:List IV) (x28 x29 u01 u02 u03 u04 u05 u06 u07 u08 u09 u0a:Int) (u00:List IV):(z06 0 (kSq (z0k N) (z0i z18 [1,1,1,1,1,1]) (z2v (z0k N) none [(ResultVar.cell 2 30),(ResultVar.tmp 3)] [[(.int .i64),(.int .i64),(.int .i64),(.int .i64),(.int .i64),(.list true [(.int .i64),(.list false [(.int .u64)])])],[.bool]]))) (.exit 0) (z5e s0 b3 l7 x28 x29 u01 u02 u03 u04 u05 u06 u07 u08 u09 u0a u00)=(lpE (z0k N) (z0i z18 [1,1,1,1,1,1,0,0,0]) ⟨[0,2,3,4,6],[2,6,15,500],[⟨(.cell 6 5),500,88,true,[(.int .i64),(.list false [(.int .u64)])]⟩]⟩ N (z6r s0 b3 u01 u02 u03 u04 u05 u06 u07 u08 u09 u0a 0 u00 []) (z06 2 (kSq (z0k N) (z0i z18 [1,1,1,1,1,1,1]) (z2v (z0k N) none [(ResultVar.cell 2 30),(ResultVar.tmp 3)] [[(.int .i64),(.int .i64),(.int .i64),(.int .i64),(.int .i64),(.list true [(.int .i64),(.list false [(.int .u64)])])],[.bool]])))):=by kernel_rfl
theorem zcj (N:Nat) (s0:ByteArray) (b3:Bool) (u03 u04 u05 u06 u07 u08 u09 u0a u0b u0c:Int) (u02:Nat) (u00 u01:List IV) (again:St→Res) (k:Out→St→Res):rnd (z0k N) (z0i z18 [1,1,1,1,1,1,0,0,0]) (z6r s0 b3 u03 u04 u05 u06 u07 u08 u09 u0a u0b u0c u02 u00 u01) (z3v again ⟨[0,2,3,4,6],[2,6,15,500],[⟨(.cell 6 5),500,88,true,[(.int .i64),(.list false [(.int .u64)])]⟩]⟩ k)=(cond (decide (ic (List.length u00) > 0)) (cond (decide (ic (u02 - 0)≤8)) (cond (z6c u00) (lpE (z0k N) (z0i z18 [1,1,1,1,1,1,0,0,0,1,0,1,1,0,1,0,0]) ⟨[0,2,3,4,6,10,61,62],[2,6,10,15,500,501],[⟨(.cell 6 5),500,88,true,[(.int .i64),(.list false [(.int .u64)])]⟩,⟨(.cell 10 1),501,103,false,[(.int .u64)]⟩]⟩ N (z8b s0 b3 (zec (wAt (z3g u00) (Int.toNat 2)) 31) 0 u03 u04 u05 u06 u07 u08 u09 u0a u0b u0c u02 (zec (wAt (z3g u00) (Int.toNat 1)) 3) 0 (List.drop 1 u00) u01 []) (z06 4 (kSq (z0k N) (z0i z18 [1,1,1,1,1,1,0,0,0,1,0,1,1,1]) (z06 3 (z3v again ⟨[0,2,3,4,6],[2,6,15,500],[⟨(.cell 6 5),500,88,true,[(.int .i64),(.list false [(.int .u64)])]⟩]⟩ k))))) none) (k (.exit 2) (z6r s0 b3 u03 u04 u05 u06 u07 u08 u09 u0a u0b u0c u02 u00 u01))) (k (.exit 2) (z6r s0 b3 u03 u04 u05 u06 u07 u08 u09 u0a u0b u0c u02 u00 u01))):=by kernel_rfl
theorem zgm (N:Nat) (s0:ByteArray) (b3:Bool) (x61 x62 u06 u07 u08 u09 u0a u0b u0c u0d u0e u0f:Int) (u04:Nat) (u05:Int) (u03:Nat) (u00 u01 u02:List IV) (again:St→Res) (k:Out→St→Res):rnd (z0k N) (z0i z18 [1,1,1,1,1,1,0,0,0,1,0,1,1,0,1,0,0]) (z8b s0 b3 x61 x62 u06 u07 u08 u09 u0a u0b u0c u0d u0e u0f u04 u05 u03 u00 u01 u02) (z3v again ⟨[0,2,3,4,6,10,61,62],[2,6,10,15,500,501],[⟨(.cell 6 5),500,88,true,[(.int .i64),(.list false [(.int .u64)])]⟩,⟨(.cell 10 1),501,103,false,[(.int .u64)]⟩]⟩ k)=(cond (decide (x62 < x61)) (cond (z6c u00) (cond (decide ((u03+List.length (List.drop 0 (List.take 1 [IV.int (z7s (yh1 (z3g u00)))])))*TI.bytes (Env.tyd (z0k N) 103)≤z09)) (again (z8b s0 b3 x61 (IntKind.wrap IntKind.i64 (x62+1)) u06 u07 u08 u09 u0a u0b u0c u0d u0e u0f u04 u05 (u03+List.length (List.drop 0 (List.take 1 [IV.int (z7s (yh1 (z3g u00)))]))) (List.drop 1 u00) u01 (List.take u03 u02++List.drop 0 (List.take 1 [IV.int (z7s (yh1 (z3g u00)))])))) none) none) (k (.exit 4) (z8b s0 b3 x61 x62 u06 u07 u08 u09 u0a u0b u0c u0d u0e u0f u04 u05 u03 u00 u01 u02))):=by kernel_rfl
theorem zlx (N:Nat) (s0:ByteArray) (b3:Bool) (u03 u04 u05 u06 u07 u08 u09 u0a u0b u0c:Int) (u02:Nat) (u00 u01:List IV):(z06 2 (kSq (z0k N) (z0i z18 [1,1,1,1,1,1,1]) (z2v (z0k N) none [(ResultVar.cell 2 30),(ResultVar.tmp 3)] [[(.int .i64),(.int .i64),(.int .i64),(.int .i64),(.int .i64),(.list true [(.int .i64),(.list false [(.int .u64)])])],[.bool]]))) (.exit 2) (z6r s0 b3 u03 u04 u05 u06 u07 u08 u09 u0a u0b u0c u02 u00 u01)=(cond (ByteArray.toList s0==ByteArray.toList {data:=#[]}) (some ((.tup [(.agg [(.i 0),(.i 0),(.i 0),(.i 0),(.i 0),(.list true [(.int .i64),(.list false [(.int .u64)])] [])]),(.bool false)]),[])) (cond (!ByteArray.toList (y1t {d:=u08,c:=u09,b0:=u0a,b1:=u0b,b2:=u0c,ts:=List.drop 0 (List.take u02 u01)})==ByteArray.toList s0) (some ((.tup [(.agg [(.i 0),(.i 0),(.i 0),(.i 0),(.i 0),(.list true [(.int .i64),(.list false [(.int .u64)])] [])]),(.bool false)]),[])) (some ((.tup [(.agg [(.i u08),(.i u09),(.i u0a),(.i u0b),(.i u0c),(.list true [(.int .i64),(.list false [(.int .u64)])] (List.drop 0 (List.take u02 u01)))]),(.bool true)]),[])))):=by kernel_rfl
theorem zmx (N:Nat) (again:St→Res) (k:Out→St→Res) (s0:ByteArray) (b3:Bool) (x61 x62 u06 u07 u08 u09 u0a u0b u0c u0d u0e u0f:Int) (u04:Nat) (u05:Int) (u03:Nat) (u00 u01 u02:List IV):(z06 4 (kSq (z0k N) (z0i z18 [1,1,1,1,1,1,0,0,0,1,0,1,1,1]) (z06 3 (z3v again ⟨[0,2,3,4,6],[2,6,15,500],[⟨(.cell 6 5),500,88,true,[(.int .i64),(.list false [(.int .u64)])]⟩]⟩ k)))) (.exit 4) (z8b s0 b3 x61 x62 u06 u07 u08 u09 u0a u0b u0c u0d u0e u0f u04 u05 u03 u00 u01 u02)=(cond (decide ((u04+List.length (List.drop 0 (List.take 1 [IV.agg [IV.int u05,IV.list (List.drop 0 (List.take u03 u02))]])))*TI.bytes (Env.tyd (z0k N) 88)≤z09)) (again (z6r s0 b3 u06 u07 u08 u09 u0a u0b u0c u0d u0e u0f (u04+List.length (List.drop 0 (List.take 1 [IV.agg [IV.int u05,IV.list (List.drop 0 (List.take u03 u02))]]))) u00 (List.take u04 u01++List.drop 0 (List.take 1 [IV.agg [IV.int u05,IV.list (List.drop 0 (List.take u03 u02))]])))) none):=by kernel_rfl
open Go Go.Proofs
theorem ybq (s:ByteArray) {most:Int} (h:0≤most):0≤zec s most∧zec s most≤most:=by
 unfold zec;cases ha:zsk s <;> cases h1:decide (z6m s < 0) <;> cases h2:decide (z6m s > most)
 all_goals simp only [v0c,v0i,v0u,v1f,v2b,v2f,v1n]
 all_goals first
  | exact ⟨by omega,by omega⟩
  | (have h1:=v0t h1; have h2:=v0t h2; omega)
theorem zls (s t:ByteArray):(z5c s t).size≤s.size:=by
 unfold z5c;cases zqo s t with
 | true=>
  rw [z00,v3g];omega
 | false=>exact v08 _
theorem ydy {s:ByteArray} (h:s.size < 4294967281):z6c (zq4 s)=true:=by
 unfold z6c zq4;rw [v30];intro x hx;obtain ⟨w,hw,rfl⟩:=List.mem_map.1 hx
 have:=(z96 ygi _ (ya1 s)).2 w hw
 have h2:(ya1 s).size≤s.size:=zls s ygi;refine v01 ?_;show w.size < 4294967281;omega
abbrev kpA:KP:=⟨[0,2,3,4,6,7,28,29],[2,6,15],[]⟩
abbrev kpB:KP:=⟨[0,2,3,4,6],[2,6,15,500],[⟨.cell 6 5,500,88,true,[.int .i64,.list false [.int .u64]]⟩]⟩
abbrev kpC:KP:=⟨[0,2,3,4,6,10,61,62],[2,6,10,15,500,501],[⟨.cell 6 5,500,88,true,[.int .i64,.list false [.int .u64]]⟩,⟨.cell 10 1,501,103,false,[.int .u64]⟩]⟩
abbrev yhh (s:ByteArray) (W:List IV) (C i d c b0 b1 b2:Int) (L:List IV):St:=
 ⟨[(0,(.str s)),(2,(.ptr 2 0 0)),(3,(.bool false)),(4,(.ptr 15 0 0)),(6,(.ptr 6 0 0)),(7,(.list false [.str] W)),(28,(.int .i64 C)),(29,(.int .i64 i))],[(2,(some (.box [(.int .i64 0),(.int .i64 0),(.int .i64 0),(.int .i64 0),(.int .i64 0),.zs]))),(6,(some (.box [(.int .i64 d),(.int .i64 c),(.int .i64 b0),(.int .i64 b1),(.int .i64 b2),.zs]))),(15,(some (.box [(.list false [.str] L)])))]⟩
theorem ze7 (N:Nat) (s:ByteArray) (W:List IV) (hW:∀ i,(wAt W i).size < 4294967281) (C:Int) (i:Nat) (hi:(i:Int) < C) (h3:i < 3) (d c b0 b1 b2:Int) (L:List IV) (again:St→Res) (k:Out→St→Res) :
  rnd (z0k N) (z0i z18 [1,1,1,1,1,0,1,0,0]) (yhh s W C (i:Int) d c b0 b1 b2 L) (z3v again kpA k) =
   again (yhh s W C ((i+1:Nat):Int) d c (cond (Nat.beq i 0) (zi5 (wAt W (1+i))) b0) (cond (Nat.beq i 1) (zi5 (wAt W (1+i))) b1) (cond (Nat.beq i 2) (zi5 (wAt W (1+i))) b2) L):=by
 rw [z7g];have ei:IntKind.wrap IntKind.i64 ((i:Int)+1)=((i+1:Nat):Int):=by
  rw [z15 (by omega) (by omega)]
  omega
 have ei':IntKind.wrap IntKind.i64 (1+(i:Int))=((1+i:Nat):Int):=by
  rw [z15 (by omega) (by omega)]
  omega
 rw [ei,ei',v0l,v01 hi,z00,v01 (show (0:Int)≤((1+i:Nat):Int) by omega),z00,v01 (hW (1+i)),z00]
 match i,h3 with
 | 0,_=>rfl
 | 1,_=>rfl
 | 2,_=>rfl
theorem y64 (N:Nat) (s:ByteArray) (LS W:List IV) (hWe:W=z3g (LS.drop 1)) (hW:∀ i,(wAt W i).size < 4294967281) (C:Int) (h0:0≤C) (h3:C≤3) (hN:10≤N) (d c:Int) (L:List IV) (K:Out→St→Res) :
  lpE (z0k N) (z0i z18 [1,1,1,1,1,0,1,0,0]) kpA N (yhh s W C 0 d c 0 0 0 L) K=K (.exit 0) (yhh s W C C d c (zcw LS C 0) (zcw LS C 1) (zcw LS C 2) L):=by
 obtain ⟨M,rfl⟩:∃ M,N=M+4:=⟨N - 4,by omega⟩
 obtain ⟨n,rfl⟩:∃ n:Nat,C=(n:Int):=⟨C.toNat,by omega⟩
 subst hWe;have e0:yhh s (z3g (LS.drop 1)) (n:Int) 0 d c 0 0 0 L=yhh s (z3g (LS.drop 1)) (n:Int) ((0:Nat):Int) d c 0 0 0 L:=rfl;rw [e0]
 match n,h3 with
 | 0,_=>
  rw [z05,z7g,v07 (show ¬ ((0:Nat):Int) < ((0:Nat):Int) by omega),z02]
  rfl
 | 1,_=>
  rw [z05,ze7 (M+4) s _ hW _ 0 (by omega) (by omega),z05,z7g,v07 (show ¬ ((0+1:Nat):Int) < ((1:Nat):Int) by omega),z02]
  rfl
 | 2,_=>
  rw [z05,ze7 (M+4) s _ hW _ 0 (by omega) (by omega),z05,ze7 (M+4) s _ hW _ 1 (by omega) (by omega),z05,z7g,v07 (show ¬ ((1+1:Nat):Int) < ((2:Nat):Int) by omega),z02]
  rfl
 | 3,_=>
  rw [z05,ze7 (M+4) s _ hW _ 0 (by omega) (by omega),z05,ze7 (M+4) s _ hW _ 1 (by omega) (by omega),z05,ze7 (M+4) s _ hW _ 2 (by omega) (by omega),z05,z7g,v07 (show ¬ ((2+1:Nat):Int) < ((3:Nat):Int) by omega),z02]
  rfl
 | n+4,h3=>exact absurd h3 (by omega)
abbrev yjd (s:ByteArray) (d c b0 b1 b2:Int) (L T:List IV) (cl k j:Int) (NL:List IV):St:=
 ⟨[(0,(.str s)),(2,(.ptr 2 0 0)),(3,(.bool false)),(4,(.ptr 15 0 0)),(6,(.ptr 6 0 0)),(10,(.ptr 10 0 0)),(61,(.int .i64 k)),(62,(.int .i64 j))],[(2,(some (.box [(.int .i64 0),(.int .i64 0),(.int .i64 0),(.int .i64 0),(.int .i64 0),.zs]))),(6,(some (.box [(.int .i64 d),(.int .i64 c),(.int .i64 b0),(.int .i64 b1),(.int .i64 b2),(.row 500 0 T.length)]))),(10,(some (.box [(.int .i64 cl),(.row 501 0 NL.length)]))),(15,(some (.box [(.list false [.str] L)]))),(500,(some (.row true 88 true [(.int .i64),(.list false [(.int .u64)])] T))),(501,(some (.row true 103 false [(.int .u64)] NL)))]⟩
theorem y2j (L:List IV) (j:Nat):zbn L (j+1)=zbn L j++[.int (z7s (yh1 (z3g (L.drop j))))]:=by
 unfold zbn;rw [List.range_succ,v3k]
 rfl
theorem zc9 (L:List IV) (j:Nat):(zbn L j).length=j:=by
 unfold zbn;rw [v15,List.length_range]
theorem zuy (N:Nat) (s:ByteArray) (d c b0 b1 b2:Int) (T L:List IV) (hL:z6c L=true) (cl:Int) (k:Nat) (hk:k≤31) (K:Out→St→Res):∀ (m j n:Nat),j+m=k→m < n →
  lpE (z0k N) (z0i z18 [1,1,1,1,1,1,0,0,0,1,0,1,1,0,1,0,0]) kpC n (yjd s d c b0 b1 b2 (L.drop j) T cl (k:Int) (j:Int) (zbn L j)) K =
   K (.exit 4) (yjd s d c b0 b1 b2 (L.drop k) T cl (k:Int) (k:Int) (zbn L k))
 | m,j,0,_,h=>absurd h (by omega)
 | 0,j,n+1,hd,_=>by
  have hj:j=k:=by omega
  subst hj;rw [z05,zgm,v07 (show ¬ (j:Int) < (j:Int) by omega),z02]
 | m+1,j,n+1,hd,hn=>by
  have ej:IntKind.wrap IntKind.i64 ((j:Int)+1)=((j+1:Nat):Int):=by
   rw [z15 (by omega) (by omega)]
   omega
  have eb:TI.bytes (Env.tyd (z0k N) 103)=8:=rfl;have e1:∀ x:IV,List.length (List.drop 0 (List.take 1 [x]))=1:=fun x=>rfl
  have e2:∀ x:IV,List.drop 0 (List.take 1 [x])=[x]:=fun x=>rfl
  rw [z05,zgm,ej,eb,e1,e2,v01 (show (j:Int) < (k:Int) by omega),z00,z6z hL j,z00,zc9,v01 (show (j+1)*8≤z09 by unfold z09; omega),z00]
  have e3:List.take j (zbn L j)=zbn L j:=v1a (by rw [zc9]; omega)
  rw [e3,← y2j,v3v];have ih:=zuy N s d c b0 b1 b2 T L hL cl k hk K m (j+1) n (by omega) (by omega)
  unfold yjd at ih ⊢
  rw [zc9] at ih;exact ih
abbrev yj3 (s:ByteArray) (d c b0 b1 b2:Int) (L T:List IV):St:=
 ⟨[(0,(.str s)),(2,(.ptr 2 0 0)),(3,(.bool false)),(4,(.ptr 15 0 0)),(6,(.ptr 6 0 0))],[(2,(some (.box [(.int .i64 0),(.int .i64 0),(.int .i64 0),(.int .i64 0),(.int .i64 0),.zs]))),(6,(some (.box [(.int .i64 d),(.int .i64 c),(.int .i64 b0),(.int .i64 b1),(.int .i64 b2),(.row 500 0 T.length)]))),(15,(some (.box [(.list false [.str] L)]))),(500,(some (.row true 88 true [(.int .i64),(.list false [(.int .u64)])] T)))]⟩
theorem zuw (N:Nat) (hN:40≤N) (s:ByteArray) (d c b0 b1 b2:Int) (K:Out→St→Res):∀ (m n:Nat) (L T:List IV),z6c L=true→T.length+m=9→m < n →
  ∃ L',lpE (z0k N) (z0i z18 [1,1,1,1,1,1,0,0,0]) kpB n (yj3 s d c b0 b1 b2 L T) K=K (.exit 2) (yj3 s d c b0 b1 b2 L' (T++zal m L))
 | m,0,L,T,_,_,h=>absurd h (by omega)
 | m,n+1,[],T,hL,hT,hn=>by
  refine ⟨[],?_⟩;have e:zal m []=[]:=by cases m <;> rfl
  rw [z05,zcj,v07 (show ¬ ic (List.length ([]:List IV)) > 0 by decide),z02,e,v2k]
 | 0,n+1,l :: L,T,hL,hT,hn=>by
  refine ⟨l :: L,?_⟩;rw [z05,zcj,v01 (show ic (List.length (l :: L)) > 0 by simp only [ic,v05]; omega),z00,v07 (show ¬ ic (T.length - 0)≤8 by simp only [ic]; omega),z02]
  show K (.exit 2) _=K (.exit 2) (yj3 s d c b0 b1 b2 (l :: L) (T++[]));rw [v2k]
 | m+1,n+1,l :: L,T,hL,hT,hn=>by
  obtain ⟨k0,k1⟩:=ybq (wAt (z3g (l :: L)) 2) (most:=31) (by omega)
  have hk:zec (wAt (z3g (l :: L)) 2) 31=((rdK (l :: L):Nat):Int):=by unfold rdK; omega
  have hLd:=z6z hL 1;have hk31:rdK (l :: L)≤31:=by unfold rdK; omega
  have e2:Int.toNat 2=2:=rfl;have e1:Int.toNat 1=1:=rfl;rw [z05,zcj,v01 (show ic (List.length (l :: L)) > 0 by simp only [ic,v05]; omega),z00,v01 (show ic (T.length - 0)≤8 by simp only [ic]; omega),z00,hL,z00,e2,e1,hk]
  have run:=zuy N s d c b0 b1 b2 T (List.drop 1 (l :: L)) hLd (zec (wAt (z3g (l :: L)) 1) 3) (rdK (l :: L)) hk31
   (z06 4 (kSq (z0k N) (z0i z18 [1,1,1,1,1,1,0,0,0,1,0,1,1,1]) (z06 3 (z3v (fun s'=>lpE (z0k N) (z0i z18 [1,1,1,1,1,1,0,0,0]) kpB n s' K) kpB K)))) (rdK (l :: L)) 0 N (by omega) (by omega)
  have eb:TI.bytes (Env.tyd (z0k N) 88)=32:=rfl;have e3:∀ x:IV,List.length (List.drop 0 (List.take 1 [x]))=1:=fun x=>rfl
  have e4:∀ x:IV,List.drop 0 (List.take 1 [x])=[x]:=fun x=>rfl
  rw [zmx,eb,e3,e4,v01 (show (T.length+1)*32≤z09 by unfold z09; omega),z00,zc9] at run
  have e5:List.take T.length T=T:=v1a (v08 _);have e6:List.drop 0 (List.take (rdK (l :: L)) (zbn (List.drop 1 (l :: L)) (rdK (l :: L))))=zbn (List.drop 1 (l :: L)) (rdK (l :: L)):=by
   rw [v11,v1a (by rw [zc9]; omega)]
  rw [e5,e6] at run;obtain ⟨L',hL'⟩:=zuw N hN s d c b0 b1 b2 K m n (List.drop (rdK (l :: L)) (List.drop 1 (l :: L))) (T++[y7d (l :: L)]) (z6z hLd _) (by rw [v0a,v05,v0o]; omega) (by omega)
  refine ⟨L',?_⟩;have e7:T++zal (m+1) (l :: L)=T++[y7d (l :: L)]++zal m (List.drop (rdK (l :: L)) (List.drop 1 (l :: L))):=by
   rw [v3b]
   rfl
  rw [e7,← hL'];refine v41 ?_ (run.trans ?_)
  ·rfl
  ·have e8:(T++[y7d (l :: L)]).length=T.length+1:=by rw [v0a]; rfl
   unfold yj3;rw [e8]
   rfl
set_option maxHeartbeats 1000000 in
theorem zub:z2u PR B0 19 zbg:=by
 refine z0f [(46,z2k),(47,z2h),(20,z7b),(49,z77),(48,z33),(52,z4u),(51,z8u),(50,z8o)] [(6,kpA),(10,kpB),(14,kpC)] zbg [[.int .i64,.int .i64,.int .i64,.int .i64,.int .i64,.list true [.int .i64,.list false [.int .u64]]],[.bool]] Tryz.func19 y38 ⟨z7l,za9,zik,zin,zbx,zib,zkd,zke,trivial⟩ ?_;intro vs r hwf h;unfold zbg at h
 split at h
 ·rename_i s
  cases hc:decide (s.size < 4294967281) with
  | false=>rw [hc] at h; simp [R.get] at h
  | true=>
   rw [hc,R.get_br,z00,R.get_ok] at h;have hs:=v0d hc;refine ⟨40,?_⟩;rw [← h];refine (zx3 40 s).trans ?_;have hok:=ydy hs;have e0:List.map IV.str (z0p (z5c s { data:=#[10] }) { data:=#[10] })=zq4 s:=rfl;have e1:decide (1≤ByteArray.size { data:=#[10] })=true:=rfl;have ts:=zls s ygi;have e2:Int.toNat 2=2:=rfl;have e3:Int.toNat 1=1:=rfl;rw [e0,e1,e2,e3,v01 (show ByteArray.size (z5c s { data:=#[10] }) < 4294967281 from v3t ts hs),v0u,z00,hok,z00,z6z hok 1,z00]
   generalize hLS:zq4 s=LS at hok ⊢
   obtain ⟨c0,c3⟩:=ybq (wAt (z3g LS) 2) (most:=3) (by omega)
   refine (y64 40 s LS (z3g (LS.drop 1)) rfl (zly (z6z hok 1)) (zec (wAt (z3g LS) 2) 3) c0 c3 (by omega) (zec (wAt (z3g LS) 1) 4) (zec (wAt (z3g LS) 2) 3) (List.drop 1 (List.drop 1 LS)) _).trans ?_
   rw [znd];obtain ⟨L',hL'⟩:=zuw 40 (by omega) s (zec (wAt (z3g LS) 1) 4) (zec (wAt (z3g LS) 2) 3) (zcw LS (zec (wAt (z3g LS) 2) 3) 0) (zcw LS (zec (wAt (z3g LS) 2) 3) 1) (zcw LS (zec (wAt (z3g LS) 2) 3) 2)
    (z06 2 (kSq (z0k 40) (z0i z18 [1,1,1,1,1,1,1]) (z2v (z0k 40) none [(ResultVar.cell 2 30),(ResultVar.tmp 3)] [[(.int .i64),(.int .i64),(.int .i64),(.int .i64),(.int .i64),(.list true [(.int .i64),(.list false [(.int .u64)])])],[.bool]])))
    9 40 (List.drop 1 (List.drop 1 LS)) [] (z6z (z6z hok 1) 1) rfl (by omega)
   refine hL'.trans ?_;rw [zlx];have e4:([]:List IV)++zal 9 (List.drop 1 (List.drop 1 LS))=zal 9 (LS.drop 2):=by
    rw [v3a,v3v]
   have e5:List.drop 0 (List.take (([]:List IV)++zal 9 (List.drop 1 (List.drop 1 LS))).length (([]:List IV)++zal 9 (List.drop 1 (List.drop 1 LS))))=zal 9 (LS.drop 2):=by
    rw [v11,v1a (v08 _),e4]
   rw [e5];have e6:(⟨zec (wAt (z3g LS) 1) 4,zec (wAt (z3g LS) 2) 3,zcw LS (zec (wAt (z3g LS) 2) 3) 0,zcw LS (zec (wAt (z3g LS) 2) 3) 1,zcw LS (zec (wAt (z3g LS) 2) 3) 2,zal 9 (LS.drop 2)⟩:Md)=yee s:=by
    unfold yee;rw [hLS]
    rfl
   unfold zdm zw8;rw [← e6];cases (ByteArray.toList s==ByteArray.toList y74) with
   | true=>rfl
   | false=>
    rw [z02,v0i,v0r];cases (ByteArray.toList (y1t ⟨zec (wAt (z3g LS) 1) 4,zec (wAt (z3g LS) 2) 3,zcw LS (zec (wAt (z3g LS) 2) 3) 0,zcw LS (zec (wAt (z3g LS) 2) 3) 1,zcw LS (zec (wAt (z3g LS) 2) 3) 2,zal 9 (LS.drop 2)⟩)==ByteArray.toList s) <;> rfl
 ·simp [R.get] at h
open Go Go.Proofs
def y7x (N:Nat):Env:=mkE [] [] 39 N
theorem y5l (N:Nat) (u04 u01 u06 u05 u08 u07 u0a u09 u0c u0b u0e u0d q_Lo q_Hi u03:Int) (u02:Bool) (u00 dim:Int):z0y (y7x N) zve [.cell 4 38] [[.int .i64,.int .i64,.int .i64,.int .i64,.int .i64,.int .i64,.int .i64,.int .i64,.int .i64,.int .i64,.int .i64,.int .i64,.int .i64,.int .i64,.int .i64,.bool,.int .i64]] [(.agg [(.i u04),(.i u01),(.i u06),(.i u05),(.i u08),(.i u07),(.i u0a),(.i u09),(.i u0c),(.i u0b),(.i u0e),(.i u0d),(.i q_Lo),(.i q_Hi),(.i u03),(.bool u02),(.i u00)]),(.i dim)]=(cond (decide (0≤dim)&&decide (dim≤ic 5)) (cond (decide (0≤dim)&&decide (dim≤ic 5)) (cond (decide (ic (min (Int.toNat dim) (Int.toNat dim))=ic 0)) (cond (u04==1) (some ((.agg [(.i u04),(.i u01),(.i 0),(.i 0),(.i 0),(.i 0),(.i 0),(.i 0),(.i 0),(.i 0),(.i 0),(.i 0),(.i q_Lo),(.i q_Hi),(.i 0),(.bool false),(.i u00)]),[])) (cond (u04==3) (some ((.agg [(.i u04),(.i u01),(.i 0),(.i 0),(.i 0),(.i 0),(.i 0),(.i 0),(.i 0),(.i 0),(.i 0),(.i 0),(.i 0),(.i 0),(.i u03),(.bool u02),(.i u00)]),[])) (some ((.agg [(.i u04),(.i u01),(.i 0),(.i 0),(.i 0),(.i 0),(.i 0),(.i 0),(.i 0),(.i 0),(.i 0),(.i 0),(.i 0),(.i 0),(.i 0),(.bool false),(.i u00)]),[])))) (cond (decide (ic (min (Int.toNat dim) (Int.toNat dim))=ic 1)) (cond (u04==1) (some ((.agg [(.i u04),(.i u01),(.i u06),(.i u05),(.i 0),(.i 0),(.i 0),(.i 0),(.i 0),(.i 0),(.i 0),(.i 0),(.i q_Lo),(.i q_Hi),(.i 0),(.bool false),(.i u00)]),[])) (cond (u04==3) (some ((.agg [(.i u04),(.i u01),(.i u06),(.i u05),(.i 0),(.i 0),(.i 0),(.i 0),(.i 0),(.i 0),(.i 0),(.i 0),(.i 0),(.i 0),(.i u03),(.bool u02),(.i u00)]),[])) (some ((.agg [(.i u04),(.i u01),(.i u06),(.i u05),(.i 0),(.i 0),(.i 0),(.i 0),(.i 0),(.i 0),(.i 0),(.i 0),(.i 0),(.i 0),(.i 0),(.bool false),(.i u00)]),[])))) (cond (decide (ic (min (Int.toNat dim) (Int.toNat dim))=ic 2)) (cond (u04==1) (some ((.agg [(.i u04),(.i u01),(.i u06),(.i u05),(.i u08),(.i u07),(.i 0),(.i 0),(.i 0),(.i 0),(.i 0),(.i 0),(.i q_Lo),(.i q_Hi),(.i 0),(.bool false),(.i u00)]),[])) (cond (u04==3) (some ((.agg [(.i u04),(.i u01),(.i u06),(.i u05),(.i u08),(.i u07),(.i 0),(.i 0),(.i 0),(.i 0),(.i 0),(.i 0),(.i 0),(.i 0),(.i u03),(.bool u02),(.i u00)]),[])) (some ((.agg [(.i u04),(.i u01),(.i u06),(.i u05),(.i u08),(.i u07),(.i 0),(.i 0),(.i 0),(.i 0),(.i 0),(.i 0),(.i 0),(.i 0),(.i 0),(.bool false),(.i u00)]),[])))) (cond (decide (ic (min (Int.toNat dim) (Int.toNat dim))=ic 3)) (cond (u04==1) (some ((.agg [(.i u04),(.i u01),(.i u06),(.i u05),(.i u08),(.i u07),(.i u0a),(.i u09),(.i 0),(.i 0),(.i 0),(.i 0),(.i q_Lo),(.i q_Hi),(.i 0),(.bool false),(.i u00)]),[])) (cond (u04==3) (some ((.agg [(.i u04),(.i u01),(.i u06),(.i u05),(.i u08),(.i u07),(.i u0a),(.i u09),(.i 0),(.i 0),(.i 0),(.i 0),(.i 0),(.i 0),(.i u03),(.bool u02),(.i u00)]),[])) (some ((.agg [(.i u04),(.i u01),(.i u06),(.i u05),(.i u08),(.i u07),(.i u0a),(.i u09),(.i 0),(.i 0),(.i 0),(.i 0),(.i 0),(.i 0),(.i 0),(.bool false),(.i u00)]),[])))) (cond (decide (ic (min (Int.toNat dim) (Int.toNat dim))=ic 4)) (cond (u04==1) (some ((.agg [(.i u04),(.i u01),(.i u06),(.i u05),(.i u08),(.i u07),(.i u0a),(.i u09),(.i u0c),(.i u0b),(.i 0),(.i 0),(.i q_Lo),(.i q_Hi),(.i 0),(.bool false),(.i u00)]),[])) (cond (u04==3) (some ((.agg [(.i u04),(.i u01),(.i u06),(.i u05),(.i u08),(.i u07),(.i u0a),(.i u09),(.i u0c),(.i u0b),(.i 0),(.i 0),(.i 0),(.i 0),(.i u03),(.bool u02),(.i u00)]),[])) (some ((.agg [(.i u04),(.i u01),(.i u06),(.i u05),(.i u08),(.i u07),(.i u0a),(.i u09),(.i u0c),(.i u0b),(.i 0),(.i 0),(.i 0),(.i 0),(.i 0),(.bool false),(.i u00)]),[])))) (cond (decide (ic (min (Int.toNat dim) (Int.toNat dim))=ic 5)) (cond (u04==1) (some ((.agg [(.i u04),(.i u01),(.i u06),(.i u05),(.i u08),(.i u07),(.i u0a),(.i u09),(.i u0c),(.i u0b),(.i u0e),(.i u0d),(.i q_Lo),(.i q_Hi),(.i 0),(.bool false),(.i u00)]),[])) (cond (u04==3) (some ((.agg [(.i u04),(.i u01),(.i u06),(.i u05),(.i u08),(.i u07),(.i u0a),(.i u09),(.i u0c),(.i u0b),(.i u0e),(.i u0d),(.i 0),(.i 0),(.i u03),(.bool u02),(.i u00)]),[])) (some ((.agg [(.i u04),(.i u01),(.i u06),(.i u05),(.i u08),(.i u07),(.i u0a),(.i u09),(.i u0c),(.i u0b),(.i u0e),(.i u0d),(.i 0),(.i 0),(.i 0),(.bool false),(.i u00)]),[])))) none)))))) none) none):=by kernel_rfl
def y4s (N:Nat):Env:=mkE [] [] 9 N
theorem zzv (N:Nat) (n:Int):z0y (y4s N) zsd [.tmp 2] [[.bool]] [(.i n)]=(cond (decide (n≥0)) (some ((.bool (decide (n≤1073741824))),[])) (some ((.bool false),[]))):=by kernel_rfl
def y4k (N:Nat):Env:=mkE [(90,z6s)] [] 11 N
theorem y2d (N:Nat) (s:ByteArray):z0y (y4k N) zpv [.tmp 2] [[.int .i64]] [(.str s)]=(some ((.i (z6m s)),[])):=by kernel_rfl
def y8p (N:Nat):Env:=mkE [(91,zai)] [] 11 N
theorem y5y (N:Nat) (s:ByteArray):z0y (y8p N) zw0 [.tmp 2] [[.int .i64]] [(.str s)]=(cond (decide (ByteArray.size s < 4294967281)) (some ((.i (zi5 s)),[])) none):=by kernel_rfl
def z0m (N:Nat):Env:=mkE [] [(2,⟨[0,1,4,7,8],[],[]⟩)] 19 N
abbrev z13 (l0:List IV) (s1:ByteArray) (x4 x7 x8:Int):St:=⟨[(0,(.list false [.str] l0)),(1,(.str s1)),(4,(.i x4)),(7,(.i x7)),(8,(.i x8))],[]⟩
theorem zc2 (N:Nat) (s:List IV) (v:ByteArray):z0y (z0m N) z11 [.tmp 4] [[.int .i64]] [(.list false [.str] s),(.str v)]=(lpE (z0m N) (z0i z11 [1,0,1,0,0]) ⟨[0,1,4,7,8],[],[]⟩ N (z13 s v 0 (ic (List.length s)) 0) (z06 0 (kSq (z0m N) (z0i z11 [1,1]) (z2v (z0m N) none [(ResultVar.tmp 4)] [[(.int .i64)]])))):=by kernel_rfl
theorem z5u (N:Nat) (l0:List IV) (s1:ByteArray) (x4 x7 x8:Int) (again:St→Res) (k:Out→St→Res):rnd (z0m N) (z0i z11 [1,0,1,0,0]) (z13 l0 s1 x4 x7 x8) (z3v again ⟨[0,1,4,7,8],[],[]⟩ k)=(cond (decide (x8 < x7)) (cond (decide (0≤x8)&&decide (x8 < ic (List.length l0))) (cond (ByteArray.toList s1==ByteArray.toList (IV.toStr (List.getD l0 (Int.toNat x8) default))) (k .ret (z13 l0 s1 x8 x7 x8)) (again (z13 l0 s1 x4 x7 (IntKind.wrap IntKind.i64 (x8+1))))) none) (k (.exit 0) (z13 l0 s1 x4 x7 x8))):=by kernel_rfl
theorem za1 (N:Nat) (l0:List IV) (s1:ByteArray) (x4 x7 x8:Int):(z06 0 (kSq (z0m N) (z0i z11 [1,1]) (z2v (z0m N) none [(ResultVar.tmp 4)] [[(.int .i64)]]))) (.exit 0) (z13 l0 s1 x4 x7 x8)=(some ((.i (-1)),[])):=by kernel_rfl
theorem za7 (N:Nat) (l0:List IV) (s1:ByteArray) (x4 x7 x8:Int):(z06 0 (kSq (z0m N) (z0i z11 [1,1]) (z2v (z0m N) none [(ResultVar.tmp 4)] [[(.int .i64)]]))) .ret (z13 l0 s1 x4 x7 x8)=(some ((.i x4),[])):=by kernel_rfl
def zm2 (N:Nat):Env:=mkE [(121,z8w),(120,zaj),(161,z30)] [] 46 N
theorem y4o (N:Nat) (l:List IV):z0y (zm2 N) zvu [.cell 2 38] [[.int .i64,.int .i64,.int .i64,.int .i64,.int .i64,.int .i64,.int .i64,.int .i64,.int .i64,.int .i64,.int .i64,.int .i64,.int .i64,.int .i64,.int .i64,.bool,.int .i64]] [(.list false [.str] l)]=(cond (decide (List.length l≤4294967296)) (cond (decide ((List.length l+List.length (List.replicate (Int.toNat 6) (IV.str {data:=#[]})))*TI.bytes (Env.tyd (zm2 N) 9)≤z09)) (cond (decide (0≤1)&&decide (1 < ic (List.length l+List.length (List.replicate (Int.toNat 6) (IV.str {data:=#[]})) - 0))) (cond (decide (0≤0)&&decide (0 < ic (List.length l+List.length (List.replicate (Int.toNat 6) (IV.str {data:=#[]})) - 0))) (cond (ByteArray.toList (IV.toStr (List.getD (List.take (List.length l) l++List.replicate (Int.toNat 6) (IV.str {data:=#[]})) 0 default))==ByteArray.toList {data:=#[114,97,110,103,101]}) (cond (decide (0≤3)&&decide (3 < ic (List.length l+List.length (List.replicate (Int.toNat 6) (IV.str {data:=#[]})) - 0))) (cond (decide (ByteArray.size (IV.toStr (List.getD (List.take (List.length l) l++List.replicate (Int.toNat 6) (IV.str {data:=#[]})) 3 default)) < 4294967281)) (cond (decide (0≤5)&&decide (5 < ic (List.length l+List.length (List.replicate (Int.toNat 6) (IV.str {data:=#[]})) - 0))) (cond (decide (ByteArray.size (IV.toStr (List.getD (List.take (List.length l) l++List.replicate (Int.toNat 6) (IV.str {data:=#[]})) 5 default)) < 4294967281)) (some ((.agg [(.i 1),(.i (z6m (IV.toStr (List.getD (List.take (List.length l) l++List.replicate (Int.toNat 6) (IV.str {data:=#[]})) 1 default)))),(.i 0),(.i 0),(.i 0),(.i 0),(.i 0),(.i 0),(.i 0),(.i 0),(.i 0),(.i 0),(.i (zi5 (IV.toStr (List.getD (List.take (List.length l) l++List.replicate (Int.toNat 6) (IV.str {data:=#[]})) 3 default)))),(.i (zi5 (IV.toStr (List.getD (List.take (List.length l) l++List.replicate (Int.toNat 6) (IV.str {data:=#[]})) 5 default)))),(.i 0),(.bool false),(.i 0)]),[])) none) none) none) none) (cond (ByteArray.toList (IV.toStr (List.getD (List.take (List.length l) l++List.replicate (Int.toNat 6) (IV.str {data:=#[]})) 0 default))==ByteArray.toList {data:=#[98,101,115,116]}) (some ((.agg [(.i 2),(.i (z6m (IV.toStr (List.getD (List.take (List.length l) l++List.replicate (Int.toNat 6) (IV.str {data:=#[]})) 1 default)))),(.i 0),(.i 0),(.i 0),(.i 0),(.i 0),(.i 0),(.i 0),(.i 0),(.i 0),(.i 0),(.i 0),(.i 0),(.i 0),(.bool false),(.i 0)]),[])) (cond (ByteArray.toList (IV.toStr (List.getD (List.take (List.length l) l++List.replicate (Int.toNat 6) (IV.str {data:=#[]})) 0 default))==ByteArray.toList {data:=#[114,105,115,101,115]}) (cond (decide (0≤3)&&decide (3 < ic (List.length l+List.length (List.replicate (Int.toNat 6) (IV.str {data:=#[]})) - 0))) (cond (decide (0≤0)&&decide (0 < ic (List.length l+List.length (List.replicate (Int.toNat 6) (IV.str {data:=#[]})) - 0))) (some ((.agg [(.i 3),(.i (z6m (IV.toStr (List.getD (List.take (List.length l) l++List.replicate (Int.toNat 6) (IV.str {data:=#[]})) 1 default)))),(.i 0),(.i 0),(.i 0),(.i 0),(.i 0),(.i 0),(.i 0),(.i 0),(.i 0),(.i 0),(.i 0),(.i 0),(.i (z6m (IV.toStr (List.getD (List.take (List.length l) l++List.replicate (Int.toNat 6) (IV.str {data:=#[]})) 3 default)))),(.bool (ByteArray.toList (IV.toStr (List.getD (List.take (List.length l) l++List.replicate (Int.toNat 6) (IV.str {data:=#[]})) 0 default))==ByteArray.toList {data:=#[102,97,108,108,115]})),(.i 0)]),[])) none) none) (cond (ByteArray.toList (IV.toStr (List.getD (List.take (List.length l) l++List.replicate (Int.toNat 6) (IV.str {data:=#[]})) 0 default))==ByteArray.toList {data:=#[102,97,108,108,115]}) (cond (decide (0≤3)&&decide (3 < ic (List.length l+List.length (List.replicate (Int.toNat 6) (IV.str {data:=#[]})) - 0))) (cond (decide (0≤0)&&decide (0 < ic (List.length l+List.length (List.replicate (Int.toNat 6) (IV.str {data:=#[]})) - 0))) (some ((.agg [(.i 3),(.i (z6m (IV.toStr (List.getD (List.take (List.length l) l++List.replicate (Int.toNat 6) (IV.str {data:=#[]})) 1 default)))),(.i 0),(.i 0),(.i 0),(.i 0),(.i 0),(.i 0),(.i 0),(.i 0),(.i 0),(.i 0),(.i 0),(.i 0),(.i (z6m (IV.toStr (List.getD (List.take (List.length l) l++List.replicate (Int.toNat 6) (IV.str {data:=#[]})) 3 default)))),(.bool (ByteArray.toList (IV.toStr (List.getD (List.take (List.length l) l++List.replicate (Int.toNat 6) (IV.str {data:=#[]})) 0 default))==ByteArray.toList {data:=#[102,97,108,108,115]})),(.i 0)]),[])) none) none) (some ((.agg [(.i 0),(.i (z6m (IV.toStr (List.getD (List.take (List.length l) l++List.replicate (Int.toNat 6) (IV.str {data:=#[]})) 1 default)))),(.i 0),(.i 0),(.i 0),(.i 0),(.i 0),(.i 0),(.i 0),(.i 0),(.i 0),(.i 0),(.i 0),(.i 0),(.i 0),(.bool false),(.i 0)]),[])))))) none) none) none) none):=by kernel_rfl
open Go Go.Proofs
theorem zz6:z2u PR B0 42 zcx:=by
 refine z0f [] [] zcx [[.bool]] Tryz.func42 y5p trivial ?_;intro vs r hwf h;unfold zcx at h
 split at h
 ·rename_i n
  refine ⟨0,?_⟩;rw [← h];refine (zzv 0 n).trans ?_;simp only [R.get_ok];unfold zh7
  have:decide (n≥0)=decide (0≤n):=rfl
  rw [this];cases decide (0≤n) <;> rfl
 ·simp [R.get] at h
theorem zky:z2u PR B0 121 z8w:=by
 refine z0f [(90,z6s)] [] z8w [[.int .i64]] Tryz.func121 y5f ⟨zfe,trivial⟩ ?_;intro vs r hwf h;unfold z8w at h
 split at h
 ·rename_i s
  refine ⟨0,?_⟩;rw [← h];exact y2d 0 s
 ·simp [R.get] at h
theorem zom:z2u PR B0 120 zaj:=by
 refine z0f [(91,zai)] [] zaj [[.int .i64]] Tryz.func120 y91 ⟨zo6,trivial⟩ ?_;intro vs r hwf h;unfold zaj at h
 split at h
 ·rename_i s
  refine ⟨0,?_⟩;rw [← h];refine (y5y 0 s).trans ?_;simp only [R.get_br,R.get_ok,R.get_no]
 ·simp [R.get] at h
theorem y0m:z2u PR B0 41 ze5:=by
 refine z0f [] [] ze5 [[.int .i64,.int .i64,.int .i64,.int .i64,.int .i64,.int .i64,.int .i64,.int .i64,.int .i64,.int .i64,.int .i64,.int .i64,.int .i64,.int .i64,.int .i64,.bool,.int .i64]] Tryz.func41 y8z trivial ?_;intro vs r hwf h;unfold ze5 at h
 split at h
 ·rename_i k c a0 b0 a1 b1 a2 b2 a3 b3 a4 b4 lo hi ft fl bu d
  refine ⟨0,?_⟩;cases hc:(decide (0≤d)&&decide (d≤5)) with
  | false=>rw [hc] at h; simp [R.get] at h
  | true=>
   rw [hc,R.get_br,z00,R.get_ok] at h;rw [← h];refine (y5l 0 k c a0 b0 a1 b1 a2 b2 a3 b3 a4 b4 lo hi ft fl bu d).trans ?_;have e5:(decide (0≤d)&&decide (d≤ic 5))=true:=hc;rw [e5,z00,z00];simp only [v02,v06] at hc;obtain ⟨n,rfl⟩:∃ n:Nat,d=n:=⟨d.toNat,by omega⟩
   simp only [v0l,Nat.min_self];unfold zfm;have hn:n=0∨n=1∨n=2∨n=3∨n=4∨n=5:=by omega
   have h13:(k==1)=true→(k==3)=false:=fun h1=>by
    rw [zjp] at h1 ⊢
    have:=v0d h1
    exact v07 (by omega)
   generalize (k==1)=e1 at h13 ⊢
   generalize (k==3)=e3 at h13 ⊢
   rcases hn with rfl | rfl | rfl | rfl | rfl | rfl <;> cases e1 <;> cases e3 <;> first | rfl | exact absurd (h13 rfl) (by decide)
 ·simp [R.get] at h
theorem zv4 (N:Nat) (l:List IV) (s:ByteArray) (hl:l.length≤strMax) (K:Out→St→Res)
  (hx:∀ l0 s1 x4 x7 x8,K (.exit 0) ⟨[(0,(.list false [.str] l0)),(1,(.str s1)),(4,(.int .i64 x4)),(7,(.int .i64 x7)),(8,(.int .i64 x8))],[]⟩=some (.int .i64 (-1),[]))
  (hr:∀ l0 s1 x4 x7 x8,K .ret ⟨[(0,(.list false [.str] l0)),(1,(.str s1)),(4,(.int .i64 x4)),(7,(.int .i64 x7)),(8,(.int .i64 x8))],[]⟩=some (.int .i64 x4,[])) :
  ∀ (d i n:Nat) (x4:Int),i+d=l.length→d < n →
   lpE (z0m N) (z0i z11 [1,0,1,0,0]) ⟨[0,1,4,7,8],[],[]⟩ n ⟨[(0,(.list false [.str] l)),(1,(.str s)),(4,(.int .i64 x4)),(7,(.int .i64 (ic l.length))),(8,(.int .i64 (i:Int)))],[]⟩ K=some (.int .i64 (zfc (l.drop i) s (i:Int)),[])
 | 0,i,n+1,x4,hd,hn=>by
  rw [z05,z5u,zau (by omega),z02,hx,v1b (by omega)]
  rfl
 | d+1,i,n+1,x4,hd,hn=>by
  have hi:i < l.length:=by omega
  unfold strMax at hl;have ih:=zv4 N l s (by unfold strMax; omega) K hx hr d (i+1) n x4 (by omega) (by omega)
  rw [z05,z5u,z9z hi,zg5,v1f,z00,z00,zbl hi,z7z (by omega),v0j hi]
  unfold zfc;cases (ByteArray.toList s==ByteArray.toList (IV.toStr l[i])) with
  | true=>rw [z00,z00,hr]
  | false=>
   rw [z02,z02,ih]
   rfl
 | _,_,0,_,_,h=>by omega
theorem zbs:z2u PR B0 118 z27:=by
 refine z0f [] [(2,⟨[0,1,4,7,8],[],[]⟩)] z27 [[.int .i64]] Tryz.func118 zcq trivial ?_;intro vs r hwf h;unfold z27 at h
 split at h
 ·rename_i l s
  refine ⟨l.length+1,?_⟩;rw [← h];refine (zc2 (l.length+1) l s).trans ?_;simp only [R.get_ok];have hl:=(hwf (by simp [zbw])).1
  simp only [wfV,wfL] at hl
  have:=zv4 (l.length+1) l s hl.1 _ (fun l0 s1 x4 x7 x8=>za1 (l.length+1) l0 s1 x4 x7 x8) (fun l0 s1 x4 x7 x8=>za7 (l.length+1) l0 s1 x4 x7 x8) l.length 0 (l.length+1) 0 (by omega) (by omega)
  rw [v11] at this;exact this
 ·simp [R.get] at h
theorem ygn (l:List IV) (i m:Nat) (x:IV) (hx:x.toStr=ByteArray.empty):IV.toStr (List.getD (l++List.replicate m x) i default)=wAt l i:=by
 unfold wAt
 by_cases h:i < l.length
 ·simp [List.getD,v1v,h]
 ·have e0:(List.getD l i default).toStr=ByteArray.empty:=by simp [List.getD,h]; rfl
  rw [e0]
  by_cases h6:i - l.length < m
  ·have e:List.getD (l++List.replicate m x) i default=x:=by simp [List.getD,v1v,h,h6]
   rw [e,hx]
  ·have e:List.getD (l++List.replicate m x) i default=default:=by simp [List.getD,v1v,h,h6]
   rw [e]
   rfl
theorem yfz (l:List IV) (i:Nat):IV.toStr (List.getD (List.take (List.length l) l++List.replicate (Int.toNat 6) (IV.str { data:=#[] })) i default)=wAt l i:=by
 rw [v0w];exact ygn l i _ _ rfl
theorem y18:z2u PR B0 119 zdz:=by
 refine z0f [(121,z8w),(120,zaj),(161,z30)] [] zdz [[.int .i64,.int .i64,.int .i64,.int .i64,.int .i64,.int .i64,.int .i64,.int .i64,.int .i64,.int .i64,.int .i64,.int .i64,.int .i64,.int .i64,.int .i64,.bool,.int .i64]] Tryz.func119 y9o
  ⟨zky,zom,zbr,trivial⟩ ?_
 intro vs r hwf h;unfold zdz at h
 split at h
 ·rename_i l
  refine ⟨0,?_⟩;cases hc:(decide (l.length≤4294967290)&&l.all (fun x=>decide (x.toStr.size < 4294967281))) with
  | false=>rw [hc] at h; simp [R.get] at h
  | true=>
   rw [hc,R.get_br,z00,R.get_ok] at h;rw [← h];refine (y4o 0 l).trans ?_;simp only [v02,v06,v30] at hc;obtain ⟨hl,hz⟩:=hc;have hw:∀ i,(wAt l i).size < 4294967281:=fun i=>by
    unfold wAt
    by_cases hi:i < l.length
    ·have:List.getD l i default=l[i]:=by simp [hi]
     rw [this];exact hz _ (v2o hi)
    ·have:List.getD l i default=default:=by simp [List.getD,hi]
     rw [this]
     decide
   have hb:TI.bytes (Env.tyd (zm2 0) 9)=16:=by rfl
   have hr6:(List.replicate (Int.toNat 6) (IV.str { data:=#[] })).length=6:=rfl;simp only [yfz];rw [hb,hr6];have ge:∀ k:Nat,k < 6→decide ((k:Int) < ic (List.length l+6 - 0))=true:=fun k hk=>v01 (by simp only [ic]; omega)
   have g0:=ge 0 (by omega)
   have g1:=ge 1 (by omega)
   have g3:=ge 3 (by omega)
   have g5:=ge 5 (by omega)
   rw [v01 (show List.length l≤4294967296 by omega),z00,v01 (show (List.length l+6)*16≤z09 by unfold z09; omega),z00]
   have n0:decide ((0:Nat)≤0)=true:=rfl;have d1:(decide (0≤1)&&decide (1 < ic (List.length l+6 - 0)))=true:=by simpa using g1
   have d0:(decide (0≤0)&&decide (0 < ic (List.length l+6 - 0)))=true:=by simpa using g0
   have d3:(decide (0≤3)&&decide (3 < ic (List.length l+6 - 0)))=true:=by simpa using g3
   have d5:(decide (0≤5)&&decide (5 < ic (List.length l+6 - 0)))=true:=by simpa using g5
   rw [d1,d0,d3,d5,v01 (hw 3),v01 (hw 5)];simp only [z00];unfold z2t;cases ((wAt l 0).toList==zmf.toList) with
   | true=>rfl
   | false=>
    cases ((wAt l 0).toList==zvk.toList) with
    | true=>rfl
    | false=>
     cases ((wAt l 0).toList==zn6.toList) <;> cases ((wAt l 0).toList==zjo.toList) <;> rfl
 ·simp [R.get] at h
open Go Go.Proofs
def z0r (N:Nat):Env:=mkE [(42,zcx),(41,ze5),(44,z68),(43,z2x),(45,z6p)] [(18,⟨[2,4,6,75,76,77],[2,500],[⟨.tmp 6,500,9,false,[.str]⟩]⟩)] 100 N
abbrev z2o (s4:ByteArray) (n6 n75:Nat) (x76 x77 u02 u03 u0a u0b u0c u0d u0e u0f u0g u0h u04 u05 u06 u07 u08:Int) (u00:Bool) (u09:Int) (u01:List IV):St:=⟨[(2,(.ptr 2 0 0)),(4,(.str s4)),(6,(.row 500 0 n6)),(75,(.bview 2 2 5 2 n75)),(76,(.i x76)),(77,(.i x77))],[(2,(some (.box [(.i u02),(.i u03),(.i u0a),(.i u0b),(.i u0c),(.i u0d),(.i u0e),(.i u0f),(.i u0g),(.i u0h),(.i u04),(.i u05),(.i u06),(.i u07),(.i u08),(.bool u00),(.i u09)]))),(500,(some (.row true 9 false [.str] u01)))]⟩
theorem y0t (N:Nat) (u04 u01 u06 u05 u08 u07 u0a u09 u0c u0b u0e u0d q_Lo q_Hi u03:Int) (u02:Bool) (u00 a1:Int):z0y (z0r N) z2f [.tmp 4] [[.str]] [(.agg [(.i u04),(.i u01),(.i u06),(.i u05),(.i u08),(.i u07),(.i u0a),(.i u09),(.i u0c),(.i u0b),(.i u0e),(.i u0d),(.i q_Lo),(.i q_Hi),(.i u03),(.bool u02),(.i u00)]),(.i a1)]=(cond (decide (a1 < 1)) (some ((.str ({data:=#[]})),[])) (cond (decide (a1 > 4)) (some ((.str ({data:=#[]})),[])) (cond (decide (0≤a1)&&decide (a1≤5)) (cond (! (u04==Qy.k (zfm {k:=u04,c:=u01,a0:=u06,b0:=u05,a1:=u08,b1:=u07,a2:=u0a,b2:=u09,a3:=u0c,b3:=u0b,a4:=u0e,b4:=u0d,lo:=q_Lo,hi:=q_Hi,ft:=u03,fl:=u02,bu:=u00} a1)&&(u01==Qy.c (zfm {k:=u04,c:=u01,a0:=u06,b0:=u05,a1:=u08,b1:=u07,a2:=u0a,b2:=u09,a3:=u0c,b3:=u0b,a4:=u0e,b4:=u0d,lo:=q_Lo,hi:=q_Hi,ft:=u03,fl:=u02,bu:=u00} a1)&&(u06==Qy.a0 (zfm {k:=u04,c:=u01,a0:=u06,b0:=u05,a1:=u08,b1:=u07,a2:=u0a,b2:=u09,a3:=u0c,b3:=u0b,a4:=u0e,b4:=u0d,lo:=q_Lo,hi:=q_Hi,ft:=u03,fl:=u02,bu:=u00} a1)&&(u05==Qy.b0 (zfm {k:=u04,c:=u01,a0:=u06,b0:=u05,a1:=u08,b1:=u07,a2:=u0a,b2:=u09,a3:=u0c,b3:=u0b,a4:=u0e,b4:=u0d,lo:=q_Lo,hi:=q_Hi,ft:=u03,fl:=u02,bu:=u00} a1)&&(u08==Qy.a1 (zfm {k:=u04,c:=u01,a0:=u06,b0:=u05,a1:=u08,b1:=u07,a2:=u0a,b2:=u09,a3:=u0c,b3:=u0b,a4:=u0e,b4:=u0d,lo:=q_Lo,hi:=q_Hi,ft:=u03,fl:=u02,bu:=u00} a1)&&(u07==Qy.b1 (zfm {k:=u04,c:=u01,a0:=u06,b0:=u05,a1:=u08,b1:=u07,a2:=u0a,b2:=u09,a3:=u0c,b3:=u0b,a4:=u0e,b4:=u0d,lo:=q_Lo,hi:=q_Hi,ft:=u03,fl:=u02,bu:=u00} a1)&&(u0a==Qy.a2 (zfm {k:=u04,c:=u01,a0:=u06,b0:=u05,a1:=u08,b1:=u07,a2:=u0a,b2:=u09,a3:=u0c,b3:=u0b,a4:=u0e,b4:=u0d,lo:=q_Lo,hi:=q_Hi,ft:=u03,fl:=u02,bu:=u00} a1)&&(u09==Qy.b2 (zfm {k:=u04,c:=u01,a0:=u06,b0:=u05,a1:=u08,b1:=u07,a2:=u0a,b2:=u09,a3:=u0c,b3:=u0b,a4:=u0e,b4:=u0d,lo:=q_Lo,hi:=q_Hi,ft:=u03,fl:=u02,bu:=u00} a1)&&(u0c==Qy.a3 (zfm {k:=u04,c:=u01,a0:=u06,b0:=u05,a1:=u08,b1:=u07,a2:=u0a,b2:=u09,a3:=u0c,b3:=u0b,a4:=u0e,b4:=u0d,lo:=q_Lo,hi:=q_Hi,ft:=u03,fl:=u02,bu:=u00} a1)&&(u0b==Qy.b3 (zfm {k:=u04,c:=u01,a0:=u06,b0:=u05,a1:=u08,b1:=u07,a2:=u0a,b2:=u09,a3:=u0c,b3:=u0b,a4:=u0e,b4:=u0d,lo:=q_Lo,hi:=q_Hi,ft:=u03,fl:=u02,bu:=u00} a1)&&(u0e==Qy.a4 (zfm {k:=u04,c:=u01,a0:=u06,b0:=u05,a1:=u08,b1:=u07,a2:=u0a,b2:=u09,a3:=u0c,b3:=u0b,a4:=u0e,b4:=u0d,lo:=q_Lo,hi:=q_Hi,ft:=u03,fl:=u02,bu:=u00} a1)&&(u0d==Qy.b4 (zfm {k:=u04,c:=u01,a0:=u06,b0:=u05,a1:=u08,b1:=u07,a2:=u0a,b2:=u09,a3:=u0c,b3:=u0b,a4:=u0e,b4:=u0d,lo:=q_Lo,hi:=q_Hi,ft:=u03,fl:=u02,bu:=u00} a1)&&(q_Lo==Qy.lo (zfm {k:=u04,c:=u01,a0:=u06,b0:=u05,a1:=u08,b1:=u07,a2:=u0a,b2:=u09,a3:=u0c,b3:=u0b,a4:=u0e,b4:=u0d,lo:=q_Lo,hi:=q_Hi,ft:=u03,fl:=u02,bu:=u00} a1)&&(q_Hi==Qy.hi (zfm {k:=u04,c:=u01,a0:=u06,b0:=u05,a1:=u08,b1:=u07,a2:=u0a,b2:=u09,a3:=u0c,b3:=u0b,a4:=u0e,b4:=u0d,lo:=q_Lo,hi:=q_Hi,ft:=u03,fl:=u02,bu:=u00} a1)&&(u03==Qy.ft (zfm {k:=u04,c:=u01,a0:=u06,b0:=u05,a1:=u08,b1:=u07,a2:=u0a,b2:=u09,a3:=u0c,b3:=u0b,a4:=u0e,b4:=u0d,lo:=q_Lo,hi:=q_Hi,ft:=u03,fl:=u02,bu:=u00} a1)&&(u02==Qy.fl (zfm {k:=u04,c:=u01,a0:=u06,b0:=u05,a1:=u08,b1:=u07,a2:=u0a,b2:=u09,a3:=u0c,b3:=u0b,a4:=u0e,b4:=u0d,lo:=q_Lo,hi:=q_Hi,ft:=u03,fl:=u02,bu:=u00} a1)&&(u00==Qy.bu (zfm {k:=u04,c:=u01,a0:=u06,b0:=u05,a1:=u08,b1:=u07,a2:=u0a,b2:=u09,a3:=u0c,b3:=u0b,a4:=u0e,b4:=u0d,lo:=q_Lo,hi:=q_Hi,ft:=u03,fl:=u02,bu:=u00} a1)&&true)))))))))))))))))) (some ((.str ({data:=#[]})),[])) (cond (!zh7 u01) (some ((.str ({data:=#[]})),[])) (cond (!zh7 u03) (some ((.str ({data:=#[]})),[])) (cond (!zh7 u00) (some ((.str ({data:=#[]})),[])) (cond (u04==1) (cond (decide (0≤a1)&&decide (a1≤ic 5)) (lpE (z0r N) (z0i z2f [1,1,1,1,1,1,0,1,0,0]) ⟨[2,4,6,75,76,77],[2,500],[⟨(.tmp 6),500,9,false,[.str]⟩]⟩ N (z2o ({data:=#[]}) 7 (Int.toNat a1) (ic (Int.toNat a1)) 0 u04 u01 u06 u05 u08 u07 u0a u09 u0c u0b u0e u0d q_Lo q_Hi u03 u02 u00 [(IV.str {data:=#[114,97,110,103,101]}),(IV.str (z0l u01)),(IV.str {data:=#[102,114,111,109]}),(IV.str (z0b q_Lo)),(IV.str {data:=#[116,111]}),(IV.str (z0b q_Hi)),(IV.str {data:=#[105,110]})]) (z06 1 (kSq (z0r N) (z0i z2f [1,1,1,1,1,1,1]) (z2v (z0r N) none [(ResultVar.tmp 4)] [[.str]])))) none) (cond (u04==2) (cond (decide (0≤a1)&&decide (a1≤ic 5)) (lpE (z0r N) (z0i z2f [1,1,1,1,1,1,0,1,0,0]) ⟨[2,4,6,75,76,77],[2,500],[⟨(.tmp 6),500,9,false,[.str]⟩]⟩ N (z2o ({data:=#[]}) 3 (Int.toNat a1) (ic (Int.toNat a1)) 0 u04 u01 u06 u05 u08 u07 u0a u09 u0c u0b u0e u0d q_Lo q_Hi u03 u02 u00 [(IV.str {data:=#[98,101,115,116]}),(IV.str (z0l u01)),(IV.str {data:=#[105,110]})]) (z06 1 (kSq (z0r N) (z0i z2f [1,1,1,1,1,1,1]) (z2v (z0r N) none [(ResultVar.tmp 4)] [[.str]])))) none) (cond (u04==3) (cond u02 (cond (decide (0≤a1)&&decide (a1≤ic 5)) (lpE (z0r N) (z0i z2f [1,1,1,1,1,1,0,1,0,0]) ⟨[2,4,6,75,76,77],[2,500],[⟨(.tmp 6),500,9,false,[.str]⟩]⟩ N (z2o ({data:=#[]}) 5 (Int.toNat a1) (ic (Int.toNat a1)) 0 u04 u01 u06 u05 u08 u07 u0a u09 u0c u0b u0e u0d q_Lo q_Hi u03 u02 u00 [(IV.str {data:=#[102,97,108,108,115]}),(IV.str (z0l u01)),(IV.str {data:=#[98,121]}),(IV.str (z0l u03)),(IV.str {data:=#[105,110]})]) (z06 1 (kSq (z0r N) (z0i z2f [1,1,1,1,1,1,1]) (z2v (z0r N) none [(ResultVar.tmp 4)] [[.str]])))) none) (cond (decide (0≤a1)&&decide (a1≤ic 5)) (lpE (z0r N) (z0i z2f [1,1,1,1,1,1,0,1,0,0]) ⟨[2,4,6,75,76,77],[2,500],[⟨(.tmp 6),500,9,false,[.str]⟩]⟩ N (z2o ({data:=#[]}) 5 (Int.toNat a1) (ic (Int.toNat a1)) 0 u04 u01 u06 u05 u08 u07 u0a u09 u0c u0b u0e u0d q_Lo q_Hi u03 u02 u00 [(IV.str {data:=#[114,105,115,101,115]}),(IV.str (z0l u01)),(IV.str {data:=#[98,121]}),(IV.str (z0l u03)),(IV.str {data:=#[105,110]})]) (z06 1 (kSq (z0r N) (z0i z2f [1,1,1,1,1,1,1]) (z2v (z0r N) none [(ResultVar.tmp 4)] [[.str]])))) none)) (some ((.str ({data:=#[]})),[]))))))))) none))):=by kernel_rfl
theorem zij (N:Nat) (s4:ByteArray) (n6 n75:Nat) (x76 x77 u02 u03 u0a u0b u0c u0d u0e u0f u0g u0h u04 u05 u06 u07 u08:Int) (u00:Bool) (u09:Int) (u01:List IV) (again:St→Res) (k:Out→St→Res):rnd (z0r N) (z0i z2f [1,1,1,1,1,1,0,1,0,0]) (z2o s4 n6 n75 x76 x77 u02 u03 u0a u0b u0c u0d u0e u0f u0g u0h u04 u05 u06 u07 u08 u00 u09 u01) (z3v again ⟨[2,4,6,75,76,77],[2,500],[⟨(.tmp 6),500,9,false,[.str]⟩]⟩ k)=(cond (decide (x77 < x76)) (cond (decide (x77 < ic n75)) (cond (decide (x77=ic 0)) (cond (decide (ByteArray.size (z0b u0a)+ByteArray.size {data:=#[46,46]}≤strMax)) (cond (decide (ByteArray.size (z0b u0a++{data:=#[46,46]})+ByteArray.size (z0b u0b)≤strMax)) (cond (decide ((n6+List.length (List.drop 0 (List.take 1 [IV.str (z0b u0a++{data:=#[46,46]}++z0b u0b)])))*TI.bytes (Env.tyd (z0r N) 9)≤z09)) (again (z2o s4 (n6+List.length (List.drop 0 (List.take 1 [IV.str (z0b u0a++{data:=#[46,46]}++z0b u0b)]))) n75 x76 (IntKind.wrap IntKind.i64 (x77+1)) u02 u03 u0a u0b u0c u0d u0e u0f u0g u0h u04 u05 u06 u07 u08 u00 u09 (List.take n6 u01++List.drop 0 (List.take 1 [IV.str (z0b u0a++{data:=#[46,46]}++z0b u0b)])))) none) none) none) (cond (decide (x77=ic 1)) (cond (decide (ByteArray.size (z0b u0c)+ByteArray.size {data:=#[46,46]}≤strMax)) (cond (decide (ByteArray.size (z0b u0c++{data:=#[46,46]})+ByteArray.size (z0b u0d)≤strMax)) (cond (decide ((n6+List.length (List.drop 0 (List.take 1 [IV.str (z0b u0c++{data:=#[46,46]}++z0b u0d)])))*TI.bytes (Env.tyd (z0r N) 9)≤z09)) (again (z2o s4 (n6+List.length (List.drop 0 (List.take 1 [IV.str (z0b u0c++{data:=#[46,46]}++z0b u0d)]))) n75 x76 (IntKind.wrap IntKind.i64 (x77+1)) u02 u03 u0a u0b u0c u0d u0e u0f u0g u0h u04 u05 u06 u07 u08 u00 u09 (List.take n6 u01++List.drop 0 (List.take 1 [IV.str (z0b u0c++{data:=#[46,46]}++z0b u0d)])))) none) none) none) (cond (decide (x77=ic 2)) (cond (decide (ByteArray.size (z0b u0e)+ByteArray.size {data:=#[46,46]}≤strMax)) (cond (decide (ByteArray.size (z0b u0e++{data:=#[46,46]})+ByteArray.size (z0b u0f)≤strMax)) (cond (decide ((n6+List.length (List.drop 0 (List.take 1 [IV.str (z0b u0e++{data:=#[46,46]}++z0b u0f)])))*TI.bytes (Env.tyd (z0r N) 9)≤z09)) (again (z2o s4 (n6+List.length (List.drop 0 (List.take 1 [IV.str (z0b u0e++{data:=#[46,46]}++z0b u0f)]))) n75 x76 (IntKind.wrap IntKind.i64 (x77+1)) u02 u03 u0a u0b u0c u0d u0e u0f u0g u0h u04 u05 u06 u07 u08 u00 u09 (List.take n6 u01++List.drop 0 (List.take 1 [IV.str (z0b u0e++{data:=#[46,46]}++z0b u0f)])))) none) none) none) (cond (decide (x77=ic 3)) (cond (decide (ByteArray.size (z0b u0g)+ByteArray.size {data:=#[46,46]}≤strMax)) (cond (decide (ByteArray.size (z0b u0g++{data:=#[46,46]})+ByteArray.size (z0b u0h)≤strMax)) (cond (decide ((n6+List.length (List.drop 0 (List.take 1 [IV.str (z0b u0g++{data:=#[46,46]}++z0b u0h)])))*TI.bytes (Env.tyd (z0r N) 9)≤z09)) (again (z2o s4 (n6+List.length (List.drop 0 (List.take 1 [IV.str (z0b u0g++{data:=#[46,46]}++z0b u0h)]))) n75 x76 (IntKind.wrap IntKind.i64 (x77+1)) u02 u03 u0a u0b u0c u0d u0e u0f u0g u0h u04 u05 u06 u07 u08 u00 u09 (List.take n6 u01++List.drop 0 (List.take 1 [IV.str (z0b u0g++{data:=#[46,46]}++z0b u0h)])))) none) none) none) (cond (decide (x77=ic 4)) (cond (decide (ByteArray.size (z0b u04)+ByteArray.size {data:=#[46,46]}≤strMax)) (cond (decide (ByteArray.size (z0b u04++{data:=#[46,46]})+ByteArray.size (z0b u05)≤strMax)) (cond (decide ((n6+List.length (List.drop 0 (List.take 1 [IV.str (z0b u04++{data:=#[46,46]}++z0b u05)])))*TI.bytes (Env.tyd (z0r N) 9)≤z09)) (again (z2o s4 (n6+List.length (List.drop 0 (List.take 1 [IV.str (z0b u04++{data:=#[46,46]}++z0b u05)]))) n75 x76 (IntKind.wrap IntKind.i64 (x77+1)) u02 u03 u0a u0b u0c u0d u0e u0f u0g u0h u04 u05 u06 u07 u08 u00 u09 (List.take n6 u01++List.drop 0 (List.take 1 [IV.str (z0b u04++{data:=#[46,46]}++z0b u05)])))) none) none) none) none))))) none) (k (.exit 1) (z2o s4 n6 n75 x76 x77 u02 u03 u0a u0b u0c u0d u0e u0f u0g u0h u04 u05 u06 u07 u08 u00 u09 u01))):=by kernel_rfl
theorem zpa (N:Nat) (s4:ByteArray) (n6 n75:Nat) (x76 x77 u02 u03 u0a u0b u0c u0d u0e u0f u0g u0h u04 u05 u06 u07 u08:Int) (u00:Bool) (u09:Int) (u01:List IV):(z06 1 (kSq (z0r N) (z0i z2f [1,1,1,1,1,1,1]) (z2v (z0r N) none [(ResultVar.tmp 4)] [[.str]]))) (.exit 1) (z2o s4 n6 n75 x76 x77 u02 u03 u0a u0b u0c u0d u0e u0f u0g u0h u04 u05 u06 u07 u08 u00 u09 u01)=(cond (decide ((n6+List.length (List.drop 0 (List.take 2 [IV.str {data:=#[98,117,100,103,101,116]},IV.str (z0l u09)])))*TI.bytes (Env.tyd (z0r N) 9)≤z09)) (cond (decide (List.length (List.drop 0 (List.take (n6+List.length (List.drop 0 (List.take 2 [IV.str {data:=#[98,117,100,103,101,116]},IV.str (z0l u09)]))) (List.take n6 u01++List.drop 0 (List.take 2 [IV.str {data:=#[98,117,100,103,101,116]},IV.str (z0l u09)]))))≤strMax)&&decide (ByteArray.size (zah (List.map IV.toStr (List.drop 0 (List.take (n6+List.length (List.drop 0 (List.take 2 [IV.str {data:=#[98,117,100,103,101,116]},IV.str (z0l u09)]))) (List.take n6 u01++List.drop 0 (List.take 2 [IV.str {data:=#[98,117,100,103,101,116]},IV.str (z0l u09)]))))) {data:=#[32]})≤strMax)) (some ((.str (zah (List.map IV.toStr (List.drop 0 (List.take (n6+List.length (List.drop 0 (List.take 2 [IV.str {data:=#[98,117,100,103,101,116]},IV.str (z0l u09)]))) (List.take n6 u01++List.drop 0 (List.take 2 [IV.str {data:=#[98,117,100,103,101,116]},IV.str (z0l u09)]))))) {data:=#[32]})),[])) none) none):=by kernel_rfl
open Go
theorem y9z (l:List ByteArray) (h:∀ w∈l,w.size≤100):(zah l z4k).size≤101*l.length:=by
 have hs:(zah l z4k).size=(Lib.join (l.map (·.data.toList)) [32]).length:=by
  show (Array.size (List.toArray _))=_;rw [v1k]
 rw [hs];cases l with
 | nil=>simp [Lib.join_nil]
 | cons x r=>
  rw [v0e,Lib.join_length]
  have:∀ (r:List ByteArray),(∀ w∈r,w.size≤100)→Lib.lens (r.map (·.data.toList))≤100*r.length:=fun r=>by
   induction r with
   | nil=>intro _; simp [Lib.lens]
   | cons y r ih=>
    intro h;have h1:=h y (v09 ..);rw [zeg] at h1;have h2:=ih (fun w hw=>h w (v0b _ hw))
    rw [v0e,v05];simp only [Lib.lens,v0e,v3z] at h2 ⊢
    omega
  have:=this (x :: r) h
  rw [v0e] at this;simp only [v05,v15,v0o] at this ⊢
  omega
theorem y9q {a b:Int} (ha:InR a) (hb:InR b):(y8e a b).size≤82:=by
 unfold y8e;have h1:=(ze9 a ha).2;have h2:=(ze9 b hb).2;have h3:ByteArray.size y6f=2:=rfl;rw [v0f,v0f,h3];omega
theorem y69 {n:Int} (h:InR n):(z0l n).size≤21:=zm5 h.1 h.2
structure Qy.In (q:Qy):Prop where
 k:InR q.k
 c:InR q.c
 a0:InR q.a0
 b0:InR q.b0
 a1:InR q.a1
 b1:InR q.b1
 a2:InR q.a2
 b2:InR q.b2
 a3:InR q.a3
 b3:InR q.b3
 a4:InR q.a4
 b4:InR q.b4
 lo:InR q.lo
 hi:InR q.hi
 ft:InR q.ft
 bu:InR q.bu
open Go Go.Proofs
abbrev yjv (q:Qy):Ob:=.box [.int .i64 q.k,.int .i64 q.c,.int .i64 q.a0,.int .i64 q.b0,.int .i64 q.a1,.int .i64 q.b1,.int .i64 q.a2,.int .i64 q.b2,.int .i64 q.a3,.int .i64 q.b3,.int .i64 q.a4,.int .i64 q.b4,.int .i64 q.lo,.int .i64 q.hi,.int .i64 q.ft,.bool q.fl,.int .i64 q.bu]
abbrev stP (q:Qy) (s4:ByteArray) (W:List IV) (D:Nat) (i:Int):St:=⟨[(2,(.ptr 2 0 0)),(4,(.str s4)),(6,(.row 500 0 W.length)),(75,(.bview 2 2 5 2 D)),(76,(.int .i64 (ic D))),(77,(.int .i64 i))],[(2,(some (yjv q))),(500,(some (.row true 9 false [.str] W)))]⟩
theorem y26 (N:Nat):TI.bytes (Env.tyd (z0r N) 9)=16:=by rfl
theorem y80 (N:Nat) (q:Qy) (hq:q.In) (s4:ByteArray) (W:List IV) (hW:W.length≤20) (hs:∀ w∈W,w.toStr.size≤100) (D:Nat) (i:Int) :
  (z06 1 (kSq (z0r N) (z0i z2f [1,1,1,1,1,1,1]) (z2v (z0r N) none [(ResultVar.tmp 4)] [[.str]]))) (.exit 1) (stP q s4 W D i)=some (.str (zah (W.map IV.toStr++[zep,z0l q.bu]) z4k),[]):=by
 refine (zpa N s4 W.length D (ic D) i q.k q.c q.a0 q.b0 q.a1 q.b1 q.a2 q.b2 q.a3 q.b3 q.a4 q.b4 q.lo q.hi q.ft q.fl q.bu W).trans ?_;have e2:(List.drop 0 (List.take 2 [IV.str { data:=#[98,117,100,103,101,116] },IV.str (z0l q.bu)]))=[IV.str { data:=#[98,117,100,103,101,116] },IV.str (z0l q.bu)]:=rfl;rw [y26,e2,v0w];have e3:List.drop 0 (List.take (W.length+List.length [IV.str { data:=#[98,117,100,103,101,116] },IV.str (z0l q.bu)]) (W++[IV.str { data:=#[98,117,100,103,101,116] },IV.str (z0l q.bu)]))=W++[IV.str { data:=#[98,117,100,103,101,116] },IV.str (z0l q.bu)]:=by
  rw [v11,v1a (by simp)]
 rw [e3];have e4:List.map IV.toStr (W++[IV.str { data:=#[98,117,100,103,101,116] },IV.str (z0l q.bu)])=W.map IV.toStr++[zep,z0l q.bu]:=by simp [IV.toStr]
 rw [e4];have hz:=y9z (W.map IV.toStr++[zep,z0l q.bu]) (fun w hw=>by
  rcases v0k.1 hw with h | h
  ·obtain ⟨x,hx,rfl⟩:=List.mem_map.1 h
   exact hs x hx
  ·simp only [v13,v1q,v3i] at h
   rcases h with rfl | rfl
   ·decide
   ·have:=y69 hq.bu
    omega)
 simp only [v0a,v15,v05,v0o] at hz ⊢
 rw [v01 (show (W.length+(0+1+1))*16≤z09 by unfold z09; omega),z00,v01 (show W.length+(0+1+1)≤strMax by unfold strMax; omega),
  v01 (show ByteArray.size (zah (W.map IV.toStr++[zep,z0l q.bu]) { data:=#[32] })≤strMax from v1m hz (by unfold strMax; omega)),v1f,z00]
def yj4 (a b:Int):IV:=.str (y8e a b)
theorem y59 (N:Nat) (q:Qy) (s4:ByteArray) (W:List IV) (hW:W.length≤20) (D i:Nat) (hiD:i < D) (a b:Int) (again:St→Res) (k:Out→St→Res) (ha:InR a) (hb:InR b)
  (hab:(i=0∧a=q.a0∧b=q.b0)∨(i=1∧a=q.a1∧b=q.b1)∨(i=2∧a=q.a2∧b=q.b2)∨(i=3∧a=q.a3∧b=q.b3)) :
  rnd (z0r N) (z0i z2f [1,1,1,1,1,1,0,1,0,0]) (stP q s4 W D (i:Int)) (z3v again ⟨[2,4,6,75,76,77],[2,500],[⟨.tmp 6,500,9,false,[.str]⟩]⟩ k)=again (stP q s4 (W++[yj4 a b]) D ((i+1:Nat):Int)):=by
 refine (zij N s4 W.length D (ic D) i q.k q.c q.a0 q.b0 q.a1 q.b1 q.a2 q.b2 q.a3 q.b3 q.a4 q.b4 q.lo q.hi q.ft q.fl q.bu W again k).trans ?_;have d1:decide ((i:Int) < ic D)=true:=v01 (by simp only [ic]; omega)
 rw [d1,z00,z00];have h3:ByteArray.size { data:=#[46,46] }=2:=rfl;have sz:∀ x y:Int,InR x→InR y→decide (ByteArray.size (z0b x)+ByteArray.size { data:=#[46,46] }≤strMax)=true∧decide (ByteArray.size (z0b x++{ data:=#[46,46] })+ByteArray.size (z0b y)≤strMax)=true:=fun x y hx hy=>by
  have h1:=(ze9 x hx).2;have h2:=(ze9 y hy).2;refine ⟨v01 (by rw [h3]; unfold strMax; omega),v01 (by rw [v0f,h3]; unfold strMax; omega)⟩
 have e1:∀ x:IV,(List.drop 0 (List.take 1 [x]))=[x]:=fun _=>rfl
 have g16:∀ x:IV,decide ((W.length+List.length [x])*TI.bytes (Env.tyd (z0r N) 9)≤z09)=true:=fun x=>v01 (by rw [y26]; simp only [v05,v0o]; unfold z09; omega)
 have hl:∀ x:IV,W.length+List.length [x]=(W++[x]).length:=fun x=>by simp
 obtain ⟨s1,s2⟩:=sz a b ha hb;simp only [e1,g16,z00,v0w];rcases hab with ⟨rfl,rfl,rfl⟩ | ⟨rfl,rfl,rfl⟩ | ⟨rfl,rfl,rfl⟩ | ⟨rfl,rfl,rfl⟩
 ·rw [s1,s2,show decide (((0:Nat):Int)=ic 0)=true from rfl,z00,z00,z00,hl]
  rfl
 ·rw [s1,s2,show decide (((1:Nat):Int)=ic 0)=false from rfl,show decide (((1:Nat):Int)=ic 1)=true from rfl,z02,z00,z00,z00,hl]
  rfl
 ·rw [s1,s2,show decide (((2:Nat):Int)=ic 0)=false from rfl,show decide (((2:Nat):Int)=ic 1)=false from rfl,show decide (((2:Nat):Int)=ic 2)=true from rfl,z02,z02,z00,z00,z00,hl]
  rfl
 ·rw [s1,s2,show decide (((3:Nat):Int)=ic 0)=false from rfl,show decide (((3:Nat):Int)=ic 1)=false from rfl,show decide (((3:Nat):Int)=ic 2)=false from rfl,show decide (((3:Nat):Int)=ic 3)=true from rfl,z02,z02,z02,z00,z00,z00,hl]
  rfl
theorem zzj (N:Nat) (q:Qy) (hq:q.In) (s4:ByteArray) (D:Nat) (hD:D≤4) :
  ∀ (d i n:Nat) (W:List IV),i+d=D→d < n→W.length+d≤20→(∀ w∈W,w.toStr.size≤100) →
   lpE (z0r N) (z0i z2f [1,1,1,1,1,1,0,1,0,0]) ⟨[2,4,6,75,76,77],[2,500],[⟨.tmp 6,500,9,false,[.str]⟩]⟩ n (stP q s4 W D (i:Int)) (z06 1 (kSq (z0r N) (z0i z2f [1,1,1,1,1,1,1]) (z2v (z0r N) none [(ResultVar.tmp 4)] [[.str]]))) =
    some (.str (zah (W.map IV.toStr++(((q.spans.take D).drop i).map fun s=>y8e s.1 s.2)++[zep,z0l q.bu]) z4k),[])
 | 0,i,n+1,W,hd,hn,hW,hs=>by
  have hi:i=D:=by omega
  rw [z05];refine (zij N s4 W.length D (ic D) i q.k q.c q.a0 q.b0 q.a1 q.b1 q.a2 q.b2 q.a3 q.b3 q.a4 q.b4 q.lo q.hi q.ft q.fl q.bu W _ _).trans ?_;rw [v07 (show ¬ (i:Int) < ic D by simp only [ic]; omega),z02]
  refine (y80 N q hq s4 W (by omega) hs D i).trans ?_
  rw [v1b (by rw [v0h]; omega)]
  simp
 | d+1,i,n+1,W,hd,hn,hW,hs=>by
  obtain ⟨a,b,ha,hb,hab,hsp⟩:∃ a b,InR a∧InR b∧((i=0∧a=q.a0∧b=q.b0)∨(i=1∧a=q.a1∧b=q.b1)∨(i=2∧a=q.a2∧b=q.b2)∨(i=3∧a=q.a3∧b=q.b3))∧(q.spans.take D).drop i=(a,b) :: (q.spans.take D).drop (i+1):=by
   have hi:i=0∨i=1∨i=2∨i=3:=by omega
   have hDD:D=0∨D=1∨D=2∨D=3∨D=4:=by omega
   rcases hi with rfl | rfl | rfl | rfl
   ·exact ⟨q.a0,q.b0,hq.a0,hq.b0,.inl ⟨rfl,rfl,rfl⟩,by rcases hDD with rfl | rfl | rfl | rfl | rfl <;> first | rfl | omega⟩
   ·exact ⟨q.a1,q.b1,hq.a1,hq.b1,.inr (.inl ⟨rfl,rfl,rfl⟩),by rcases hDD with rfl | rfl | rfl | rfl | rfl <;> first | rfl | omega⟩
   ·exact ⟨q.a2,q.b2,hq.a2,hq.b2,.inr (.inr (.inl ⟨rfl,rfl,rfl⟩)),by rcases hDD with rfl | rfl | rfl | rfl | rfl <;> first | rfl | omega⟩
   ·exact ⟨q.a3,q.b3,hq.a3,hq.b3,.inr (.inr (.inr ⟨rfl,rfl,rfl⟩)),by rcases hDD with rfl | rfl | rfl | rfl | rfl <;> first | rfl | omega⟩
  rw [z05,y59 N q s4 W (by omega) D i (by omega) a b _ _ ha hb hab,hsp]
  have ih:=zzj N q hq s4 D hD d (i+1) n (W++[yj4 a b]) (by omega) (by omega) (by simp only [v0a,v05,v0o]; omega) (fun w hw=>by
   rcases v0k.1 hw with h | h
   ·exact hs w h
   ·rw [v28] at h
    subst h
    have:=y9q ha hb
    simp only [yj4,IV.toStr];omega)
  refine ih.trans ?_;simp [yj4,IV.toStr]
 | _,_,0,_,_,h,_,_=>by omega
theorem zz8:z2u PR B0 18 zct:=by
 refine z0f [(42,zcx),(41,ze5),(44,z68),(43,z2x),(45,z6p)] [(18,⟨[2,4,6,75,76,77],[2,500],[⟨.tmp 6,500,9,false,[.str]⟩]⟩)] zct [[.str]] Tryz.func18 y5q
  ⟨zz6,y0m,zez,z8h,zft,trivial⟩ ?_
 intro vs r hwf h;unfold zct at h
 split at h
 ·rename_i k c a0 b0 a1 b1 a2 b2 a3 b3 a4 b4 lo hi ft fl bu d
  refine ⟨20,?_⟩;rw [R.get_ok] at h;rw [← h];refine (y0t 20 k c a0 b0 a1 b1 a2 b2 a3 b3 a4 b4 lo hi ft fl bu d).trans ?_;have hb:=hwf (by simp [zbw])
  have hq:Qy.In ⟨k,c,a0,b0,a1,b1,a2,b2,a3,b3,a4,b4,lo,hi,ft,fl,bu⟩:=by
   have:=hb.1
   simp only [wfV,wfLs,wfL,v18,v43] at this;obtain ⟨h1,h2,h3,h4,h5,h6,h7,h8,h9,h10,h11,h12,h13,h14,h15,h16⟩:=this;exact ⟨h1,h2,h3,h4,h5,h6,h7,h8,h9,h10,h11,h12,h13,h14,h15,h16⟩
  show cond (decide (d < 1)) _ (cond (decide (d > 4)) _ (cond _ (cond (!(Qy.eq ⟨k,c,a0,b0,a1,b1,a2,b2,a3,b3,a4,b4,lo,hi,ft,fl,bu⟩ (zfm ⟨k,c,a0,b0,a1,b1,a2,b2,a3,b3,a4,b4,lo,hi,ft,fl,bu⟩ d))) _ _) _))=_;generalize hQ:(⟨k,c,a0,b0,a1,b1,a2,b2,a3,b3,a4,b4,lo,hi,ft,fl,bu⟩:Qy)=q at hq ⊢
  unfold y36 okQ;cases h1:decide (d < 1) with
  | true=>simp only [z00,z02,v0c,v0v]
  | false=>
   cases h4:decide (d > 4) with
   | true=>simp only [z00,z02,v0c,v0i,v0v,v2b]
   | false=>
    have h1:=v0t h1;have h4:=v0t h4;rw [v01 (show 0≤d by omega),v01 (show d≤5 by omega),v01 (show d≤ic 5 by simp only [ic]; omega)]
    simp only [v1f,z00,z02,v0i,v0r];cases he:q.eq (zfm q d) with
    | false=>simp only [v0i,z00,z02,v0v]
    | true=>
     have ec:q.c=c:=by rw [← hQ]
     have ef:q.ft=ft:=by rw [← hQ]
     have eb:q.bu=bu:=by rw [← hQ]
     have ek:q.k=k:=by rw [← hQ]
     rw [ec,ef,eb,ek];cases hc:zh7 c with
     | false=>simp only [v0c,v0i,z00,z02,v0v,v0r]
     | true=>
      cases hf:zh7 ft with
      | false=>simp only [v0c,v0i,z00,z02,v0v,v0r]
      | true=>
       cases hbu:zh7 bu with
       | false=>simp only [v0c,v0i,z00,z02,v0v,v0r]
       | true=>
        simp only [v0c,z02,v0r];have hDn:d.toNat≤4:=by omega
        have run:=fun (W:List IV) (hW:W.length≤16) (hs:∀ w∈W,w.toStr.size≤100)=>zzj 20 q hq ⟨#[]⟩ d.toNat hDn d.toNat 0 20 W (by omega) (by omega) (by omega) hs
        have zi:∀ {n:Int},InR n→(z0l n).size≤100:=fun h=>by have:=y69 h; omega
        have zp:∀ {n:Int},InR n→(z0b n).size≤100:=fun h=>by have:=(ze9 _ h).2; omega
        have fin:∀ (W:List IV) (l:List ByteArray),W.map IV.toStr=l++[yf7]→y9r q=l→zah (W.map IV.toStr++(((q.spans.take d.toNat).drop 0).map fun s=>y8e s.1 s.2)++[zep,z0l q.bu]) z4k=zah (yc2 q d.toNat) z4k:=fun W l hWl hl=>by
         unfold yc2;rw [hWl,hl,v11];simp
        subst hQ;cases k1:(k==1) with
        | true=>
         simp only [z00,v3x];refine (run [IV.str zmf,IV.str (z0l c),IV.str ycq,IV.str (z0b lo),IV.str yjw,IV.str (z0b hi),IV.str yf7] (by simp) (fun w hw=>?_)).trans ?_
         ·simp only [v13,v1q,v3i] at hw
          rcases hw with rfl | rfl | rfl | rfl | rfl | rfl | rfl
          ·decide
          ·exact zi hq.c
          ·decide
          ·exact zp hq.lo
          ·decide
          ·exact zp hq.hi
          ·decide
         ·rw [fin _ [zmf,z0l c,ycq,z0b lo,yjw,z0b hi] rfl (by unfold y9r; simp only [k1,z00])]
        | false=>
         simp only [z02,v2g];cases k2:(k==2) with
         | true=>
          simp only [z00,v3x];refine (run [IV.str zvk,IV.str (z0l c),IV.str yf7] (by simp) (fun w hw=>?_)).trans ?_
          ·simp only [v13,v1q,v3i] at hw
           rcases hw with rfl | rfl | rfl
           ·decide
           ·exact zi hq.c
           ·decide
          ·rw [fin _ [zvk,z0l c] rfl (by unfold y9r; simp only [k1,k2,z00,z02])]
         | false=>
          simp only [z02,v2g];cases k3:(k==3) with
          | false=>simp only [z02]
          | true=>
           simp only [z00];cases fl with
           | true=>
            simp only [z00];refine (run [IV.str zjo,IV.str (z0l c),IV.str yit,IV.str (z0l ft),IV.str yf7] (by simp) (fun w hw=>?_)).trans ?_
            ·simp only [v13,v1q,v3i] at hw
             rcases hw with rfl | rfl | rfl | rfl | rfl
             ·decide
             ·exact zi hq.c
             ·decide
             ·exact zi hq.ft
             ·decide
            ·rw [fin _ [zjo,z0l c,yit,z0l ft] rfl (by unfold y9r; simp only [k1,k2,z00,z02])]
           | false=>
            simp only [z02];refine (run [IV.str zn6,IV.str (z0l c),IV.str yit,IV.str (z0l ft),IV.str yf7] (by simp) (fun w hw=>?_)).trans ?_
            ·simp only [v13,v1q,v3i] at hw
             rcases hw with rfl | rfl | rfl | rfl | rfl
             ·decide
             ·exact zi hq.c
             ·decide
             ·exact zi hq.ft
             ·decide
            ·rw [fin _ [zn6,z0l c,yit,z0l ft] rfl (by unfold y9r; simp only [k1,k2,z02])]
 ·simp [R.get] at h
end Go.FM
