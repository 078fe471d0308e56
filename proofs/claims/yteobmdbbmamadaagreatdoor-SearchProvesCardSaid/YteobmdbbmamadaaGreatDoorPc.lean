/-
  A small machine that reads a function of the program and reckons what a call of it comes to; what Go's library on the road comes to; the functions of the program, one by one. No conditions beyond each specification's own. (THE PROGRAM's TABLES: its types, and its functions' codes (w, THE LIBRARY's strings.Builder AS THE SMALL MACHINE SEES IT: , DERIVED: THE SHELF's CONTRACTS AT THIS DUMP, IN PLAIN WORDS , and so on.)
-/
import Derived.Test.YteobmdbbmamadaaGreatDoorPb
import Derived.Test.YteobmdbbmamadaaGreatDoorProg
import Derived.Shelf.Strings.BuilderK
import Derived.Shelf.Strings.Builder1
import Derived.Shelf.Small.Bits
import Derived.Shelf.Strings.BuilderF
import Derived.Shelf.Strconv.Atoi
import Derived.Shelf.Strconv.Itoa0
import Derived.Shelf.Strconv.Itoa1
import Derived.Shelf.LaysM
import Derived.Shelf.Strconv.Itoa2
import Derived.Shelf.Strconv.Itoa3
import Derived.Shelf.Strconv.AtoiErrFast
import Derived.Shelf.Strconv.ParseIntEmpty
import Derived.Shelf.Strconv.AtoiFail
import Derived.Shelf.Strconv.Clone
import Derived.Shelf.Strconv.SyntaxError
import Derived.Shelf.LaysC
import Derived.Shelf.Strconv.ToError
import Derived.Shelf.Strconv.Lower
import Derived.Shelf.Strconv.ParseUint10
import Derived.Shelf.Strconv.ParseUint10Empty
import Derived.Shelf.Strconv.ParseUint10Any
import Derived.Shelf.Strconv.ParseInt10
import Derived.Shelf.Strconv.AtoiLong
import Derived.Shelf.Strconv.AtoiInnerAll
import Derived.Shelf.Strconv.RangeError
import Derived.Shelf.Strconv.ToErrorRange
import Derived.Shelf.Strconv.AtoiAll
import Derived.Shelf.Strconv.ErrVarAll
import Derived.Shelf.Strconv.ParseUint10b64
import Derived.Shelf.Strings.Search1
import Derived.Shelf.Strings.Search2
import Derived.Shelf.Strings.Search3
import Derived.Shelf.Strings.Cut
import Derived.Shelf.Strings.Count
import Derived.Shelf.Strings.Shaped
import Derived.Shelf.Sort.Plain
import Derived.Shelf.Strings.Split
import Derived.Shelf.Strings.SplitShaped
import Derived.Shelf.Unicode.Decode
import Derived.Shelf.Strings.RuneCount
import Derived.Shelf.Strings.Explode
import Derived.Shelf.Unicode.DecodeSlow
import Derived.Ground.Names2Prog
import Derived.Shelf.Slices.CompactI
import Derived.Shelf.Slices.Cells
import Derived.Shelf.Slices.In.SortNone
import Derived.Ground.SlgnProg
import Derived.Shelf.SlicesE.Compact
import Derived.Ground.SlgfProg
import Derived.Shelf.SlicesE.IndexFunc
import Derived.Shelf.SlicesE.DeleteFunc
import Derived.Lib.AppendIntMem

namespace Go.FM
open Go Go.Proofs
def ybv:List (Nat × TI):=[
  (2,⟨1,8,false,[.int .i64],[.int .i64 0],.leaf⟩),
  (3,⟨1,8,false,[.int .i64],[.int .i64 0],.leaf⟩),
  (4,⟨1,1,false,[.bool],[.bool false],.leaf⟩),
  (5,⟨1,1,false,[.int .u8],[.int .u8 0],.leaf⟩),
  (6,⟨1,1,false,[.int .u8],[.int .u8 0],.leaf⟩),
  (7,⟨4,24,true,[.int .i64,.int .i64,.bool,.int .u8],[.int .i64 0,.int .i64 0,.bool false,.int .u8 0],.struct [(0,2),(1,3),(2,4),(3,6)]⟩),
  (9,⟨1,16,false,[.str],[.str ⟨#[]⟩],.leaf⟩),
  (22,⟨1,24,false,[.list false [.int .i64]],[.zs],.slice 3⟩),
  (23,⟨1,24,false,[.list true [.int .i64,.list false [.int .i64],.list false [.int .i64],.list false [.int .i64],.list false [.int .i64]]],[.zs],.slice 57⟩),
  (25,⟨4,64,true,[.int .i64,.int .i64,.list false [.int .i64],.list true [.int .i64,.list false [.int .i64],.list false [.int .i64],.list false [.int .i64],.list false [.int .i64]]],[.int .i64 0,.int .i64 0,.zs,.zs],.struct [(0,3),(1,3),(2,22),(3,23)]⟩),
  (27,⟨8,80,true,[.int .i64,.int .i64,.int .i64,.int .i64,.int .i64,.int .i64,.bool,.list false [.int .i64]],[.int .i64 0,.int .i64 0,.int .i64 0,.int .i64 0,.int .i64 0,.int .i64 0,.bool false,.zs],.struct [(0,3),(1,3),(2,3),(3,3),(4,3),(5,3),(6,4),(7,22)]⟩),
  (28,⟨3,24,true,[.int .i64,.int .i64,.int .i64],[.int .i64 0,.int .i64 0,.int .i64 0],.array 3 3⟩),
  (29,⟨1,24,false,[.list true [.int .i64,.list false [.int .u64]]],[.zs],.slice 61⟩),
  (31,⟨6,64,true,[.int .i64,.int .i64,.int .i64,.int .i64,.int .i64,.list true [.int .i64,.list false [.int .u64]]],[.int .i64 0,.int .i64 0,.int .i64 0,.int .i64 0,.int .i64 0,.zs],.struct [(0,3),(1,3),(2,28),(5,29)]⟩),
  (34,⟨2,16,true,[.int .i64,.int .i64],[.int .i64 0,.int .i64 0],.struct [(0,3),(1,3)]⟩),
  (36,⟨10,80,true,[.int .i64,.int .i64,.int .i64,.int .i64,.int .i64,.int .i64,.int .i64,.int .i64,.int .i64,.int .i64],[.int .i64 0,.int .i64 0,.int .i64 0,.int .i64 0,.int .i64 0,.int .i64 0,.int .i64 0,.int .i64 0,.int .i64 0,.int .i64 0],.array 5 34⟩),
  (38,⟨17,136,true,[.int .i64,.int .i64,.int .i64,.int .i64,.int .i64,.int .i64,.int .i64,.int .i64,.int .i64,.int .i64,.int .i64,.int .i64,.int .i64,.int .i64,.int .i64,.bool,.int .i64],[.int .i64 0,.int .i64 0,.int .i64 0,.int .i64 0,.int .i64 0,.int .i64 0,.int .i64 0,.int .i64 0,.int .i64 0,.int .i64 0,.int .i64 0,.int .i64 0,.int .i64 0,.int .i64 0,.int .i64 0,.bool false,.int .i64 0],.struct [(0,3),(1,3),(2,36),(12,3),(13,3),(14,3),(15,4),(16,3)]⟩),
  (41,⟨1,24,false,[.list true [.bool,.int .i64,.int .i64]],[.zs],.slice 83⟩),
  (43,⟨4,32,true,[.int .i64,.int .i64,.int .i64,.int .i64],[.int .i64 0,.int .i64 0,.int .i64 0,.int .i64 0],.array 4 3⟩),
  (45,⟨8,80,true,[.int .i64,.list true [.bool,.int .i64,.int .i64],.int .i64,.int .i64,.int .i64,.int .i64,.int .i64,.int .i64],[.int .i64 0,.zs,.int .i64 0,.int .i64 0,.int .i64 0,.int .i64 0,.int .i64 0,.int .i64 0],.struct [(0,3),(1,41),(2,43),(6,3),(7,3)]⟩),
  (57,⟨5,104,true,[.int .i64,.list false [.int .i64],.list false [.int .i64],.list false [.int .i64],.list false [.int .i64]],[.int .i64 0,.zs,.zs,.zs,.zs],.struct [(0,3),(1,22),(2,22),(3,22),(4,22)]⟩),
  (58,⟨1,24,false,[.list false [.int .u64]],[.zs],.slice 89⟩),
  (61,⟨2,32,true,[.int .i64,.list false [.int .u64]],[.int .i64 0,.zs],.struct [(0,3),(1,58)]⟩),
  (63,⟨1,8,false,[.list false []],[.nilp],.ptr 92⟩),
  (68,⟨1,24,false,[.list true [.int .i64,.int .i64,.int .i64,.int .i64,.int .i64,.int .i64,.int .i64,.int .i64,.int .i64,.int .i64]],[.zs],.slice 36⟩),
  (77,⟨1,8,false,[.list false []],[.nilp],.ptr 80⟩),
  (78,⟨1,24,false,[.list false [.int .u8]],[.zs],.slice 5⟩),
  (80,⟨2,32,true,[.list false [],.list false [.int .u8]],[.nilp,.zs],.bld⟩),
  (83,⟨3,24,true,[.bool,.int .i64,.int .i64],[.bool false,.int .i64 0,.int .i64 0],.struct [(0,4),(1,3),(2,3)]⟩),
  (87,⟨6,48,true,[.bool,.int .i64,.int .i64,.int .i64,.int .i64,.int .i64],[.bool false,.int .i64 0,.int .i64 0,.int .i64 0,.int .i64 0,.int .i64 0],.struct [(0,4),(1,3),(2,3),(3,3),(4,3),(5,3)]⟩),
  (88,⟨1,24,false,[.list true [.bool,.int .i64,.int .i64,.int .i64,.int .i64,.int .i64]],[.zs],.slice 87⟩),
  (89,⟨1,8,false,[.int .u64],[.int .u64 0],.leaf⟩),
  (92,⟨34,336,true,[.int .i64,.int .i64,.int .i64,.int .i64,.int .i64,.list true [.int .i64,.list false [.int .u64]],.int .i64,.int .i64,.int .i64,.int .i64,.int .i64,.int .i64,.int .i64,.int .i64,.int .i64,.int .i64,.int .i64,.int .i64,.int .i64,.int .i64,.int .i64,.bool,.int .i64,.list true [.int .i64,.int .i64,.int .i64,.int .i64,.int .i64,.int .i64,.int .i64,.int .i64,.int .i64,.int .i64],.list true [.bool,.int .i64,.int .i64],.int .i64,.list true [.bool,.int .i64,.int .i64],.int .i64,.int .i64,.int .i64,.int .i64,.int .i64,.int .i64,.int .i64],[.int .i64 0,.int .i64 0,.int .i64 0,.int .i64 0,.int .i64 0,.zs,.int .i64 0,.int .i64 0,.int .i64 0,.int .i64 0,.int .i64 0,.int .i64 0,.int .i64 0,.int .i64 0,.int .i64 0,.int .i64 0,.int .i64 0,.int .i64 0,.int .i64 0,.int .i64 0,.int .i64 0,.bool false,.int .i64 0,.zs,.zs,.int .i64 0,.zs,.int .i64 0,.int .i64 0,.int .i64 0,.int .i64 0,.int .i64 0,.int .i64 0,.int .i64 0],.struct [(0,31),(6,38),(23,68),(24,41),(25,45),(33,3)]⟩),
  (112,⟨1,24,false,[.list false [.str]],[.zs],.slice 9⟩),
  (116,⟨1,16,false,[.list false []],[.err true],.iface⟩),
  (123,⟨1,8,false,[.int .u64],[.int .u64 0],.leaf⟩),
  (151,⟨11,88,true,[.int .i64,.int .i64,.int .i64,.int .i64,.int .i64,.int .i64,.int .i64,.int .i64,.int .i64,.int .i64,.int .i64],[.int .i64 0,.int .i64 0,.int .i64 0,.int .i64 0,.int .i64 0,.int .i64 0,.int .i64 0,.int .i64 0,.int .i64 0,.int .i64 0,.int .i64 0],.struct [(0,3),(1,36)]⟩),
  (152,⟨1,24,false,[.list true [.int .i64,.int .i64,.int .i64,.int .i64,.int .i64,.int .i64,.int .i64,.int .i64,.int .i64,.int .i64,.int .i64]],[.zs],.slice 151⟩),
  (160,⟨1,24,false,[.list true [.int .i64,.int .i64,.int .i64,.int .i64,.int .i64,.int .i64,.int .i64,.int .i64,.int .i64,.int .i64,.int .i64]],[.zs],.slice 163⟩),
  (163,⟨11,88,true,[.int .i64,.int .i64,.int .i64,.int .i64,.int .i64,.int .i64,.int .i64,.int .i64,.int .i64,.int .i64,.int .i64],[.int .i64 0,.int .i64 0,.int .i64 0,.int .i64 0,.int .i64 0,.int .i64 0,.int .i64 0,.int .i64 0,.int .i64 0,.int .i64 0,.int .i64 0],.struct [(0,36),(10,3)]⟩)]
def yg0:List Nat:=[34,43,83,87]
noncomputable abbrev PR:Program:=Tryz.prog
theorem yhx:yi4 PR 80 ybv=true:=by kernel_rfl
theorem yid:yik PR ybv yg0=true:=by kernel_rfl
theorem yi2:PR.follows .mixedOrders=true:=by kernel_rfl
theorem yi9:∃ i,PR.info? 80=some i∧i.zero=some (.agg #[.pointer none,.slice none 0 0]):=by
  refine ⟨(PR.info? 80).getD default,by kernel_rfl,by kernel_rfl⟩
theorem y9w (h:(lkd TI.none ybv 80).d = .bld):∃ i,PR.info? 80=some i∧i.zero=some (.agg #[.pointer none,.slice none 0 0]):=yi9
def mkE (sp:List (Nat × z0x)) (lp:List (Nat × KP)) (nt N:Nat):Env:=⟨ybv,sp,[],lp,nt,N,yg0,[]⟩
def mkI (sp:List (Nat × z0x)) (ip:List (Nat × Ip)) (lp:List (Nat × KP)) (nt N:Nat):Env:=⟨ybv,sp,[],lp,nt,N,yg0,ip⟩
noncomputable abbrev z39:Func:=Tryz.f3
noncomputable def z7d:Code:=z0n Tryz.f3
theorem zdm:(z39.name == "runtime.NumGoroutine")=false∧z39.body=some z7d∧z39.ntmps=99∧Nat.ble 99 900000=true∧z39.results.toList=[.tmp 6]:=⟨by kernel_rfl,by kernel_rfl,by kernel_rfl,by kernel_rfl,by kernel_rfl⟩
noncomputable abbrev z3i:Func:=Tryz.f4
noncomputable def z0e:Code:=z0n Tryz.f4
theorem ze6:(z3i.name == "runtime.NumGoroutine")=false∧z3i.body=some z0e∧z3i.ntmps=63∧Nat.ble 63 900000=true∧z3i.results.toList=[.cell 2 31]:=⟨by kernel_rfl,by kernel_rfl,by kernel_rfl,by kernel_rfl,by kernel_rfl⟩
noncomputable abbrev z4s:Func:=Tryz.f5
noncomputable def za2:Code:=z0n Tryz.f5
theorem zhr:(z4s.name == "runtime.NumGoroutine")=false∧z4s.body=some za2∧z4s.ntmps=58∧Nat.ble 58 900000=true∧z4s.results.toList=[.cell 4 38]:=⟨by kernel_rfl,by kernel_rfl,by kernel_rfl,by kernel_rfl,by kernel_rfl⟩
noncomputable abbrev z5w:Func:=Tryz.f6
noncomputable def zcz:Code:=z0n Tryz.f6
theorem zln:(z5w.name == "runtime.NumGoroutine")=false∧z5w.body=some zcz∧z5w.ntmps=24∧Nat.ble 24 900000=true∧z5w.results.toList=[.tmp 6]:=⟨by kernel_rfl,by kernel_rfl,by kernel_rfl,by kernel_rfl,by kernel_rfl⟩
noncomputable abbrev zcp:Func:=Tryz.f7
noncomputable def z5g:Code:=z0n Tryz.f7
theorem y1z:(zcp.name == "runtime.NumGoroutine")=false∧zcp.body=some z5g∧zcp.ntmps=13∧Nat.ble 13 900000=true∧zcp.results.toList=[.cell 4 45]:=⟨by kernel_rfl,by kernel_rfl,by kernel_rfl,by kernel_rfl,by kernel_rfl⟩
noncomputable abbrev z9q:Func:=Tryz.f8
noncomputable def z1a:Code:=z0n Tryz.f8
theorem ztv:(z9q.name == "runtime.NumGoroutine")=false∧z9q.body=some z1a∧z9q.ntmps=59∧Nat.ble 59 900000=true∧z9q.results.toList=[.tmp 6]:=⟨by kernel_rfl,by kernel_rfl,by kernel_rfl,by kernel_rfl,by kernel_rfl⟩
noncomputable abbrev zb9:Func:=Tryz.f9
noncomputable def zl2:Code:=z0n Tryz.f9
theorem zxy:(zb9.name == "runtime.NumGoroutine")=false∧zb9.body=some zl2∧zb9.ntmps=6∧Nat.ble 6 900000=true∧zb9.results.toList=[.tmp 2]:=⟨by kernel_rfl,by kernel_rfl,by kernel_rfl,by kernel_rfl,by kernel_rfl⟩
noncomputable abbrev zdc:Func:=Tryz.f10
noncomputable def zor:Code:=z0n Tryz.f10
theorem y1f:(zdc.name == "runtime.NumGoroutine")=false∧zdc.body=some zor∧zdc.ntmps=17∧Nat.ble 17 900000=true∧zdc.results.toList=[.cell 2 45,.tmp 3]:=⟨by kernel_rfl,by kernel_rfl,by kernel_rfl,by kernel_rfl,by kernel_rfl⟩
noncomputable abbrev zda:Func:=Tryz.f11
noncomputable def z6f:Code:=z0n Tryz.f11
theorem zzq:(zda.name == "runtime.NumGoroutine")=false∧zda.body=some z6f∧zda.ntmps=61∧Nat.ble 61 900000=true∧zda.results.toList=[.tmp 2]:=⟨by kernel_rfl,by kernel_rfl,by kernel_rfl,by kernel_rfl,by kernel_rfl⟩
noncomputable abbrev z50:Func:=Tryz.f12
noncomputable def zb0:Code:=z0n Tryz.f12
theorem zim:(z50.name == "runtime.NumGoroutine")=false∧z50.body=some zb0∧z50.ntmps=38∧Nat.ble 38 900000=true∧z50.results.toList=[.tmp 4]:=⟨by kernel_rfl,by kernel_rfl,by kernel_rfl,by kernel_rfl,by kernel_rfl⟩
noncomputable abbrev z3u:Func:=Tryz.f13
noncomputable def z8x:Code:=z0n Tryz.f13
theorem zev:(z3u.name == "runtime.NumGoroutine")=false∧z3u.body=some z8x∧z3u.ntmps=60∧Nat.ble 60 900000=true∧z3u.results.toList=[.tmp 0]:=⟨by kernel_rfl,by kernel_rfl,by kernel_rfl,by kernel_rfl,by kernel_rfl⟩
noncomputable abbrev z7p:Func:=Tryz.f14
noncomputable def zg7:Code:=z0n Tryz.f14
theorem zph:(z7p.name == "runtime.NumGoroutine")=false∧z7p.body=some zg7∧z7p.ntmps=15∧Nat.ble 15 900000=true∧z7p.results.toList=[.tmp 4]:=⟨by kernel_rfl,by kernel_rfl,by kernel_rfl,by kernel_rfl,by kernel_rfl⟩
noncomputable abbrev z4f:Func:=Tryz.f15
noncomputable def z0g:Code:=z0n Tryz.f15
theorem zgf:(z4f.name == "runtime.NumGoroutine")=false∧z4f.body=some z0g∧z4f.ntmps=113∧Nat.ble 113 900000=true∧z4f.results.toList=[.tmp 4]:=⟨by kernel_rfl,by kernel_rfl,by kernel_rfl,by kernel_rfl,by kernel_rfl⟩
noncomputable abbrev z5y:Func:=Tryz.f16
noncomputable def z1z:Code:=z0n Tryz.f16
theorem zlr:(z5y.name == "runtime.NumGoroutine")=false∧z5y.body=some z1z∧z5y.ntmps=32∧Nat.ble 32 900000=true∧z5y.results.toList=[.cell 4 36]:=⟨by kernel_rfl,by kernel_rfl,by kernel_rfl,by kernel_rfl,by kernel_rfl⟩
noncomputable abbrev zcs:Func:=Tryz.f17
noncomputable def zof:Code:=z0n Tryz.f17
theorem y0c:(zcs.name == "runtime.NumGoroutine")=false∧zcs.body=some zof∧zcs.ntmps=26∧Nat.ble 26 900000=true∧zcs.results.toList=[.tmp 4]:=⟨by kernel_rfl,by kernel_rfl,by kernel_rfl,by kernel_rfl,by kernel_rfl⟩
noncomputable abbrev z52:Func:=Tryz.f18
noncomputable def z3r:Code:=z0n Tryz.f18
theorem ziu:(z52.name == "runtime.NumGoroutine")=false∧z52.body=some z3r∧z52.ntmps=165∧Nat.ble 165 900000=true∧z52.results.toList=[.tmp 2]:=⟨by kernel_rfl,by kernel_rfl,by kernel_rfl,by kernel_rfl,by kernel_rfl⟩
noncomputable abbrev z41:Func:=Tryz.f19
noncomputable def z2s:Code:=z0n Tryz.f19
theorem zfp:(z41.name == "runtime.NumGoroutine")=false∧z41.body=some z2s∧z41.ntmps=22∧Nat.ble 22 900000=true∧z41.results.toList=[.cell 2 45]:=⟨by kernel_rfl,by kernel_rfl,by kernel_rfl,by kernel_rfl,by kernel_rfl⟩
noncomputable abbrev zb8:Func:=Tryz.f20
noncomputable def zlf:Code:=z0n Tryz.f20
theorem zxd:(zb8.name == "runtime.NumGoroutine")=false∧zb8.body=some zlf∧zb8.ntmps=41∧Nat.ble 41 900000=true∧zb8.results.toList=[.tmp 4]:=⟨by kernel_rfl,by kernel_rfl,by kernel_rfl,by kernel_rfl,by kernel_rfl⟩
noncomputable abbrev zb7:Func:=Tryz.f21
noncomputable def zla:Code:=z0n Tryz.f21
theorem zy9:(zb7.name == "runtime.NumGoroutine")=false∧zb7.body=some zla∧zb7.ntmps=16∧Nat.ble 16 900000=true∧zb7.results.toList=[.cell 2 36]:=⟨by kernel_rfl,by kernel_rfl,by kernel_rfl,by kernel_rfl,by kernel_rfl⟩
noncomputable abbrev zck:Func:=Tryz.f22
noncomputable def z84:Code:=z0n Tryz.f22
theorem y2l:(zck.name == "runtime.NumGoroutine")=false∧zck.body=some z84∧zck.ntmps=75∧Nat.ble 75 900000=true∧zck.results.toList=[.tmp 4,.tmp 5]:=⟨by kernel_rfl,by kernel_rfl,by kernel_rfl,by kernel_rfl,by kernel_rfl⟩
noncomputable abbrev zbf:Func:=Tryz.f23
noncomputable def z1v:Code:=z0n Tryz.f23
theorem zy5:(zbf.name == "runtime.NumGoroutine")=false∧zbf.body=some z1v∧zbf.ntmps=94∧Nat.ble 94 900000=true∧zbf.results.toList=[.tmp 6]:=⟨by kernel_rfl,by kernel_rfl,by kernel_rfl,by kernel_rfl,by kernel_rfl⟩
noncomputable abbrev zl5:Func:=Tryz.f24
noncomputable def y0v:Code:=z0n Tryz.f24
theorem yao:(zl5.name == "runtime.NumGoroutine")=false∧zl5.body=some y0v∧zl5.ntmps=25∧Nat.ble 25 900000=true∧zl5.results.toList=[.tmp 6]:=⟨by kernel_rfl,by kernel_rfl,by kernel_rfl,by kernel_rfl,by kernel_rfl⟩
noncomputable abbrev z9k:Func:=Tryz.f25
noncomputable def z1k:Code:=z0n Tryz.f25
theorem zum:(z9k.name == "runtime.NumGoroutine")=false∧z9k.body=some z1k∧z9k.ntmps=75∧Nat.ble 75 900000=true∧z9k.results.toList=[.tmp 8]:=⟨by kernel_rfl,by kernel_rfl,by kernel_rfl,by kernel_rfl,by kernel_rfl⟩
noncomputable abbrev zco:Func:=Tryz.f26
noncomputable def z5f:Code:=z0n Tryz.f26
theorem y2g:(zco.name == "runtime.NumGoroutine")=false∧zco.body=some z5f∧zco.ntmps=40∧Nat.ble 40 900000=true∧zco.results.toList=[.tmp 2]:=⟨by kernel_rfl,by kernel_rfl,by kernel_rfl,by kernel_rfl,by kernel_rfl⟩
noncomputable abbrev zeq:Func:=Tryz.f27
noncomputable def z0y:Code:=z0n Tryz.f27
theorem y4f:(zeq.name == "runtime.NumGoroutine")=false∧zeq.body=some z0y∧zeq.ntmps=87∧Nat.ble 87 900000=true∧zeq.results.toList=[.cell 2 45]:=⟨by kernel_rfl,by kernel_rfl,by kernel_rfl,by kernel_rfl,by kernel_rfl⟩
noncomputable abbrev zde:Func:=Tryz.f28
noncomputable def zo1:Code:=z0n Tryz.f28
theorem y16:(zde.name == "runtime.NumGoroutine")=false∧zde.body=some zo1∧zde.ntmps=47∧Nat.ble 47 900000=true∧zde.results.toList=[.tmp 2]:=⟨by kernel_rfl,by kernel_rfl,by kernel_rfl,by kernel_rfl,by kernel_rfl⟩
noncomputable abbrev zeu:Func:=Tryz.f29
noncomputable def z7w:Code:=z0n Tryz.f29
theorem y4h:(zeu.name == "runtime.NumGoroutine")=false∧zeu.body=some z7w∧zeu.ntmps=26∧Nat.ble 26 900000=true∧zeu.results.toList=[]:=⟨by kernel_rfl,by kernel_rfl,by kernel_rfl,by kernel_rfl,by kernel_rfl⟩
noncomputable abbrev z3j:Func:=Tryz.f31
noncomputable def z18:Code:=z0n Tryz.f31
theorem ze4:(z3j.name == "runtime.NumGoroutine")=false∧z3j.body=some z18∧z3j.ntmps=26∧Nat.ble 26 900000=true∧z3j.results.toList=[.tmp 4]:=⟨by kernel_rfl,by kernel_rfl,by kernel_rfl,by kernel_rfl,by kernel_rfl⟩
noncomputable abbrev z6q:Func:=Tryz.f32
noncomputable def zdz:Code:=z0n Tryz.f32
theorem zm6:(z6q.name == "runtime.NumGoroutine")=false∧z6q.body=some zdz∧z6q.ntmps=14∧Nat.ble 14 900000=true∧z6q.results.toList=[.cell 0 31]:=⟨by kernel_rfl,by kernel_rfl,by kernel_rfl,by kernel_rfl,by kernel_rfl⟩
noncomputable abbrev z7o:Func:=Tryz.f33
noncomputable def zfx:Code:=z0n Tryz.f33
theorem zoz:(z7o.name == "runtime.NumGoroutine")=false∧z7o.body=some zfx∧z7o.ntmps=32∧Nat.ble 32 900000=true∧z7o.results.toList=[.tmp 2]:=⟨by kernel_rfl,by kernel_rfl,by kernel_rfl,by kernel_rfl,by kernel_rfl⟩
noncomputable abbrev zbj:Func:=Tryz.f34
noncomputable def zkt:Code:=z0n Tryz.f34
theorem zz9:(zbj.name == "runtime.NumGoroutine")=false∧zbj.body=some zkt∧zbj.ntmps=86∧Nat.ble 86 900000=true∧zbj.results.toList=[.tmp 6]:=⟨by kernel_rfl,by kernel_rfl,by kernel_rfl,by kernel_rfl,by kernel_rfl⟩
noncomputable abbrev zbi:Func:=Tryz.f35
noncomputable def zll:Code:=z0n Tryz.f35
theorem zy8:(zbi.name == "runtime.NumGoroutine")=false∧zbi.body=some zll∧zbi.ntmps=9∧Nat.ble 9 900000=true∧zbi.results.toList=[.cell 2 43,.tmp 3]:=⟨by kernel_rfl,by kernel_rfl,by kernel_rfl,by kernel_rfl,by kernel_rfl⟩
noncomputable abbrev zdd:Func:=Tryz.f36
noncomputable def z4r:Code:=z0n Tryz.f36
theorem y1l:(zdd.name == "runtime.NumGoroutine")=false∧zdd.body=some z4r∧zdd.ntmps=31∧Nat.ble 31 900000=true∧zdd.results.toList=[.tmp 6,.tmp 7,.tmp 8]:=⟨by kernel_rfl,by kernel_rfl,by kernel_rfl,by kernel_rfl,by kernel_rfl⟩
noncomputable abbrev zlv:Func:=Tryz.f37
noncomputable def y9o:Code:=z0n Tryz.f37
theorem yc1:(zlv.name == "runtime.NumGoroutine")=false∧zlv.body=some y9o∧zlv.ntmps=32∧Nat.ble 32 900000=true∧zlv.results.toList=[.cell 6 36,.cell 7 36]:=⟨by kernel_rfl,by kernel_rfl,by kernel_rfl,by kernel_rfl,by kernel_rfl⟩
noncomputable abbrev zbh:Func:=Tryz.f39
noncomputable def z3c:Code:=z0n Tryz.f39
theorem zxk:(zbh.name == "runtime.NumGoroutine")=false∧zbh.body=some z3c∧zbh.ntmps=54∧Nat.ble 54 900000=true∧zbh.results.toList=[.tmp 2]:=⟨by kernel_rfl,by kernel_rfl,by kernel_rfl,by kernel_rfl,by kernel_rfl⟩
noncomputable abbrev z9l:Func:=Tryz.f40
noncomputable def zj7:Code:=z0n Tryz.f40
theorem ztw:(z9l.name == "runtime.NumGoroutine")=false∧z9l.body=some zj7∧z9l.ntmps=35∧Nat.ble 35 900000=true∧z9l.results.toList=[.tmp 4]:=⟨by kernel_rfl,by kernel_rfl,by kernel_rfl,by kernel_rfl,by kernel_rfl⟩
noncomputable abbrev zd7:Func:=Tryz.f41
noncomputable def zoj:Code:=z0n Tryz.f41
theorem y36:(zd7.name == "runtime.NumGoroutine")=false∧zd7.body=some zoj∧zd7.ntmps=71∧Nat.ble 71 900000=true∧zd7.results.toList=[.tmp 4]:=⟨by kernel_rfl,by kernel_rfl,by kernel_rfl,by kernel_rfl,by kernel_rfl⟩
noncomputable abbrev z9o:Func:=Tryz.f42
noncomputable def zje:Code:=z0n Tryz.f42
theorem zte:(z9o.name == "runtime.NumGoroutine")=false∧z9o.body=some zje∧z9o.ntmps=16∧Nat.ble 16 900000=true∧z9o.results.toList=[.tmp 2]:=⟨by kernel_rfl,by kernel_rfl,by kernel_rfl,by kernel_rfl,by kernel_rfl⟩
noncomputable abbrev zf4:Func:=Tryz.f43
noncomputable def zqm:Code:=z0n Tryz.f43
theorem y3b:(zf4.name == "runtime.NumGoroutine")=false∧zf4.body=some zqm∧zf4.ntmps=12∧Nat.ble 12 900000=true∧zf4.results.toList=[.tmp 2]:=⟨by kernel_rfl,by kernel_rfl,by kernel_rfl,by kernel_rfl,by kernel_rfl⟩
noncomputable abbrev zcm:Func:=Tryz.f44
noncomputable def z0w:Code:=z0n Tryz.f44
theorem y11:(zcm.name == "runtime.NumGoroutine")=false∧zcm.body=some z0w∧zcm.ntmps=66∧Nat.ble 66 900000=true∧zcm.results.toList=[.tmp 6,.tmp 7]:=⟨by kernel_rfl,by kernel_rfl,by kernel_rfl,by kernel_rfl,by kernel_rfl⟩
noncomputable abbrev zi0:Func:=Tryz.f45
noncomputable def zvs:Code:=z0n Tryz.f45
theorem y8s:(zi0.name == "runtime.NumGoroutine")=false∧zi0.body=some zvs∧zi0.ntmps=15∧Nat.ble 15 900000=true∧zi0.results.toList=[.tmp 4]:=⟨by kernel_rfl,by kernel_rfl,by kernel_rfl,by kernel_rfl,by kernel_rfl⟩
noncomputable abbrev zcr:Func:=Tryz.f46
noncomputable def zo5:Code:=z0n Tryz.f46
theorem y2d:(zcr.name == "runtime.NumGoroutine")=false∧zcr.body=some zo5∧zcr.ntmps=24∧Nat.ble 24 900000=true∧zcr.results.toList=[.tmp 6]:=⟨by kernel_rfl,by kernel_rfl,by kernel_rfl,by kernel_rfl,by kernel_rfl⟩
noncomputable abbrev z9f:Func:=Tryz.f47
noncomputable def zjd:Code:=z0n Tryz.f47
theorem zun:(z9f.name == "runtime.NumGoroutine")=false∧z9f.body=some zjd∧z9f.ntmps=14∧Nat.ble 14 900000=true∧z9f.results.toList=[.cell 6 43]:=⟨by kernel_rfl,by kernel_rfl,by kernel_rfl,by kernel_rfl,by kernel_rfl⟩
noncomputable abbrev zbe:Func:=Tryz.f48
noncomputable def zl7:Code:=z0n Tryz.f48
theorem zx4:(zbe.name == "runtime.NumGoroutine")=false∧zbe.body=some zl7∧zbe.ntmps=16∧Nat.ble 16 900000=true∧zbe.results.toList=[.tmp 2]:=⟨by kernel_rfl,by kernel_rfl,by kernel_rfl,by kernel_rfl,by kernel_rfl⟩
noncomputable abbrev zb6:Func:=Tryz.f51
noncomputable def zli:Code:=z0n Tryz.f51
theorem zz0:(zb6.name == "runtime.NumGoroutine")=false∧zb6.body=some zli∧zb6.ntmps=20∧Nat.ble 20 900000=true∧zb6.results.toList=[.tmp 4]:=⟨by kernel_rfl,by kernel_rfl,by kernel_rfl,by kernel_rfl,by kernel_rfl⟩
noncomputable abbrev zcw:Func:=Tryz.f52
noncomputable def z5h:Code:=z0n Tryz.f52
theorem zzo:(zcw.name == "runtime.NumGoroutine")=false∧zcw.body=some z5h∧zcw.ntmps=37∧Nat.ble 37 900000=true∧zcw.results.toList=[.tmp 2]:=⟨by kernel_rfl,by kernel_rfl,by kernel_rfl,by kernel_rfl,by kernel_rfl⟩
noncomputable abbrev z4o:Func:=Tryz.f56
noncomputable def z9x:Code:=z0n Tryz.f56
theorem zh8:(z4o.name == "runtime.NumGoroutine")=false∧z4o.body=some z9x∧z4o.ntmps=66∧Nat.ble 66 900000=true∧z4o.results.toList=[.tmp 2]:=⟨by kernel_rfl,by kernel_rfl,by kernel_rfl,by kernel_rfl,by kernel_rfl⟩
noncomputable abbrev zf3:Func:=Tryz.f57
noncomputable def z11:Code:=z0n Tryz.f57
theorem y48:(zf3.name == "runtime.NumGoroutine")=false∧zf3.body=some z11∧zf3.ntmps=69∧Nat.ble 69 900000=true∧zf3.results.toList=[.tmp 6,.tmp 7,.tmp 8]:=⟨by kernel_rfl,by kernel_rfl,by kernel_rfl,by kernel_rfl,by kernel_rfl⟩
noncomputable abbrev z9e:Func:=Tryz.f58
noncomputable def z49:Code:=z0n Tryz.f58
theorem zty:(z9e.name == "runtime.NumGoroutine")=false∧z9e.body=some z49∧z9e.ntmps=62∧Nat.ble 62 900000=true∧z9e.results.toList=[.tmp 6,.tmp 7]:=⟨by kernel_rfl,by kernel_rfl,by kernel_rfl,by kernel_rfl,by kernel_rfl⟩
noncomputable abbrev z7l:Func:=Tryz.f59
noncomputable def zfs:Code:=z0n Tryz.f59
theorem zp3:(z7l.name == "runtime.NumGoroutine")=false∧z7l.body=some zfs∧z7l.ntmps=23∧Nat.ble 23 900000=true∧z7l.results.toList=[.tmp 4]:=⟨by kernel_rfl,by kernel_rfl,by kernel_rfl,by kernel_rfl,by kernel_rfl⟩
noncomputable abbrev z8v:Func:=Tryz.f60
noncomputable def zh0:Code:=z0n Tryz.f60
theorem zqw:(z8v.name == "runtime.NumGoroutine")=false∧z8v.body=some zh0∧z8v.ntmps=54∧Nat.ble 54 900000=true∧z8v.results.toList=[.tmp 6,.tmp 7,.tmp 8]:=⟨by kernel_rfl,by kernel_rfl,by kernel_rfl,by kernel_rfl,by kernel_rfl⟩
noncomputable abbrev zks:Func:=Tryz.f61
noncomputable def y1g:Code:=z0n Tryz.f61
theorem yal:(zks.name == "runtime.NumGoroutine")=false∧zks.body=some y1g∧zks.ntmps=16∧Nat.ble 16 900000=true∧zks.results.toList=[.cell 2 43]:=⟨by kernel_rfl,by kernel_rfl,by kernel_rfl,by kernel_rfl,by kernel_rfl⟩
noncomputable abbrev zf1:Func:=Tryz.f62
noncomputable def zjn:Code:=z0n Tryz.f62
theorem y5a:(zf1.name == "runtime.NumGoroutine")=false∧zf1.body=some zjn∧zf1.ntmps=24∧Nat.ble 24 900000=true∧zf1.results.toList=[.tmp 8]:=⟨by kernel_rfl,by kernel_rfl,by kernel_rfl,by kernel_rfl,by kernel_rfl⟩
noncomputable abbrev zi5:Func:=Tryz.f63
noncomputable def zw6:Code:=z0n Tryz.f63
theorem y87:(zi5.name == "runtime.NumGoroutine")=false∧zi5.body=some zw6∧zi5.ntmps=29∧Nat.ble 29 900000=true∧zi5.results.toList=[.cell 4 34,.cell 5 34]:=⟨by kernel_rfl,by kernel_rfl,by kernel_rfl,by kernel_rfl,by kernel_rfl⟩
noncomputable abbrev zf2:Func:=Tryz.f64
noncomputable def zq4:Code:=z0n Tryz.f64
theorem y4b:(zf2.name == "runtime.NumGoroutine")=false∧zf2.body=some zq4∧zf2.ntmps=25∧Nat.ble 25 900000=true∧zf2.results.toList=[.tmp 4]:=⟨by kernel_rfl,by kernel_rfl,by kernel_rfl,by kernel_rfl,by kernel_rfl⟩
noncomputable abbrev z1i:Func:=Tryz.f65
noncomputable def z4a:Code:=z0n Tryz.f65
theorem z7f:(z1i.name == "runtime.NumGoroutine")=false∧z1i.body=some z4a∧z1i.ntmps=9∧Nat.ble 9 900000=true∧z1i.results.toList=[.tmp 4]:=⟨by kernel_rfl,by kernel_rfl,by kernel_rfl,by kernel_rfl,by kernel_rfl⟩
noncomputable abbrev z8z:Func:=Tryz.f66
noncomputable def zgv:Code:=z0n Tryz.f66
theorem zri:(z8z.name == "runtime.NumGoroutine")=false∧z8z.body=some zgv∧z8z.ntmps=22∧Nat.ble 22 900000=true∧z8z.results.toList=[.tmp 3]:=⟨by kernel_rfl,by kernel_rfl,by kernel_rfl,by kernel_rfl,by kernel_rfl⟩
noncomputable abbrev zd0:Func:=Tryz.f67
noncomputable def z1l:Code:=z0n Tryz.f67
theorem y1x:(zd0.name == "runtime.NumGoroutine")=false∧zd0.body=some z1l∧zd0.ntmps=94∧Nat.ble 94 900000=true∧zd0.results.toList=[.tmp 4]:=⟨by kernel_rfl,by kernel_rfl,by kernel_rfl,by kernel_rfl,by kernel_rfl⟩
noncomputable abbrev zd8:Func:=Tryz.f68
noncomputable def zoo:Code:=z0n Tryz.f68
theorem zzw:(zd8.name == "runtime.NumGoroutine")=false∧zd8.body=some zoo∧zd8.ntmps=8∧Nat.ble 8 900000=true∧zd8.results.toList=[.tmp 2]:=⟨by kernel_rfl,by kernel_rfl,by kernel_rfl,by kernel_rfl,by kernel_rfl⟩
noncomputable abbrev zd3:Func:=Tryz.f69
noncomputable def z7z:Code:=z0n Tryz.f69
theorem y2i:(zd3.name == "runtime.NumGoroutine")=false∧zd3.body=some z7z∧zd3.ntmps=88∧Nat.ble 88 900000=true∧zd3.results.toList=[.tmp 4,.tmp 5]:=⟨by kernel_rfl,by kernel_rfl,by kernel_rfl,by kernel_rfl,by kernel_rfl⟩
noncomputable abbrev zd9:Func:=Tryz.f70
noncomputable def z2z:Code:=z0n Tryz.f70
theorem zzx:(zd9.name == "runtime.NumGoroutine")=false∧zd9.body=some z2z∧zd9.ntmps=33∧Nat.ble 33 900000=true∧zd9.results.toList=[.tmp 6]:=⟨by kernel_rfl,by kernel_rfl,by kernel_rfl,by kernel_rfl,by kernel_rfl⟩
noncomputable abbrev z7j:Func:=Tryz.f76
noncomputable def zgc:Code:=z0n Tryz.f76
theorem zp6:(z7j.name == "runtime.NumGoroutine")=false∧z7j.body=some zgc∧z7j.ntmps=27∧Nat.ble 27 900000=true∧z7j.results.toList=[.tmp 4]:=⟨by kernel_rfl,by kernel_rfl,by kernel_rfl,by kernel_rfl,by kernel_rfl⟩
noncomputable abbrev zd1:Func:=Tryz.f77
noncomputable def z5b:Code:=z0n Tryz.f77
theorem y2f:(zd1.name == "runtime.NumGoroutine")=false∧zd1.body=some z5b∧zd1.ntmps=43∧Nat.ble 43 900000=true∧zd1.results.toList=[.tmp 4,.tmp 5,.tmp 6]:=⟨by kernel_rfl,by kernel_rfl,by kernel_rfl,by kernel_rfl,by kernel_rfl⟩
noncomputable abbrev z9r:Func:=Tryz.f78
noncomputable def zj0:Code:=z0n Tryz.f78
theorem zta:(z9r.name == "runtime.NumGoroutine")=false∧z9r.body=some zj0∧z9r.ntmps=16∧Nat.ble 16 900000=true∧z9r.results.toList=[.tmp 2]:=⟨by kernel_rfl,by kernel_rfl,by kernel_rfl,by kernel_rfl,by kernel_rfl⟩
noncomputable abbrev z9m:Func:=Tryz.f79
noncomputable def zj6:Code:=z0n Tryz.f79
theorem ztf:(z9m.name == "runtime.NumGoroutine")=false∧z9m.body=some zj6∧z9m.ntmps=10∧Nat.ble 10 900000=true∧z9m.results.toList=[.cell 4 36]:=⟨by kernel_rfl,by kernel_rfl,by kernel_rfl,by kernel_rfl,by kernel_rfl⟩
noncomputable abbrev z8t:Func:=Tryz.f80
noncomputable def zgu:Code:=z0n Tryz.f80
theorem zqy:(z8t.name == "runtime.NumGoroutine")=false∧z8t.body=some zgu∧z8t.ntmps=15∧Nat.ble 15 900000=true∧z8t.results.toList=[.cell 4 36]:=⟨by kernel_rfl,by kernel_rfl,by kernel_rfl,by kernel_rfl,by kernel_rfl⟩
noncomputable abbrev z9j:Func:=Tryz.f81
noncomputable def zjb:Code:=z0n Tryz.f81
theorem zu3:(z9j.name == "runtime.NumGoroutine")=false∧z9j.body=some zjb∧z9j.ntmps=23∧Nat.ble 23 900000=true∧z9j.results.toList=[.tmp 4]:=⟨by kernel_rfl,by kernel_rfl,by kernel_rfl,by kernel_rfl,by kernel_rfl⟩
noncomputable abbrev z5x:Func:=Tryz.f83
noncomputable def z14:Code:=z0n Tryz.f83
theorem zkc:(z5x.name == "runtime.NumGoroutine")=false∧z5x.body=some z14∧z5x.ntmps=54∧Nat.ble 54 900000=true∧z5x.results.toList=[.tmp 4]:=⟨by kernel_rfl,by kernel_rfl,by kernel_rfl,by kernel_rfl,by kernel_rfl⟩
noncomputable abbrev zkh:Func:=Tryz.f85
noncomputable def y2m:Code:=z0n Tryz.f85
theorem ya1:(zkh.name == "runtime.NumGoroutine")=false∧zkh.body=some y2m∧zkh.ntmps=12∧Nat.ble 12 900000=true∧zkh.results.toList=[.cell 4 34]:=⟨by kernel_rfl,by kernel_rfl,by kernel_rfl,by kernel_rfl,by kernel_rfl⟩
noncomputable abbrev zel:Func:=Tryz.f86
noncomputable def zra:Code:=z0n Tryz.f86
theorem y4o:(zel.name == "runtime.NumGoroutine")=false∧zel.body=some zra∧zel.ntmps=2∧Nat.ble 2 900000=true∧zel.results.toList=[.cell 0 34]:=⟨by kernel_rfl,by kernel_rfl,by kernel_rfl,by kernel_rfl,by kernel_rfl⟩
noncomputable abbrev z1p:Func:=Tryz.f87
noncomputable def z0h:Code:=z0n Tryz.f87
theorem z8r:(z1p.name == "runtime.NumGoroutine")=false∧z1p.body=some z0h∧z1p.ntmps=19∧Nat.ble 19 900000=true∧z1p.results.toList=[.tmp 4]:=⟨by kernel_rfl,by kernel_rfl,by kernel_rfl,by kernel_rfl,by kernel_rfl⟩
noncomputable abbrev zbd:Func:=Tryz.f88
noncomputable def zlu:Code:=z0n Tryz.f88
theorem zwh:(zbd.name == "runtime.NumGoroutine")=false∧zbd.body=some zlu∧zbd.ntmps=33∧Nat.ble 33 900000=true∧zbd.results.toList=[.cell 2 87,.tmp 3]:=⟨by kernel_rfl,by kernel_rfl,by kernel_rfl,by kernel_rfl,by kernel_rfl⟩
noncomputable abbrev zcj:Func:=Tryz.f89
noncomputable def znu:Code:=z0n Tryz.f89
theorem y1e:(zcj.name == "runtime.NumGoroutine")=false∧zcj.body=some znu∧zcj.ntmps=15∧Nat.ble 15 900000=true∧zcj.results.toList=[.tmp 4]:=⟨by kernel_rfl,by kernel_rfl,by kernel_rfl,by kernel_rfl,by kernel_rfl⟩
noncomputable abbrev zbb:Func:=Tryz.f98
noncomputable def z4q:Code:=z0n Tryz.f98
theorem zya:(zbb.name == "runtime.NumGoroutine")=false∧zbb.body=some z4q∧zbb.ntmps=79∧Nat.ble 79 900000=true∧zbb.results.toList=[.tmp 4]:=⟨by kernel_rfl,by kernel_rfl,by kernel_rfl,by kernel_rfl,by kernel_rfl⟩
noncomputable abbrev zbc:Func:=Tryz.f102
noncomputable def zke:Code:=z0n Tryz.f102
theorem zx2:(zbc.name == "runtime.NumGoroutine")=false∧zbc.body=some zke∧zbc.ntmps=14∧Nat.ble 14 900000=true∧zbc.results.toList=[.tmp 6]:=⟨by kernel_rfl,by kernel_rfl,by kernel_rfl,by kernel_rfl,by kernel_rfl⟩
noncomputable abbrev zhz:Func:=Tryz.f103
noncomputable def zva:Code:=z0n Tryz.f103
theorem y8m:(zhz.name == "runtime.NumGoroutine")=false∧zhz.body=some zva∧zhz.ntmps=18∧Nat.ble 18 900000=true∧zhz.results.toList=[.tmp 6]:=⟨by kernel_rfl,by kernel_rfl,by kernel_rfl,by kernel_rfl,by kernel_rfl⟩
noncomputable abbrev z8p:Func:=Tryz.f104
noncomputable def zhs:Code:=z0n Tryz.f104
theorem zs4:(z8p.name == "runtime.NumGoroutine")=false∧z8p.body=some zhs∧z8p.ntmps=11∧Nat.ble 11 900000=true∧z8p.results.toList=[.tmp 5]:=⟨by kernel_rfl,by kernel_rfl,by kernel_rfl,by kernel_rfl,by kernel_rfl⟩
noncomputable abbrev zf0:Func:=Tryz.f105
noncomputable def zsh:Code:=z0n Tryz.f105
theorem y5d:(zf0.name == "runtime.NumGoroutine")=false∧zf0.body=some zsh∧zf0.ntmps=32∧Nat.ble 32 900000=true∧zf0.results.toList=[.tmp 2]:=⟨by kernel_rfl,by kernel_rfl,by kernel_rfl,by kernel_rfl,by kernel_rfl⟩
noncomputable abbrev zi8:Func:=Tryz.f106
noncomputable def z4b:Code:=z0n Tryz.f106
theorem y8o:(zi8.name == "runtime.NumGoroutine")=false∧zi8.body=some z4b∧zi8.ntmps=46∧Nat.ble 46 900000=true∧zi8.results.toList=[.tmp 4,.cell 5 87]:=⟨by kernel_rfl,by kernel_rfl,by kernel_rfl,by kernel_rfl,by kernel_rfl⟩
noncomputable abbrev zen:Func:=Tryz.f125
noncomputable def zq3:Code:=z0n Tryz.f125
theorem y44:(zen.name == "runtime.NumGoroutine")=false∧zen.body=some zq3∧zen.ntmps=21∧Nat.ble 21 900000=true∧zen.results.toList=[.tmp 4]:=⟨by kernel_rfl,by kernel_rfl,by kernel_rfl,by kernel_rfl,by kernel_rfl⟩
noncomputable abbrev zcq:Func:=Tryz.f126
noncomputable def zo2:Code:=z0n Tryz.f126
theorem y18:(zcq.name == "runtime.NumGoroutine")=false∧zcq.body=some zo2∧zcq.ntmps=21∧Nat.ble 21 900000=true∧zcq.results.toList=[.tmp 4]:=⟨by kernel_rfl,by kernel_rfl,by kernel_rfl,by kernel_rfl,by kernel_rfl⟩
noncomputable abbrev zfh:Func:=Tryz.f127
noncomputable def zrp:Code:=z0n Tryz.f127
theorem y3n:(zfh.name == "runtime.NumGoroutine")=false∧zfh.body=some zrp∧zfh.ntmps=7∧Nat.ble 7 900000=true∧zfh.results.toList=[.tmp 2]:=⟨by kernel_rfl,by kernel_rfl,by kernel_rfl,by kernel_rfl,by kernel_rfl⟩
noncomputable abbrev zcl:Func:=Tryz.f128
noncomputable def zoe:Code:=z0n Tryz.f128
theorem y2q:(zcl.name == "runtime.NumGoroutine")=false∧zcl.body=some zoe∧zcl.ntmps=43∧Nat.ble 43 900000=true∧zcl.results.toList=[.tmp 2]:=⟨by kernel_rfl,by kernel_rfl,by kernel_rfl,by kernel_rfl,by kernel_rfl⟩
noncomputable abbrev zi6:Func:=Tryz.f129
noncomputable def zw0:Code:=z0n Tryz.f129
theorem y8f:(zi6.name == "runtime.NumGoroutine")=false∧zi6.body=some zw0∧zi6.ntmps=30∧Nat.ble 30 900000=true∧zi6.results.toList=[.tmp 8]:=⟨by kernel_rfl,by kernel_rfl,by kernel_rfl,by kernel_rfl,by kernel_rfl⟩
noncomputable abbrev zd5:Func:=Tryz.f151
noncomputable def zol:Code:=z0n Tryz.f151
theorem y10:(zd5.name == "runtime.NumGoroutine")=false∧zd5.body=some zol∧zd5.ntmps=9∧Nat.ble 9 900000=true∧zd5.results.toList=[.tmp 2]:=⟨by kernel_rfl,by kernel_rfl,by kernel_rfl,by kernel_rfl,by kernel_rfl⟩
open Go Go.Proofs Go.RowKit
theorem Keep.freeze {O:Nat→Prop} (w:World) (a:Addr) (n:Nat) (h:O a.block):Keep O w (w.freeze a n):=by
  unfold World.freeze
  split
  · exact Keep.refl _ _
  · exact ⟨rfl,rfl,rfl,by simp,fun b _ hn=>by simp only [Array.getElem?_modify]; rw [if_neg (fun e:a.block=b=>hn (e ▸ h))]⟩
theorem Keep.setCell {O:Nat→Prop} (w:World) (a:Addr) (v:Value) (h:O a.block):Keep O w (w.setCell a v):=
  ⟨rfl,rfl,rfl,by simp [World.setCell],fun b _ hn=>Below.heap_setCell _ _ _ _ (fun e=>hn (e ▸ h))⟩
theorem ze7 {w:World} {b:Nat} {o:Obj} (h:w.heap[b]?=some o):b < w.heap.size:=(Array.getElem?_eq_some_iff.1 h).1
theorem yd9:liesAt PR PR.depth 80 (2 / PR.cellsOf 80) 0 80 1=true:=by kernel_rfl
theorem y70:(PR.info? 80).map (·.size)=some 2:=by kernel_rfl
theorem yai:(PR.info? 5).map (fun i=>(i.zero,i.size,i.bytes))=some (some (.int .u8 0),1,1):=by kernel_rfl
set_option maxHeartbeats 1000000 in
set_option maxRecDepth 100000 in
theorem zxs (b:Nat) (w:World) (h0:w.cell? ⟨b,0,none⟩=some (.pointer (some ⟨b,0,none⟩))) :
    Calls Tryz.prog 74 #[.pointer (some ⟨b,0,none⟩)] w fun e w'=>e = .returned (.tuple #[])∧w'=w:=by
  obtain ⟨j,hj,_⟩:=Option.map_eq_some_iff.1 y70
  go_enter Tryz.func74,Tryz.ntmps74
  go_wp2
  rw [Lib.run_neq_ptr_same w _ Tryz.underlying77 hj]
  go_wp2
  go_end0
  exact ⟨rfl,rfl⟩
set_option maxHeartbeats 1000000 in
set_option maxRecDepth 100000 in
theorem ztg (b:Nat) (w:World) (h0:w.cell? ⟨b,0,none⟩=some (.pointer none)) (hsh:w.shape? b=some (80,2)) (hfz:w.frozen? ⟨b,0,none⟩=false) :
    Calls Tryz.prog 74 #[.pointer (some ⟨b,0,none⟩)] w fun e w'=>e = .returned (.tuple #[])∧w'=w.setCell ⟨b,0,none⟩ (.pointer (some ⟨b,0,none⟩)):=by
  obtain ⟨j,hj,hjs⟩:=Option.map_eq_some_iff.1 y70
  go_enter Tryz.func74,Tryz.ntmps74
  go_wp2
  rw [Lib.run_to_unsafe w ⟨b,0,none⟩ Tryz.underlying77 Tryz.underlying157 hj (by rw [hjs]; decide) hsh (Nat.zero_lt_succ 1)]
  simp only [Result.andThen]
  rw [Oper.upon_value]
  go_wp2
  rw [run_callFunc_extern Tryz.func96 (by kernel_rfl) (by kernel_rfl) (by kernel_rfl) (e:=Extern.AbiNoEscape.same) (by kernel_rfl)]
  rw [Lib.run_noEscape]
  simp only [Result.andThen]
  rw [Oper.upon_value]
  go_wp2
  rw [Lib.run_from_unsafe w ⟨b,0,none⟩ Tryz.underlying157 Tryz.underlying77 hj hsh yd9]
  simp only [Result.andThen]
  rw [Oper.upon_value]
  go_wp2
  go_end0
  exact ⟨rfl,rfl⟩
theorem y6z (b:Nat) (p v:Value) (w:World) (hp:p = .pointer none∨p = .pointer (some ⟨b,0,none⟩)) (hbk:w.heap[b]?=some (.cells #[p,v] 80 (0,0))) :
    Calls Tryz.prog 74 #[.pointer (some ⟨b,0,none⟩)] w fun e w'=>e = .returned (.tuple #[])∧w'.heap[b]?=some (.cells #[.pointer (some ⟨b,0,none⟩),v] 80 (0,0))∧Keep (fun k=>k=b) w w'∧w'.heap.size=w.heap.size:=by
  have hc0:w.cell? ⟨b,0,none⟩=some p:=by rw [Lib.cell_of_heap hbk]; rfl
  rcases hp with rfl | rfl
  · refine (ztg b w hc0 (by simp [World.shape?,hbk]) (Lib.frozen_of_heap hbk 0)).mono ?_
    rintro e w' ⟨rfl,rfl⟩
    exact ⟨rfl,by simp [World.setCell,Array.getElem?_modify,hbk],Keep.setCell w ⟨b,0,none⟩ _ rfl,by simp [World.setCell]⟩
  · refine (zxs b w hc0).mono ?_
    rintro e w' ⟨rfl,rfl⟩
    exact ⟨rfl,hbk,Keep.refl _ _,rfl⟩
def zpx (b:Nat) (v:Value) (bs:List Value) (w w':World):Prop:=
  ∃ v',w'.heap[b]?=some (.cells #[.pointer (some ⟨b,0,none⟩),v'] 80 (0,0))∧w'.ownsRowF 0 5 1 v' bs.length bs∧v'.ownBlock≠some b ∧
    Keep (fun k=>k=b∨v.ownBlock=some k) w w'∧∀ k,v'.ownBlock=some k→v.ownBlock=some k∨w.heap.size≤k
theorem y5x {b:Nat} {v v':Value} {bs:List Value} {w w1 w2:World} (hs1:w1.heap.size=w.heap.size) (hk1:Keep (fun k=>k=b) w w1)
    (hb2:w2.heap[b]?=some (.cells #[.pointer (some ⟨b,0,none⟩),v] 80 (0,0))) (hown:w2.ownsRowF 0 5 1 v' bs.length bs) (hk2:Keep (fun k=>v.ownBlock=some k) w1 w2) (hv:∀ k,v'.ownBlock=some k→v.ownBlock=some k∨w1.heap.size≤k) :
    zpx b v bs w (w2.setCell ⟨b,1,none⟩ v'):=by
  have hput:=Lib.BuilderAtF.put (T:=80) (e:=5) (Nat.zero_le b) hb2 hown (by decide)
  obtain ⟨_,v2,q1,q2,q3⟩:=hput
  have e2:v2=v':=by
    have:(w2.setCell ⟨b,1,none⟩ v').heap[b]?=some (.cells #[.pointer (some ⟨b,0,none⟩),v'] 80 (0,0)):=by simp [World.setCell,Array.getElem?_modify,hb2]
    rw [this] at q1
    simp at q1
    exact q1.symm
  subst e2
  refine ⟨v2,q1,q2,q3,?_,fun k hk=>by rw [← hs1]; exact hv k hk⟩
  have h3:Keep (fun k=>k=b) w2 (w2.setCell ⟨b,1,none⟩ v2):=Keep.setCell w2 ⟨b,1,none⟩ v2 rfl
  refine (hk1.mono (fun _ _ h=>Or.inl h)).trans ((hk2.mono (O':=fun k=>k=b∨v.ownBlock=some k) (fun _ _ h=>Or.inr h)).trans h3 (fun _ _ h=>Or.inl h)) (fun _ _ h=>h)
theorem zzv {w w':World} {v:Value} (hg:w.grownBy w' v.ownBlock):Keep (fun k=>v.ownBlock=some k) w w':=
  ⟨hg.os,hg.tape,hg.output,hg.size,fun b hb hn=>hg.block b hb (fun h=>hn h.symm)⟩
theorem zbm {g n c k:Nat} (h:(Value.slice (some ⟨g,0,none⟩) n c).ownBlock=some k):k=g:=by
  simp only [Value.ownBlock,Option.some.injEq] at h
  exact h.symm
theorem y7y {P:Program} (w:World) (t u ty e:TypeId) (i:TypeInfo) (ht:P.underlying t=some (.slice e)) (hu:P.underlying u=some .string) (hi:P.info? e=some i) (hz:i.zero=some (.int .u8 0)) (hsize:i.size=1) (hby:i.bytes=1)
    (v:Value) (n:Nat) (xs:List Value) (hown:w.ownsRowF 0 e 1 v n xs) (s:ByteArray) (hbytes:n+s.size≤140737488355328) :
    ∃ v' w',(Builtin.append_ #[t,u] ty #[v,.string s]).run P w = .ok v' w'∧w'.ownsRowF 0 e 1 v' (n+s.size) (xs++Lib.strCells s)∧w.grownBy w' v.ownBlock∧∀ k,v'.ownBlock=some k→v.ownBlock=some k∨w.heap.size≤k:=by
  have h63:n+s.size≤maxLen:=by unfold maxLen; omega
  rcases hown.2 with ⟨rfl,rfl⟩ | ⟨g,cap,cur,fz,rfl,hbg,hg,hfz,hnc,hcm,hcs,htake⟩
  · obtain ⟨v',w',h1,h2,h3,_⟩:=Lib.run_append_own_string (P:=P) w w.heap.size t u ty e i ht hu hi hz hsize hby (.slice none 0 0) 0 xs ⟨hown.1,.inl ⟨rfl,rfl⟩⟩ s h63 hbytes (Nat.le_refl _)
    refine ⟨v',w',h1,⟨h2.1,?_⟩,h3,fun k hk=>.inr ?_⟩
    · rcases h2.2 with q | ⟨g,cap,cur,q1,_,q2,q3,q4,q5,q6⟩
      · exact .inl q
      · exact .inr ⟨g,cap,cur,(0,0),q1,Nat.zero_le _,q2,Nat.zero_le _,q3,q4,q5,q6⟩
    · rcases h2.2 with ⟨rfl,_⟩ | ⟨g,cap,cur,rfl,q1,_⟩
      · simp [Value.ownBlock] at hk
      · rw [zbm hk]; exact q1
  · obtain ⟨v',w',h1,h2,h3,_⟩:=Lib.run_append_own_stringF (P:=P) w 0 t u ty e i ht hu hi hz hsize hby _ n xs hown s h63 hbytes (Nat.zero_le _)
    refine ⟨v',w',h1,h2,h3,fun k hk=>?_⟩
    have hsmall:n+s.size≤9223372036854775807:=by omega
    by_cases hroom:n+s.size≤cap
    · have hr:=Lib.run_append_room_stringF (P:=P) w t u ty e i ht hu hi hsize g n cap cur fz hg (by simpa using hfz) s hroom (by simp at hcs; omega)
      rw [h1] at hr
      simp only [Result.ok.injEq] at hr
      obtain ⟨rfl,_⟩:=hr
      exact .inl (by rw [zbm hk]; rfl)
    · have hxl:xs.length=n:=by simpa using hown.1
      have hr:=Lib.run_append_grow_string (P:=P) w t u ty e i (.int .u8 0) ht hu hi hz ⟨g,0,none⟩ n cap xs (by rw [hsize]; simpa using hxl) (hown.cells (g:=g) rfl) s (by omega) (by omega) (by rw [hby]; exact growslice_fits (by omega) (by omega))
      rw [h1] at hr
      simp only [Result.ok.injEq] at hr
      obtain ⟨rfl,_⟩:=hr
      exact .inr (by rw [zbm hk]; exact Nat.le_refl _)
theorem zmc {P:Program} {w:World} {ops:Array Oper} {rest:List Oper} {o:Oper} {a:Act} {Q:Exit→Act→World→Prop} (hgd:o.guard=none) (sl x:Operand) (t u:TypeId)
    (ho:o.op = .call { callee:=.builtin .append,args:=#[sl,x],argTypes:=#[t,u] })
    (e:TypeId) (i:TypeInfo) (ht:P.underlying t=some (.slice e)) (hu:P.underlying u=some .string) (hi:P.info? e=some i) (hz:i.zero=some (.int .u8 0)) (hsize:i.size=1) (hby:i.bytes=1)
    (v:Value) (n:Nat) (xs:List Value) (hs:a.eval sl=v) (hown:w.ownsRowF 0 e 1 v n xs) (s:ByteArray) (hx:a.eval x = .string s) (hbytes:n+s.size≤140737488355328)
    (h:∀ v' w',w'.ownsRowF 0 e 1 v' (n+s.size) (xs++Lib.strCells s)→w.grownBy w' v.ownBlock→(∀ k,v'.ownBlock=some k→v.ownBlock=some k∨w.heap.size≤k)→wpList P ops Q rest (a.put o.dst v') w'):wpList P ops Q (o :: rest) a w:=by
  refine wpList_plain hgd fun K hK=>?_
  obtain ⟨v',w',hr,h2,h3,h4⟩:=y7y (P:=P) w t u o.type e i ht hu hi hz hsize hby v n xs hown s hbytes
  unfold Oper.wp execOp
  simp only [ho,resolve,invoke,builtin,Sem.run_bind,Sem.run_pure,Result.andThen_ok,List.map_toArray,List.map_cons,List.map_nil,hs,hx,hr]
  exact hK _ _ (h v' w' h2 h3 h4)
theorem y4k {P:Program} (w:World) (t ty e:TypeId) (i:TypeInfo) (ht:P.underlying t=some (.slice e)) (hi:P.info? e=some i) (hz:i.zero=some (.int .u8 0)) (hsize:i.size=1) (hby:i.bytes=1)
    (v:Value) (n:Nat) (xs:List Value) (hown:w.ownsRowF 0 e 1 v n xs) (ad:Addr) (c:Nat) (x:Int) (hx:w.cell? ad=some (.int .u8 x)) (hbytes:n+1≤140737488355328) :
    ∃ v' w',(Builtin.append_ #[t,t] ty #[v,.slice (some ad) 1 c]).run P w = .ok v' w'∧w'.ownsRowF 0 e 1 v' (n+1) (xs++[.int .u8 x])∧w.grownBy w' v.ownBlock∧∀ k,v'.ownBlock=some k→v.ownBlock=some k∨w.heap.size≤k:=by
  have h63:n+1≤maxLen:=by unfold maxLen; omega
  have hnews:∀ j u,[Value.int .u8 x][j]?=some u→w.cell? (ad.add j)=some u:=by
    intro j u hj
    match j,hj with
    | 0,hj=>simp at hj; subst hj; obtain ⟨b,o,p⟩:=ad; cases p <;> simpa [Addr.add] using hx
  have h1c:∀ u∈[Value.int .u8 x],u.oneCell'=true:=fun u hu=>by simp at hu; subst hu; rfl
  rcases hown.2 with ⟨rfl,rfl⟩ | ⟨g,cap,cur,fz,rfl,hbg,hg,hfz,hnc,hcm,hcs,htake⟩
  · obtain ⟨v',w',h1,h2,h3,_⟩:=run_append_own (P:=P) w w.heap.size t ty e i (.int .u8 0) 1 1 ht hi hz hsize hby rfl (by decide) (.slice none 0 0) 0 xs ⟨hown.1,.inl ⟨rfl,rfl⟩⟩ ad 1 c [.int .u8 x] rfl hnews h1c h63 (by omega) (Nat.le_refl _)
    refine ⟨v',w',h1,⟨h2.1,?_⟩,h3,fun k hk=>.inr ?_⟩
    · rcases h2.2 with q | ⟨g,cap,cur,q1,_,q2,q3,q4,q5,q6⟩
      · exact .inl q
      · exact .inr ⟨g,cap,cur,(0,0),q1,Nat.zero_le _,q2,Nat.zero_le _,q3,q4,q5,q6⟩
    · rcases h2.2 with ⟨rfl,_⟩ | ⟨g,cap,cur,rfl,q1,_⟩
      · simp [Value.ownBlock] at hk
      · rw [zbm hk]; exact q1
  · obtain ⟨v',w',h1,h2,h3,_⟩:=run_append_ownF (P:=P) w 0 t ty e i (.int .u8 0) 1 1 ht hi hz hsize hby rfl (by decide) _ n xs hown ad 1 c [.int .u8 x] rfl hnews h1c h63 (by omega) (Nat.zero_le _)
    refine ⟨v',w',h1,h2,h3,fun k hk=>?_⟩
    by_cases hroom:n+1≤cap
    · have hr:=run_append_roomF (P:=P) w t ty e i ht hi g n cap cur fz hg (by rw [hsize]; simpa using hfz) ad 1 c [.int .u8 x] (by rw [hsize]; rfl) hnews h1c hroom (by rw [hsize]; simp at hcs ⊢; omega)
      rw [h1] at hr
      simp only [Result.ok.injEq] at hr
      obtain ⟨rfl,_⟩:=hr
      exact .inl (by rw [zbm hk]; rfl)
    · have hxl:xs.length=n:=by simpa using hown.1
      have hr:=run_append_grow (P:=P) w t ty e i (.int .u8 0) ht hi hz ⟨g,0,none⟩ n cap xs (by rw [hsize]; simpa using hxl) (hown.cells (g:=g) rfl) ad 1 c [.int .u8 x] (by rw [hsize]; rfl) hnews (by omega) (by omega) (by rw [hby]; exact growslice_fits (by omega) (by omega))
      rw [h1] at hr
      simp only [Result.ok.injEq] at hr
      obtain ⟨rfl,_⟩:=hr
      exact .inr (by rw [zbm hk]; exact Nat.le_refl _)
theorem zl4 {P:Program} {w:World} {ops:Array Oper} {rest:List Oper} {o:Oper} {a:Act} {Q:Exit→Act→World→Prop} (hgd:o.guard=none) (sl x:Operand) (t:TypeId)
    (ho:o.op = .call { callee:=.builtin .append,args:=#[sl,x],argTypes:=#[t,t] })
    (e:TypeId) (i:TypeInfo) (ht:P.underlying t=some (.slice e)) (hi:P.info? e=some i) (hz:i.zero=some (.int .u8 0)) (hsize:i.size=1) (hby:i.bytes=1)
    (v:Value) (n:Nat) (xs:List Value) (hs:a.eval sl=v) (hown:w.ownsRowF 0 e 1 v n xs) (ad:Addr) (c:Nat) (y:Int) (hx:a.eval x = .slice (some ad) 1 c) (hc:w.cell? ad=some (.int .u8 y)) (hbytes:n+1≤140737488355328)
    (h:∀ v' w',w'.ownsRowF 0 e 1 v' (n+1) (xs++[.int .u8 y])→w.grownBy w' v.ownBlock→(∀ k,v'.ownBlock=some k→v.ownBlock=some k∨w.heap.size≤k)→wpList P ops Q rest (a.put o.dst v') w'):wpList P ops Q (o :: rest) a w:=by
  refine wpList_plain hgd fun K hK=>?_
  obtain ⟨v',w',hr,h2,h3,h4⟩:=y4k (P:=P) w t o.type e i ht hi hz hsize hby v n xs hown ad c y hc hbytes
  unfold Oper.wp execOp
  simp only [ho,resolve,invoke,builtin,Sem.run_bind,Sem.run_pure,Result.andThen_ok,List.map_toArray,List.map_cons,List.map_nil,hs,hx,hr]
  exact hK _ _ (h v' w' h2 h3 h4)
theorem ybf {w:World} {e:Nat} {v:Value} {bs:List Value} {n k:Nat} (hown:w.ownsRowF 0 e 1 v n bs) (hk:v.ownBlock=some k):k < w.heap.size:=by
  rcases hown.2 with ⟨rfl,_⟩ | ⟨g,cap,cur,fz,rfl,_,hg,_⟩
  · simp [Value.ownBlock] at hk
  · rw [zbm hk]
    exact ze7 hg
set_option maxHeartbeats 2000000 in
set_option maxRecDepth 100000 in
theorem zqz (b:Nat) (p v:Value) (bs:List Value) (s:ByteArray) (w:World) (hp:p = .pointer none∨p = .pointer (some ⟨b,0,none⟩)) (hbk:w.heap[b]?=some (.cells #[p,v] 80 (0,0)))
    (hown:w.ownsRowF 0 5 1 v bs.length bs) (hne:v.ownBlock≠some b) (hlen:bs.length+s.size≤140737488355328) :
    Calls Tryz.prog 53 #[.pointer (some ⟨b,0,none⟩),.string s] w fun e w'=>e = .returned (.tuple #[.int .i64 s.size,.nilIface])∧zpx b v (bs++Lib.strCells s) w w':=by
  obtain ⟨i0,hi,hz0,hz1,hz2⟩:=info_parts yai
  go_enter Tryz.func53,Tryz.ntmps53
  go_wp2_with (go_at_call 74; refine (y6z b p v _ hp hbk).mono ?_)
  rintro e w1 ⟨rfl,hb1,hk1,hs1⟩
  have HS:Hid (w1.heap.size=w.heap.size):=hs1
  clear hs1
  have hown1:w1.ownsRowF 0 5 1 v bs.length bs:=z4c hown (fun k hk=>hk1.block k (ybf hown hk) (fun e=>hne (e ▸ hk)))
  have c0:w1.cell? ⟨b,0,none⟩=some (.pointer (some ⟨b,0,none⟩)):=by rw [Lib.cell_of_heap hb1]; rfl
  have c1:w1.cell? ⟨b,1,none⟩=some v:=by rw [Lib.cell_of_heap hb1]; rfl
  go_wp2_with (at_builtin; refine zmc rfl _ _ 78 9 rfl 5 i0 Tryz.underlying78 Tryz.underlying9 hi hz0 hz1 hz2 _ _ _ rfl hown1 s rfl hlen ?_)
  intro v' w2 hown' hgrow hblk
  have hlt:b < w1.heap.size:=ze7 hb1
  have hb2:w2.heap[b]?=some (.cells #[.pointer (some ⟨b,0,none⟩),v] 80 (0,0)):=by
    rw [hgrow.block b hlt (fun e=>hne e.symm)]
    exact hb1
  have d0:w2.cell? ⟨b,0,none⟩=some (.pointer (some ⟨b,0,none⟩)):=by rw [Lib.cell_of_heap hb2]; rfl
  have d1:w2.cell? ⟨b,1,none⟩=some v:=by rw [Lib.cell_of_heap hb2]; rfl
  have f1:w2.frozen? ⟨b,1,none⟩=false:=Lib.frozen_of_heap hb2 1
  have hX:Hid (zpx b v (bs++Lib.strCells s) w (w2.setCell ⟨b,1,none⟩ v')):=y5x HS hk1 hb2 (by simpa [Lib.strCells_length] using hown') (zzv hgrow) hblk
  clear hblk HS
  obtain ⟨ao,n',cap,rfl⟩:∃ ao n' cap,v' = .slice ao n' cap:=by
    rcases hown'.2 with ⟨hv,_⟩ | ⟨g,cap,cur,fz,hv,_⟩
    · exact ⟨_,_,_,hv⟩
    · exact ⟨_,_,_,hv⟩
  go_wp2
  go_ret2
  exact ⟨rfl,hX⟩
set_option maxHeartbeats 2000000 in
set_option maxRecDepth 100000 in
theorem zxn (b:Nat) (p v:Value) (bs:List Value) (c:Int) (w:World) (hp:p = .pointer none∨p = .pointer (some ⟨b,0,none⟩)) (hbk:w.heap[b]?=some (.cells #[p,v] 80 (0,0)))
    (hown:w.ownsRowF 0 5 1 v bs.length bs) (hne:v.ownBlock≠some b) (hlen:bs.length+1≤140737488355328) :
    Calls Tryz.prog 54 #[.pointer (some ⟨b,0,none⟩),.int .u8 c] w fun e w'=>e = .returned .nilIface∧zpx b v (bs++[.int .u8 c]) w w':=by
  obtain ⟨i0,hi,hz0,hz1,hz2⟩:=info_parts yai
  go_enter Tryz.func54,Tryz.ntmps54
  go_wp2_with (go_at_call 74; refine (y6z b p v _ hp hbk).mono ?_)
  rintro e w1 ⟨rfl,hb1,hk1,hs1⟩
  have HS:Hid (w1.heap.size=w.heap.size):=hs1
  clear hs1
  have hown1:w1.ownsRowF 0 5 1 v bs.length bs:=z4c hown (fun k hk=>hk1.block k (ybf hown hk) (fun e=>hne (e ▸ hk)))
  have c0:w1.cell? ⟨b,0,none⟩=some (.pointer (some ⟨b,0,none⟩)):=by rw [Lib.cell_of_heap hb1]; rfl
  have c1:w1.cell? ⟨b,1,none⟩=some v:=by rw [Lib.cell_of_heap hb1]; rfl
  have hlt:b < w1.heap.size:=ze7 hb1
  go_wp2_with (at_builtin; refine zl4 rfl _ _ 78 rfl 5 i0 Tryz.underlying78 hi hz0 hz1 hz2 _ _ _ rfl (hown1.alloc _) ⟨w1.heap.size,0,none⟩ 1 c rfl (by rw [Lib.cell_of_heap (heap_alloc_new w1 _)]; rfl) hlen ?_)
  intro v' w2 hown' hgrow hblk
  have hb2:w2.heap[b]?=some (.cells #[.pointer (some ⟨b,0,none⟩),v] 80 (0,0)):=by
    rw [hgrow.block b (by simp; omega) (fun e=>hne e.symm),Lib.alloc_old w1 _ b hlt]
    exact hb1
  have d0:w2.cell? ⟨b,0,none⟩=some (.pointer (some ⟨b,0,none⟩)):=by rw [Lib.cell_of_heap hb2]; rfl
  have d1:w2.cell? ⟨b,1,none⟩=some v:=by rw [Lib.cell_of_heap hb2]; rfl
  have f1:w2.frozen? ⟨b,1,none⟩=false:=Lib.frozen_of_heap hb2 1
  have hX:Hid (zpx b v (bs++[.int .u8 c]) w (w2.setCell ⟨b,1,none⟩ v')):=y5x HS hk1 hb2 (by simpa using hown') (((Keep.alloc (fun k=>v.ownBlock=some k) w1 _)).trans (zzv hgrow) (fun _ _ h=>h)) (fun k hk=>(hblk k hk).imp_right (fun h=>by first | omega | (simp at h; omega)))
  clear hblk HS
  obtain ⟨ao,n',cap,rfl⟩:∃ ao n' cap,v' = .slice ao n' cap:=by
    rcases hown'.2 with ⟨hv,_⟩ | ⟨g,cap,cur,fz,hv,_⟩
    · exact ⟨_,_,_,hv⟩
    · exact ⟨_,_,_,hv⟩
  go_wp2
  go_ret
  exact ⟨rfl,hX⟩
def zau (b:Nat) (p v:Value) (n:Nat) (bs:List Value) (w w':World):Prop:=
  w'.heap[b]?=some (.cells #[p,v] 80 (0,0))∧w'.ownsRowF 0 5 1 v n bs∧Keep (fun k=>k=b∨v.ownBlock=some k) w w'
theorem zwl {b g cap:Nat} {p:Value} {bs:List Value} {w:World} (hbk:w.heap[b]?=some (.cells #[p,.slice (some ⟨g,0,none⟩) bs.length cap] 80 (0,0))) (hown:w.ownsRowF 0 5 1 (.slice (some ⟨g,0,none⟩) bs.length cap) bs.length bs) (hne:(Value.slice (some ⟨g,0,none⟩) bs.length cap).ownBlock≠some b) :
    zau b p (.slice (some ⟨g,0,none⟩) bs.length cap) bs.length bs w (w.drew.freeze ⟨g,0,none⟩ bs.length):=by
  have hA:Lib.BuilderAtF 80 5 0 b p bs w.drew:=⟨Nat.zero_le _,_,hbk,hown,hne⟩
  have c1:w.drew.cell? ⟨b,1,none⟩=some (.slice (some ⟨g,0,none⟩) bs.length cap):=by
    have:w.drew.heap[b]?=some (.cells #[p,.slice (some ⟨g,0,none⟩) bs.length cap] 80 (0,0)):=hbk
    rw [Lib.cell_of_heap this]; rfl
  obtain ⟨_,v',q1,q2,q3⟩:=hA.froze c1
  have hk:Keep (fun k=>k=g) w (w.drew.freeze ⟨g,0,none⟩ bs.length):=(Keep.drew _ w).trans (Keep.freeze (O:=fun k=>k=g) w.drew ⟨g,0,none⟩ _ rfl) (fun _ _ h=>h)
  have hgb:b≠g:=fun e=>hne (by simp [Value.ownBlock,e])
  have hb2:(w.drew.freeze ⟨g,0,none⟩ bs.length).heap[b]?=some (.cells #[p,.slice (some ⟨g,0,none⟩) bs.length cap] 80 (0,0)):=(hk.block b (ze7 hbk) hgb).trans hbk
  have e:v' = .slice (some ⟨g,0,none⟩) bs.length cap:=by
    rw [hb2] at q1
    simp at q1
    exact q1.symm
  subst e
  exact ⟨hb2,q2,hk.mono (fun k _ h=>.inr (by rw [h]; rfl))⟩
set_option maxHeartbeats 1000000 in
set_option maxRecDepth 100000 in
theorem zr0 (b g cap:Nat) (p:Value) (l:List UInt8) (w:World) (h0:l≠[]) (hbk:w.heap[b]?=some (.cells #[p,.slice (some ⟨g,0,none⟩) l.length cap] 80 (0,0)))
    (hown:w.ownsRowF 0 5 1 (.slice (some ⟨g,0,none⟩) l.length cap) l.length (Lib.byteCells l)) (hne:(Value.slice (some ⟨g,0,none⟩) l.length cap).ownBlock≠some b) :
    Calls Tryz.prog 30 #[.pointer (some ⟨b,0,none⟩)] w fun e w'=>e = .returned (.string ⟨l.toArray⟩)∧zau b p (.slice (some ⟨g,0,none⟩) l.length cap) l.length (Lib.byteCells l) w w':=by
  have hl0:l.length≠0:=by simpa using h0
  obtain ⟨cur,fz,hg,hnc,hcm,hcs⟩:∃ cur fz,w.heap[g]?=some (.cells cur 5 fz)∧l.length≤cap∧cap≤maxLen∧cur.size=cap*1:=by
    rcases hown.2 with ⟨hv,_⟩ | ⟨g',cap',cur,fz,hv,_,q1,_,q2,q3,q4,_⟩
    · cases hv
    · injection hv with ha _ hc
      injection ha with ha
      injection ha with hgg
      subst hgg; subst hc
      exact ⟨cur,fz,q1,q2,q3,q4⟩
  have c1:w.drew.cell? ⟨b,1,none⟩=some (.slice (some ⟨g,0,none⟩) l.length cap):=by
    have:w.drew.heap[b]?=some (.cells #[p,.slice (some ⟨g,0,none⟩) l.length cap] 80 (0,0)):=hbk
    rw [Lib.cell_of_heap this]; rfl
  have hSD:(Builtin.unsafeSliceData_ #[78] 121 #[.slice (some ⟨g,0,none⟩) l.length cap]).run Tryz.prog w.drew = .ok (.pointer (some ⟨g,0,none⟩)) w.drew:=
    Lib.run_unsafeSliceData_row _ _ _ _ _ _ (by omega)
  have hcells:PR.cellsOf 5=1:=by kernel_rfl
  have hUS:(Builtin.unsafeString_ #[121,3] 9 #[.pointer (some ⟨g,0,none⟩),.int .i64 l.length]).run Tryz.prog w.drew = .ok (.string ⟨l.toArray⟩) (w.drew.freeze ⟨g,0,none⟩ l.length):=by
    refine Lib.run_unsafeString_row w.drew 121 3 9 5 Tryz.underlying121 hcells g cur.size (by have hg':w.drew.heap[g]?=some (.cells cur 5 fz):=hg; simp [World.shape?,hg']) l h0 (by omega) (by unfold maxLen at hcm; omega) ?_
    intro j x hx
    have:=hown.cells (g:=g) rfl j (.int .u8 x.toNat) (by simp [Lib.byteCells,hx])
    exact this
  have hP:Hid (zau b p (.slice (some ⟨g,0,none⟩) l.length cap) l.length (Lib.byteCells l) w (w.drew.freeze ⟨g,0,none⟩ l.length)):=by
    have:=zwl (bs:=Lib.byteCells l) (by rw [Lib.byteCells_length]; exact hbk) (by rw [Lib.byteCells_length]; exact hown) (by rw [Lib.byteCells_length]; exact hne)
    rw [Lib.byteCells_length] at this
    exact this
  clear hcells hcs hg hnc hcm hl0
  go_enter Tryz.func30,Tryz.ntmps30
  go_wp2
  go_region
  all_goals (go_wp2; go_ret; exact ⟨rfl,hP⟩)
set_option maxHeartbeats 2000000 in
set_option maxRecDepth 100000 in
theorem ztb (b:Nat) (p:Value) (w:World) (hbk:w.heap[b]?=some (.cells #[p,.slice none 0 0] 80 (0,0))) :
    Calls Tryz.prog 30 #[.pointer (some ⟨b,0,none⟩)] w fun e w'=>e = .returned (.string ⟨#[]⟩)∧zau b p (.slice none 0 0) 0 [] w w':=by
  have hUS:∀ (W:World) (q:Option Addr),(Builtin.unsafeString_ #[121,3] 9 #[.pointer q,.int .i64 0]).run Tryz.prog W = .ok (.string .empty) W:=fun W q=>Lib.run_unsafeString_none W _ _ _ q
  have c1:w.drew.cell? ⟨b,1,none⟩=some (.slice none 0 0):=by
    have:w.drew.heap[b]?=some (.cells #[p,.slice none 0 0] 80 (0,0)):=hbk
    rw [Lib.cell_of_heap this]; rfl
  have hSD:(Builtin.unsafeSliceData_ #[78] 121 #[.slice none 0 0]).run Tryz.prog w.drew = .ok (.pointer none) w.drew:=rfl
  have hP:Hid (zau b p (.slice none 0 0) 0 [] w w.drew):=⟨hbk,⟨rfl,.inl ⟨rfl,rfl⟩⟩,Keep.drew _ w⟩
  go_enter Tryz.func30,Tryz.ntmps30
  go_wp2
  go_region
  all_goals (go_wp2; go_ret; exact ⟨rfl,hP⟩)
set_option maxHeartbeats 2000000 in
set_option maxRecDepth 100000 in
theorem zml (b g:Nat) (p:Value) (cur:Array Value) (fz:Nat × Nat) (w:World) (hbk:w.heap[b]?=some (.cells #[p,.slice (some ⟨g,0,none⟩) 0 0] 80 (0,0))) (hg:w.heap[g]?=some (.cells cur 5 fz)) (hown:w.ownsRowF 0 5 1 (.slice (some ⟨g,0,none⟩) 0 0) 0 []) :
    Calls Tryz.prog 30 #[.pointer (some ⟨b,0,none⟩)] w fun e w'=>e = .returned (.string ⟨#[]⟩)∧zau b p (.slice (some ⟨g,0,none⟩) 0 0) 0 [] w w':=by
  have hUS:∀ (W:World) (q:Option Addr),(Builtin.unsafeString_ #[121,3] 9 #[.pointer q,.int .i64 0]).run Tryz.prog W = .ok (.string .empty) W:=fun W q=>Lib.run_unsafeString_none W _ _ _ q
  have hlt:b < w.heap.size:=ze7 hbk
  have c1:w.drew.cell? ⟨b,1,none⟩=some (.slice (some ⟨g,0,none⟩) 0 0):=by
    have:w.drew.heap[b]?=some (.cells #[p,.slice (some ⟨g,0,none⟩) 0 0] 80 (0,0)):=hbk
    rw [Lib.cell_of_heap this]; rfl
  have hSD:(Builtin.unsafeSliceData_ #[78] 121 #[.slice (some ⟨g,0,none⟩) 0 0]).run Tryz.prog w.drew = .ok (.pointer (some ⟨w.drew.heap.size,0,none⟩)) (w.drew.alloc (.view ⟨g,0,none⟩ 5)):=
    Lib.run_unsafeSliceData_zero w.drew _ _ 5 Tryz.underlying121 ⟨g,0,none⟩ 0 (5,cur.size) (by have hg':w.drew.heap[g]?=some (.cells cur 5 fz):=hg; simp [World.shape?,hg'])
  have c2:(w.drew.alloc (.view ⟨g,0,none⟩ 5)).cell? ⟨b,1,none⟩=some (.slice (some ⟨g,0,none⟩) 0 0):=by
    have:(w.drew.alloc (.view ⟨g,0,none⟩ 5)).heap[b]?=_:=(Lib.alloc_old w.drew _ b hlt).trans hbk
    rw [Lib.cell_of_heap this]; rfl
  have c3:(w.alloc (.view ⟨g,0,none⟩ 5)).drew.cell? ⟨b,1,none⟩=some (.slice (some ⟨g,0,none⟩) 0 0):=c2
  have c0:w.cell? ⟨b,1,none⟩=some (.slice (some ⟨g,0,none⟩) 0 0):=c1
  have hP:∀ W:World,W.heap=(w.drew.alloc (.view ⟨g,0,none⟩ 5)).heap→W.os=w.os→W.tape=w.tape→W.output=w.output→zau b p (.slice (some ⟨g,0,none⟩) 0 0) 0 [] w W:=by
    intro W h1 h2 h3 h4
    have hk:Keep (fun k=>k=b∨(Value.slice (some ⟨g,0,none⟩) 0 0).ownBlock=some k) w W:=by
      have:=Keep.alloc (fun _=>False) w.drew (.view ⟨g,0,none⟩ 5)
      exact ⟨h2,h3,h4,by rw [h1]; exact this.size,fun k hk _=>by rw [h1]; exact this.block k hk (fun h=>h)⟩
    have hblk:∀ k,k < w.heap.size→W.heap[k]?=w.heap[k]?:=fun k hk=>by
      rw [h1]; exact (Keep.alloc (fun _=>False) w.drew (.view ⟨g,0,none⟩ 5)).block k hk (fun h=>h)
    exact ⟨(hblk b hlt).trans hbk,z4c hown (fun k hk=>hblk k (ybf hown hk)),hk⟩
  have hP:Hid (∀ W:World,W.heap=(w.drew.alloc (.view ⟨g,0,none⟩ 5)).heap→W.os=w.os→W.tape=w.tape→W.output=w.output→zau b p (.slice (some ⟨g,0,none⟩) 0 0) 0 [] w W):=hP
  go_enter Tryz.func30,Tryz.ntmps30
  go_wp2
  go_region
  all_goals (go_wp2; go_ret; exact ⟨rfl,hP _ rfl rfl rfl rfl⟩)
set_option maxHeartbeats 2000000 in
set_option maxRecDepth 100000 in
theorem zsi (b g cap:Nat) (p:Value) (w:World) (hc0:cap≠0) (hbk:w.heap[b]?=some (.cells #[p,.slice (some ⟨g,0,none⟩) 0 cap] 80 (0,0))) (hown:w.ownsRowF 0 5 1 (.slice (some ⟨g,0,none⟩) 0 cap) 0 []) :
    Calls Tryz.prog 30 #[.pointer (some ⟨b,0,none⟩)] w fun e w'=>e = .returned (.string ⟨#[]⟩)∧zau b p (.slice (some ⟨g,0,none⟩) 0 cap) 0 [] w w':=by
  have hUS:∀ (W:World) (q:Option Addr),(Builtin.unsafeString_ #[121,3] 9 #[.pointer q,.int .i64 0]).run Tryz.prog W = .ok (.string .empty) W:=fun W q=>Lib.run_unsafeString_none W _ _ _ q
  have c1:w.drew.cell? ⟨b,1,none⟩=some (.slice (some ⟨g,0,none⟩) 0 cap):=by
    have:w.drew.heap[b]?=some (.cells #[p,.slice (some ⟨g,0,none⟩) 0 cap] 80 (0,0)):=hbk
    rw [Lib.cell_of_heap this]; rfl
  have hSD:(Builtin.unsafeSliceData_ #[78] 121 #[.slice (some ⟨g,0,none⟩) 0 cap]).run Tryz.prog w.drew = .ok (.pointer (some ⟨g,0,none⟩)) w.drew:=
    Lib.run_unsafeSliceData_row _ _ _ _ _ _ hc0
  clear hc0
  have hP:Hid (zau b p (.slice (some ⟨g,0,none⟩) 0 cap) 0 [] w w.drew):=⟨hbk,hown,Keep.drew _ w⟩
  go_enter Tryz.func30,Tryz.ntmps30
  go_wp2
  go_region
  all_goals (go_wp2; go_ret; exact ⟨rfl,hP⟩)
theorem zuo (s:ByteArray):Lib.strCells s=Lib.byteCells s.data.toList:=by
  simp [Lib.strCells,Lib.byteCells]
theorem y7u (b:Nat) (p v:Value) (s:ByteArray) (w:World) (hbk:w.heap[b]?=some (.cells #[p,v] 80 (0,0))) (hown:w.ownsRowF 0 5 1 v s.size (Lib.strCells s)) (hne:v.ownBlock≠some b) :
    Calls Tryz.prog 30 #[.pointer (some ⟨b,0,none⟩)] w fun e w'=>e = .returned (.string s)∧zau b p v s.size (Lib.strCells s) w w':=by
  obtain ⟨⟨l⟩⟩:=s
  rw [zuo] at hown ⊢
  change w.ownsRowF 0 5 1 v l.length (Lib.byteCells l) at hown
  change Calls Tryz.prog 30 #[.pointer (some ⟨b,0,none⟩)] w fun e w'=>e = .returned (.string ⟨l.toArray⟩)∧zau b p v l.length (Lib.byteCells l) w w'
  by_cases h0:l=[]
  · subst h0
    rcases hown.2 with ⟨rfl,_⟩ | ⟨g,cap,cur,fz,rfl,_,hg,_⟩
    · exact ztb b p w hbk
    · by_cases hc:cap=0
      · subst hc
        exact zml b g p cur fz w hbk hg hown
      · exact zsi b g cap p w hc hbk hown
  · rcases hown.2 with ⟨rfl,hz⟩ | ⟨g,cap,cur,fz,rfl,_⟩
    · exact absurd (List.eq_nil_of_length_eq_zero hz) h0
    · exact zr0 b g cap p l w h0 hbk hown hne
end Go.FM
namespace Go.Proofs
open Go.Shelf
def Tryz.laysM171_ren:Go.Shelf.Ren:=⟨fun | 171=>55 | 243=>75 | 246=>97 | 283=>119 | 284=>120 | 285=>121 | 286=>122 | 129=>137 | 317=>136 | 318=>138 | 319=>139 | 320=>140 | 337=>154 | 338=>155 | n=>n,fun | 3=>3 | 9=>9 | 2=>2 | 4=>4 | 171=>183 | 0=>0 | 53=>89 | 37=>78 | 5=>5 | 173=>186 | 212=>202 | 51=>192 | 20=>20 | 213=>203 | 46=>123 | 232=>227 | 233=>228 | n=>n,fun | 17=>3 | 18=>6 | 19=>7 | n=>n⟩
theorem Tryz.laysM171:Go.Proofs.LaysM.n171 Tryz.prog Tryz.laysM171_ren:={
  mixed:=by kernel_rfl
  f129:=Tryz.func137.trans (congrArg some (by kernel_rfl))
  f171:=Tryz.func55.trans (congrArg some (by kernel_rfl))
  f243:=Tryz.func75.trans (congrArg some (by kernel_rfl))
  f246:=Tryz.func97.trans (congrArg some (by kernel_rfl))
  f283:=Tryz.func119.trans (congrArg some (by kernel_rfl))
  f284:=Tryz.func120.trans (congrArg some (by kernel_rfl))
  f285:=Tryz.func121.trans (congrArg some (by kernel_rfl))
  f286:=Tryz.func122.trans (congrArg some (by kernel_rfl))
  f317:=Tryz.func136.trans (congrArg some (by kernel_rfl))
  f318:=Tryz.func138.trans (congrArg some (by kernel_rfl))
  f319:=Tryz.func139.trans (congrArg some (by kernel_rfl))
  f320:=Tryz.func140.trans (congrArg some (by kernel_rfl))
  f337:=Tryz.func154.trans (congrArg some (by kernel_rfl))
  f338:=Tryz.func155.trans (congrArg some (by kernel_rfl))
  t0:=Tryz.underlying0
  a0:=Tryz.isAgg0
  z0:=Tryz.sizeOf0
  v0:=Tryz.zeroValue0
  t2:=Tryz.underlying2
  a2:=Tryz.isAgg2
  z2:=Tryz.sizeOf2
  v2:=Tryz.zeroValue2
  t3:=Tryz.underlying3
  a3:=Tryz.isAgg3
  z3:=Tryz.sizeOf3
  v3:=Tryz.zeroValue3
  t4:=Tryz.underlying4
  a4:=Tryz.isAgg4
  z4:=Tryz.sizeOf4
  v4:=Tryz.zeroValue4
  t5:=Tryz.underlying5
  a5:=Tryz.isAgg5
  z5:=Tryz.sizeOf5
  v5:=Tryz.zeroValue5
  t9:=Tryz.underlying9
  a9:=Tryz.isAgg9
  z9:=Tryz.sizeOf9
  v9:=Tryz.zeroValue9
  t20:=Tryz.underlying20
  a20:=Tryz.isAgg20
  z20:=Tryz.sizeOf20
  v20:=Tryz.zeroValue20
  t37:=Tryz.underlying78
  a37:=Tryz.isAgg78
  z37:=Tryz.sizeOf78
  v37:=Tryz.zeroValue78
  t46:=Tryz.underlying123
  a46:=Tryz.isAgg123
  z46:=Tryz.sizeOf123
  v46:=Tryz.zeroValue123
  t51:=Tryz.underlying192
  a51:=Tryz.isAgg192
  z51:=Tryz.sizeOf192
  v51:=Tryz.zeroValue192
  t53:=Tryz.underlying89
  a53:=Tryz.isAgg89
  z53:=Tryz.sizeOf89
  v53:=Tryz.zeroValue89
  t171:=Tryz.underlying183
  a171:=Tryz.isAgg183
  z171:=Tryz.sizeOf183
  v171:=Tryz.zeroValue183
  t173:=Tryz.underlying186
  a173:=Tryz.isAgg186
  z173:=Tryz.sizeOf186
  v173:=Tryz.zeroValue186
  t212:=Tryz.underlying202
  a212:=Tryz.isAgg202
  z212:=Tryz.sizeOf202
  v212:=Tryz.zeroValue202
  t213:=Tryz.underlying203
  a213:=Tryz.isAgg203
  z213:=Tryz.sizeOf203
  t232:=Tryz.underlying227
  a232:=Tryz.isAgg227
  z232:=Tryz.sizeOf227
  v232:=Tryz.zeroValue227
  t233:=Tryz.underlying228
  a233:=Tryz.isAgg228
  z233:=Tryz.sizeOf228
  v233:=Tryz.zeroValue228
  g17:=by kernel_rfl
  g18:=by kernel_rfl
  g19:=by kernel_rfl
  i0:=by kernel_rfl
  i2:=by kernel_rfl
  i3:=by kernel_rfl
  i4:=by kernel_rfl
  i5:=by kernel_rfl
  i9:=by kernel_rfl
  i20:=by kernel_rfl
  i37:=by kernel_rfl
  i46:=by kernel_rfl
  i51:=by kernel_rfl
  i53:=by kernel_rfl
  i171:=by kernel_rfl
  i173:=by kernel_rfl
  i212:=by kernel_rfl
  i232:=by kernel_rfl
  i233:=by kernel_rfl
  m17:=by kernel_rfl
  m18:=by kernel_rfl
  m19:=by kernel_rfl }
open Go.RowKit Go.Sort Go.Lib in
theorem Tryz.strconv_Itoa (n:Int) (h0 : -9223372036854775808≤n) (h1:n≤9223372036854775807) (w:World) (htab:Lib.TabIs Tryz.prog w "internal/strconv.uint64pow10" .u64 Lib.pow10Tab) :
    Calls Tryz.prog 55 #[.int .i64 n] w fun e w'=>e = .returned (.string ⟨(Lib.itoa n).toArray⟩)∧∃ k os,w'=grow (w.drewN k) os:=Any.strconv_Itoa Tryz.laysM171 n h0 h1 w htab
def Tryz.laysC172_ren:Go.Shelf.Ren:=⟨fun | 172=>73 | 244=>94 | 245=>95 | 247=>114 | 279=>115 | 280=>116 | 281=>117 | 282=>118 | 287=>133 | 316=>134 | 171=>55 | 205=>135 | 321=>152 | 322=>153 | 243=>75 | 246=>97 | 283=>119 | 284=>120 | 285=>121 | 286=>122 | 129=>137 | 317=>136 | 318=>138 | 319=>139 | 320=>140 | 337=>154 | 338=>155 | n=>n,fun | 9=>9 | 3=>3 | 75=>116 | 76=>117 | 4=>4 | 5=>5 | 167=>177 | 37=>78 | 0=>0 | 85=>178 | 2=>2 | 168=>180 | 53=>89 | 175=>195 | 46=>123 | 210=>199 | 127=>121 | 145=>220 | 143=>218 | 21=>21 | 171=>183 | 173=>186 | 212=>202 | 51=>192 | 20=>20 | 213=>203 | 232=>227 | 233=>228 | 80=>84 | n=>n,fun | 15=>1 | 16=>2 | 17=>3 | 18=>6 | 19=>7 | n=>n⟩
theorem Tryz.laysC172:Go.Proofs.LaysC.n172 Tryz.prog Tryz.laysC172_ren:={
  mixed:=by kernel_rfl
  f129:=Tryz.func137.trans (congrArg some (by kernel_rfl))
  f171:=Tryz.func55.trans (congrArg some (by kernel_rfl))
  f172:=Tryz.func73.trans (congrArg some (by kernel_rfl))
  f205:=Tryz.func135.trans (congrArg some (by kernel_rfl))
  f243:=Tryz.func75.trans (congrArg some (by kernel_rfl))
  f244:=Tryz.func94.trans (congrArg some (by kernel_rfl))
  f245:=Tryz.func95.trans (congrArg some (by kernel_rfl))
  f246:=Tryz.func97.trans (congrArg some (by kernel_rfl))
  f247:=Tryz.func114.trans (congrArg some (by kernel_rfl))
  f279:=Tryz.func115.trans (congrArg some (by kernel_rfl))
  f280:=Tryz.func116.trans (congrArg some (by kernel_rfl))
  f281:=Tryz.func117.trans (congrArg some (by kernel_rfl))
  f282:=Tryz.func118.trans (congrArg some (by kernel_rfl))
  f283:=Tryz.func119.trans (congrArg some (by kernel_rfl))
  f284:=Tryz.func120.trans (congrArg some (by kernel_rfl))
  f285:=Tryz.func121.trans (congrArg some (by kernel_rfl))
  f286:=Tryz.func122.trans (congrArg some (by kernel_rfl))
  f287:=Tryz.func133.trans (congrArg some (by kernel_rfl))
  f316:=Tryz.func134.trans (congrArg some (by kernel_rfl))
  f317:=Tryz.func136.trans (congrArg some (by kernel_rfl))
  f318:=Tryz.func138.trans (congrArg some (by kernel_rfl))
  f319:=Tryz.func139.trans (congrArg some (by kernel_rfl))
  f320:=Tryz.func140.trans (congrArg some (by kernel_rfl))
  f321:=Tryz.func152.trans (congrArg some (by kernel_rfl))
  f322:=Tryz.func153.trans (congrArg some (by kernel_rfl))
  f337:=Tryz.func154.trans (congrArg some (by kernel_rfl))
  f338:=Tryz.func155.trans (congrArg some (by kernel_rfl))
  t0:=Tryz.underlying0
  a0:=Tryz.isAgg0
  z0:=Tryz.sizeOf0
  v0:=Tryz.zeroValue0
  t2:=Tryz.underlying2
  a2:=Tryz.isAgg2
  z2:=Tryz.sizeOf2
  v2:=Tryz.zeroValue2
  t3:=Tryz.underlying3
  a3:=Tryz.isAgg3
  z3:=Tryz.sizeOf3
  v3:=Tryz.zeroValue3
  t4:=Tryz.underlying4
  a4:=Tryz.isAgg4
  z4:=Tryz.sizeOf4
  v4:=Tryz.zeroValue4
  t5:=Tryz.underlying5
  a5:=Tryz.isAgg5
  z5:=Tryz.sizeOf5
  v5:=Tryz.zeroValue5
  t9:=Tryz.underlying9
  a9:=Tryz.isAgg9
  z9:=Tryz.sizeOf9
  v9:=Tryz.zeroValue9
  t20:=Tryz.underlying20
  a20:=Tryz.isAgg20
  z20:=Tryz.sizeOf20
  v20:=Tryz.zeroValue20
  t21:=Tryz.underlying21
  a21:=Tryz.isAgg21
  z21:=Tryz.sizeOf21
  v21:=Tryz.zeroValue21
  t37:=Tryz.underlying78
  a37:=Tryz.isAgg78
  z37:=Tryz.sizeOf78
  v37:=Tryz.zeroValue78
  t46:=Tryz.underlying123
  a46:=Tryz.isAgg123
  z46:=Tryz.sizeOf123
  v46:=Tryz.zeroValue123
  t51:=Tryz.underlying192
  a51:=Tryz.isAgg192
  z51:=Tryz.sizeOf192
  v51:=Tryz.zeroValue192
  t53:=Tryz.underlying89
  a53:=Tryz.isAgg89
  z53:=Tryz.sizeOf89
  v53:=Tryz.zeroValue89
  t75:=Tryz.underlying116
  a75:=Tryz.isAgg116
  z75:=Tryz.sizeOf116
  v75:=Tryz.zeroValue116
  t76:=Tryz.underlying117
  a76:=Tryz.isAgg117
  z76:=Tryz.sizeOf117
  v76:=Tryz.zeroValue117
  t85:=Tryz.underlying178
  a85:=Tryz.isAgg178
  z85:=Tryz.sizeOf178
  v85:=Tryz.zeroValue178
  t127:=Tryz.underlying121
  a127:=Tryz.isAgg121
  z127:=Tryz.sizeOf121
  v127:=Tryz.zeroValue121
  t143:=Tryz.underlying218
  a143:=Tryz.isAgg218
  z143:=Tryz.sizeOf218
  v143:=Tryz.zeroValue218
  t145:=Tryz.underlying220
  a145:=Tryz.isAgg220
  z145:=Tryz.sizeOf220
  v145:=Tryz.zeroValue220
  t167:=Tryz.underlying177
  a167:=Tryz.isAgg177
  z167:=Tryz.sizeOf177
  v167:=Tryz.zeroValue177
  t168:=Tryz.underlying180
  a168:=Tryz.isAgg180
  z168:=Tryz.sizeOf180
  v168:=Tryz.zeroValue180
  t171:=Tryz.underlying183
  a171:=Tryz.isAgg183
  z171:=Tryz.sizeOf183
  v171:=Tryz.zeroValue183
  t173:=Tryz.underlying186
  a173:=Tryz.isAgg186
  z173:=Tryz.sizeOf186
  v173:=Tryz.zeroValue186
  t175:=Tryz.underlying195
  a175:=Tryz.isAgg195
  z175:=Tryz.sizeOf195
  v175:=Tryz.zeroValue195
  t210:=Tryz.underlying199
  a210:=Tryz.isAgg199
  z210:=Tryz.sizeOf199
  v210:=Tryz.zeroValue199
  t212:=Tryz.underlying202
  a212:=Tryz.isAgg202
  z212:=Tryz.sizeOf202
  v212:=Tryz.zeroValue202
  t213:=Tryz.underlying203
  a213:=Tryz.isAgg203
  z213:=Tryz.sizeOf203
  t232:=Tryz.underlying227
  a232:=Tryz.isAgg227
  z232:=Tryz.sizeOf227
  v232:=Tryz.zeroValue227
  t233:=Tryz.underlying228
  a233:=Tryz.isAgg228
  z233:=Tryz.sizeOf228
  v233:=Tryz.zeroValue228
  g15:=by kernel_rfl
  g16:=by kernel_rfl
  g17:=by kernel_rfl
  g18:=by kernel_rfl
  g19:=by kernel_rfl
  t80:=Tryz.underlying84
  a80:=Tryz.isAgg84
  z80:=Tryz.sizeOf84
  v80:=Tryz.zeroValue84
  i0:=by kernel_rfl
  i2:=by kernel_rfl
  i3:=by kernel_rfl
  i4:=by kernel_rfl
  i5:=by kernel_rfl
  i9:=by kernel_rfl
  i20:=by kernel_rfl
  i21:=by kernel_rfl
  i37:=by kernel_rfl
  i46:=by kernel_rfl
  i51:=by kernel_rfl
  i53:=by kernel_rfl
  i75:=by kernel_rfl
  i76:=by kernel_rfl
  i80:=by kernel_rfl
  i85:=by kernel_rfl
  i127:=by kernel_rfl
  i143:=by kernel_rfl
  i145:=by kernel_rfl
  i167:=by kernel_rfl
  i168:=by kernel_rfl
  i171:=by kernel_rfl
  i173:=by kernel_rfl
  i175:=by kernel_rfl
  i210:=by kernel_rfl
  i212:=by kernel_rfl
  i232:=by kernel_rfl
  i233:=by kernel_rfl
  m15:=by kernel_rfl
  m16:=by kernel_rfl
  m17:=by kernel_rfl
  m18:=by kernel_rfl
  m19:=by kernel_rfl
  c0:=by kernel_rfl
  c2:=by kernel_rfl
  c3:=by kernel_rfl
  c4:=by kernel_rfl
  c5:=by kernel_rfl
  c9:=by kernel_rfl
  c20:=by kernel_rfl
  c21:=by kernel_rfl
  c37:=by kernel_rfl
  c46:=by kernel_rfl
  c51:=by kernel_rfl
  c53:=by kernel_rfl
  c75:=by kernel_rfl
  c76:=by kernel_rfl
  c80:=by kernel_rfl
  c85:=by kernel_rfl
  c127:=by kernel_rfl
  c143:=by kernel_rfl
  c145:=by kernel_rfl
  c167:=by kernel_rfl
  c168:=by kernel_rfl
  c171:=by kernel_rfl
  c173:=by kernel_rfl
  c175:=by kernel_rfl
  c210:=by kernel_rfl
  c212:=by kernel_rfl
  c213:=by kernel_rfl
  c232:=by kernel_rfl
  c233:=by kernel_rfl }
open Go.RowKit in
theorem Tryz.strconv_Atoi_ok (s:ByteArray) (hmax:s.size≤9223372036854775806) (v:Int) (h:Lib.atoiAll s.data.toList = .ok v) (w:World) :
    Calls Tryz.prog 73 #[.string s] w fun e w'=>e = .returned (.tuple #[.int .i64 v,.nilIface])∧(w'=w∨∃ t,w'=Lib.bytesWorld w 5 t):=Any.strconv_Atoi_ok Tryz.laysC172 s hmax v h w
open Go.RowKit in
theorem Tryz.strconv_Atoi_syntax (s:ByteArray) (hlim:s.size≤281474976710656) (h:Lib.atoiAll s.data.toList=Lib.NumEnd.syntax) (ev:Value) (w:World) (hv:w.cell? ⟨1,0,none⟩=some ev) (hev:ev = .nilIface∨∃ te pe,ev = .iface te pe) :
    Calls Tryz.prog 73 #[.string s] w fun e w'=>∃ N,e = .returned (.tuple #[.int .i64 (0),.iface 180 (.pointer (some ⟨N,0,none⟩))])∧w.heap.size≤N∧w'.heap[N]?=some (.cells #[.string ⟨#[65,116,111,105]⟩,.string s,ev] 199 (0,0))∧Below w.heap.size w w':=Any.strconv_Atoi_syntax Tryz.laysC172 s hlim h ev w hv hev
open Go.RowKit in
theorem Tryz.strconv_Atoi_range (s:ByteArray) (hlim:s.size≤281474976710656) (h:Lib.atoiAll s.data.toList = .range) (ev:Value) (w:World) (hv:w.cell? ⟨2,0,none⟩=some ev) (hev:ev = .nilIface∨∃ te pe,ev = .iface te pe) :
    Calls Tryz.prog 73 #[.string s] w fun e w'=>∃ N,e = .returned (.tuple #[.int .i64 (Lib.atoiSat s.data.toList),.iface 180 (.pointer (some ⟨N,0,none⟩))])∧w.heap.size≤N∧w'.heap[N]?=some (.cells #[.string ⟨#[65,116,111,105]⟩,.string s,ev] 199 (0,0))∧Below w.heap.size w w':=Any.strconv_Atoi_range Tryz.laysC172 s hlim h ev w hv hev
def Tryz.lays145_ren:Go.Shelf.Ren:=⟨fun | 145=>49 | 220=>71 | 219=>90 | 217=>107 | 225=>108 | 224=>109 | 267=>110 | 266=>130 | 314=>131 | n=>n,fun | 9=>9 | 4=>4 | 59=>110 | 3=>3 | 5=>5 | 46=>123 | 146=>193 | 51=>192 | n=>n,fun | 1=>0 | n=>n⟩
theorem Tryz.lays145:Go.Proofs.Lays.n145 Tryz.prog Tryz.lays145_ren:={
  mixed:=by kernel_rfl
  f145:=Tryz.func49.trans (congrArg some (by kernel_rfl))
  f217:=Tryz.func107.trans (congrArg some (by kernel_rfl))
  f219:=Tryz.func90.trans (congrArg some (by kernel_rfl))
  f220:=Tryz.func71.trans (congrArg some (by kernel_rfl))
  f224:=Tryz.func109.trans (congrArg some (by kernel_rfl))
  f225:=Tryz.func108.trans (congrArg some (by kernel_rfl))
  f266:=Tryz.func130.trans (congrArg some (by kernel_rfl))
  f267:=Tryz.func110.trans (congrArg some (by kernel_rfl))
  f314:=Tryz.func131.trans (congrArg some (by kernel_rfl))
  t3:=Tryz.underlying3
  a3:=Tryz.isAgg3
  z3:=Tryz.sizeOf3
  v3:=Tryz.zeroValue3
  t4:=Tryz.underlying4
  a4:=Tryz.isAgg4
  z4:=Tryz.sizeOf4
  v4:=Tryz.zeroValue4
  t5:=Tryz.underlying5
  a5:=Tryz.isAgg5
  z5:=Tryz.sizeOf5
  v5:=Tryz.zeroValue5
  t9:=Tryz.underlying9
  a9:=Tryz.isAgg9
  z9:=Tryz.sizeOf9
  v9:=Tryz.zeroValue9
  t46:=Tryz.underlying123
  a46:=Tryz.isAgg123
  z46:=Tryz.sizeOf123
  v46:=Tryz.zeroValue123
  t51:=Tryz.underlying192
  a51:=Tryz.isAgg192
  z51:=Tryz.sizeOf192
  v51:=Tryz.zeroValue192
  t59:=Tryz.underlying110
  a59:=Tryz.isAgg110
  z59:=Tryz.sizeOf110
  v59:=Tryz.zeroValue110
  t146:=Tryz.underlying193
  a146:=Tryz.isAgg193
  z146:=Tryz.sizeOf193
  v146:=Tryz.zeroValue193
  g1:=by kernel_rfl }
open Go.RowKit Go.Lib in
theorem Tryz.strings_Cut (s sep:ByteArray) (m:Int) (w:World) (hs:s.size < 4294967281) (hm:w.cell? ⟨0,0,none⟩=some (.int .i64 m)) :
    Calls Tryz.prog 49 #[.string s,.string sep] w fun e w'=>e = .returned (.tuple #[.string ⟨(Lib.cut s.data.toList sep.data.toList).1.toArray⟩,.string ⟨(Lib.cut s.data.toList sep.data.toList).2.1.toArray⟩,.bool (Lib.cut s.data.toList sep.data.toList).2.2])∧∃ n,w'=w.drewN n:=Any.strings_Cut Tryz.lays145 s sep m w hs hm
def Tryz.lays189_ren:Go.Shelf.Ren:=⟨fun | 189=>100 | 125=>124 | 257=>123 | 128=>150 | 129=>137 | 294=>141 | 295=>142 | 296=>143 | 297=>144 | 298=>145 | 299=>146 | 216=>147 | 300=>148 | 301=>149 | 328=>156 | 329=>157 | 330=>158 | 331=>159 | 332=>160 | 215=>161 | 343=>162 | n=>n,fun | 28=>22 | 3=>3 | 46=>123 | 0=>0 | 51=>192 | 53=>89 | 4=>4 | 183=>206 | 182=>205 | 131=>125 | 5=>5 | 9=>9 | 218=>221 | 222=>225 | 228=>229 | 229=>104 | n=>n,fun | n=>n⟩
theorem Tryz.lays189:Go.Proofs.Lays.n189 Tryz.prog Tryz.lays189_ren:={
  mixed:=by kernel_rfl
  f125:=Tryz.func124.trans (congrArg some (by kernel_rfl))
  f128:=Tryz.func150.trans (congrArg some (by kernel_rfl))
  f129:=Tryz.func137.trans (congrArg some (by kernel_rfl))
  f189:=Tryz.func100.trans (congrArg some (by kernel_rfl))
  f215:=Tryz.func161.trans (congrArg some (by kernel_rfl))
  f216:=Tryz.func147.trans (congrArg some (by kernel_rfl))
  f257:=Tryz.func123.trans (congrArg some (by kernel_rfl))
  f294:=Tryz.func141.trans (congrArg some (by kernel_rfl))
  f295:=Tryz.func142.trans (congrArg some (by kernel_rfl))
  f296:=Tryz.func143.trans (congrArg some (by kernel_rfl))
  f297:=Tryz.func144.trans (congrArg some (by kernel_rfl))
  f298:=Tryz.func145.trans (congrArg some (by kernel_rfl))
  f299:=Tryz.func146.trans (congrArg some (by kernel_rfl))
  f300:=Tryz.func148.trans (congrArg some (by kernel_rfl))
  f301:=Tryz.func149.trans (congrArg some (by kernel_rfl))
  f328:=Tryz.func156.trans (congrArg some (by kernel_rfl))
  f329:=Tryz.func157.trans (congrArg some (by kernel_rfl))
  f330:=Tryz.func158.trans (congrArg some (by kernel_rfl))
  f331:=Tryz.func159.trans (congrArg some (by kernel_rfl))
  f332:=Tryz.func160.trans (congrArg some (by kernel_rfl))
  f343:=Tryz.func162.trans (congrArg some (by kernel_rfl))
  t0:=Tryz.underlying0
  a0:=Tryz.isAgg0
  z0:=Tryz.sizeOf0
  v0:=Tryz.zeroValue0
  t3:=Tryz.underlying3
  a3:=Tryz.isAgg3
  z3:=Tryz.sizeOf3
  v3:=Tryz.zeroValue3
  t4:=Tryz.underlying4
  a4:=Tryz.isAgg4
  z4:=Tryz.sizeOf4
  v4:=Tryz.zeroValue4
  t5:=Tryz.underlying5
  a5:=Tryz.isAgg5
  z5:=Tryz.sizeOf5
  v5:=Tryz.zeroValue5
  t9:=Tryz.underlying9
  a9:=Tryz.isAgg9
  z9:=Tryz.sizeOf9
  v9:=Tryz.zeroValue9
  t28:=Tryz.underlying22
  a28:=Tryz.isAgg22
  z28:=Tryz.sizeOf22
  v28:=Tryz.zeroValue22
  t46:=Tryz.underlying123
  a46:=Tryz.isAgg123
  z46:=Tryz.sizeOf123
  v46:=Tryz.zeroValue123
  t51:=Tryz.underlying192
  a51:=Tryz.isAgg192
  z51:=Tryz.sizeOf192
  v51:=Tryz.zeroValue192
  t53:=Tryz.underlying89
  a53:=Tryz.isAgg89
  z53:=Tryz.sizeOf89
  v53:=Tryz.zeroValue89
  t131:=Tryz.underlying125
  a131:=Tryz.isAgg125
  z131:=Tryz.sizeOf125
  v131:=Tryz.zeroValue125
  t182:=Tryz.underlying205
  a182:=Tryz.isAgg205
  z182:=Tryz.sizeOf205
  v182:=Tryz.zeroValue205
  t183:=Tryz.underlying206
  a183:=Tryz.isAgg206
  z183:=Tryz.sizeOf206
  v183:=Tryz.zeroValue206
  t218:=Tryz.underlying221
  a218:=Tryz.isAgg221
  z218:=Tryz.sizeOf221
  v218:=Tryz.zeroValue221
  t222:=Tryz.underlying225
  a222:=Tryz.isAgg225
  z222:=Tryz.sizeOf225
  v222:=Tryz.zeroValue225
  t228:=Tryz.underlying229
  a228:=Tryz.isAgg229
  z228:=Tryz.sizeOf229
  v228:=Tryz.zeroValue229
  t229:=Tryz.underlying104
  a229:=Tryz.isAgg104
  z229:=Tryz.sizeOf104
  v229:=Tryz.zeroValue104 }
open Go.Sort Go.RowKit in
theorem Tryz.slices_Sort_int (blk off cap:Nat) (zs:List Int) (w:World) (hH:Holds (Value.int .i64) w blk off zs.toArray) (hblk:blk < w.heap.size) (hsz:zs.length < 4611686018427387904) :
    Calls Tryz.prog 100 #[.slice (some ⟨blk,off,none⟩) zs.length cap] w fun e w'=>
      e = .returned (.tuple #[])∧∃ n os,w'=grow (putRow (Value.int .i64) (Sort.ahead w n) blk off (zs.mergeSort fun x y=>decide (x≤y)).toArray) os:=Any.slices_Sort_int Tryz.lays189 blk off cap zs w hH hblk hsz
def Tryz.lays146_ren:Go.Shelf.Ren:=⟨fun | 146=>50 | 221=>72 | 268=>91 | 138=>92 | 143=>93 | 195=>111 | 197=>112 | 218=>113 | 219=>90 | 260=>132 | 217=>107 | 225=>108 | 224=>109 | 267=>110 | 266=>130 | 314=>131 | n=>n,fun | 9=>9 | 31=>112 | 3=>3 | 4=>4 | 0=>0 | 105=>175 | 21=>21 | 5=>5 | 46=>123 | 119=>212 | 139=>215 | 138=>214 | 146=>193 | 51=>192 | n=>n,fun | 1=>0 | 3=>4 | 4=>5 | n=>n⟩
theorem Tryz.lays146:Go.Proofs.Lays.n146 Tryz.prog Tryz.lays146_ren:={
  mixed:=by kernel_rfl
  f138:=Tryz.func92.trans (congrArg some (by kernel_rfl))
  f143:=Tryz.func93.trans (congrArg some (by kernel_rfl))
  f146:=Tryz.func50.trans (congrArg some (by kernel_rfl))
  f195:=Tryz.func111.trans (congrArg some (by kernel_rfl))
  f197:=Tryz.func112.trans (congrArg some (by kernel_rfl))
  f217:=Tryz.func107.trans (congrArg some (by kernel_rfl))
  f218:=Tryz.func113.trans (congrArg some (by kernel_rfl))
  f219:=Tryz.func90.trans (congrArg some (by kernel_rfl))
  f221:=Tryz.func72.trans (congrArg some (by kernel_rfl))
  f224:=Tryz.func109.trans (congrArg some (by kernel_rfl))
  f225:=Tryz.func108.trans (congrArg some (by kernel_rfl))
  f260:=Tryz.func132.trans (congrArg some (by kernel_rfl))
  f266:=Tryz.func130.trans (congrArg some (by kernel_rfl))
  f267:=Tryz.func110.trans (congrArg some (by kernel_rfl))
  f268:=Tryz.func91.trans (congrArg some (by kernel_rfl))
  f314:=Tryz.func131.trans (congrArg some (by kernel_rfl))
  t0:=Tryz.underlying0
  a0:=Tryz.isAgg0
  z0:=Tryz.sizeOf0
  v0:=Tryz.zeroValue0
  t3:=Tryz.underlying3
  a3:=Tryz.isAgg3
  z3:=Tryz.sizeOf3
  v3:=Tryz.zeroValue3
  t4:=Tryz.underlying4
  a4:=Tryz.isAgg4
  z4:=Tryz.sizeOf4
  v4:=Tryz.zeroValue4
  t5:=Tryz.underlying5
  a5:=Tryz.isAgg5
  z5:=Tryz.sizeOf5
  v5:=Tryz.zeroValue5
  t9:=Tryz.underlying9
  a9:=Tryz.isAgg9
  z9:=Tryz.sizeOf9
  v9:=Tryz.zeroValue9
  t21:=Tryz.underlying21
  a21:=Tryz.isAgg21
  z21:=Tryz.sizeOf21
  v21:=Tryz.zeroValue21
  t31:=Tryz.underlying112
  a31:=Tryz.isAgg112
  z31:=Tryz.sizeOf112
  v31:=Tryz.zeroValue112
  t46:=Tryz.underlying123
  a46:=Tryz.isAgg123
  z46:=Tryz.sizeOf123
  v46:=Tryz.zeroValue123
  t51:=Tryz.underlying192
  a51:=Tryz.isAgg192
  z51:=Tryz.sizeOf192
  v51:=Tryz.zeroValue192
  t105:=Tryz.underlying175
  a105:=Tryz.isAgg175
  z105:=Tryz.sizeOf175
  v105:=Tryz.zeroValue175
  t119:=Tryz.underlying212
  a119:=Tryz.isAgg212
  z119:=Tryz.sizeOf212
  t138:=Tryz.underlying214
  a138:=Tryz.isAgg214
  z138:=Tryz.sizeOf214
  v138:=Tryz.zeroValue214
  t139:=Tryz.underlying215
  a139:=Tryz.isAgg215
  z139:=Tryz.sizeOf215
  v139:=Tryz.zeroValue215
  t146:=Tryz.underlying193
  a146:=Tryz.isAgg193
  z146:=Tryz.sizeOf193
  v146:=Tryz.zeroValue193
  g1:=by kernel_rfl
  g3:=by kernel_rfl
  g4:=by kernel_rfl }
open Go.RowKit Go.Lib in
theorem Tryz.strings_Split (s sep:ByteArray) (m:Int) (w:World) (hs:s.size < 4294967281) (hm:w.cell? ⟨0,0,none⟩=some (.int .i64 m)) (h1:1≤sep.size) :
    Calls Tryz.prog 50 #[.string s,.string sep] w fun e w'=>
      e = .returned (.slice (some ⟨w.heap.size,0,none⟩) (Lib.countB s sep+1) (Lib.countB s sep+1))∧w'=w.alloc (.cells ((Lib.splitB sep 0 (Lib.countB s sep) s).map Value.string).toArray 9):=Any.strings_Split Tryz.lays146 (by kernel_rfl) s sep m w hs hm h1
def Tryz.laysNm220_ren:Go.Shelf.Ren:=⟨fun | 20=>101 | n=>n,fun | 22=>22 | 3=>3 | 4=>4 | 0=>0 | n=>n,fun | n=>n⟩
theorem Tryz.laysNm220:Go.Proofs.Lays2.n20 Tryz.prog Tryz.laysNm220_ren:={
  mixed:=by kernel_rfl
  f20:=Tryz.func101.trans (congrArg some (by kernel_rfl))
  t0:=Tryz.underlying0
  a0:=Tryz.isAgg0
  z0:=Tryz.sizeOf0
  v0:=Tryz.zeroValue0
  t3:=Tryz.underlying3
  a3:=Tryz.isAgg3
  z3:=Tryz.sizeOf3
  v3:=Tryz.zeroValue3
  t4:=Tryz.underlying4
  a4:=Tryz.isAgg4
  z4:=Tryz.sizeOf4
  v4:=Tryz.zeroValue4
  t22:=Tryz.underlying22
  a22:=Tryz.isAgg22
  z22:=Tryz.sizeOf22
  v22:=Tryz.zeroValue22
  i3:=by kernel_rfl }
open Go.RowKit Go.Lib Go.Sort in
theorem Tryz.slices_Compact_int (blk off cap:Nat) (zs:List Int) (w:World) (hH:Holds (Value.int .i64) w blk off zs.toArray) (hsz:zs.length≤9223372036854775807) (hcap:zs.length≤cap) :
    Calls Tryz.prog 101 #[.slice (some ⟨blk,off,none⟩) zs.length cap] w fun e w'=>e = .returned (.slice (some ⟨blk,off,none⟩) (Lib.compact zs).length cap)∧∃ q,w'=putRow (Value.int .i64) (Sort.ahead w q) blk off (Lib.compact zs++List.replicate (zs.length - (Lib.compact zs).length) 0).toArray:=Any.slices_Compact_int Tryz.laysNm220 blk off cap zs w hH hsz hcap
open Go.RowKit Go.Lib Go.Sort in
theorem Tryz.slices_Compact_int_empty (a:Option Addr) (cap:Nat) (w:World) :
    Calls Tryz.prog 101 #[.slice a 0 cap] w fun e w'=>e = .returned (.slice a 0 cap)∧w'=w:=Any.slices_Compact_int_empty Tryz.laysNm220 a cap w
open Go.RowKit Go.Sort in
theorem Tryz.slices_Sort_int_none (p:Option Addr) (cap:Nat) (w:World) :
    Calls Tryz.prog 100 #[.slice p 0 cap] w fun e w'=>e = .returned (.tuple #[])∧w'=w:=Any.slices_Sort_int_none Tryz.lays189 p cap w
def Tryz.laysSlH6_f99_ren:Go.Shelf.Ren:=⟨fun | 6=>99 | n=>n,fun | 22=>22 | 23=>3 | 25=>144 | 3=>3 | 0=>0 | 4=>4 | n=>n,fun | n=>n⟩
theorem Tryz.laysSlH6_f99:Go.Proofs.SlLaysH.n6 Tryz.prog Tryz.laysSlH6_f99_ren:={
  mixed:=by kernel_rfl
  f6:=⟨Tryz.f99.name,by decide,Tryz.func99.trans (congrArg some (by kernel_rfl))⟩
  t0:=Tryz.underlying0
  a0:=Tryz.isAgg0
  z0:=Tryz.sizeOf0
  v0:=Tryz.zeroValue0
  t3:=Tryz.underlying3
  a3:=Tryz.isAgg3
  z3:=Tryz.sizeOf3
  v3:=Tryz.zeroValue3
  t4:=Tryz.underlying4
  a4:=Tryz.isAgg4
  z4:=Tryz.sizeOf4
  v4:=Tryz.zeroValue4
  t22:=Tryz.underlying22
  a22:=Tryz.isAgg22
  z22:=Tryz.sizeOf22
  v22:=Tryz.zeroValue22
  a23:=Tryz.isAgg3
  z23:=Tryz.sizeOf3
  t25:=Tryz.underlying144
  a25:=Tryz.isAgg144
  z25:=Tryz.sizeOf144
  v25:=Tryz.zeroValue144 }
open Go.RowKit Go.Lib in
theorem Tryz.slices_IndexFunc_empty {α:Type} [Inhabited α] (a:Option Addr) (c:Nat) (fv:Value) (w:World) :
    Calls Tryz.prog 99 #[.slice a 0 c,fv] w fun e w'=>e = .returned (.int .i64 (-1))∧w'=w:=AnyE.slices_IndexFunc_empty Tryz.laysSlH6_f99 a c fv w
def Tryz.laysSlH10_f82_ren:Go.Shelf.Ren:=⟨fun | 10=>82 | 6=>99 | n=>n,fun | 22=>22 | 23=>3 | 25=>144 | 3=>3 | 4=>4 | 0=>0 | n=>n,fun | n=>n⟩
theorem Tryz.laysSlH10_f82:Go.Proofs.SlLaysH.n10 Tryz.prog Tryz.laysSlH10_f82_ren:={
  mixed:=by kernel_rfl
  f6:=⟨Tryz.f99.name,by decide,Tryz.func99.trans (congrArg some (by kernel_rfl))⟩
  f10:=⟨Tryz.f82.name,by decide,Tryz.func82.trans (congrArg some (by kernel_rfl))⟩
  t0:=Tryz.underlying0
  a0:=Tryz.isAgg0
  z0:=Tryz.sizeOf0
  v0:=Tryz.zeroValue0
  t3:=Tryz.underlying3
  a3:=Tryz.isAgg3
  z3:=Tryz.sizeOf3
  v3:=Tryz.zeroValue3
  t4:=Tryz.underlying4
  a4:=Tryz.isAgg4
  z4:=Tryz.sizeOf4
  v4:=Tryz.zeroValue4
  t22:=Tryz.underlying22
  a22:=Tryz.isAgg22
  z22:=Tryz.sizeOf22
  v22:=Tryz.zeroValue22
  a23:=Tryz.isAgg3
  z23:=Tryz.sizeOf3
  t25:=Tryz.underlying144
  a25:=Tryz.isAgg144
  z25:=Tryz.sizeOf144
  v25:=Tryz.zeroValue144 }
open Go.RowKit Go.Lib Go.Sort in
theorem Tryz.slices_DeleteFunc {α:Type} [Inhabited α] (enc:α→Value) (hO:OneCell enc) (p:α→Bool) (g:Nat) (lb:Array Value) (eg:∀ args w,(callFunc g args).run Tryz.prog w = .ok (.enter g args) w) (zr:α) (v23:∀ w,(zeroValue 3).run Tryz.prog w = .ok (enc zr) w) (blk off cap:Nat) (d:Array α) (w:World) (hp:PredAt Tryz.prog g lb enc p w) (hpo:PredOver Tryz.prog g lb enc p blk off d.size w) (hH:Holds enc w blk off d) (hsz:d.size≤9223372036854775807) (hcap:d.size≤cap) :
    Calls Tryz.prog 82 #[.slice (some ⟨blk,off,none⟩) d.size cap,.func (.func g) #[] lb] w fun e w'=>e = .returned (.slice (some ⟨blk,off,none⟩) (d.toList.filter fun x=>!p x).length cap)∧∃ q,w'=putRow enc (Sort.ahead w q) blk off ((d.toList.filter fun x=>!p x)++List.replicate (d.size - (d.toList.filter fun x=>!p x).length) zr).toArray:=AnyE.slices_DeleteFunc Tryz.laysSlH10_f82 enc hO p g lb eg zr v23 blk off cap d w hp hpo hH hsz hcap
end Go.Proofs
namespace Go.FM
open Go Go.Proofs Go.RowKit Go.Sort Go.Lib
open Go Go.RowKit
open Go Go.Proofs Go.RowKit
structure GF (h:Nat→Option Obj):Prop where
  unit:True
  gm:∃ c T fr m,h 0=some (.cells c T fr)∧c[0]?=some (.int .i64 m)
  gp:∃ T fr,h 3=some (.cells (Lib.pow10Tab.map fun z=>Value.int .u64 z).toArray T fr)
  gs:∃ c T fr te pe,h 1=some (.cells c T fr)∧c[0]?=some (.iface te pe)
  gr:∃ c T fr te pe,h 2=some (.cells c T fr)∧c[0]?=some (.iface te pe)
def B0:BT:={ T:=80,e:=5,ng:=4,F:=GF }
theorem zkw {w:World} {h:Nat→Option Obj} (hh:h=fun b=>if b < B0.ng then w.heap[b]? else none) {g:Nat} (hg:g < 4) {o:Obj} (ho:h g=some o):w.heap[g]?=some o:=by
  rw [hh] at ho
  simp only at ho
  rw [if_pos (show g < B0.ng from hg)] at ho
  exact ho
theorem y6t {w:World} (h:Glob B0 w):∃ m,w.cell? ⟨0,0,none⟩=some (.int .i64 m):=by
  obtain ⟨c,T,fr,m,h1,h2⟩:=h.2.gm
  exact ⟨m,by simp only [World.cell?,zkw rfl (by decide) h1]; exact h2⟩
theorem ycx {w:World} (h:Glob B0 w):Lib.TabIs Tryz.prog w "internal/strconv.uint64pow10" .u64 Lib.pow10Tab:=by
  obtain ⟨T,fr,h1⟩:=h.2.gp
  have hn:Tryz.prog.globalNamed "internal/strconv.uint64pow10" = some 3:=by kernel_rfl
  unfold Lib.TabIs World.var?
  rw [hn]
  simp only [Option.bind_some,zkw rfl (by decide) h1]
theorem ydc {w:World} (h:Glob B0 w):∃ ev,w.cell? ⟨1,0,none⟩=some ev∧(ev = .nilIface∨∃ te pe,ev = .iface te pe):=by
  obtain ⟨c,T,fr,te,pe,h1,h2⟩:=h.2.gs
  exact ⟨_,by simp only [World.cell?,zkw rfl (by decide) h1]; exact h2,.inr ⟨te,pe,rfl⟩⟩
theorem ydv {w:World} (h:Glob B0 w):∃ ev,w.cell? ⟨2,0,none⟩=some ev∧(ev = .nilIface∨∃ te pe,ev = .iface te pe):=by
  obtain ⟨c,T,fr,te,pe,h1,h2⟩:=h.2.gr
  exact ⟨_,by simp only [World.cell?,zkw rfl (by decide) h1]; exact h2,.inr ⟨te,pe,rfl⟩⟩
theorem Keep.below {w w':World} (h:Below w.heap.size w w'):Keep (fun _=>False) w w':=⟨h.os,h.tape,h.output,h.size,fun b hb _=>h.block b hb⟩
theorem Keep.drewN {O:Nat→Prop} (w:World):∀ n,Keep O w (w.drewN n):=fun _=>⟨rfl,rfl,rfl,Nat.le_refl _,fun _ _ _=>rfl⟩
theorem Keep.grow (w:World) (os:Array Obj):Keep (fun _=>False) w (Go.Sort.grow w os):=⟨rfl,rfl,rfl,by simp [Go.Sort.grow],fun b hb _=>by simp [Go.Sort.grow,Array.getElem?_append_left hb]⟩
set_option maxRecDepth 100000 in
theorem z99:z3n PR B0 53 z2d:=by
  intro w X γ vs xs r out hsp hg hx hR hV
  unfold z2d at hsp
  simp only at hsp
  split at hsp
  · rename_i s t
    cases hc:decide (s.size+t.size≤strMax) with
    | false=>rw [hc] at hsp; simp [R.get] at hsp
    | true=>
      rw [hc] at hsp
      simp only [R.get,Option.some.injEq,Prod.mk.injEq] at hsp
      obtain ⟨rfl,rfl⟩:=hsp
      have hle:s.size+t.size≤strMax:=of_decide_eq_true hc
      refine y5e hR rfl rfl (fun γ' o w' O x h=>by
        simp only [VRel] at h ⊢
        obtain ⟨cs,rfl,h⟩:=h
        refine ⟨cs,rfl,?_⟩
        match cs,h with
        | ⟨[a,b]⟩,h=>simp only [VRels,VRel] at h ⊢; exact h) (fun b v p hgm hB=>?_)
      obtain ⟨x0,x1,rfl⟩:∃ x0 x1,xs=[x0,x1]:=by
        have:=hV.length
        simp at this
        match xs,this with
        | [a,b],_=>exact ⟨a,b,rfl⟩
      simp only [List.map_cons,List.map_nil,z95,VRels] at hV
      have h0:=y3q hgm hV.1
      have h1:=hV.2.1
      simp only [VRel] at h1
      obtain ⟨rfl,ht⟩:=h1
      subst h0
      refine Does.of_calls Tryz.func53 (by kernel_rfl) (by kernel_rfl) ((zqz b p v (Lib.strCells s) t w hB.self hB.heap (by rw [Lib.strCells_length]; exact hB.own) hB.ne (by rw [Lib.strCells_length]; unfold strMax at hle; omega)).mono ?_)
      rintro e w' ⟨rfl,v',q1,q2,q3,q4,q5⟩
      refine ⟨_,rfl,⟨_,v',⟨.inr rfl,q1,?_,q3,?_⟩,q4,q5⟩,fun O=>?_⟩
      · have e1:Lib.strCells (s++t)=Lib.strCells s++Lib.strCells t:=by simp [Lib.strCells]
        have e2:(s++t).size=(Lib.strCells s++Lib.strCells t).length:=by simp [Lib.strCells_length]
        rw [e1,e2]
        exact q2
      · simp only [ByteArray.size_append]; exact hle
      · simp only [VRel]
        refine ⟨_,rfl,?_⟩
        simp only [VRels,VRel,ic,and_true]
        refine ⟨trivial,?_,?_⟩
        · have:IntKind.i64.min = -9223372036854775808:=rfl
          omega
        · have:IntKind.i64.max=9223372036854775807:=rfl
          unfold strMax at hle
          omega
  · simp [R.get] at hsp
theorem y43 {c:Int} (h0:IntKind.u8.min≤c) (h1:c≤IntKind.u8.max):(Value.int .u8 ((zgd c).toNat:Int)) = .int .u8 c:=by
  have e1:IntKind.u8.min=0:=rfl
  have e2:IntKind.u8.max=255:=rfl
  have:((zgd c).toNat:Int)=c:=by
    unfold zgd
    rw [UInt8.toNat_ofNat_of_lt' (by simp [UInt8.size]; omega)]
    omega
  rw [this]
set_option maxRecDepth 100000 in
theorem zay:z3n PR B0 54 z2q:=by
  intro w X γ vs xs r out hsp hg hx hR hV
  unfold z2q at hsp
  simp only at hsp
  split at hsp
  · rename_i s c
    cases hc:decide (s.size+1≤strMax) with
    | false=>rw [hc] at hsp; simp [R.get] at hsp
    | true=>
      rw [hc] at hsp
      simp only [R.get,Option.some.injEq,Prod.mk.injEq] at hsp
      obtain ⟨rfl,rfl⟩:=hsp
      have hle:s.size+1≤strMax:=of_decide_eq_true hc
      refine y5e hR rfl rfl (fun γ' o w' O x h=>by simp only [VRel] at h ⊢; exact h) (fun b v p hgm hB=>?_)
      obtain ⟨x0,x1,rfl⟩:∃ x0 x1,xs=[x0,x1]:=by
        have:=hV.length
        simp at this
        match xs,this with
        | [a,b],_=>exact ⟨a,b,rfl⟩
      simp only [List.map_cons,List.map_nil,z95,VRels] at hV
      have h0:=y3q hgm hV.1
      have h1:=hV.2.1
      simp only [VRel] at h1
      obtain ⟨rfl,hc0,hc1⟩:=h1
      subst h0
      refine Does.of_calls Tryz.func54 (by kernel_rfl) (by kernel_rfl) ((zxn b p v (Lib.strCells s) c w hB.self hB.heap (by rw [Lib.strCells_length]; exact hB.own) hB.ne (by rw [Lib.strCells_length]; unfold strMax at hle; omega)).mono ?_)
      rintro e w' ⟨rfl,v',q1,q2,q3,q4,q5⟩
      refine ⟨_,rfl,⟨_,v',⟨.inr rfl,q1,?_,q3,?_⟩,q4,q5⟩,fun O=>by simp only [VRel]⟩
      · have e1:Lib.strCells (s.push (zgd c))=Lib.strCells s++[.int .u8 c]:=by
          rw [← y43 hc0 hc1]
          simp [Lib.strCells]
        have e2:(s.push (zgd c)).size=(Lib.strCells s++[Value.int .u8 c]).length:=by simp [Lib.strCells_length]
        rw [e1,e2]
        exact q2
      · simp only [ByteArray.size_push]; exact hle
  · simp [R.get] at hsp
set_option maxRecDepth 100000 in
theorem zcc:z3n PR B0 30 z3h:=by
  intro w X γ vs xs r out hsp hg hx hR hV
  unfold z3h at hsp
  simp only at hsp
  split at hsp
  · rename_i s
    simp only [R.get,Option.some.injEq,Prod.mk.injEq] at hsp
    obtain ⟨rfl,rfl⟩:=hsp
    refine y5e hR rfl rfl (fun γ' o w' O x h=>by simp only [VRel] at h ⊢; exact h) (fun b v p hgm hB=>?_)
    obtain ⟨x0,rfl⟩:∃ x0,xs=[x0]:=by
      have:=hV.length
      simp at this
      match xs,this with
      | [a],_=>exact ⟨a,rfl⟩
    simp only [List.map_cons,List.map_nil,z95,VRels] at hV
    have h0:=y3q hgm hV.1
    subst h0
    refine Does.of_calls Tryz.func30 (by kernel_rfl) (by kernel_rfl) ((y7u b p v s w hB.heap hB.own hB.ne).mono ?_)
    rintro e w' ⟨rfl,q1,q2,q3⟩
    exact ⟨_,rfl,⟨p,v,⟨hB.self,q1,q2,hB.ne,hB.size⟩,q3,fun k hk=>.inl hk⟩,fun O=>by simp only [VRel]; exact ⟨trivial,hB.size⟩⟩
  · simp [R.get] at hsp
set_option maxRecDepth 100000 in
theorem zp1:z3n PR B0 55 z9i:=by
  intro w X γ vs xs r out hsp hg hx hR hV
  unfold z9i at hsp
  simp only at hsp
  split at hsp
  · rename_i n
    simp only [R.get,Option.some.injEq,Prod.mk.injEq] at hsp
    obtain ⟨rfl,rfl⟩:=hsp
    obtain ⟨x0,rfl⟩:∃ x0,xs=[x0]:=by
      have:=hV.length
      simp at this
      match xs,this with
      | [a],_=>exact ⟨a,rfl⟩
    simp only [List.map_cons,List.map_nil,z95,VRels,VRel,and_true] at hV
    obtain ⟨rfl,h0,h1⟩:=hV
    refine zld hR rfl rfl (Does.of_calls Tryz.func55 (by kernel_rfl) (by kernel_rfl) ((Tryz.strconv_Itoa n h0 h1 w (ycx hg)).mono ?_))
    rintro e w' ⟨rfl,k,os,rfl⟩
    exact ⟨_,rfl,((Keep.drewN w k).trans (Keep.grow _ os) (fun _ _ h=>h)),fun O _=>by
      simp only [VRel]
      exact ⟨rfl,by have:=zve h0 h1; unfold strMax; omega⟩⟩
  · simp [R.get] at hsp
set_option maxRecDepth 100000 in
theorem zp9:z3n PR B0 73 z9p:=by
  intro w X γ vs xs r out hsp hg hx hR hV
  unfold z9p at hsp
  simp only at hsp
  split at hsp
  · rename_i s
    simp only [R.get,Option.some.injEq,Prod.mk.injEq] at hsp
    obtain ⟨rfl,rfl⟩:=hsp
    obtain ⟨x0,rfl⟩:∃ x0,xs=[x0]:=by
      have:=hV.length
      simp at this
      match xs,this with
      | [a],_=>exact ⟨a,rfl⟩
    simp only [List.map_cons,List.map_nil,z95,VRels,VRel,and_true] at hV
    obtain ⟨rfl,hs⟩:=hV
    unfold strMax at hs
    have hb:=zrj s
    refine zld hR rfl rfl (Does.of_calls Tryz.func73 (by kernel_rfl) (by kernel_rfl) ?_)
    cases ha:Lib.atoiAll s.data.toList
    · rename_i v
      refine (Tryz.strconv_Atoi_ok s (by omega) v ha w).mono ?_
      rintro e w' ⟨rfl,hw⟩
      have e1:zlj s=v:=by unfold zlj; rw [ha]
      have e2:y45 s=true:=by unfold y45; rw [ha]
      rw [e1] at hb ⊢
      rw [e2]
      refine ⟨_,rfl,?_,fun O _=>?_⟩
      · rcases hw with rfl | ⟨t,rfl⟩
        · exact Keep.refl _ _
        · unfold Lib.bytesWorld
          have h1:=Keep.alloc (fun _=>False) w.drew (.cells (Lib.bytesCells w 5 t) 5)
          refine ((Keep.drew (fun _=>False) w).trans h1 (fun _ _ h=>h)).trans (Keep.freeze (O:=fun k=>k=w.heap.size) _ ⟨w.heap.size,_,none⟩ 1 rfl) (fun b hb h=>?_)
          subst h
          exact absurd hb (Nat.lt_irrefl _)
      · simp only [VRel]
        exact ⟨_,rfl,by simp only [VRels,VRel,and_true,true_and]; exact hb⟩
    · skip
      obtain ⟨ev,h1,h2⟩:=ydc hg
      refine (Tryz.strconv_Atoi_syntax s (by omega) ha ev w h1 h2).mono ?_
      rintro e w' ⟨N,rfl,_,_,hw⟩
      have e1:zlj s=0:=by unfold zlj; rw [ha]
      have e2:y45 s=false:=by unfold y45; rw [ha]
      rw [e1] at hb ⊢
      rw [e2]
      refine ⟨_,rfl,Keep.below hw,fun O _=>?_⟩
      simp only [VRel]
      exact ⟨_,rfl,by simp only [VRels,VRel,and_true]; exact ⟨⟨trivial,hb⟩,_,_,rfl⟩⟩
    · skip
      obtain ⟨ev,h1,h2⟩:=ydv hg
      refine (Tryz.strconv_Atoi_range s (by omega) ha ev w h1 h2).mono ?_
      rintro e w' ⟨N,rfl,_,_,hw⟩
      have e1:zlj s=Lib.atoiSat s.data.toList:=by unfold zlj; rw [ha]
      have e2:y45 s=false:=by unfold y45; rw [ha]
      rw [e1] at hb ⊢
      rw [e2]
      refine ⟨_,rfl,Keep.below hw,fun O _=>?_⟩
      simp only [VRel]
      exact ⟨_,rfl,by simp only [VRels,VRel,and_true]; exact ⟨⟨trivial,hb⟩,_,_,rfl⟩⟩
  · simp [R.get] at hsp
set_option maxRecDepth 100000 in
theorem zpy:z3n PR B0 49 zb4:=by
  intro w X γ vs xs r out hsp hg hx hR hV
  unfold zb4 at hsp
  simp only at hsp
  split at hsp
  · rename_i s sep
    cases hc:decide (s.size < 4294967281) with
    | false=>rw [hc] at hsp; simp [R.get] at hsp
    | true=>
      rw [hc] at hsp
      simp only [R.get,Option.some.injEq,Prod.mk.injEq] at hsp
      obtain ⟨rfl,rfl⟩:=hsp
      obtain ⟨x0,x1,rfl⟩:∃ x0 x1,xs=[x0,x1]:=by
        have:=hV.length
        simp at this
        match xs,this with
        | [a,b],_=>exact ⟨a,b,rfl⟩
      simp only [List.map_cons,List.map_nil,z95,VRels,VRel,and_true] at hV
      obtain ⟨⟨rfl,hs⟩,rfl,hsep⟩:=hV
      obtain ⟨m,hm⟩:=y6t hg
      refine zld hR rfl rfl (Does.of_calls Tryz.func49 (by kernel_rfl) (by kernel_rfl) ((Tryz.strings_Cut s sep m w (of_decide_eq_true hc) hm).mono ?_))
      rintro e w' ⟨rfl,n,rfl⟩
      have hsz:=zrv s sep
      refine ⟨_,rfl,Keep.drewN w n,fun O _=>?_⟩
      simp only [VRel]
      exact ⟨_,rfl,by simp only [VRels,VRel,and_true]; exact ⟨⟨rfl,by omega⟩,⟨rfl,by omega⟩,rfl⟩⟩
  · simp [R.get] at hsp
set_option maxRecDepth 100000 in
theorem zn4:z3n PR B0 50 z8y:=by
  intro w X γ vs xs r out hsp hg hx hR hV
  unfold z8y at hsp
  simp only at hsp
  split at hsp
  · rename_i s sep
    cases hc:(decide (s.size < 4294967281)&&decide (1≤sep.size)) with
    | false=>rw [hc] at hsp; simp [R.get] at hsp
    | true=>
      rw [hc] at hsp
      simp only [Bool.and_eq_true,decide_eq_true_eq] at hc
      simp only [R.get,Option.some.injEq,Prod.mk.injEq] at hsp
      obtain ⟨rfl,rfl⟩:=hsp
      obtain ⟨x0,x1,rfl⟩:∃ x0 x1,xs=[x0,x1]:=by
        have:=hV.length
        simp at this
        match xs,this with
        | [a,b],_=>exact ⟨a,b,rfl⟩
      simp only [List.map_cons,List.map_nil,z95,VRels,VRel,and_true] at hV
      obtain ⟨⟨rfl,hs⟩,rfl,hsep⟩:=hV
      obtain ⟨m,hm⟩:=y6t hg
      have hlen:=Lib.splitB_all sep hc.2 0 _ s rfl
      have hcnt:=Lib.countB_le sep hc.2 s.size s (Nat.le_refl _)
      refine zld hR rfl rfl (Does.of_calls Tryz.func50 (by kernel_rfl) (by kernel_rfl) ((Tryz.strings_Split s sep m w hc.1 hm hc.2).mono ?_))
      rintro e w' ⟨rfl,rfl⟩
      refine ⟨_,rfl,Keep.alloc _ w _,fun O hO=>?_⟩
      simp only [VRel]
      have:=ydh (w:=w) (w':=w.alloc (.cells ((z4k s sep).map Value.string).toArray 9)) hO (g:=w.heap.size) (Nat.le_refl _) (heap_alloc_new w _) (l:=z4k s sep) (c:=Lib.countB s sep+1) (by unfold z4k; omega) (by unfold maxLen; omega) (by unfold z4k strMax; omega) (fun p hp=>Nat.le_trans ((zot sep _ s).2 p hp) hs)
      unfold z4k at this ⊢
      rw [hlen] at this
      exact this
  · simp [R.get] at hsp
def SpsOK:List (Nat × z0x)→Prop
  | []=>True
  | (f,sp) :: r=>z3n PR B0 f sp∧SpsOK r
set_option maxRecDepth 100000 in
theorem SpsOK.get:∀ {l:List (Nat × z0x)},SpsOK l→∀ f sp,lk l f=some sp→z3n PR B0 f sp
  | [],_,f,sp,h=>by simp [lk] at h
  | (g,sg) :: r,hs,f,sp,h=>by
    simp only [lk] at h
    split at h
    · rename_i hb
      simp only [Option.some.injEq] at h
      subst h
      rw [← z1d.1 hb]
      exact hs.1
    · exact SpsOK.get hs.2 f sp h
set_option maxRecDepth 100000 in
theorem z0o {f:Nat} {fn:Func} {code:Code} {rs:List ResultVar} {nt:Nat} (sps:List (Nat × z0x)) (lp:List (Nat × KP)) (sp:z0x) (rks:List (List Kd)) (hf:PR.funcs[f]?=some fn)
    (hc:(fn.name == "runtime.NumGoroutine")=false∧fn.body=some code∧fn.ntmps=nt∧Nat.ble nt 900000=true∧fn.results.toList=rs) (hs:SpsOK sps)
    (h:∀ vs r,(zhk vs (z5m vs)→ycp vs)→(sp vs).get=some r→∃ N,z16 (mkE sps lp nt N) code rs rks vs=some r):z3n PR B0 f sp:=
  y97 (mkE sps lp nt) sp rks hf hc (fun _=>rfl) yi2 (fun _=>y9c rfl yhx) (fun _=>yc3 rfl yid) (fun _=>hs.get) (fun _ f p hp=>by cases hp) (fun _ h=>y9w h) h
def IpsOK:List (Nat × Ip)→Prop
  | []=>True
  | (f,p) :: r=>zyx PR f p∧IpsOK r
set_option maxRecDepth 100000 in
theorem IpsOK.get:∀ {l:List (Nat × Ip)},IpsOK l→∀ f p,lk l f=some p→zyx PR f p
  | [],_,f,p,h=>by simp [lk] at h
  | (g,pg) :: r,hs,f,p,h=>by
    simp only [lk] at h
    split at h
    · rename_i hb
      simp only [Option.some.injEq] at h
      subst h
      rw [← z1d.1 hb]
      exact hs.1
    · exact IpsOK.get hs.2 f p h
set_option maxRecDepth 100000 in
theorem yaa {f:Nat} {fn:Func} {code:Code} {rs:List ResultVar} {nt:Nat} (sps:List (Nat × z0x)) (ips:List (Nat × Ip)) (lp:List (Nat × KP)) (sp:z0x) (rks:List (List Kd)) (hf:PR.funcs[f]?=some fn)
    (hc:(fn.name == "runtime.NumGoroutine")=false∧fn.body=some code∧fn.ntmps=nt∧Nat.ble nt 900000=true∧fn.results.toList=rs) (hs:SpsOK sps) (hi:IpsOK ips)
    (h:∀ vs r,(zhk vs (z5m vs)→ycp vs)→(sp vs).get=some r→∃ N,z16 (mkI sps ips lp nt N) code rs rks vs=some r):z3n PR B0 f sp:=
  y97 (mkI sps ips lp nt) sp rks hf hc (fun _=>rfl) yi2 (fun _=>y9c rfl yhx) (fun _=>yc3 rfl yid) (fun _=>hs.get) (fun _=>hi.get) (fun _ h=>y9w h) h
open Go Go.RowKit
theorem z12 {n:Int} (h0 : -9223372036854775808≤n) (h1:n≤9223372036854775807):IntKind.wrap .i64 n=n:=by
  have e:IntKind.wrap .i64 n=(n+9223372036854775808) % 18446744073709551616 - 9223372036854775808:=by
    simp [IntKind.wrap,IntKind.bits,IntKind.signed]
    omega
  rw [e]
  omega
theorem zb1 {α:Type} {l:List α} {i:Nat} (h:i < l.length):decide ((i:Int) < ic l.length)=true:=by simp [ic]; omega
theorem zcy {α:Type} {l:List α} {i:Nat} (h:l.length≤i):decide ((i:Int) < ic l.length)=false:=by simp [ic]; omega
theorem zjz {i:Nat}:decide (0≤(i:Int))=true:=by simp
theorem z68 {i:Nat} (h:i < 9223372036854775807):IntKind.wrap .i64 ((i:Int)+1)=((i+1:Nat):Int):=by rw [z12 (by omega) (by omega)]; rfl
theorem zc7 {α:Type} [Inhabited α] {l:List α} {i:Nat} (h:i < l.length):l.getD (i:Int).toNat default=l[i]:=by simp [h]
theorem zuv (a b:Int):decide (a≤b)=!decide (b < a):=by rw [Bool.eq_iff_iff]; simp
theorem yeb (a b:Int):decide (a > b)=decide (b < a):=rfl
theorem zyq (a b:Int):(a==b)=decide (a=b):=rfl
theorem z01 {α:Type _} (a b:α):cond true a b=a:=Eq.trans (Eq.refl a) (Eq.refl a)
theorem z03 {α:Type _} (a b:α):cond false a b=b:=Eq.trans (Eq.refl b) (Eq.refl b)
open Go
def zds (n:Int):Int:=IntKind.wrap .i64 n
def y5k (n:Int):Int:=IntKind.wrap .u64 n
def z8l (lo hi:Int):Int:=zds (zds (hi - lo)+1)
def z00 (n lo hi:Int):Int:=cond (decide (n.tmod (z8l lo hi) < 0)) (zds (lo+zds (zds (zds (n.tmod (z8l lo hi)+hi) - lo)+1))) (zds (lo+n.tmod (z8l lo hi)))
def z0z:z0x
  | [.int .i64 n,.int .i64 lo,.int .i64 hi]=>.br (decide (z8l lo hi=0)) .no (.ok (.int .i64 (z00 n lo hi)) [])
  | _=>.no
open Go Go.Proofs
def zlh (N:Nat):Env:=mkE [] [] 24 N
theorem zk4 (N:Nat) (n:Int) (lo:Int) (hi:Int):z16 (zlh N) zcz [.tmp 6] [[.int .i64]] [(.int .i64 n),(.int .i64 lo),(.int .i64 hi)] =
 (cond (decide (IntKind.wrap IntKind.i64 (IntKind.wrap IntKind.i64 (hi - lo)+1)=0))
 none
 (cond (decide (Int.tmod n (IntKind.wrap IntKind.i64 (IntKind.wrap IntKind.i64 (hi - lo)+1)) < 0))
 (some ((.int .i64 (IntKind.wrap IntKind.i64 (lo+IntKind.wrap IntKind.i64 (IntKind.wrap IntKind.i64 (IntKind.wrap IntKind.i64 (Int.tmod n (IntKind.wrap IntKind.i64 (IntKind.wrap IntKind.i64 (hi - lo)+1))+hi) - lo)+1)))),[]))
 (some ((.int .i64 (IntKind.wrap IntKind.i64 (lo+Int.tmod n (IntKind.wrap IntKind.i64 (IntKind.wrap IntKind.i64 (hi - lo)+1))))),[])))):=by kernel_rfl
open Go Go.Proofs
set_option maxRecDepth 100000 in
theorem z3s:z3n PR B0 6 z0z:=by
  refine z0o [] [] z0z [[.int .i64]] Tryz.func6 zln trivial ?_
  intro vs r hwf h
  unfold z0z at h
  split at h
  · rename_i n lo hi
    refine ⟨0,?_⟩
    rw [← h]
    refine (zk4 0 n lo hi).trans ?_
    simp only [R.get_br,R.get_ok,R.get_no]
    unfold z00 z8l zds
    cases decide (IntKind.wrap IntKind.i64 (IntKind.wrap IntKind.i64 (hi - lo)+1)=0) <;> cases decide (Int.tmod n (IntKind.wrap IntKind.i64 (IntKind.wrap IntKind.i64 (hi - lo)+1)) < 0) <;> rfl
  · simp [R.get] at h
open Go
open Go
theorem ych {n m:Int} (h:0 < m) : -m < n.tmod m∧n.tmod m < m:=by
  constructor
  · rcases Int.lt_or_le n 0 with hn | hn
    · have e:n.tmod m = -((-n).tmod m):=by rw [Int.neg_tmod,Int.neg_neg]
      have:=Int.tmod_lt_of_pos (-n) h
      omega
    · have:=Int.tmod_nonneg m hn
      omega
  · exact Int.tmod_lt_of_pos n h
theorem z2n {n lo hi:Int} (h:lo≤hi) (h0 : -2000000000000000000≤lo) (h1:hi≤2000000000000000000):z8l lo hi=hi - lo+1∧lo≤z00 n lo hi∧z00 n lo hi≤hi:=by
  have e1:zds (hi - lo)=hi - lo:=z12 (by omega) (by omega)
  have e2:z8l lo hi=hi - lo+1:=by
    unfold z8l
    rw [e1]
    exact z12 (by omega) (by omega)
  refine ⟨e2,?_⟩
  unfold z00
  rw [e2]
  obtain ⟨t0,t1⟩:=ych (n:=n) (m:=hi - lo+1) (by omega)
  generalize n.tmod (hi - lo+1)=q at t0 t1 ⊢
  cases hq:decide (q < 0) with
  | true=>
    have hq:=of_decide_eq_true hq
    simp only [cond_true]
    have a1:zds (q+hi)=q+hi:=z12 (by omega) (by omega)
    have a2:zds (q+hi - lo)=q+hi - lo:=z12 (by omega) (by omega)
    have a3:zds (q+hi - lo+1)=q+hi - lo+1:=z12 (by omega) (by omega)
    have a4:zds (lo+(q+hi - lo+1))=lo+(q+hi - lo+1):=z12 (by omega) (by omega)
    rw [a1,a2,a3,a4]
    omega
  | false=>
    have hq:=of_decide_eq_false hq
    simp only [cond_false]
    have a1:zds (lo+q)=lo+q:=z12 (by omega) (by omega)
    rw [a1]
    omega
theorem ycy (n:Int):IntKind.wrap .u64 n=n % 18446744073709551616:=by simp [IntKind.wrap,IntKind.bits,IntKind.signed]
open Go
structure Qy where
  k:Int
  c:Int
  a0:Int
  b0:Int
  a1:Int
  b1:Int
  a2:Int
  b2:Int
  a3:Int
  b3:Int
  a4:Int
  b4:Int
  lo:Int
  hi:Int
  ft:Int
  fl:Bool
  bu:Int
def Qy.V (q:Qy):V:=.agg [.int .i64 q.k,.int .i64 q.c,.int .i64 q.a0,.int .i64 q.b0,.int .i64 q.a1,.int .i64 q.b1,.int .i64 q.a2,.int .i64 q.b2,.int .i64 q.a3,.int .i64 q.b3,.int .i64 q.a4,.int .i64 q.b4,.int .i64 q.lo,.int .i64 q.hi,.int .i64 q.ft,.bool q.fl,.int .i64 q.bu]
def Qy.none:Qy:=⟨0,0,0,0,0,0,0,0,0,0,0,0,0,0,0,false,0⟩
def Qy.eq (p q:Qy):Bool:=
  (p.k==q.k)&&((p.c==q.c)&&((p.a0==q.a0)&&((p.b0==q.b0)&&((p.a1==q.a1)&&((p.b1==q.b1)&&((p.a2==q.a2)&&((p.b2==q.b2)&&((p.a3==q.a3)&&((p.b3==q.b3)&&((p.a4==q.a4)&&((p.b4==q.b4)&&((p.lo==q.lo)&&((p.hi==q.hi)&&((p.ft==q.ft)&&((p.fl==q.fl)&&((p.bu==q.bu)&&true))))))))))))))))
open Go
def z1x (l:List IV) (i:Int):Int:=cond (ic l.length==0) 0 (l.getD (i.tmod (ic l.length)).toNat default).toInt
def z2e:z0x
  | [.list false [.int .i64] l,.int .i64 i]=>.br (decide (0≤i)) (.ok (.int .i64 (z1x l i)) []) .no
  | _=>.no
def z1g (n:Int):Bool:=decide (-2147483648≤n)&&decide (n≤2147483647)
def z5s:z0x
  | [.int .i64 n,.int .i64 w]=>.br (decide (w=32)) (.ok (.bool (z1g n)) []) .no
  | _=>.no
def y30 (lf:Bool) (v f a l r:Int):Bool:=
  cond lf (z1g v&&((f==0)&&((a==0)&&((l==0)&&(r==0)))))
    ((v==0)&&(decide (0≤f)&&(decide (f < 4)&&(z1g a&&(decide (1≤l)&&(decide (l < 31)&&(decide (1≤r)&&decide (r < 31))))))))
def z3e:z0x
  | [.agg [.bool lf,.int .i64 v,.int .i64 f,.int .i64 a,.int .i64 l,.int .i64 r]]=>.ok (.bool (y30 lf v f a l r)) []
  | _=>.no
def yim (a b:Int):Int:=y5k (ic (BitVec.toNat (BitVec.ofInt (IntKind.bits IntKind.u64) a &&& BitVec.ofInt (IntKind.bits IntKind.u64) b)))
def orU (a b:Int):Int:=y5k (ic (BitVec.toNat (BitVec.ofInt (IntKind.bits IntKind.u64) a ||| BitVec.ofInt (IntKind.bits IntKind.u64) b)))
def yh3 (a:Int) (k:Nat):Int:=y5k (a*2 ^ k)
def za8 (lf:Bool) (v f a l r:Int):Int:=
  cond (y30 lf v f a l r)
    (cond lf (orU 9223372036854775808 (yim (y5k v) 4294967295))
      (orU (orU (orU (yim (y5k a) 4294967295) (yh3 (y5k f) 32)) (yh3 (y5k l) 40)) (yh3 (y5k r) 48)))
    0
def z3o:z0x
  | [.agg [.bool lf,.int .i64 v,.int .i64 f,.int .i64 a,.int .i64 l,.int .i64 r]]=>.ok (.int .u64 (za8 lf v f a l r)) []
  | _=>.no
def mkN (lf:Bool) (v f a l r:Int):IV:=.agg [.bool lf,.int v,.int f,.int a,.int l,.int r]
def zio (v:Int):IV:=mkN true v 0 0 0 0
def zx9 (x:IV):IV:=.int (za8 (x.cell 0).toBool (x.cell 1).toInt (x.cell 2).toInt (x.cell 3).toInt (x.cell 4).toInt (x.cell 5).toInt)
structure Ns where
  nodes:List IV
  leaves:List IV
def nsK (part:List IV) (i:Nat) (s:Ns):Int:=z00 (part.getD i default).toInt 0 (ic s.leaves.length - 1)
def yca (part:List IV) (i:Nat) (s:Ns):Int:=(s.leaves.getD (nsK part i s).toNat default).toInt
def z8h (part byl atl val:List IV) (dim:Int) (i:Nat) (s:Ns):Ns:=
  ⟨s.nodes.set (yca part i s).toNat (mkN false 0 (z00 (z1x byl (i:Int)) 0 (dim - 1)) (z00 (z1x atl (i:Int)) 0 9) (ic s.nodes.length) (ic s.nodes.length+1)) ++
      [zio (z00 (z1x val (2*(i:Int)+1)) (-3000) 3000),zio (z00 (z1x val (2*(i:Int)+2)) (-3000) 3000)],
    s.leaves.take (nsK part i s).toNat++s.leaves.drop ((nsK part i s).toNat+1)++[.int (ic s.nodes.length),.int (ic s.nodes.length+1)]⟩
def y7o (part byl atl val:List IV) (dim:Int):Nat→Nat→Ns→Ns
  | 0,_,s=>s
  | d+1,i,s=>y7o part byl atl val dim d (i+1) (z8h part byl atl val dim i s)
def zg2 (part byl atl val:List IV) (dim:Int):Ns:=y7o part byl atl val dim (min part.length 7) 0 ⟨[zio (z00 (z1x val 0) (-3000) 3000)],[.int 0]⟩
def zd4 (part byl atl val:List IV) (dim:Int):List IV:=(zg2 part byl atl val dim).nodes.map zx9
def z36:z0x
  | [.agg [.int .i64 _,.list false [.int .i64] part,.list false [.int .i64] byl,.list false [.int .i64] atl,.list false [.int .i64] val],.int .i64 dim]=>
    .br (decide (1≤dim)&&decide (dim≤4)) (.ok (.list false [.int .u64] (zd4 part byl atl val dim)) []) .no
  | _=>.no
def y82 (d:Int):Int:=z00 d 1 3
def zzg (c:Int):Int:=z00 c 1 3
def zys (c:Int) (bias:List IV) (j:Int):Int:=cond (decide (j < zzg c)) (z00 (z1x bias j) (-500) 500) 0
def y8l (d c:Int) (t:IV):IV:=.agg [.int (z00 (t.cell 0).toInt 0 (zzg c - 1)),.list (zd4 (t.cell 1).toList (t.cell 2).toList (t.cell 3).toList (t.cell 4).toList (y82 d))]
def zob (d c:Int) (ts:List IV):List IV:=(ts.take 4).map (y8l d c)
def z3l:z0x
  | [.agg [.int .i64 d,.int .i64 c,.list false [.int .i64] bias,.list true [.int .i64,.list false [.int .i64],.list false [.int .i64],.list false [.int .i64],.list false [.int .i64]] ts]]=>
    .ok (.agg [.int .i64 (y82 d),.int .i64 (zzg c),.int .i64 (zys c bias 0),.int .i64 (zys c bias 1),.int .i64 (zys c bias 2),.list true [.int .i64,.list false [.int .u64]] (zob d c ts)]) []
  | _=>.no
def zfy (d:Int) (l:List IV) (i:Int):Int:=cond (decide (i < d)) (z00 (z1x l (2*i)) (-2) 9) 0
def zgb (d:Int) (l:List IV) (i:Int):Int:=cond (decide (i < d)) (z00 (z1x l (2*i)) (-2) 9+z00 (z1x l (2*i+1)) 0 11) 0
def z4l:z0x
  | [.agg [.int .i64 d,.int .i64 _,.int .i64 _,.int .i64 _,.int .i64 _,.list true [.int .i64,.list false [.int .u64]] _],.list false [.int .i64] l]=>
    .br (decide (0≤d)&&decide (d≤4)) (.ok (.agg [.int .i64 (zfy d l 0),.int .i64 (zgb d l 0),.int .i64 (zfy d l 1),.int .i64 (zgb d l 1),.int .i64 (zfy d l 2),.int .i64 (zgb d l 2),.int .i64 (zfy d l 3),.int .i64 (zgb d l 3),.int .i64 0,.int .i64 0]) []) .no
  | _=>.no
structure Ak where
  k:Int
  c:Int
  lo:Int
  size:Int
  ft:Int
  bu:Int
  fl:Bool
  sp:List IV
def zaw (a:Ak) (cls:Int):Int:=cond (z00 a.k 1 3==2&&decide (cls < 2)) 1 (z00 a.k 1 3)
def loA (a:Ak):Int:=z00 a.lo (-9000) 9000
def z89 (a:Ak) (dim cls:Int):Qy:=
  ⟨zaw a cls,z00 a.c 0 (cls - 1),zfy dim a.sp 0,zgb dim a.sp 0,zfy dim a.sp 1,zgb dim a.sp 1,zfy dim a.sp 2,zgb dim a.sp 2,zfy dim a.sp 3,zgb dim a.sp 3,0,0,
    cond (zaw a cls==1) (loA a) 0,cond (zaw a cls==1) (loA a+z00 a.size 0 18000) 0,cond (zaw a cls==3) (z00 a.ft 0 (dim - 1)) 0,cond (zaw a cls==3) a.fl false,z00 a.bu 0 65536⟩
def z4t:z0x
  | [.agg [.int .i64 k,.int .i64 c,.int .i64 lo,.int .i64 size,.int .i64 ft,.int .i64 bu,.bool fl,.list false [.int .i64] sp],.agg [.int .i64 dim,.int .i64 cls,.int .i64 _,.int .i64 _,.int .i64 _,.list true [.int .i64,.list false [.int .u64]] _]]=>
    .br ((decide (1≤dim)&&decide (dim≤4))&&(decide (1≤cls)&&decide (cls≤3)))
      (.ok (.agg [.int .i64 (z89 ⟨k,c,lo,size,ft,bu,fl,sp⟩ dim cls).k,.int .i64 (z89 ⟨k,c,lo,size,ft,bu,fl,sp⟩ dim cls).c,
        .int .i64 (z89 ⟨k,c,lo,size,ft,bu,fl,sp⟩ dim cls).a0,.int .i64 (z89 ⟨k,c,lo,size,ft,bu,fl,sp⟩ dim cls).b0,.int .i64 (z89 ⟨k,c,lo,size,ft,bu,fl,sp⟩ dim cls).a1,.int .i64 (z89 ⟨k,c,lo,size,ft,bu,fl,sp⟩ dim cls).b1,
        .int .i64 (z89 ⟨k,c,lo,size,ft,bu,fl,sp⟩ dim cls).a2,.int .i64 (z89 ⟨k,c,lo,size,ft,bu,fl,sp⟩ dim cls).b2,.int .i64 (z89 ⟨k,c,lo,size,ft,bu,fl,sp⟩ dim cls).a3,.int .i64 (z89 ⟨k,c,lo,size,ft,bu,fl,sp⟩ dim cls).b3,
        .int .i64 (z89 ⟨k,c,lo,size,ft,bu,fl,sp⟩ dim cls).a4,.int .i64 (z89 ⟨k,c,lo,size,ft,bu,fl,sp⟩ dim cls).b4,.int .i64 (z89 ⟨k,c,lo,size,ft,bu,fl,sp⟩ dim cls).lo,.int .i64 (z89 ⟨k,c,lo,size,ft,bu,fl,sp⟩ dim cls).hi,
        .int .i64 (z89 ⟨k,c,lo,size,ft,bu,fl,sp⟩ dim cls).ft,.bool (z89 ⟨k,c,lo,size,ft,bu,fl,sp⟩ dim cls).fl,.int .i64 (z89 ⟨k,c,lo,size,ft,bu,fl,sp⟩ dim cls).bu]) []) .no
  | _=>.no
open Go Go.Proofs
def zp4 (N:Nat):Env:=mkE [] [] 15 N
theorem zmn (N:Nat) (l:List IV) (i:Int):z16 (zp4 N) zg7 [.tmp 4] [[.int .i64]] [(.list false [.int .i64] l),(.int .i64 i)] =
 (cond (ic (List.length l)==0)
 (some ((.int .i64 0),[]))
 (cond (decide (ic (List.length l)=0))
 none
 (cond (decide (0≤Int.tmod i (ic (List.length l)))&&decide (Int.tmod i (ic (List.length l)) < ic (List.length l)))
 (some ((.int .i64 (IV.toInt (List.getD l (Int.toNat (Int.tmod i (ic (List.length l)))) default))),[]))
 none))):=by kernel_rfl
def zpf (N:Nat):Env:=mkE [] [] 27 N
theorem zmr (N:Nat) (n:Int) (w:Int):z16 (zpf N) zgc [.tmp 4] [[.bool]] [(.int .i64 n),(.int .i64 w)] =
 (cond (decide (w < 1))
 (some ((.bool false),[]))
 (cond (decide (w > 64))
 (some ((.bool false),[]))
 (cond (w==64)
 (some ((.bool true),[]))
 (cond (decide (IntKind.wrap IntKind.i64 (w - 1) < 0))
 none
 (cond (decide (n≥IntKind.wrap IntKind.i64 (0 - IntKind.wrap IntKind.i64 (1*2 ^ min (Int.toNat (IntKind.wrap IntKind.i64 (w - 1))) (IntKind.bits IntKind.i64)))))
 (some ((.bool (decide (n≤IntKind.wrap IntKind.i64 (IntKind.wrap IntKind.i64 (1*2 ^ min (Int.toNat (IntKind.wrap IntKind.i64 (w - 1))) (IntKind.bits IntKind.i64)) - 1)))),[]))
 (some ((.bool false),[]))))))):=by kernel_rfl
def zha (N:Nat):Env:=mkE [(76,z5s)] [] 66 N
theorem zgg (N:Nat) (n_Leaf:Bool) (n_Value:Int) (n_Feature:Int) (n_At:Int) (n_Left:Int) (n_Right:Int):z16 (zha N) z9x [.tmp 2] [[.bool]] [(.agg [(.bool n_Leaf),(.int .i64 n_Value),(.int .i64 n_Feature),(.int .i64 n_At),(.int .i64 n_Left),(.int .i64 n_Right)])] =
 (cond n_Leaf
 (cond (z1g n_Value)
 (cond (n_Feature==0)
 (cond (n_At==0) (cond (n_Left==0) (some ((.bool (n_Right==0)),[])) (some ((.bool false),[]))) (some ((.bool false),[])))
 (some ((.bool false),[])))
 (some ((.bool false),[])))
 (cond (n_Value==0)
 (cond (decide (n_Feature≥0))
 (cond (decide (n_Feature < 4))
 (cond (z1g n_At)
 (cond (decide (n_Left≥1))
 (cond (decide (n_Left < 31)) (cond (decide (n_Right≥1)) (some ((.bool (decide (n_Right < 31))),[])) (some ((.bool false),[]))) (some ((.bool false),[])))
 (some ((.bool false),[])))
 (some ((.bool false),[])))
 (some ((.bool false),[])))
 (some ((.bool false),[])))
 (some ((.bool false),[])))):=by kernel_rfl
def zou (N:Nat):Env:=mkE [(56,z3e)] [] 32 N
theorem zmp (N:Nat) (n_Leaf:Bool) (n_Value:Int) (n_Feature:Int) (n_At:Int) (n_Left:Int) (n_Right:Int):z16 (zou N) zfx [.tmp 2] [[.int .u64]] [(.agg [(.bool n_Leaf),(.int .i64 n_Value),(.int .i64 n_Feature),(.int .i64 n_At),(.int .i64 n_Left),(.int .i64 n_Right)])] =
 (cond (!y30 n_Leaf n_Value n_Feature n_At n_Left n_Right)
 (some ((.int .u64 0),[]))
 (cond n_Leaf
 (some ((.int .u64 (IntKind.wrap IntKind.u64 (ic (BitVec.toNat (BitVec.ofInt (IntKind.bits IntKind.u64) 9223372036854775808 ||| BitVec.ofInt (IntKind.bits IntKind.u64) (IntKind.wrap IntKind.u64 (ic (BitVec.toNat (BitVec.ofInt (IntKind.bits IntKind.u64) (IntKind.wrap IntKind.u64 n_Value) &&& BitVec.ofInt (IntKind.bits IntKind.u64) 4294967295))))))))),[]))
 (some ((.int .u64 (IntKind.wrap IntKind.u64 (ic (BitVec.toNat (BitVec.ofInt (IntKind.bits IntKind.u64) (IntKind.wrap IntKind.u64 (ic (BitVec.toNat (BitVec.ofInt (IntKind.bits IntKind.u64) (IntKind.wrap IntKind.u64 (ic (BitVec.toNat (BitVec.ofInt (IntKind.bits IntKind.u64) (IntKind.wrap IntKind.u64 (ic (BitVec.toNat (BitVec.ofInt (IntKind.bits IntKind.u64) (IntKind.wrap IntKind.u64 n_At) &&& BitVec.ofInt (IntKind.bits IntKind.u64) 4294967295)))) ||| BitVec.ofInt (IntKind.bits IntKind.u64) (IntKind.wrap IntKind.u64 (IntKind.wrap IntKind.u64 n_Feature*2 ^ min (Int.toNat 32) (IntKind.bits IntKind.u64))))))) ||| BitVec.ofInt (IntKind.bits IntKind.u64) (IntKind.wrap IntKind.u64 (IntKind.wrap IntKind.u64 n_Left*2 ^ min (Int.toNat 40) (IntKind.bits IntKind.u64))))))) ||| BitVec.ofInt (IntKind.bits IntKind.u64) (IntKind.wrap IntKind.u64 (IntKind.wrap IntKind.u64 n_Right*2 ^ min (Int.toNat 48) (IntKind.bits IntKind.u64)))))))),[])))):=by kernel_rfl
def z1o (N:Nat):Env:=mkE [(6,z0z),(14,z2e)] [(3,⟨[1,4,5,9,10],[4,5],[]⟩)] 32 N
theorem zjj (N:Nat) (m_Dim:Int) (m_Classes:Int) (m_Bias_0:Int) (m_Bias_1:Int) (m_Bias_2:Int) (m_Trees:List IV) (l:List IV):z16 (z1o N) z1z [.cell 4 36] [[.int .i64,.int .i64,.int .i64,.int .i64,.int .i64,.int .i64,.int .i64,.int .i64,.int .i64,.int .i64]] [(.agg [(.int .i64 m_Dim),(.int .i64 m_Classes),(.int .i64 m_Bias_0),(.int .i64 m_Bias_1),(.int .i64 m_Bias_2),(.list true [.int .i64,.list false [.int .u64]] m_Trees)]),(.list false [.int .i64] l)] =
 (lpE (z1o N) (z0l z1z [1,1,0,1,0,0]) ⟨[1,4,5,9,10],[4,5],[]⟩ N ⟨[(1,(.list false [(.int .i64)] l)),(4,(.ptr 4 0 0)),(5,(.ptr 5 0 0)),(9,(.int .i64 m_Dim)),(10,(.int .i64 0))],[(4,(some (.box [(.int .i64 0),(.int .i64 0),(.int .i64 0),(.int .i64 0),(.int .i64 0),(.int .i64 0),(.int .i64 0),(.int .i64 0),(.int .i64 0),(.int .i64 0)]))),(5,(some (.box [(.int .i64 0),(.int .i64 0),(.int .i64 0),(.int .i64 0),(.int .i64 0),(.int .i64 0),(.int .i64 0),(.int .i64 0),(.int .i64 0),(.int .i64 0)])))]⟩ (z08 0 (kSq (z1o N) (z0l z1z [1,1,1]) (z2w (z1o N) none [(ResultVar.cell 4 36)] [[(.int .i64),(.int .i64),(.int .i64),(.int .i64),(.int .i64),(.int .i64),(.int .i64),(.int .i64),(.int .i64),(.int .i64)]])))):=by kernel_rfl
theorem zak (N:Nat) (l1:List IV) (x9:Int) (x10:Int) (xo4_0:Int) (xo4_1:Int) (xo4_2:Int) (xo4_3:Int) (xo4_4:Int) (xo4_5:Int) (xo4_6:Int) (xo4_7:Int) (xo4_8:Int) (xo4_9:Int) (xo5_0:Int) (xo5_1:Int) (xo5_2:Int) (xo5_3:Int) (xo5_4:Int) (xo5_5:Int) (xo5_6:Int) (xo5_7:Int) (xo5_8:Int) (xo5_9:Int) (again:St→Res) (k:Out→St→Res):rnd (z1o N) (z0l z1z [1,1,0,1,0,0])
 ⟨[(1,(.list false [(.int .i64)] l1)),(4,(.ptr 4 0 0)),(5,(.ptr 5 0 0)),(9,(.int .i64 x9)),(10,(.int .i64 x10))],[(4,(some (.box [(.int .i64 xo4_0),(.int .i64 xo4_1),(.int .i64 xo4_2),(.int .i64 xo4_3),(.int .i64 xo4_4),(.int .i64 xo4_5),(.int .i64 xo4_6),(.int .i64 xo4_7),(.int .i64 xo4_8),(.int .i64 xo4_9)]))),(5,(some (.box [(.int .i64 xo5_0),(.int .i64 xo5_1),(.int .i64 xo5_2),(.int .i64 xo5_3),(.int .i64 xo5_4),(.int .i64 xo5_5),(.int .i64 xo5_6),(.int .i64 xo5_7),(.int .i64 xo5_8),(.int .i64 xo5_9)])))]⟩
 (z57 again ⟨[1,4,5,9,10],[4,5],[]⟩ k) =
 (cond (decide (x10 < x9))
 (cond (decide (0≤IntKind.wrap IntKind.i64 (2*x10)))
 (cond (decide (0≤IntKind.wrap IntKind.i64 (IntKind.wrap IntKind.i64 (2*x10)+1)))
 (cond (decide (x10=ic 0))
 (again ⟨[(1,(.list false [(.int .i64)] l1)),(4,(.ptr 4 0 0)),(5,(.ptr 5 0 0)),(9,(.int .i64 x9)),(10,(.int .i64 (IntKind.wrap IntKind.i64 (x10+1))))],[(4,(some (.box [(.int .i64 xo4_0),(.int .i64 xo4_1),(.int .i64 xo4_2),(.int .i64 xo4_3),(.int .i64 xo4_4),(.int .i64 xo4_5),(.int .i64 xo4_6),(.int .i64 xo4_7),(.int .i64 xo4_8),(.int .i64 xo4_9)]))),(5,(some (.box [(.int .i64 (z00 (z1x l1 (IntKind.wrap IntKind.i64 (2*x10))) (-2) 9)),(.int .i64 (IntKind.wrap IntKind.i64 (z00 (z1x l1 (IntKind.wrap IntKind.i64 (2*x10))) (-2) 9+z00 (z1x l1 (IntKind.wrap IntKind.i64 (IntKind.wrap IntKind.i64 (2*x10)+1))) 0 11))),(.int .i64 xo5_2),(.int .i64 xo5_3),(.int .i64 xo5_4),(.int .i64 xo5_5),(.int .i64 xo5_6),(.int .i64 xo5_7),(.int .i64 xo5_8),(.int .i64 xo5_9)])))]⟩)
 (cond (decide (x10=ic 1))
 (again ⟨[(1,(.list false [(.int .i64)] l1)),(4,(.ptr 4 0 0)),(5,(.ptr 5 0 0)),(9,(.int .i64 x9)),(10,(.int .i64 (IntKind.wrap IntKind.i64 (x10+1))))],[(4,(some (.box [(.int .i64 xo4_0),(.int .i64 xo4_1),(.int .i64 xo4_2),(.int .i64 xo4_3),(.int .i64 xo4_4),(.int .i64 xo4_5),(.int .i64 xo4_6),(.int .i64 xo4_7),(.int .i64 xo4_8),(.int .i64 xo4_9)]))),(5,(some (.box [(.int .i64 xo5_0),(.int .i64 xo5_1),(.int .i64 (z00 (z1x l1 (IntKind.wrap IntKind.i64 (2*x10))) (-2) 9)),(.int .i64 (IntKind.wrap IntKind.i64 (z00 (z1x l1 (IntKind.wrap IntKind.i64 (2*x10))) (-2) 9+z00 (z1x l1 (IntKind.wrap IntKind.i64 (IntKind.wrap IntKind.i64 (2*x10)+1))) 0 11))),(.int .i64 xo5_4),(.int .i64 xo5_5),(.int .i64 xo5_6),(.int .i64 xo5_7),(.int .i64 xo5_8),(.int .i64 xo5_9)])))]⟩)
 (cond (decide (x10=ic 2))
 (again ⟨[(1,(.list false [(.int .i64)] l1)),(4,(.ptr 4 0 0)),(5,(.ptr 5 0 0)),(9,(.int .i64 x9)),(10,(.int .i64 (IntKind.wrap IntKind.i64 (x10+1))))],[(4,(some (.box [(.int .i64 xo4_0),(.int .i64 xo4_1),(.int .i64 xo4_2),(.int .i64 xo4_3),(.int .i64 xo4_4),(.int .i64 xo4_5),(.int .i64 xo4_6),(.int .i64 xo4_7),(.int .i64 xo4_8),(.int .i64 xo4_9)]))),(5,(some (.box [(.int .i64 xo5_0),(.int .i64 xo5_1),(.int .i64 xo5_2),(.int .i64 xo5_3),(.int .i64 (z00 (z1x l1 (IntKind.wrap IntKind.i64 (2*x10))) (-2) 9)),(.int .i64 (IntKind.wrap IntKind.i64 (z00 (z1x l1 (IntKind.wrap IntKind.i64 (2*x10))) (-2) 9+z00 (z1x l1 (IntKind.wrap IntKind.i64 (IntKind.wrap IntKind.i64 (2*x10)+1))) 0 11))),(.int .i64 xo5_6),(.int .i64 xo5_7),(.int .i64 xo5_8),(.int .i64 xo5_9)])))]⟩)
 (cond (decide (x10=ic 3))
 (again ⟨[(1,(.list false [(.int .i64)] l1)),(4,(.ptr 4 0 0)),(5,(.ptr 5 0 0)),(9,(.int .i64 x9)),(10,(.int .i64 (IntKind.wrap IntKind.i64 (x10+1))))],[(4,(some (.box [(.int .i64 xo4_0),(.int .i64 xo4_1),(.int .i64 xo4_2),(.int .i64 xo4_3),(.int .i64 xo4_4),(.int .i64 xo4_5),(.int .i64 xo4_6),(.int .i64 xo4_7),(.int .i64 xo4_8),(.int .i64 xo4_9)]))),(5,(some (.box [(.int .i64 xo5_0),(.int .i64 xo5_1),(.int .i64 xo5_2),(.int .i64 xo5_3),(.int .i64 xo5_4),(.int .i64 xo5_5),(.int .i64 (z00 (z1x l1 (IntKind.wrap IntKind.i64 (2*x10))) (-2) 9)),(.int .i64 (IntKind.wrap IntKind.i64 (z00 (z1x l1 (IntKind.wrap IntKind.i64 (2*x10))) (-2) 9+z00 (z1x l1 (IntKind.wrap IntKind.i64 (IntKind.wrap IntKind.i64 (2*x10)+1))) 0 11))),(.int .i64 xo5_8),(.int .i64 xo5_9)])))]⟩)
 (cond (decide (x10=ic 4))
 (again ⟨[(1,(.list false [(.int .i64)] l1)),(4,(.ptr 4 0 0)),(5,(.ptr 5 0 0)),(9,(.int .i64 x9)),(10,(.int .i64 (IntKind.wrap IntKind.i64 (x10+1))))],[(4,(some (.box [(.int .i64 xo4_0),(.int .i64 xo4_1),(.int .i64 xo4_2),(.int .i64 xo4_3),(.int .i64 xo4_4),(.int .i64 xo4_5),(.int .i64 xo4_6),(.int .i64 xo4_7),(.int .i64 xo4_8),(.int .i64 xo4_9)]))),(5,(some (.box [(.int .i64 xo5_0),(.int .i64 xo5_1),(.int .i64 xo5_2),(.int .i64 xo5_3),(.int .i64 xo5_4),(.int .i64 xo5_5),(.int .i64 xo5_6),(.int .i64 xo5_7),(.int .i64 (z00 (z1x l1 (IntKind.wrap IntKind.i64 (2*x10))) (-2) 9)),(.int .i64 (IntKind.wrap IntKind.i64 (z00 (z1x l1 (IntKind.wrap IntKind.i64 (2*x10))) (-2) 9+z00 (z1x l1 (IntKind.wrap IntKind.i64 (IntKind.wrap IntKind.i64 (2*x10)+1))) 0 11)))])))]⟩)
 none)))))
 none)
 none)
 (k (.exit 0) ⟨[(1,(.list false [(.int .i64)] l1)),(4,(.ptr 4 0 0)),(5,(.ptr 5 0 0)),(9,(.int .i64 x9)),(10,(.int .i64 x10))],[(4,(some (.box [(.int .i64 xo4_0),(.int .i64 xo4_1),(.int .i64 xo4_2),(.int .i64 xo4_3),(.int .i64 xo4_4),(.int .i64 xo4_5),(.int .i64 xo4_6),(.int .i64 xo4_7),(.int .i64 xo4_8),(.int .i64 xo4_9)]))),(5,(some (.box [(.int .i64 xo5_0),(.int .i64 xo5_1),(.int .i64 xo5_2),(.int .i64 xo5_3),(.int .i64 xo5_4),(.int .i64 xo5_5),(.int .i64 xo5_6),(.int .i64 xo5_7),(.int .i64 xo5_8),(.int .i64 xo5_9)])))]⟩)):=by kernel_rfl
theorem zfg (N:Nat) (l1:List IV) (x9:Int) (x10:Int) (xo4_0:Int) (xo4_1:Int) (xo4_2:Int) (xo4_3:Int) (xo4_4:Int) (xo4_5:Int) (xo4_6:Int) (xo4_7:Int) (xo4_8:Int) (xo4_9:Int) (xo5_0:Int) (xo5_1:Int) (xo5_2:Int) (xo5_3:Int) (xo5_4:Int) (xo5_5:Int) (xo5_6:Int) (xo5_7:Int) (xo5_8:Int) (xo5_9:Int):(z08 0 (kSq (z1o N) (z0l z1z [1,1,1]) (z2w (z1o N) none [(ResultVar.cell 4 36)] [[(.int .i64),(.int .i64),(.int .i64),(.int .i64),(.int .i64),(.int .i64),(.int .i64),(.int .i64),(.int .i64),(.int .i64)]]))) (.exit 0)
 ⟨[(1,(.list false [(.int .i64)] l1)),(4,(.ptr 4 0 0)),(5,(.ptr 5 0 0)),(9,(.int .i64 x9)),(10,(.int .i64 x10))],[(4,(some (.box [(.int .i64 xo4_0),(.int .i64 xo4_1),(.int .i64 xo4_2),(.int .i64 xo4_3),(.int .i64 xo4_4),(.int .i64 xo4_5),(.int .i64 xo4_6),(.int .i64 xo4_7),(.int .i64 xo4_8),(.int .i64 xo4_9)]))),(5,(some (.box [(.int .i64 xo5_0),(.int .i64 xo5_1),(.int .i64 xo5_2),(.int .i64 xo5_3),(.int .i64 xo5_4),(.int .i64 xo5_5),(.int .i64 xo5_6),(.int .i64 xo5_7),(.int .i64 xo5_8),(.int .i64 xo5_9)])))]⟩ =
 (some ((.agg [(.int .i64 xo5_0),(.int .i64 xo5_1),(.int .i64 xo5_2),(.int .i64 xo5_3),(.int .i64 xo5_4),(.int .i64 xo5_5),(.int .i64 xo5_6),(.int .i64 xo5_7),(.int .i64 xo5_8),(.int .i64 xo5_9)]),[])):=by kernel_rfl
open Go Go.Proofs
def zhb (N:Nat):Env:=mkE [(6,z0z),(16,z4l)] [] 58 N
theorem zgm (N:Nat) (a_Kind:Int) (a_Class:Int) (a_Lo:Int) (a_Size:Int) (a_Feature:Int) (a_Budget:Int) (a_Falls:Bool) (a_Spans:List IV) (m_Dim:Int) (m_Classes:Int) (m_Bias_0:Int) (m_Bias_1:Int) (m_Bias_2:Int) (m_Trees:List IV):z16 (zhb N) za2 [.cell 4 38] [[.int .i64,.int .i64,.int .i64,.int .i64,.int .i64,.int .i64,.int .i64,.int .i64,.int .i64,.int .i64,.int .i64,.int .i64,.int .i64,.int .i64,.int .i64,.bool,.int .i64]] [(.agg [(.int .i64 a_Kind),(.int .i64 a_Class),(.int .i64 a_Lo),(.int .i64 a_Size),(.int .i64 a_Feature),(.int .i64 a_Budget),(.bool a_Falls),(.list false [.int .i64] a_Spans)]),(.agg [(.int .i64 m_Dim),(.int .i64 m_Classes),(.int .i64 m_Bias_0),(.int .i64 m_Bias_1),(.int .i64 m_Bias_2),(.list true [.int .i64,.list false [.int .u64]] m_Trees)])] =
 (cond (decide (z8l 0 (IntKind.wrap IntKind.i64 (m_Classes - 1))=0))
 none
 (cond (decide (0≤m_Dim)&&decide (m_Dim≤4))
 (cond (z00 a_Kind 1 3==2)
 (cond (decide (m_Classes < 2))
 (some ((.agg [(.int .i64 1),(.int .i64 (z00 a_Class 0 (IntKind.wrap IntKind.i64 (m_Classes - 1)))),(.int .i64 (zfy m_Dim a_Spans 0)),(.int .i64 (zgb m_Dim a_Spans 0)),(.int .i64 (zfy m_Dim a_Spans 1)),(.int .i64 (zgb m_Dim a_Spans 1)),(.int .i64 (zfy m_Dim a_Spans 2)),(.int .i64 (zgb m_Dim a_Spans 2)),(.int .i64 (zfy m_Dim a_Spans 3)),(.int .i64 (zgb m_Dim a_Spans 3)),(.int .i64 0),(.int .i64 0),(.int .i64 (z00 a_Lo (-9000) 9000)),(.int .i64 (IntKind.wrap IntKind.i64 (z00 a_Lo (-9000) 9000+z00 a_Size 0 18000))),(.int .i64 0),(.bool false),(.int .i64 (z00 a_Budget 0 65536))]),[]))
 (cond (z00 a_Kind 1 3==1)
 (some ((.agg [(.int .i64 (z00 a_Kind 1 3)),(.int .i64 (z00 a_Class 0 (IntKind.wrap IntKind.i64 (m_Classes - 1)))),(.int .i64 (zfy m_Dim a_Spans 0)),(.int .i64 (zgb m_Dim a_Spans 0)),(.int .i64 (zfy m_Dim a_Spans 1)),(.int .i64 (zgb m_Dim a_Spans 1)),(.int .i64 (zfy m_Dim a_Spans 2)),(.int .i64 (zgb m_Dim a_Spans 2)),(.int .i64 (zfy m_Dim a_Spans 3)),(.int .i64 (zgb m_Dim a_Spans 3)),(.int .i64 0),(.int .i64 0),(.int .i64 (z00 a_Lo (-9000) 9000)),(.int .i64 (IntKind.wrap IntKind.i64 (z00 a_Lo (-9000) 9000+z00 a_Size 0 18000))),(.int .i64 0),(.bool false),(.int .i64 (z00 a_Budget 0 65536))]),[]))
 (some ((.agg [(.int .i64 (z00 a_Kind 1 3)),(.int .i64 (z00 a_Class 0 (IntKind.wrap IntKind.i64 (m_Classes - 1)))),(.int .i64 (zfy m_Dim a_Spans 0)),(.int .i64 (zgb m_Dim a_Spans 0)),(.int .i64 (zfy m_Dim a_Spans 1)),(.int .i64 (zgb m_Dim a_Spans 1)),(.int .i64 (zfy m_Dim a_Spans 2)),(.int .i64 (zgb m_Dim a_Spans 2)),(.int .i64 (zfy m_Dim a_Spans 3)),(.int .i64 (zgb m_Dim a_Spans 3)),(.int .i64 0),(.int .i64 0),(.int .i64 0),(.int .i64 0),(.int .i64 0),(.bool false),(.int .i64 (z00 a_Budget 0 65536))]),[]))))
 (cond (z00 a_Kind 1 3==3)
 (cond (decide (z8l 0 (IntKind.wrap IntKind.i64 (m_Dim - 1))=0))
 none
 (cond (z00 a_Kind 1 3==1)
 (some ((.agg [(.int .i64 (z00 a_Kind 1 3)),(.int .i64 (z00 a_Class 0 (IntKind.wrap IntKind.i64 (m_Classes - 1)))),(.int .i64 (zfy m_Dim a_Spans 0)),(.int .i64 (zgb m_Dim a_Spans 0)),(.int .i64 (zfy m_Dim a_Spans 1)),(.int .i64 (zgb m_Dim a_Spans 1)),(.int .i64 (zfy m_Dim a_Spans 2)),(.int .i64 (zgb m_Dim a_Spans 2)),(.int .i64 (zfy m_Dim a_Spans 3)),(.int .i64 (zgb m_Dim a_Spans 3)),(.int .i64 0),(.int .i64 0),(.int .i64 (z00 a_Lo (-9000) 9000)),(.int .i64 (IntKind.wrap IntKind.i64 (z00 a_Lo (-9000) 9000+z00 a_Size 0 18000))),(.int .i64 (z00 a_Feature 0 (IntKind.wrap IntKind.i64 (m_Dim - 1)))),(.bool a_Falls),(.int .i64 (z00 a_Budget 0 65536))]),[]))
 (some ((.agg [(.int .i64 (z00 a_Kind 1 3)),(.int .i64 (z00 a_Class 0 (IntKind.wrap IntKind.i64 (m_Classes - 1)))),(.int .i64 (zfy m_Dim a_Spans 0)),(.int .i64 (zgb m_Dim a_Spans 0)),(.int .i64 (zfy m_Dim a_Spans 1)),(.int .i64 (zgb m_Dim a_Spans 1)),(.int .i64 (zfy m_Dim a_Spans 2)),(.int .i64 (zgb m_Dim a_Spans 2)),(.int .i64 (zfy m_Dim a_Spans 3)),(.int .i64 (zgb m_Dim a_Spans 3)),(.int .i64 0),(.int .i64 0),(.int .i64 0),(.int .i64 0),(.int .i64 (z00 a_Feature 0 (IntKind.wrap IntKind.i64 (m_Dim - 1)))),(.bool a_Falls),(.int .i64 (z00 a_Budget 0 65536))]),[]))))
 (cond (z00 a_Kind 1 3==1)
 (some ((.agg [(.int .i64 (z00 a_Kind 1 3)),(.int .i64 (z00 a_Class 0 (IntKind.wrap IntKind.i64 (m_Classes - 1)))),(.int .i64 (zfy m_Dim a_Spans 0)),(.int .i64 (zgb m_Dim a_Spans 0)),(.int .i64 (zfy m_Dim a_Spans 1)),(.int .i64 (zgb m_Dim a_Spans 1)),(.int .i64 (zfy m_Dim a_Spans 2)),(.int .i64 (zgb m_Dim a_Spans 2)),(.int .i64 (zfy m_Dim a_Spans 3)),(.int .i64 (zgb m_Dim a_Spans 3)),(.int .i64 0),(.int .i64 0),(.int .i64 (z00 a_Lo (-9000) 9000)),(.int .i64 (IntKind.wrap IntKind.i64 (z00 a_Lo (-9000) 9000+z00 a_Size 0 18000))),(.int .i64 0),(.bool false),(.int .i64 (z00 a_Budget 0 65536))]),[]))
 (some ((.agg [(.int .i64 (z00 a_Kind 1 3)),(.int .i64 (z00 a_Class 0 (IntKind.wrap IntKind.i64 (m_Classes - 1)))),(.int .i64 (zfy m_Dim a_Spans 0)),(.int .i64 (zgb m_Dim a_Spans 0)),(.int .i64 (zfy m_Dim a_Spans 1)),(.int .i64 (zgb m_Dim a_Spans 1)),(.int .i64 (zfy m_Dim a_Spans 2)),(.int .i64 (zgb m_Dim a_Spans 2)),(.int .i64 (zfy m_Dim a_Spans 3)),(.int .i64 (zgb m_Dim a_Spans 3)),(.int .i64 0),(.int .i64 0),(.int .i64 0),(.int .i64 0),(.int .i64 0),(.bool false),(.int .i64 (z00 a_Budget 0 65536))]),[])))))
 none)):=by kernel_rfl
open Go Go.Proofs
set_option maxRecDepth 100000 in
theorem z8f:z3n PR B0 14 z2e:=by
  refine z0o [] [] z2e [[.int .i64]] Tryz.func14 zph trivial ?_
  intro vs r hwf h
  unfold z2e at h
  split at h
  · rename_i l i
    cases hc:decide (0≤i) with
    | false=>rw [hc] at h; simp [R.get] at h
    | true=>
      rw [hc,R.get_br,z01,R.get_ok] at h
      have hc:=of_decide_eq_true hc
      refine ⟨0,?_⟩
      rw [← h]
      refine (zmn 0 l i).trans ?_
      unfold z1x
      cases h0:(ic (List.length l)==0) with
      | true=>rfl
      | false=>
        rw [zyq] at h0
        have h0':=of_decide_eq_false h0
        have hl:0 < (l.length:Int):=by simp only [ic] at h0'; omega
        have t0:=Int.tmod_nonneg (l.length:Int) hc
        have t1:=Int.tmod_lt_of_pos i hl
        rw [z03,h0,z03,decide_eq_true (show 0≤Int.tmod i (ic (List.length l)) from t0),decide_eq_true (show Int.tmod i (ic (List.length l)) < ic (List.length l) from t1),Bool.and_true,z01,z03]
  · simp [R.get] at h
set_option maxRecDepth 100000 in
theorem zlt:z3n PR B0 76 z5s:=by
  refine z0o [] [] z5s [[.bool]] Tryz.func76 zp6 trivial ?_
  intro vs r hwf h
  unfold z5s at h
  split at h
  · rename_i n w
    cases hc:decide (w=32) with
    | false=>rw [hc] at h; simp [R.get] at h
    | true=>
      rw [hc,R.get_br,z01,R.get_ok] at h
      have hc:=of_decide_eq_true hc
      subst hc
      refine ⟨0,?_⟩
      rw [← h]
      refine (zmr 0 n 32).trans ?_
      have e1:IntKind.wrap IntKind.i64 (0 - IntKind.wrap IntKind.i64 (1*2 ^ min (Int.toNat (IntKind.wrap IntKind.i64 ((32:Int) - 1))) (IntKind.bits IntKind.i64))) = -2147483648:=by kernel_rfl
      have e2:IntKind.wrap IntKind.i64 (IntKind.wrap IntKind.i64 (1*2 ^ min (Int.toNat (IntKind.wrap IntKind.i64 ((32:Int) - 1))) (IntKind.bits IntKind.i64)) - 1)=2147483647:=by kernel_rfl
      have e3:decide (IntKind.wrap IntKind.i64 ((32:Int) - 1) < 0)=false:=by kernel_rfl
      rw [e1,e2,e3]
      unfold z1g
      have e4:decide (n ≥ -2147483648)=decide (-2147483648≤n):=rfl
      rw [e4]
      cases decide (-2147483648≤n) <;> rfl
  · simp [R.get] at h
theorem y12 (a b:Bool):cond a (some (V.bool b,[])) (some (V.bool false,[]))=(some (V.bool (a&&b),[]):Res):=by cases a <;> rfl
set_option maxRecDepth 100000 in
theorem zf5:z3n PR B0 56 z3e:=by
  refine z0o [(76,z5s)] [] z3e [[.bool]] Tryz.func56 zh8 ⟨zlt,trivial⟩ ?_
  intro vs r hwf h
  unfold z3e at h
  split at h
  · rename_i lf v f a l r'
    refine ⟨0,?_⟩
    rw [← h]
    refine (zgg 0 lf v f a l r').trans ?_
    simp only [R.get_ok,y12]
    unfold y30
    cases lf with
    | true=>rfl
    | false=>rfl
  · simp [R.get] at h
set_option maxRecDepth 100000 in
theorem zd2:z3n PR B0 33 z3o:=by
  refine z0o [(56,z3e)] [] z3o [[.int .u64]] Tryz.func33 zoz ⟨zf5,trivial⟩ ?_
  intro vs r hwf h
  unfold z3o at h
  split at h
  · rename_i lf v f a l r'
    refine ⟨0,?_⟩
    rw [← h]
    refine (zmp 0 lf v f a l r').trans ?_
    unfold za8
    cases y30 lf v f a l r' with
    | false=>rfl
    | true=>cases lf <;> rfl
  · simp [R.get] at h
def rgA (l:List IV) (j:Int):Int:=z00 (z1x l (2*j)) (-2) 9
def rgB (l:List IV) (j:Int):Int:=z00 (z1x l (2*j)) (-2) 9+z00 (z1x l (2*j+1)) 0 11
def rgC (l:List IV) (i:Nat):List V:=[.int .i64 (cond (Nat.blt 0 i) (rgA l 0) 0),.int .i64 (cond (Nat.blt 0 i) (rgB l 0) 0),.int .i64 (cond (Nat.blt 1 i) (rgA l 1) 0),.int .i64 (cond (Nat.blt 1 i) (rgB l 1) 0),.int .i64 (cond (Nat.blt 2 i) (rgA l 2) 0),.int .i64 (cond (Nat.blt 2 i) (rgB l 2) 0),.int .i64 (cond (Nat.blt 3 i) (rgA l 3) 0),.int .i64 (cond (Nat.blt 3 i) (rgB l 3) 0),.int .i64 0,.int .i64 0]
abbrev stG (l:List IV) (D:Int) (i:Nat) (x:Int):St:=⟨[(1,(.list false [(.int .i64)] l)),(4,(.ptr 4 0 0)),(5,(.ptr 5 0 0)),(9,(.int .i64 D)),(10,(.int .i64 x))],[(4,(some (.box [(.int .i64 0),(.int .i64 0),(.int .i64 0),(.int .i64 0),(.int .i64 0),(.int .i64 0),(.int .i64 0),(.int .i64 0),(.int .i64 0),(.int .i64 0)]))),(5,(some (.box (rgC l i))))]⟩
theorem yhl (l:List IV) (j:Int):IntKind.wrap IntKind.i64 (z00 (z1x l (2*j)) (-2) 9+z00 (z1x l (2*j+1)) 0 11)=rgB l j:=by
  obtain ⟨_,a1,a2⟩:=z2n (n:=z1x l (2*j)) (lo := -2) (hi:=9) (by omega) (by omega) (by omega)
  obtain ⟨_,b1,b2⟩:=z2n (n:=z1x l (2*j+1)) (lo:=0) (hi:=11) (by omega) (by omega) (by omega)
  exact z12 (by omega) (by omega)
theorem y21 (N:Nat) (l:List IV) (D:Int) (i:Nat) (hi:(i:Int) < D) (h4:i < 4) (again:St→Res) (k:Out→St→Res) :
    rnd (z1o N) (z0l z1z [1,1,0,1,0,0]) (stG l D i (i:Int)) (z57 again ⟨[1,4,5,9,10],[4,5],[]⟩ k)=again (stG l D (i+1) ((i+1:Nat):Int)):=by
  refine (zak N l D i 0 0 0 0 0 0 0 0 0 0 (cond (Nat.blt 0 i) (rgA l 0) 0) (cond (Nat.blt 0 i) (rgB l 0) 0) (cond (Nat.blt 1 i) (rgA l 1) 0) (cond (Nat.blt 1 i) (rgB l 1) 0) (cond (Nat.blt 2 i) (rgA l 2) 0) (cond (Nat.blt 2 i) (rgB l 2) 0) (cond (Nat.blt 3 i) (rgA l 3) 0) (cond (Nat.blt 3 i) (rgB l 3) 0) 0 0 again k).trans ?_
  have w2:IntKind.wrap IntKind.i64 (2*(i:Int))=2*(i:Int):=z12 (by omega) (by omega)
  have w3:IntKind.wrap IntKind.i64 (2*(i:Int)+1)=2*(i:Int)+1:=z12 (by omega) (by omega)
  rw [decide_eq_true hi,z01,w2,w3,decide_eq_true (show 0≤2*(i:Int) by omega),z01,decide_eq_true (show 0≤2*(i:Int)+1 by omega),z01,yhl]
  have hi4:i=0∨i=1∨i=2∨i=3:=by omega
  rcases hi4 with rfl | rfl | rfl | rfl
  · rw [show decide (((0:Nat):Int)=ic 0)=true from rfl,z01]
    rfl
  · rw [show decide (((1:Nat):Int)=ic 0)=false from rfl,show decide (((1:Nat):Int)=ic 1)=true from rfl,z03,z01]
    rfl
  · rw [show decide (((2:Nat):Int)=ic 0)=false from rfl,show decide (((2:Nat):Int)=ic 1)=false from rfl,show decide (((2:Nat):Int)=ic 2)=true from rfl,z03,z03,z01]
    rfl
  · rw [show decide (((3:Nat):Int)=ic 0)=false from rfl,show decide (((3:Nat):Int)=ic 1)=false from rfl,show decide (((3:Nat):Int)=ic 2)=false from rfl,show decide (((3:Nat):Int)=ic 3)=true from rfl,z03,z03,z03,z01]
    rfl
theorem zv4 (N:Nat) (l:List IV) (D:Nat) (hD:D≤4) (K:Out→St→Res):∀ (d i n:Nat),i+d=D→d < n →
    lpE (z1o N) (z0l z1z [1,1,0,1,0,0]) ⟨[1,4,5,9,10],[4,5],[]⟩ n (stG l D i (i:Int)) K=K (.exit 0) (stG l D D (D:Int))
  | 0,i,n+1,hd,hn=>by
    have hi:i=D:=by omega
    subst hi
    rw [z0b]
    refine (zak N l _ _ 0 0 0 0 0 0 0 0 0 0 (cond (Nat.blt 0 i) (rgA l 0) 0) (cond (Nat.blt 0 i) (rgB l 0) 0) (cond (Nat.blt 1 i) (rgA l 1) 0) (cond (Nat.blt 1 i) (rgB l 1) 0) (cond (Nat.blt 2 i) (rgA l 2) 0) (cond (Nat.blt 2 i) (rgB l 2) 0) (cond (Nat.blt 3 i) (rgA l 3) 0) (cond (Nat.blt 3 i) (rgB l 3) 0) 0 0 _ _).trans ?_
    rw [decide_eq_false (show ¬ (i:Int) < (i:Int) by omega),z03]
    rfl
  | d+1,i,n+1,hd,hn=>by
    rw [z0b,y21 N l D i (by omega) (by omega)]
    exact zv4 N l D hD K d (i+1) n (by omega) (by omega)
  | _,_,0,_,h=>by omega
set_option maxRecDepth 100000 in
theorem zin:z3n PR B0 16 z4l:=by
  refine z0o [(6,z0z),(14,z2e)] [(3,⟨[1,4,5,9,10],[4,5],[]⟩)] z4l [[.int .i64,.int .i64,.int .i64,.int .i64,.int .i64,.int .i64,.int .i64,.int .i64,.int .i64,.int .i64]] Tryz.func16 zlr
    ⟨z3s,z8f,trivial⟩ ?_
  intro vs r hwf h
  unfold z4l at h
  split at h
  · rename_i d c b0 b1 b2 ts l
    cases hc:(decide (0≤d)&&decide (d≤4)) with
    | false=>rw [hc] at h; simp [R.get] at h
    | true=>
      rw [hc,R.get_br,z01,R.get_ok] at h
      simp only [Bool.and_eq_true,decide_eq_true_eq] at hc
      refine ⟨10,?_⟩
      rw [← h]
      refine (zjj 10 d c b0 b1 b2 ts l).trans ?_
      obtain ⟨D,rfl⟩:∃ D:Nat,d=D:=⟨d.toNat,by omega⟩
      refine (zv4 10 l D (by omega) _ D 0 10 (by omega) (by omega)).trans ?_
      refine (zfg 10 l D D 0 0 0 0 0 0 0 0 0 0 (cond (Nat.blt 0 D) (rgA l 0) 0) (cond (Nat.blt 0 D) (rgB l 0) 0) (cond (Nat.blt 1 D) (rgA l 1) 0) (cond (Nat.blt 1 D) (rgB l 1) 0) (cond (Nat.blt 2 D) (rgA l 2) 0) (cond (Nat.blt 2 D) (rgB l 2) 0) (cond (Nat.blt 3 D) (rgA l 3) 0) (cond (Nat.blt 3 D) (rgB l 3) 0) 0 0).trans ?_
      have hD:D=0∨D=1∨D=2∨D=3∨D=4:=by omega
      rcases hD with rfl | rfl | rfl | rfl | rfl <;> rfl
  · simp [R.get] at h
set_option maxRecDepth 100000 in
theorem zfj:z3n PR B0 5 z4t:=by
  refine z0o [(6,z0z),(16,z4l)] [] z4t [[.int .i64,.int .i64,.int .i64,.int .i64,.int .i64,.int .i64,.int .i64,.int .i64,.int .i64,.int .i64,.int .i64,.int .i64,.int .i64,.int .i64,.int .i64,.bool,.int .i64]] Tryz.func5 zhr
    ⟨z3s,zin,trivial⟩ ?_
  intro vs r hwf h
  unfold z4t at h
  split at h
  · rename_i k c lo size ft bu fl sp dim cls b0 b1 b2 ts
    cases hc:((decide (1≤dim)&&decide (dim≤4))&&(decide (1≤cls)&&decide (cls≤3))) with
    | false=>rw [hc] at h; simp [R.get] at h
    | true=>
      rw [hc,R.get_br,z01,R.get_ok] at h
      simp only [Bool.and_eq_true,decide_eq_true_eq] at hc
      obtain ⟨⟨d1,d4⟩,c1,c3⟩:=hc
      refine ⟨0,?_⟩
      rw [← h]
      refine (zgm 0 k c lo size ft bu fl sp dim cls b0 b1 b2 ts).trans ?_
      have w1:IntKind.wrap IntKind.i64 (cls - 1)=cls - 1:=z12 (by omega) (by omega)
      have w2:IntKind.wrap IntKind.i64 (dim - 1)=dim - 1:=z12 (by omega) (by omega)
      obtain ⟨m1,_,_⟩:=z2n (n:=c) (lo:=0) (hi:=cls - 1) (by omega) (by omega) (by omega)
      obtain ⟨m2,_,_⟩:=z2n (n:=ft) (lo:=0) (hi:=dim - 1) (by omega) (by omega) (by omega)
      obtain ⟨_,l1,l2⟩:=z2n (n:=lo) (lo := -9000) (hi:=9000) (by omega) (by omega) (by omega)
      obtain ⟨_,s1,s2⟩:=z2n (n:=size) (lo:=0) (hi:=18000) (by omega) (by omega) (by omega)
      have w3:IntKind.wrap IntKind.i64 (z00 lo (-9000) 9000+z00 size 0 18000)=z00 lo (-9000) 9000+z00 size 0 18000:=z12 (by omega) (by omega)
      rw [w1,w2,w3,m1,m2,decide_eq_false (show ¬ (cls - 1 - 0+1=0) by omega),decide_eq_false (show ¬ (dim - 1 - 0+1=0) by omega),decide_eq_true (show 0≤dim by omega),decide_eq_true (show dim≤4 by omega)]
      unfold z89 zaw loA
      obtain ⟨_,k1,k2⟩:=z2n (n:=k) (lo:=1) (hi:=3) (by omega) (by omega) (by omega)
      generalize z00 k 1 3=K at k1 k2
      have hK:K=1∨K=2∨K=3:=by omega
      simp only
      generalize decide (cls < 2)=cl
      rcases hK with rfl | rfl | rfl <;> cases cl <;> rfl
  · simp [R.get] at h
open Go
def z5k:z0x
  | [.int .i64 n,.int .i64 w]=>.br (decide (w=32)) (.ok (.bool (z1g n)) []) .no
  | _=>.no
def z64:z0x
  | [.int .i64 a,.int .i64 w]=>.br (decide (0≤a)&&decide (a < 64)) (.ok (.bool (decide (1≤w)&&decide (w≤64 - a))) []) .no
  | _=>.no
def y3s (w:Int):Int:=(18446744073709551615:Int).fdiv (2 ^ (64 - w).toNat)
def z7q:z0x
  | [.int .i64 w]=>.br (decide (1≤w)&&decide (w≤64)) (.ok (.int .u64 (y3s w)) []) .no
  | _=>.no
def yex (a b:Int):Int:=y5k (ic (BitVec.toNat (BitVec.ofInt (IntKind.bits IntKind.u64) a &&& ~~~ (BitVec.ofInt (IntKind.bits IntKind.u64) b))))
def yax (x a w y:Int):Int:=orU (yex x (yh3 (y3s w) a.toNat)) (yim (yh3 y a.toNat) (yh3 (y3s w) a.toNat))
def zoh (x a w:Int):Int:=yim (x.fdiv (2 ^ a.toNat)) (y3s w)
def zec:z0x
  | [.int .u64 x,.int .i64 a,.int .i64 w,.int .u64 y]=>.br (decide (0≤a)&&(decide (a < 64)&&(decide (1≤w)&&decide (w≤64 - a)))) (.ok (.int .u64 (yax x a w y)) []) .no
  | _=>.no
def z6s:z0x
  | [.int .u64 x,.int .i64 a,.int .i64 w]=>.br (decide (0≤a)&&(decide (a < 64)&&(decide (1≤w)&&decide (w≤64 - a)))) (.ok (.int .u64 (zoh x a w)) []) .no
  | _=>.no
def ybm (n:Int):Int:=(zds (n*2 ^ 32)).fdiv (2 ^ 32)
def zbt:z0x
  | [.int .i64 n,.int .i64 w]=>.br (decide (w=32)) (.ok (.int .i64 (ybm n)) []) .no
  | _=>.no
def zmg (x:Int):Int:=ybm (zds (zoh x 0 32))
def z8c:z0x
  | [.int .u64 x,.int .i64 a,.int .i64 w]=>.br (decide (a=0)&&decide (w=32)) (.ok (.int .i64 (zmg x)) []) .no
  | _=>.no
structure Nd where
  lf:Bool
  v:Int
  f:Int
  a:Int
  l:Int
  r:Int
def Nd.eq (x y:Nd):Bool:=(x.lf==y.lf)&&((x.v==y.v)&&((x.f==y.f)&&((x.a==y.a)&&((x.l==y.l)&&((x.r==y.r)&&true)))))
def Nd.zero:Nd:=⟨false,0,0,0,0,0⟩
def zoc (n:Int):Bool:=decide (1≤n)&&decide (n < 31)
def za1:z0x
  | [.int .i64 n]=>.ok (.bool (zoc n)) []
  | _=>.no
def zdh (x:Nd):Bool:=
  cond x.lf (x.eq ⟨true,x.v,0,0,0,0⟩&&z1g x.v)
    ((x.v==0)&&(decide (0≤x.f)&&(decide (x.f < 4)&&(z1g x.a&&(zoc x.l&&zoc x.r)))))
def z9z:z0x
  | [.agg [.bool lf,.int .i64 v,.int .i64 f,.int .i64 a,.int .i64 l,.int .i64 r]]=>.ok (.bool (zdh ⟨lf,v,f,a,l,r⟩)) []
  | _=>.no
def ze8 (x:Nd):Int:=
  cond (zdh x)
    (cond x.lf (yax 9223372036854775808 0 32 (y5k x.v))
      (yax (yax (yax (yax 0 0 32 (y5k x.a)) 32 4 (y5k x.f)) 40 8 (y5k x.l)) 48 8 (y5k x.r)))
    0
def zc3:z0x
  | [.agg [.bool lf,.int .i64 v,.int .i64 f,.int .i64 a,.int .i64 l,.int .i64 r]]=>.ok (.int .u64 (ze8 ⟨lf,v,f,a,l,r⟩)) []
  | _=>.no
def y34 (w:Int):Nd:=
  cond (zoh w 63 1==0) ⟨false,0,zds (zoh w 32 4),zmg w,zds (zoh w 40 8),zds (zoh w 48 8)⟩ ⟨true,zmg w,0,0,0,0⟩
def z7v (w:Int):Bool:=!(w==0)&&(ze8 (y34 w)==w)
def z07 (w:Int):Nd:=cond (z7v w) (y34 w) Nd.zero
def z1y:z0x
  | [.int .u64 w]=>.ok (.tup [.agg [.bool (z07 w).lf,.int .i64 (z07 w).v,.int .i64 (z07 w).f,.int .i64 (z07 w).a,.int .i64 (z07 w).l,.int .i64 (z07 w).r],.bool (z7v w)]) []
  | _=>.no
def z6a:z0x
  | [.int .i64 a,.int .i64 w,.bor [.int .u64 x]]=>.br (decide (0≤a)&&(decide (a < 64)&&(decide (1≤w)&&decide (w≤64 - a)))) (.ok (.int .i64 (zds (zoh x a w))) [[.int .u64 x]]) .no
  | _=>.no
def za9 (x:Nd) (j:Nat):Nat:=cond x.lf 0 ((if x.l=(j:Int) then 1 else 0)+(if x.r=(j:Int) then 1 else 0))
def z3x (l:List IV) (j:Nat):Nat:=(l.map fun w=>za9 (z07 w.toInt) j).sum
def zmm (dim n:Int) (i:Nat) (x:Nd):Bool:=
  cond x.lf true (!(decide (x.f≥dim))&&(!(x.l==x.r)&&(!(decide (min x.l x.r≤(i:Int)))&&!(decide (max x.l x.r≥n)))))
def zbv (dim n:Int):Nat→List IV→Bool
  | _,[]=>true
  | i,w :: r=>(z7v w.toInt&&zmm dim n i (z07 w.toInt))&&zbv dim n (i+1) r
def y80 (l:List IV):Bool:=(List.range (l.length - 1)).all fun j=>z3x l (j+1)==1
def z6v (l:List IV) (dim:Int):Bool:=(Nat.ble 1 l.length&&Nat.ble l.length 31)&&(zbv dim (ic l.length) 0 l&&y80 l)
def z5z:z0x
  | [.list false [.int .u64] l,.int .i64 dim]=>.ok (.bool (z6v l dim)) []
  | _=>.no
structure Md where
  d:Int
  c:Int
  b0:Int
  b1:Int
  b2:Int
  ts:List IV
def z87 (d c:Int) (t:IV):Bool:=!(decide ((t.cell 0).toInt < 0))&&(!(decide ((t.cell 0).toInt≥c))&&z6v (t.cell 1).toList d)
def zgk (c:Int) (j b:Int):Bool:=z1g b&&!(decide (j≥c)&&!(b==0))
def z1s (m:Md):Bool:=
  (!(decide (m.d < 1))&&(!(decide (m.d > 4))&&(!(decide (m.c < 1))&&(!(decide (m.c > 3))&&Nat.ble m.ts.length 8)))) &&
    ((zgk m.c 0 m.b0&&(zgk m.c 1 m.b1&&zgk m.c 2 m.b2))&&m.ts.all (z87 m.d m.c))
abbrev z30:List Kd:=[.int .i64,.list false [.int .u64]]
def z4d:z0x
  | [.agg [.int .i64 k,.list false [.int .u64] l],.bor [.int .i64 d,.int .i64 c,.int .i64 b0,.int .i64 b1,.int .i64 b2,.list true [.int .i64,.list false [.int .u64]] ts]]=>
    .ok (.bool (!(z87 d c (.agg [.int k,.list l])))) [[.int .i64 d,.int .i64 c,.int .i64 b0,.int .i64 b1,.int .i64 b2,.list true z30 ts]]
  | _=>.no
def zr6 (d c:Int):List IV→Int→Int
  | [],_ => -1
  | t :: r,i=>cond (z87 d c t) (zr6 d c r (i+1)) i
def z1c:z0x
  | [.list true [.int .i64,.list false [.int .u64]] l,.clo 66 [.bor [.int .i64 d,.int .i64 c,.int .i64 b0,.int .i64 b1,.int .i64 b2,.list true [.int .i64,.list false [.int .u64]] ts]]]=>
    .ok (.int .i64 (zr6 d c l 0)) [[.int .i64 d,.int .i64 c,.int .i64 b0,.int .i64 b1,.int .i64 b2,.list true z30 ts]]
  | _=>.no
def z13:z0x
  | [.list true [.int .i64,.list false [.int .u64]] l,.clo 66 [.bor [.int .i64 d,.int .i64 c,.int .i64 b0,.int .i64 b1,.int .i64 b2,.list true [.int .i64,.list false [.int .u64]] ts]]]=>
    .ok (.bool (!(l.all (z87 d c)))) [[.int .i64 d,.int .i64 c,.int .i64 b0,.int .i64 b1,.int .i64 b2,.list true z30 ts]]
  | _=>.no
def z1u:z0x
  | [.agg [.int .i64 d,.int .i64 c,.int .i64 b0,.int .i64 b1,.int .i64 b2,.list true [.int .i64,.list false [.int .u64]] ts]]=>.ok (.bool (z1s ⟨d,c,b0,b1,b2,ts⟩)) []
  | _=>.no
def Md.zero:Md:=⟨0,0,0,0,0,[]⟩
open Go Go.Proofs
def y5b (N:Nat):Env:=mkE [] [] 25 N
theorem y1i (N:Nat) (n:Int) (w:Int):z16 (y5b N) zq4 [.tmp 4] [[.bool]] [(.int .i64 n),(.int .i64 w)] =
 (cond (decide (w < 1))
 (some ((.bool false),[]))
 (cond (decide (w > 64))
 (some ((.bool false),[]))
 (cond (decide (IntKind.wrap IntKind.u64 (IntKind.wrap IntKind.i64 (w - 1)) < 0))
 none
 (cond (Int.fdiv n (2 ^ min (Int.toNat (IntKind.wrap IntKind.u64 (IntKind.wrap IntKind.i64 (w - 1)))) (IntKind.bits IntKind.i64))==0)
 (some ((.bool true),[]))
 (cond (decide (IntKind.wrap IntKind.u64 (IntKind.wrap IntKind.i64 (w - 1)) < 0))
 none
 (some ((.bool (Int.fdiv n (2 ^ min (Int.toNat (IntKind.wrap IntKind.u64 (IntKind.wrap IntKind.i64 (w - 1)))) (IntKind.bits IntKind.i64)) == -1)),[]))))))):=by kernel_rfl
def y3v (N:Nat):Env:=mkE [] [] 21 N
theorem y2u (N:Nat) (n:Int) (w:Int):z16 (y3v N) zq3 [.tmp 4] [[.int .i64]] [(.int .i64 n),(.int .i64 w)] =
 (cond (decide (w < 1))
 (some ((.int .i64 n),[]))
 (cond (decide (w≥64))
 (some ((.int .i64 n),[]))
 (cond (decide (IntKind.wrap IntKind.u64 (IntKind.wrap IntKind.i64 (64 - w)) < 0))
 none
 (cond (decide (IntKind.wrap IntKind.u64 (IntKind.wrap IntKind.i64 (64 - w)) < 0))
 none
 (some ((.int .i64 (Int.fdiv (IntKind.wrap IntKind.i64 (n*2 ^ min (Int.toNat (IntKind.wrap IntKind.u64 (IntKind.wrap IntKind.i64 (64 - w)))) (IntKind.bits IntKind.i64))) (2 ^ min (Int.toNat (IntKind.wrap IntKind.u64 (IntKind.wrap IntKind.i64 (64 - w)))) (IntKind.bits IntKind.i64)))),[])))))):=by kernel_rfl
def y1m (N:Nat):Env:=mkE [] [] 21 N
theorem zy4 (N:Nat) (atv:Int) (w:Int):z16 (y1m N) zo2 [.tmp 4] [[.bool]] [(.int .i64 atv),(.int .i64 w)] =
 (cond (decide (atv≥0))
 (cond (decide (atv < 64))
 (cond (decide (w≥1)) (some ((.bool (decide (w≤IntKind.wrap IntKind.i64 (64 - atv)))),[])) (some ((.bool false),[])))
 (some ((.bool false),[])))
 (some ((.bool false),[]))):=by kernel_rfl
def y3t (N:Nat):Env:=mkE [] [] 7 N
theorem y1c (N:Nat) (w:Int):z16 (y3t N) zrp [.tmp 2] [[.int .u64]] [(.int .i64 w)] =
 (cond (decide (IntKind.wrap IntKind.u64 (IntKind.wrap IntKind.i64 (64 - w)) < 0))
 none
 (some ((.int .u64 (Int.fdiv 18446744073709551615 (2 ^ min (Int.toNat (IntKind.wrap IntKind.u64 (IntKind.wrap IntKind.i64 (64 - w)))) (IntKind.bits IntKind.u64)))),[]))):=by kernel_rfl
def y8r (N:Nat):Env:=mkE [(126,z64),(127,z7q)] [] 30 N
theorem y3d (N:Nat) (x:Int) (atv:Int) (w:Int) (y:Int):z16 (y8r N) zw0 [.tmp 8] [[.int .u64]] [(.int .u64 x),(.int .i64 atv),(.int .i64 w),(.int .u64 y)] =
 (cond (decide (0≤atv)&&decide (atv < 64))
 (cond (! (decide (1≤w)&&decide (w≤64 - atv)))
 (some ((.int .u64 x),[]))
 (cond (decide (1≤w)&&decide (w≤64))
 (cond (decide (IntKind.wrap IntKind.u64 atv < 0))
 none
 (cond (decide (IntKind.wrap IntKind.u64 atv < 0))
 none
 (some ((.int .u64 (IntKind.wrap IntKind.u64 (ic (BitVec.toNat (BitVec.ofInt (IntKind.bits IntKind.u64) (IntKind.wrap IntKind.u64 (ic (BitVec.toNat (BitVec.ofInt (IntKind.bits IntKind.u64) x &&& ~~~BitVec.ofInt (IntKind.bits IntKind.u64) (IntKind.wrap IntKind.u64 (y3s w*2 ^ min (Int.toNat (IntKind.wrap IntKind.u64 atv)) (IntKind.bits IntKind.u64))))))) ||| BitVec.ofInt (IntKind.bits IntKind.u64) (IntKind.wrap IntKind.u64 (ic (BitVec.toNat (BitVec.ofInt (IntKind.bits IntKind.u64) (IntKind.wrap IntKind.u64 (y*2 ^ min (Int.toNat (IntKind.wrap IntKind.u64 atv)) (IntKind.bits IntKind.u64))) &&& BitVec.ofInt (IntKind.bits IntKind.u64) (IntKind.wrap IntKind.u64 (y3s w*2 ^ min (Int.toNat (IntKind.wrap IntKind.u64 atv)) (IntKind.bits IntKind.u64)))))))))))),[]))))
 none))
 none):=by kernel_rfl
def y8e (N:Nat):Env:=mkE [(126,z64),(127,z7q)] [] 18 N
theorem y4e (N:Nat) (x:Int) (atv:Int) (w:Int):z16 (y8e N) zva [.tmp 6] [[.int .u64]] [(.int .u64 x),(.int .i64 atv),(.int .i64 w)] =
 (cond (decide (0≤atv)&&decide (atv < 64))
 (cond (! (decide (1≤w)&&decide (w≤64 - atv)))
 (some ((.int .u64 0),[]))
 (cond (decide (IntKind.wrap IntKind.u64 atv < 0))
 none
 (cond (decide (1≤w)&&decide (w≤64))
 (some ((.int .u64 (IntKind.wrap IntKind.u64 (ic (BitVec.toNat (BitVec.ofInt (IntKind.bits IntKind.u64) (Int.fdiv x (2 ^ min (Int.toNat (IntKind.wrap IntKind.u64 atv)) (IntKind.bits IntKind.u64))) &&& BitVec.ofInt (IntKind.bits IntKind.u64) (y3s w)))))),[]))
 none)))
 none):=by kernel_rfl
def zyw (N:Nat):Env:=mkE [(103,z6s),(125,zbt)] [] 14 N
theorem zu4 (N:Nat) (x:Int) (atv:Int) (w:Int):z16 (zyw N) zke [.tmp 6] [[.int .i64]] [(.int .u64 x),(.int .i64 atv),(.int .i64 w)] =
 (cond (decide (0≤atv)&&(decide (atv < 64)&&(decide (1≤w)&&decide (w≤64 - atv))))
 (cond (decide (w=32)) (some ((.int .i64 (ybm (IntKind.wrap IntKind.i64 (zoh x atv w)))),[])) none)
 none):=by kernel_rfl
def y0j (N:Nat):Env:=mkE [] [] 9 N
theorem zyl (N:Nat) (n:Int):z16 (y0j N) zol [.tmp 2] [[.bool]] [(.int .i64 n)] =
 (cond (decide (n≥1)) (some ((.bool (decide (n < 31))),[])) (some ((.bool false),[]))):=by kernel_rfl
def y06 (N:Nat):Env:=mkE [(64,z5k),(151,za1)] [] 43 N
theorem zyo (N:Nat) (n_Leaf:Bool) (n_Value:Int) (n_Feature:Int) (n_At:Int) (n_Left:Int) (n_Right:Int):z16 (y06 N) zoe [.tmp 2] [[.bool]] [(.agg [(.bool n_Leaf),(.int .i64 n_Value),(.int .i64 n_Feature),(.int .i64 n_At),(.int .i64 n_Left),(.int .i64 n_Right)])] =
 (cond n_Leaf
 (cond (n_Leaf==true&&(n_Value==n_Value&&(n_Feature==0&&(n_At==0&&(n_Left==0&&(n_Right==0&&true))))))
 (some ((.bool (z1g n_Value)),[]))
 (some ((.bool false),[])))
 (cond (n_Value==0)
 (cond (decide (n_Feature≥0))
 (cond (decide (n_Feature < 4))
 (cond (z1g n_At) (cond (zoc n_Left) (some ((.bool (zoc n_Right)),[])) (some ((.bool false),[]))) (some ((.bool false),[])))
 (some ((.bool false),[])))
 (some ((.bool false),[])))
 (some ((.bool false),[])))):=by kernel_rfl
def y3w (N:Nat):Env:=mkE [(129,zec),(128,z9z)] [] 32 N
theorem y1t (N:Nat) (n_Leaf:Bool) (n_Value:Int) (n_Feature:Int) (n_At:Int) (n_Left:Int) (n_Right:Int):z16 (y3w N) zsh [.tmp 2] [[.int .u64]] [(.agg [(.bool n_Leaf),(.int .i64 n_Value),(.int .i64 n_Feature),(.int .i64 n_At),(.int .i64 n_Left),(.int .i64 n_Right)])] =
 (cond (!zdh {lf:=n_Leaf,v:=n_Value,f:=n_Feature,a:=n_At,l:=n_Left,r:=n_Right})
 (some ((.int .u64 0),[]))
 (cond n_Leaf
 (some ((.int .u64 (yax 9223372036854775808 0 32 (IntKind.wrap IntKind.u64 n_Value))),[]))
 (some ((.int .u64 (yax (yax (yax (yax 0 0 32 (IntKind.wrap IntKind.u64 n_At)) 32 4 (IntKind.wrap IntKind.u64 n_Feature)) 40 8 (IntKind.wrap IntKind.u64 n_Left)) 48 8 (IntKind.wrap IntKind.u64 n_Right))),[])))):=by kernel_rfl
def zrw (N:Nat):Env:=mkE [(103,z6s)] [] 11 N
theorem zpd (N:Nat) (a:Int) (w:Int) (x:Int):z16 (zrw N) zhs [.tmp 5] [[.int .i64]] [(.int .i64 a),(.int .i64 w),(.bor [.int .u64 x])] =
 (cond (decide (0≤a)&&(decide (a < 64)&&(decide (1≤w)&&decide (w≤64 - a))))
 (some ((.int .i64 (IntKind.wrap IntKind.i64 (zoh x a w))),[[(.int .u64 x)]]))
 none):=by kernel_rfl
def zyc (N:Nat):Env:=mkE [(103,z6s),(102,z8c),(105,zc3),(104,z6a)] [] 33 N
theorem zug (N:Nat) (w:Int):z16 (zyc N) zlu [.cell 2 87,.tmp 3] [[.bool,.int .i64,.int .i64,.int .i64,.int .i64,.int .i64],[.bool]] [(.int .u64 w)] =
 (cond (zoh w 63 1==0)
 (cond (w==0)
 (some ((.tup [(.agg [(.bool false),(.int .i64 0),(.int .i64 0),(.int .i64 0),(.int .i64 0),(.int .i64 0)]),(.bool false)]),[]))
 (cond (ze8 {lf:=false,v:=0,f:=zds (zoh w 32 4),a:=zmg w,l:=zds (zoh w 40 8),r:=zds (zoh w 48 8)} != w)
 (some ((.tup [(.agg [(.bool false),(.int .i64 0),(.int .i64 0),(.int .i64 0),(.int .i64 0),(.int .i64 0)]),(.bool false)]),[]))
 (some ((.tup [(.agg [(.bool false),(.int .i64 0),(.int .i64 (zds (zoh w 32 4))),(.int .i64 (zmg w)),(.int .i64 (zds (zoh w 40 8))),(.int .i64 (zds (zoh w 48 8)))]),(.bool true)]),[]))))
 (cond (w==0)
 (some ((.tup [(.agg [(.bool false),(.int .i64 0),(.int .i64 0),(.int .i64 0),(.int .i64 0),(.int .i64 0)]),(.bool false)]),[]))
 (cond (ze8 {lf:=true,v:=zmg w,f:=0,a:=0,l:=0,r:=0} != w)
 (some ((.tup [(.agg [(.bool false),(.int .i64 0),(.int .i64 0),(.int .i64 0),(.int .i64 0),(.int .i64 0)]),(.bool false)]),[]))
 (some ((.tup [(.agg [(.bool true),(.int .i64 (zmg w)),(.int .i64 0),(.int .i64 0),(.int .i64 0),(.int .i64 0)]),(.bool true)]),[]))))):=by kernel_rfl
open Go Go.Proofs
theorem ybb {n:Int} (h0:0≤n) (h1:n < 18446744073709551616):IntKind.wrap IntKind.u64 n=n:=by
  rw [ycy]
  omega
set_option maxRecDepth 100000 in
theorem zfo:z3n PR B0 64 z5k:=by
  refine z0o [] [] z5k [[.bool]] Tryz.func64 y4b trivial ?_
  intro vs r hwf h
  unfold z5k at h
  split at h
  · rename_i n w
    cases hc:decide (w=32) with
    | false=>rw [hc] at h; simp [R.get] at h
    | true=>
      rw [hc,R.get_br,z01,R.get_ok] at h
      have hc:=of_decide_eq_true hc
      subst hc
      refine ⟨0,?_⟩
      rw [← h]
      refine (y1i 0 n 32).trans ?_
      have e3:decide (IntKind.wrap IntKind.u64 (IntKind.wrap IntKind.i64 ((32:Int) - 1)) < 0)=false:=by kernel_rfl
      have e4:(2:Int) ^ min (Int.toNat (IntKind.wrap IntKind.u64 (IntKind.wrap IntKind.i64 ((32:Int) - 1)))) (IntKind.bits IntKind.i64)=2147483648:=by kernel_rfl
      rw [e3,e4,decide_eq_false (show ¬ (32:Int) < 1 by omega),decide_eq_false (show ¬ (32:Int) > 64 by omega),z03,z03,z03,z03]
      have h0:=Int.fdiv_mul_add_fmod n 2147483648
      have h1:=Int.fmod_nonneg_of_pos n (show (0:Int) < 2147483648 by omega)
      have h2:=Int.fmod_lt_of_pos n (show (0:Int) < 2147483648 by omega)
      generalize Int.fdiv n 2147483648=q at h0 ⊢
      generalize Int.fmod n 2147483648=m at h0 h1 h2
      unfold z1g
      rw [zyq,zyq]
      cases hq:decide (q=0) with
      | true=>
        have hq:=of_decide_eq_true hq
        rw [decide_eq_true (show -2147483648≤n by omega),decide_eq_true (show n≤2147483647 by omega)]
        rfl
      | false=>
        have hq:=of_decide_eq_false hq
        cases hp:decide (q = -1) with
        | true=>
          have hp:=of_decide_eq_true hp
          rw [decide_eq_true (show -2147483648≤n by omega),decide_eq_true (show n≤2147483647 by omega)]
          rfl
        | false=>
          have hp:=of_decide_eq_false hp
          rw [z03]
          congr 3
          symm
          rw [Bool.and_eq_false_iff,decide_eq_false_iff_not,decide_eq_false_iff_not]
          omega
  · simp [R.get] at h
set_option maxRecDepth 100000 in
theorem zye:z3n PR B0 125 zbt:=by
  refine z0o [] [] zbt [[.int .i64]] Tryz.func125 y44 trivial ?_
  intro vs r hwf h
  unfold zbt at h
  split at h
  · rename_i n w
    cases hc:decide (w=32) with
    | false=>rw [hc] at h; simp [R.get] at h
    | true=>
      rw [hc,R.get_br,z01,R.get_ok] at h
      have hc:=of_decide_eq_true hc
      subst hc
      refine ⟨0,?_⟩
      rw [← h]
      refine (y2u 0 n 32).trans ?_
      have e3:decide (IntKind.wrap IntKind.u64 (IntKind.wrap IntKind.i64 ((64:Int) - 32)) < 0)=false:=by kernel_rfl
      have e4:min (Int.toNat (IntKind.wrap IntKind.u64 (IntKind.wrap IntKind.i64 ((64:Int) - 32)))) (IntKind.bits IntKind.i64)=32:=by kernel_rfl
      rw [e3,e4,decide_eq_false (show ¬ (32:Int) < 1 by omega),decide_eq_false (show ¬ (32:Int)≥64 by omega),z03,z03,z03,z03]
      rfl
  · simp [R.get] at h
set_option maxRecDepth 100000 in
theorem zjc:z3n PR B0 126 z64:=by
  refine z0o [] [] z64 [[.bool]] Tryz.func126 y18 trivial ?_
  intro vs r hwf h
  unfold z64 at h
  split at h
  · rename_i a w
    cases hc:(decide (0≤a)&&decide (a < 64)) with
    | false=>rw [hc] at h; simp [R.get] at h
    | true=>
      rw [hc,R.get_br,z01,R.get_ok] at h
      rw [Bool.and_eq_true,decide_eq_true_eq,decide_eq_true_eq] at hc
      refine ⟨0,?_⟩
      rw [← h]
      refine (zy4 0 a w).trans ?_
      have e:IntKind.wrap IntKind.i64 (64 - a)=64 - a:=z12 (by omega) (by omega)
      have e1:decide (w≥1)=decide (1≤w):=rfl
      rw [decide_eq_true (show a≥0 by omega),decide_eq_true hc.2,z01,z01,e,e1]
      cases decide (1≤w) <;> rfl
  · simp [R.get] at h
set_option maxRecDepth 100000 in
theorem zlz:z3n PR B0 127 z7q:=by
  refine z0o [] [] z7q [[.int .u64]] Tryz.func127 y3n trivial ?_
  intro vs r hwf h
  unfold z7q at h
  split at h
  · rename_i w
    cases hc:(decide (1≤w)&&decide (w≤64)) with
    | false=>rw [hc] at h; simp [R.get] at h
    | true=>
      rw [hc,R.get_br,z01,R.get_ok] at h
      rw [Bool.and_eq_true,decide_eq_true_eq,decide_eq_true_eq] at hc
      refine ⟨0,?_⟩
      rw [← h]
      refine (y1c 0 w).trans ?_
      have e:IntKind.wrap IntKind.i64 (64 - w)=64 - w:=z12 (by omega) (by omega)
      have e2:IntKind.wrap IntKind.u64 (64 - w)=64 - w:=ybb (by omega) (by omega)
      have e3:min (64 - w).toNat (IntKind.bits IntKind.u64)=(64 - w).toNat:=by
        have:IntKind.bits IntKind.u64=64:=rfl
        omega
      rw [e,e2,e3,decide_eq_false (show ¬ (64 - w < 0) by omega),z03]
      rfl
  · simp [R.get] at h
theorem y07 {a w:Int} (hc:(decide (0≤a)&&(decide (a < 64)&&(decide (1≤w)&&decide (w≤64 - a))))=true):0≤a∧a < 64∧1≤w∧w≤64 - a:=by
  simpa only [Bool.and_eq_true,decide_eq_true_eq] using hc
set_option maxRecDepth 100000 in
theorem y1j:z3n PR B0 129 zec:=by
  refine z0o [(126,z64),(127,z7q)] [] zec [[.int .u64]] Tryz.func129 y8f ⟨zjc,zlz,trivial⟩ ?_
  intro vs r hwf h
  unfold zec at h
  split at h
  · rename_i x a w y
    cases hc:(decide (0≤a)&&(decide (a < 64)&&(decide (1≤w)&&decide (w≤64 - a)))) with
    | false=>rw [hc] at h; simp [R.get] at h
    | true=>
      rw [hc,R.get_br,z01,R.get_ok] at h
      obtain ⟨h1,h2,h3,h4⟩:=y07 hc
      refine ⟨0,?_⟩
      rw [← h]
      refine (y3d 0 x a w y).trans ?_
      have e2:IntKind.wrap IntKind.u64 a=a:=ybb (by omega) (by omega)
      have e3:min a.toNat (IntKind.bits IntKind.u64)=a.toNat:=by
        have:IntKind.bits IntKind.u64=64:=rfl
        omega
      rw [e2,e3,decide_eq_true h1,decide_eq_true h2,decide_eq_true h3,decide_eq_true h4,decide_eq_true (show w≤64 by omega),decide_eq_false (show ¬ a < 0 by omega)]
      simp only [Bool.and_self,Bool.not_true,z01,z03]
      rfl
  · simp [R.get] at h
set_option maxRecDepth 100000 in
theorem zhc:z3n PR B0 103 z6s:=by
  refine z0o [(126,z64),(127,z7q)] [] z6s [[.int .u64]] Tryz.func103 y8m ⟨zjc,zlz,trivial⟩ ?_
  intro vs r hwf h
  unfold z6s at h
  split at h
  · rename_i x a w
    cases hc:(decide (0≤a)&&(decide (a < 64)&&(decide (1≤w)&&decide (w≤64 - a)))) with
    | false=>rw [hc] at h; simp [R.get] at h
    | true=>
      rw [hc,R.get_br,z01,R.get_ok] at h
      obtain ⟨h1,h2,h3,h4⟩:=y07 hc
      refine ⟨0,?_⟩
      rw [← h]
      refine (y4e 0 x a w).trans ?_
      have e2:IntKind.wrap IntKind.u64 a=a:=ybb (by omega) (by omega)
      have e3:min a.toNat (IntKind.bits IntKind.u64)=a.toNat:=by
        have:IntKind.bits IntKind.u64=64:=rfl
        omega
      rw [e2,e3,decide_eq_true h1,decide_eq_true h2,decide_eq_true h3,decide_eq_true h4,decide_eq_true (show w≤64 by omega),decide_eq_false (show ¬ a < 0 by omega)]
      simp only [Bool.and_self,Bool.not_true,z01,z03]
      rfl
  · simp [R.get] at h
set_option maxRecDepth 100000 in
theorem zsp:z3n PR B0 102 z8c:=by
  refine z0o [(103,z6s),(125,zbt)] [] z8c [[.int .i64]] Tryz.func102 zx2 ⟨zhc,zye,trivial⟩ ?_
  intro vs r hwf h
  unfold z8c at h
  split at h
  · rename_i x a w
    cases hc:(decide (a=0)&&decide (w=32)) with
    | false=>rw [hc] at h; simp [R.get] at h
    | true=>
      rw [hc,R.get_br,z01,R.get_ok] at h
      rw [Bool.and_eq_true,decide_eq_true_eq,decide_eq_true_eq] at hc
      obtain ⟨rfl,rfl⟩:=hc
      refine ⟨0,?_⟩
      rw [← h]
      refine (zu4 0 x 0 32).trans ?_
      rfl
  · simp [R.get] at h
set_option maxRecDepth 100000 in
theorem ztq:z3n PR B0 151 za1:=by
  refine z0o [] [] za1 [[.bool]] Tryz.func151 y10 trivial ?_
  intro vs r hwf h
  unfold za1 at h
  split at h
  · rename_i n
    refine ⟨0,?_⟩
    rw [R.get_ok] at h
    rw [← h]
    refine (zyl 0 n).trans ?_
    unfold zoc
    have e1:decide (n≥1)=decide (1≤n):=rfl
    rw [e1]
    cases decide (1≤n) <;> rfl
  · simp [R.get] at h
set_option maxRecDepth 100000 in
theorem zt5:z3n PR B0 128 z9z:=by
  refine z0o [(64,z5k),(151,za1)] [] z9z [[.bool]] Tryz.func128 y2q ⟨zfo,ztq,trivial⟩ ?_
  intro vs r hwf h
  unfold z9z at h
  split at h
  · rename_i lf v f a l r'
    refine ⟨0,?_⟩
    rw [← h]
    refine (zyo 0 lf v f a l r').trans ?_
    simp only [R.get_ok,y12]
    unfold zdh
    cases lf with
    | true=>rfl
    | false=>rfl
  · simp [R.get] at h
set_option maxRecDepth 100000 in
theorem zx5:z3n PR B0 105 zc3:=by
  refine z0o [(129,zec),(128,z9z)] [] zc3 [[.int .u64]] Tryz.func105 y5d ⟨y1j,zt5,trivial⟩ ?_
  intro vs r hwf h
  unfold zc3 at h
  split at h
  · rename_i lf v f a l r'
    refine ⟨0,?_⟩
    rw [← h]
    refine (y1t 0 lf v f a l r').trans ?_
    unfold ze8
    cases zdh ⟨lf,v,f,a,l,r'⟩ with
    | false=>rfl
    | true=>cases lf <;> rfl
  · simp [R.get] at h
set_option maxRecDepth 100000 in
theorem zn2:z3n PR B0 104 z6a:=by
  refine z0o [(103,z6s)] [] z6a [[.int .i64]] Tryz.func104 zs4 ⟨zhc,trivial⟩ ?_
  intro vs r hwf h
  unfold z6a at h
  split at h
  · rename_i a w x
    cases hc:(decide (0≤a)&&(decide (a < 64)&&(decide (1≤w)&&decide (w≤64 - a)))) with
    | false=>rw [hc] at h; simp [R.get] at h
    | true=>
      rw [hc,R.get_br,z01,R.get_ok] at h
      refine ⟨0,?_⟩
      rw [← h]
      refine (zpd 0 a w x).trans ?_
      rw [hc]
      rfl
  · simp [R.get] at h
set_option maxRecDepth 100000 in
theorem z6e:z3n PR B0 88 z1y:=by
  refine z0o [(103,z6s),(102,z8c),(105,zc3),(104,z6a)] [] z1y [[.bool,.int .i64,.int .i64,.int .i64,.int .i64,.int .i64],[.bool]] Tryz.func88 zwh ⟨zhc,zsp,zx5,zn2,trivial⟩ ?_
  intro vs r hwf h
  unfold z1y at h
  split at h
  · rename_i w
    refine ⟨0,?_⟩
    rw [← h]
    refine (zug 0 w).trans ?_
    rw [R.get_ok]
    unfold z07 z7v y34
    cases (zoh w 63 1==0) with
    | true=>
      simp only [cond_true]
      cases hw:(w==0) with
      | true=>rfl
      | false=>
        simp only [cond_false,Bool.not_false,Bool.true_and]
        have e:(ze8 ⟨false,0,zds (zoh w 32 4),zmg w,zds (zoh w 40 8),zds (zoh w 48 8)⟩ != w)=!(ze8 ⟨false,0,zds (zoh w 32 4),zmg w,zds (zoh w 40 8),zds (zoh w 48 8)⟩==w):=rfl
        rw [e]
        cases (ze8 ⟨false,0,zds (zoh w 32 4),zmg w,zds (zoh w 40 8),zds (zoh w 48 8)⟩==w) <;> rfl
    | false=>
      simp only [cond_false]
      cases hw:(w==0) with
      | true=>rfl
      | false=>
        simp only [cond_false,Bool.not_false,Bool.true_and]
        have e:(ze8 ⟨true,zmg w,0,0,0,0⟩ != w)=!(ze8 ⟨true,zmg w,0,0,0,0⟩==w):=rfl
        rw [e]
        cases (ze8 ⟨true,zmg w,0,0,0,0⟩==w) <;> rfl
  · simp [R.get] at h
open Go Go.Proofs
def z0p (N:Nat):Env:=mkE [(88,z1y)] [(5,⟨[0,1,4,5,23,24,25],[22],[]⟩),(17,⟨[4,85,86,87],[22],[]⟩)] 94 N
theorem zxr (N:Nat) (l:List IV) (a1:Int):z16 (z0p N) z1l [.tmp 4] [[.bool]] [(.list false [.int .u64] l),(.int .i64 a1)] =
 (cond (decide (ic (List.length l) < 1))
 (some ((.bool false),[]))
 (cond (decide (ic (List.length l) > 31))
 (some ((.bool false),[]))
 (cond (Nat.blt 0 (TI.size (Env.tyd (z0p N) 3))&&(Nat.blt 3 1000000&&decide (0≤ic (List.length l)))&&(decide (ic (List.length l)=ic (List.length l))&&decide (ic (List.length l)*ic (TI.bytes (Env.tyd (z0p N) 3))≤ic z0d)))
 (lpE (z0p N) (z0l z1l [1,1,1,0,1,0,0]) ⟨[0,1,4,5,23,24,25],[22],[]⟩ N ⟨[(0,(.list false [(.int .u64)] l)),(1,(.int .i64 a1)),(4,(.bool false)),(5,(.row 22 0 (Int.toNat (ic (List.length l))))),(23,(.list false [(.int .u64)] l)),(24,(.int .i64 (ic (List.length l)))),(25,(.int .i64 0))],[(22,(some (.row true 3 false [(.int .i64)] (List.replicate (Int.toNat (ic (List.length l))) (IV.int 0)))))]⟩ (z08 0 (kSq (z0p N) (z0l z1l [1,1,1,1]) (z2w (z0p N) none [(ResultVar.tmp 4)] [[.bool]]))))
 none))):=by kernel_rfl
theorem zhd (N:Nat) (l0:List IV) (x1:Int) (b4:Bool) (n5:Nat) (l23:List IV) (x24:Int) (x25:Int) (lo22:List IV) (again:St→Res) (k:Out→St→Res):rnd (z0p N) (z0l z1l [1,1,1,0,1,0,0])
 ⟨[(0,(.list false [(.int .u64)] l0)),(1,(.int .i64 x1)),(4,(.bool b4)),(5,(.row 22 0 n5)),(23,(.list false [(.int .u64)] l23)),(24,(.int .i64 x24)),(25,(.int .i64 x25))],[(22,(some (.row true 3 false [(.int .i64)] lo22)))]⟩
 (z57 again ⟨[0,1,4,5,23,24,25],[22],[]⟩ k) =
 (cond (decide (x25 < x24))
 (cond (decide (0≤x25)&&decide (x25 < ic (List.length l23)))
 (cond (!z7v (IV.toInt (List.getD l23 (Int.toNat x25) default)))
 (k .ret ⟨[(0,(.list false [(.int .u64)] l0)),(1,(.int .i64 x1)),(4,(.bool false)),(5,(.row 22 0 n5)),(23,(.list false [(.int .u64)] l23)),(24,(.int .i64 x24)),(25,(.int .i64 x25))],[(22,(some (.row true 3 false [(.int .i64)] lo22)))]⟩)
 (cond (Nd.lf (z07 (IV.toInt (List.getD l23 (Int.toNat x25) default))))
 (again ⟨[(0,(.list false [(.int .u64)] l0)),(1,(.int .i64 x1)),(4,(.bool b4)),(5,(.row 22 0 n5)),(23,(.list false [(.int .u64)] l23)),(24,(.int .i64 x24)),(25,(.int .i64 (IntKind.wrap IntKind.i64 (x25+1))))],[(22,(some (.row true 3 false [(.int .i64)] lo22)))]⟩)
 (cond (decide (Nd.f (z07 (IV.toInt (List.getD l23 (Int.toNat x25) default)))≥x1))
 (k .ret ⟨[(0,(.list false [(.int .u64)] l0)),(1,(.int .i64 x1)),(4,(.bool false)),(5,(.row 22 0 n5)),(23,(.list false [(.int .u64)] l23)),(24,(.int .i64 x24)),(25,(.int .i64 x25))],[(22,(some (.row true 3 false [(.int .i64)] lo22)))]⟩)
 (cond (Nd.l (z07 (IV.toInt (List.getD l23 (Int.toNat x25) default)))==Nd.r (z07 (IV.toInt (List.getD l23 (Int.toNat x25) default))))
 (k .ret ⟨[(0,(.list false [(.int .u64)] l0)),(1,(.int .i64 x1)),(4,(.bool false)),(5,(.row 22 0 n5)),(23,(.list false [(.int .u64)] l23)),(24,(.int .i64 x24)),(25,(.int .i64 x25))],[(22,(some (.row true 3 false [(.int .i64)] lo22)))]⟩)
 (cond (decide (min (Nd.l (z07 (IV.toInt (List.getD l23 (Int.toNat x25) default)))) (Nd.r (z07 (IV.toInt (List.getD l23 (Int.toNat x25) default))))≤x25))
 (k .ret ⟨[(0,(.list false [(.int .u64)] l0)),(1,(.int .i64 x1)),(4,(.bool false)),(5,(.row 22 0 n5)),(23,(.list false [(.int .u64)] l23)),(24,(.int .i64 x24)),(25,(.int .i64 x25))],[(22,(some (.row true 3 false [(.int .i64)] lo22)))]⟩)
 (cond (decide (max (Nd.l (z07 (IV.toInt (List.getD l23 (Int.toNat x25) default)))) (Nd.r (z07 (IV.toInt (List.getD l23 (Int.toNat x25) default))))≥ic (List.length l0)))
 (k .ret ⟨[(0,(.list false [(.int .u64)] l0)),(1,(.int .i64 x1)),(4,(.bool false)),(5,(.row 22 0 n5)),(23,(.list false [(.int .u64)] l23)),(24,(.int .i64 x24)),(25,(.int .i64 x25))],[(22,(some (.row true 3 false [(.int .i64)] lo22)))]⟩)
 (cond (decide (0≤Nd.l (z07 (IV.toInt (List.getD l23 (Int.toNat x25) default))))&&decide (Nd.l (z07 (IV.toInt (List.getD l23 (Int.toNat x25) default))) < ic (n5 - 0)))
 (cond (decide (0≤Nd.l (z07 (IV.toInt (List.getD l23 (Int.toNat x25) default))))&&decide (Nd.l (z07 (IV.toInt (List.getD l23 (Int.toNat x25) default))) < ic (n5 - 0)))
 (cond (decide (0≤Nd.r (z07 (IV.toInt (List.getD l23 (Int.toNat x25) default))))&&decide (Nd.r (z07 (IV.toInt (List.getD l23 (Int.toNat x25) default))) < ic (n5 - 0)))
 (cond (decide (0≤Nd.r (z07 (IV.toInt (List.getD l23 (Int.toNat x25) default))))&&decide (Nd.r (z07 (IV.toInt (List.getD l23 (Int.toNat x25) default))) < ic (n5 - 0)))
 (again ⟨[(0,(.list false [(.int .u64)] l0)),(1,(.int .i64 x1)),(4,(.bool b4)),(5,(.row 22 0 n5)),(23,(.list false [(.int .u64)] l23)),(24,(.int .i64 x24)),(25,(.int .i64 (IntKind.wrap IntKind.i64 (x25+1))))],[(22,(some (.row true 3 false [(.int .i64)] (List.set (List.set lo22 (0+Int.toNat (Nd.l (z07 (IV.toInt (List.getD l23 (Int.toNat x25) default))))) (znp false [Kd.int IntKind.i64] (List.getD lo22 (0+Int.toNat (Nd.l (z07 (IV.toInt (List.getD l23 (Int.toNat x25) default))))) default) 0 [IV.int (IntKind.wrap IntKind.i64 (IV.toInt (List.getD lo22 (0+Int.toNat (Nd.l (z07 (IV.toInt (List.getD l23 (Int.toNat x25) default))))) default)+1))])) (0+Int.toNat (Nd.r (z07 (IV.toInt (List.getD l23 (Int.toNat x25) default))))) (znp false [Kd.int IntKind.i64] (List.getD (List.set lo22 (0+Int.toNat (Nd.l (z07 (IV.toInt (List.getD l23 (Int.toNat x25) default))))) (znp false [Kd.int IntKind.i64] (List.getD lo22 (0+Int.toNat (Nd.l (z07 (IV.toInt (List.getD l23 (Int.toNat x25) default))))) default) 0 [IV.int (IntKind.wrap IntKind.i64 (IV.toInt (List.getD lo22 (0+Int.toNat (Nd.l (z07 (IV.toInt (List.getD l23 (Int.toNat x25) default))))) default)+1))])) (0+Int.toNat (Nd.r (z07 (IV.toInt (List.getD l23 (Int.toNat x25) default))))) default) 0 [IV.int (IntKind.wrap IntKind.i64 (IV.toInt (List.getD (List.set lo22 (0+Int.toNat (Nd.l (z07 (IV.toInt (List.getD l23 (Int.toNat x25) default))))) (znp false [Kd.int IntKind.i64] (List.getD lo22 (0+Int.toNat (Nd.l (z07 (IV.toInt (List.getD l23 (Int.toNat x25) default))))) default) 0 [IV.int (IntKind.wrap IntKind.i64 (IV.toInt (List.getD lo22 (0+Int.toNat (Nd.l (z07 (IV.toInt (List.getD l23 (Int.toNat x25) default))))) default)+1))])) (0+Int.toNat (Nd.r (z07 (IV.toInt (List.getD l23 (Int.toNat x25) default))))) default)+1))])))))]⟩)
 none)
 none)
 none)
 none)))))))
 none)
 (k (.exit 0) ⟨[(0,(.list false [(.int .u64)] l0)),(1,(.int .i64 x1)),(4,(.bool b4)),(5,(.row 22 0 n5)),(23,(.list false [(.int .u64)] l23)),(24,(.int .i64 x24)),(25,(.int .i64 x25))],[(22,(some (.row true 3 false [(.int .i64)] lo22)))]⟩)):=by kernel_rfl
theorem zms (N:Nat) (l0:List IV) (x1:Int) (b4:Bool) (n5:Nat) (l23:List IV) (x24:Int) (x25:Int) (lo22:List IV):(z08 0 (kSq (z0p N) (z0l z1l [1,1,1,1]) (z2w (z0p N) none [(ResultVar.tmp 4)] [[.bool]]))) (.exit 0)
 ⟨[(0,(.list false [(.int .u64)] l0)),(1,(.int .i64 x1)),(4,(.bool b4)),(5,(.row 22 0 n5)),(23,(.list false [(.int .u64)] l23)),(24,(.int .i64 x24)),(25,(.int .i64 x25))],[(22,(some (.row true 3 false [(.int .i64)] lo22)))]⟩ =
 (cond (decide (0≤1)&&decide (1≤ic (n5 - 0)))
 (lpE (z0p N) (z0l z1l [1,1,1,1,0,1,0,0]) ⟨[4,85,86,87],[22],[]⟩ N ⟨[(4,(.bool b4)),(85,(.row 22 1 (0+(n5 - 0)))),(86,(.int .i64 (ic (0+(n5 - 0) - 1)))),(87,(.int .i64 0))],[(22,(some (.row true 3 false [(.int .i64)] lo22)))]⟩ (z08 2 (kSq (z0p N) (z0l z1l [1,1,1,1,1]) (z2w (z0p N) none [(ResultVar.tmp 4)] [[.bool]]))))
 none):=by kernel_rfl
theorem znq (N:Nat) (l0:List IV) (x1:Int) (b4:Bool) (n5:Nat) (l23:List IV) (x24:Int) (x25:Int) (lo22:List IV):(z08 0 (kSq (z0p N) (z0l z1l [1,1,1,1]) (z2w (z0p N) none [(ResultVar.tmp 4)] [[.bool]]))) .ret
 ⟨[(0,(.list false [(.int .u64)] l0)),(1,(.int .i64 x1)),(4,(.bool b4)),(5,(.row 22 0 n5)),(23,(.list false [(.int .u64)] l23)),(24,(.int .i64 x24)),(25,(.int .i64 x25))],[(22,(some (.row true 3 false [(.int .i64)] lo22)))]⟩ =
 (some ((.bool b4),[])):=by kernel_rfl
theorem zgo (N:Nat) (b4:Bool) (n85:Nat) (x86:Int) (x87:Int) (lo22:List IV) (again:St→Res) (k:Out→St→Res):rnd (z0p N) (z0l z1l [1,1,1,1,0,1,0,0])
 ⟨[(4,(.bool b4)),(85,(.row 22 1 n85)),(86,(.int .i64 x86)),(87,(.int .i64 x87))],[(22,(some (.row true 3 false [(.int .i64)] lo22)))]⟩
 (z57 again ⟨[4,85,86,87],[22],[]⟩ k) =
 (cond (decide (x87 < x86))
 (cond (decide (0≤x87)&&decide (x87 < ic (n85 - 1)))
 (cond (IV.toInt (List.getD lo22 (1+Int.toNat x87) default) != 1)
 (k .ret ⟨[(4,(.bool false)),(85,(.row 22 1 n85)),(86,(.int .i64 x86)),(87,(.int .i64 x87))],[(22,(some (.row true 3 false [(.int .i64)] lo22)))]⟩)
 (again ⟨[(4,(.bool b4)),(85,(.row 22 1 n85)),(86,(.int .i64 x86)),(87,(.int .i64 (IntKind.wrap IntKind.i64 (x87+1))))],[(22,(some (.row true 3 false [(.int .i64)] lo22)))]⟩))
 none)
 (k (.exit 2) ⟨[(4,(.bool b4)),(85,(.row 22 1 n85)),(86,(.int .i64 x86)),(87,(.int .i64 x87))],[(22,(some (.row true 3 false [(.int .i64)] lo22)))]⟩)):=by kernel_rfl
theorem zmi (N:Nat) (b4:Bool) (n85:Nat) (x86:Int) (x87:Int) (lo22:List IV):(z08 2 (kSq (z0p N) (z0l z1l [1,1,1,1,1]) (z2w (z0p N) none [(ResultVar.tmp 4)] [[.bool]]))) (.exit 2)
 ⟨[(4,(.bool b4)),(85,(.row 22 1 n85)),(86,(.int .i64 x86)),(87,(.int .i64 x87))],[(22,(some (.row true 3 false [(.int .i64)] lo22)))]⟩ =
 (some ((.bool true),[])):=by kernel_rfl
theorem zm7 (N:Nat) (b4:Bool) (n85:Nat) (x86:Int) (x87:Int) (lo22:List IV):(z08 2 (kSq (z0p N) (z0l z1l [1,1,1,1,1]) (z2w (z0p N) none [(ResultVar.tmp 4)] [[.bool]]))) .ret
 ⟨[(4,(.bool b4)),(85,(.row 22 1 n85)),(86,(.int .i64 x86)),(87,(.int .i64 x87))],[(22,(some (.row true 3 false [(.int .i64)] lo22)))]⟩ =
 (some ((.bool b4),[])):=by kernel_rfl
def zqi (N:Nat):Env:=mkE [(67,z5z)] [] 22 N
theorem zpa (N:Nat) (k:Int) (l:List IV) (d:Int) (c:Int) (b0:Int) (b1:Int) (b2:Int) (ts:List IV):z16 (zqi N) zgv [.tmp 3] [[.bool]] [(.agg [.int .i64 k,.list false [.int .u64] l]),(.bor [.int .i64 d,.int .i64 c,.int .i64 b0,.int .i64 b1,.int .i64 b2,.list true [.int .i64,.list false [.int .u64]] ts])] =
 (cond (decide (k < 0))
 (some ((.bool true),[[(.int .i64 d),(.int .i64 c),(.int .i64 b0),(.int .i64 b1),(.int .i64 b2),(.list true [(.int .i64),(.list false [(.int .u64)])] ts)]]))
 (cond (decide (k≥c))
 (some ((.bool true),[[(.int .i64 d),(.int .i64 c),(.int .i64 b0),(.int .i64 b1),(.int .i64 b2),(.list true [(.int .i64),(.list false [(.int .u64)])] ts)]]))
 (some ((.bool (!z6v l d)),[[(.int .i64 d),(.int .i64 c),(.int .i64 b0),(.int .i64 b1),(.int .i64 b2),(.list true [(.int .i64),(.list false [(.int .u64)])] ts)]])))):=by kernel_rfl
def z09 (N:Nat):Env:=mkE [(66,z4d)] [(2,⟨[0,1,4,7,8],[900000],[]⟩)] 19 N
theorem z88 (N:Nat) (l:List IV) (d:Int) (c:Int) (b0:Int) (b1:Int) (b2:Int) (ts:List IV):z16 (z09 N) z0h [.tmp 4] [[.int .i64]] [(.list true [.int .i64,.list false [.int .u64]] l),(.clo 66 [.bor [.int .i64 d,.int .i64 c,.int .i64 b0,.int .i64 b1,.int .i64 b2,.list true [.int .i64,.list false [.int .u64]] ts]])] =
 (lpE (z09 N) (z0l z0h [1,0,1,0,0]) ⟨[0,1,4,7,8],[900000],[]⟩ N ⟨[(0,(.list true [(.int .i64),(.list false [(.int .u64)])] l)),(1,(.clo 66 [(.ptr 900000 0 0)])),(4,(.int .i64 0)),(7,(.int .i64 (ic (List.length l)))),(8,(.int .i64 0))],[(900000,(some (.box [(.int .i64 d),(.int .i64 c),(.int .i64 b0),(.int .i64 b1),(.int .i64 b2),(.list true [(.int .i64),(.list false [(.int .u64)])] ts)])))]⟩ (z08 0 (kSq (z09 N) (z0l z0h [1,1]) (z2w (z09 N) (some [(.int .i64 d),(.int .i64 c),(.int .i64 b0),(.int .i64 b1),(.int .i64 b2),(.list true [(.int .i64),(.list false [(.int .u64)])] ts)]) [(ResultVar.tmp 4)] [[(.int .i64)]])))):=by kernel_rfl
theorem z44 (N:Nat) (l0:List IV) (x4:Int) (x7:Int) (x8:Int) (xo900000_0:Int) (xo900000_1:Int) (xo900000_2:Int) (xo900000_3:Int) (xo900000_4:Int) (lo900000_5:List IV) (again:St→Res) (k:Out→St→Res):rnd (z09 N) (z0l z0h [1,0,1,0,0])
 ⟨[(0,(.list true [(.int .i64),(.list false [(.int .u64)])] l0)),(1,(.clo 66 [(.ptr 900000 0 0)])),(4,(.int .i64 x4)),(7,(.int .i64 x7)),(8,(.int .i64 x8))],[(900000,(some (.box [(.int .i64 xo900000_0),(.int .i64 xo900000_1),(.int .i64 xo900000_2),(.int .i64 xo900000_3),(.int .i64 xo900000_4),(.list true [(.int .i64),(.list false [(.int .u64)])] lo900000_5)])))]⟩
 (z57 again ⟨[0,1,4,7,8],[900000],[]⟩ k) =
 (cond (decide (x8 < x7))
 (cond (decide (0≤x8)&&decide (x8 < ic (List.length l0)))
 (cond (!z87 xo900000_0 xo900000_1 (IV.agg [IV.int (IV.toInt (IV.cell (List.getD l0 (Int.toNat x8) default) 0)),IV.list (IV.toList (IV.cell (List.getD l0 (Int.toNat x8) default) 1))]))
 (k .ret ⟨[(0,(.list true [(.int .i64),(.list false [(.int .u64)])] l0)),(1,(.clo 66 [(.ptr 900000 0 0)])),(4,(.int .i64 x8)),(7,(.int .i64 x7)),(8,(.int .i64 x8))],[(900000,(some (.box [(.int .i64 xo900000_0),(.int .i64 xo900000_1),(.int .i64 xo900000_2),(.int .i64 xo900000_3),(.int .i64 xo900000_4),(.list true [(.int .i64),(.list false [(.int .u64)])] lo900000_5)])))]⟩)
 (again ⟨[(0,(.list true [(.int .i64),(.list false [(.int .u64)])] l0)),(1,(.clo 66 [(.ptr 900000 0 0)])),(4,(.int .i64 x4)),(7,(.int .i64 x7)),(8,(.int .i64 (IntKind.wrap IntKind.i64 (x8+1))))],[(900000,(some (.box [(.int .i64 xo900000_0),(.int .i64 xo900000_1),(.int .i64 xo900000_2),(.int .i64 xo900000_3),(.int .i64 xo900000_4),(.list true [(.int .i64),(.list false [(.int .u64)])] lo900000_5)])))]⟩))
 none)
 (k (.exit 0) ⟨[(0,(.list true [(.int .i64),(.list false [(.int .u64)])] l0)),(1,(.clo 66 [(.ptr 900000 0 0)])),(4,(.int .i64 x4)),(7,(.int .i64 x7)),(8,(.int .i64 x8))],[(900000,(some (.box [(.int .i64 xo900000_0),(.int .i64 xo900000_1),(.int .i64 xo900000_2),(.int .i64 xo900000_3),(.int .i64 xo900000_4),(.list true [(.int .i64),(.list false [(.int .u64)])] lo900000_5)])))]⟩)):=by kernel_rfl
theorem z6r (N:Nat) (d:Int) (c:Int) (b0:Int) (b1:Int) (b2:Int) (ts:List IV) (l0:List IV) (x4:Int) (x7:Int) (x8:Int) (xo900000_0:Int) (xo900000_1:Int) (xo900000_2:Int) (xo900000_3:Int) (xo900000_4:Int) (lo900000_5:List IV):(z08 0 (kSq (z09 N) (z0l z0h [1,1]) (z2w (z09 N) (some [(.int .i64 d),(.int .i64 c),(.int .i64 b0),(.int .i64 b1),(.int .i64 b2),(.list true [(.int .i64),(.list false [(.int .u64)])] ts)]) [(ResultVar.tmp 4)] [[(.int .i64)]]))) (.exit 0)
 ⟨[(0,(.list true [(.int .i64),(.list false [(.int .u64)])] l0)),(1,(.clo 66 [(.ptr 900000 0 0)])),(4,(.int .i64 x4)),(7,(.int .i64 x7)),(8,(.int .i64 x8))],[(900000,(some (.box [(.int .i64 xo900000_0),(.int .i64 xo900000_1),(.int .i64 xo900000_2),(.int .i64 xo900000_3),(.int .i64 xo900000_4),(.list true [(.int .i64),(.list false [(.int .u64)])] lo900000_5)])))]⟩ =
 (some ((.int .i64 (-1)),[[(.int .i64 xo900000_0),(.int .i64 xo900000_1),(.int .i64 xo900000_2),(.int .i64 xo900000_3),(.int .i64 xo900000_4),(.list true [(.int .i64),(.list false [(.int .u64)])] lo900000_5)]])):=by kernel_rfl
theorem z6n (N:Nat) (d:Int) (c:Int) (b0:Int) (b1:Int) (b2:Int) (ts:List IV) (l0:List IV) (x4:Int) (x7:Int) (x8:Int) (xo900000_0:Int) (xo900000_1:Int) (xo900000_2:Int) (xo900000_3:Int) (xo900000_4:Int) (lo900000_5:List IV):(z08 0 (kSq (z09 N) (z0l z0h [1,1]) (z2w (z09 N) (some [(.int .i64 d),(.int .i64 c),(.int .i64 b0),(.int .i64 b1),(.int .i64 b2),(.list true [(.int .i64),(.list false [(.int .u64)])] ts)]) [(ResultVar.tmp 4)] [[(.int .i64)]]))) .ret
 ⟨[(0,(.list true [(.int .i64),(.list false [(.int .u64)])] l0)),(1,(.clo 66 [(.ptr 900000 0 0)])),(4,(.int .i64 x4)),(7,(.int .i64 x7)),(8,(.int .i64 x8))],[(900000,(some (.box [(.int .i64 xo900000_0),(.int .i64 xo900000_1),(.int .i64 xo900000_2),(.int .i64 xo900000_3),(.int .i64 xo900000_4),(.list true [(.int .i64),(.list false [(.int .u64)])] lo900000_5)])))]⟩ =
 (some ((.int .i64 x4),[[(.int .i64 xo900000_0),(.int .i64 xo900000_1),(.int .i64 xo900000_2),(.int .i64 xo900000_3),(.int .i64 xo900000_4),(.list true [(.int .i64),(.list false [(.int .u64)])] lo900000_5)]])):=by kernel_rfl
def z77 (N:Nat):Env:=mkE [(87,z1c)] [] 9 N
theorem z6w (N:Nat) (l:List IV) (d:Int) (c:Int) (b0:Int) (b1:Int) (b2:Int) (ts:List IV):z16 (z77 N) z4a [.tmp 4] [[.bool]] [(.list true [.int .i64,.list false [.int .u64]] l),(.clo 66 [.bor [.int .i64 d,.int .i64 c,.int .i64 b0,.int .i64 b1,.int .i64 b2,.list true [.int .i64,.list false [.int .u64]] ts]])] =
 (some ((.bool (decide (zr6 d c l 0≥0))),[[(.int .i64 d),(.int .i64 c),(.int .i64 b0),(.int .i64 b1),(.int .i64 b2),(.list true [(.int .i64),(.list false [(.int .u64)])] ts)]])):=by kernel_rfl
def z1w (N:Nat):Env:=mkE [(64,z5k),(66,z4d),(65,z13)] [(4,⟨[1,2,30,31],[1,53005],[]⟩)] 54 N
theorem zu1 (N:Nat) (m_Dim:Int) (m_Classes:Int) (m_Bias_0:Int) (m_Bias_1:Int) (m_Bias_2:Int) (m_Trees:List IV):z16 (z1w N) z3c [.tmp 2] [[.bool]] [(.agg [(.int .i64 m_Dim),(.int .i64 m_Classes),(.int .i64 m_Bias_0),(.int .i64 m_Bias_1),(.int .i64 m_Bias_2),(.list true [.int .i64,.list false [.int .u64]] m_Trees)])] =
 (cond (decide (m_Dim < 1))
 (some ((.bool false),[]))
 (cond (decide (m_Dim > 4))
 (some ((.bool false),[]))
 (cond (decide (m_Classes < 1))
 (some ((.bool false),[]))
 (cond (decide (m_Classes > 3))
 (some ((.bool false),[]))
 (cond (decide (ic (List.length m_Trees) > 8))
 (some ((.bool false),[]))
 (lpE (z1w N) (z0l z3c [1,1,0,1,0,0]) ⟨[1,2,30,31],[1,53005],[]⟩ N ⟨[(1,(.ptr 1 0 0)),(2,(.bool false)),(30,(.agg [(.int .i64 m_Bias_0),(.int .i64 m_Bias_1),(.int .i64 m_Bias_2)])),(31,(.int .i64 0))],[(1,(some (.box [(.int .i64 m_Dim),(.int .i64 m_Classes),(.int .i64 m_Bias_0),(.int .i64 m_Bias_1),(.int .i64 m_Bias_2),(.list true [(.int .i64),(.list false [(.int .u64)])] m_Trees)]))),(53005,none)]⟩ (z08 0 (kSq (z1w N) (z0l z3c [1,1,1]) (z2w (z1w N) none [(ResultVar.tmp 2)] [[.bool]]))))))))):=by kernel_rfl
theorem zft (N:Nat) (b2:Bool) (x30_0:Int) (x30_1:Int) (x30_2:Int) (x31:Int) (xo1_0:Int) (xo1_1:Int) (xo1_2:Int) (xo1_3:Int) (xo1_4:Int) (lo1_5:List IV) (again:St→Res) (k:Out→St→Res):rnd (z1w N) (z0l z3c [1,1,0,1,0,0])
 ⟨[(1,(.ptr 1 0 0)),(2,(.bool b2)),(30,(.agg [(.int .i64 x30_0),(.int .i64 x30_1),(.int .i64 x30_2)])),(31,(.int .i64 x31))],[(1,(some (.box [(.int .i64 xo1_0),(.int .i64 xo1_1),(.int .i64 xo1_2),(.int .i64 xo1_3),(.int .i64 xo1_4),(.list true [(.int .i64),(.list false [(.int .u64)])] lo1_5)]))),(53005,none)]⟩
 (z57 again ⟨[1,2,30,31],[1,53005],[]⟩ k) =
 (cond (decide (x31 < 3))
 (cond (decide (x31=ic 0))
 (cond (!z1g x30_0)
 (k .ret ⟨[(1,(.ptr 1 0 0)),(2,(.bool false)),(30,(.agg [(.int .i64 x30_0),(.int .i64 x30_1),(.int .i64 x30_2)])),(31,(.int .i64 x31))],[(1,(some (.box [(.int .i64 xo1_0),(.int .i64 xo1_1),(.int .i64 xo1_2),(.int .i64 xo1_3),(.int .i64 xo1_4),(.list true [(.int .i64),(.list false [(.int .u64)])] lo1_5)]))),(53005,none)]⟩)
 (cond (decide (x31≥xo1_1))
 (cond (x30_0 != 0)
 (k .ret ⟨[(1,(.ptr 1 0 0)),(2,(.bool false)),(30,(.agg [(.int .i64 x30_0),(.int .i64 x30_1),(.int .i64 x30_2)])),(31,(.int .i64 x31))],[(1,(some (.box [(.int .i64 xo1_0),(.int .i64 xo1_1),(.int .i64 xo1_2),(.int .i64 xo1_3),(.int .i64 xo1_4),(.list true [(.int .i64),(.list false [(.int .u64)])] lo1_5)]))),(53005,none)]⟩)
 (again ⟨[(1,(.ptr 1 0 0)),(2,(.bool b2)),(30,(.agg [(.int .i64 x30_0),(.int .i64 x30_1),(.int .i64 x30_2)])),(31,(.int .i64 (IntKind.wrap IntKind.i64 (x31+1))))],[(1,(some (.box [(.int .i64 xo1_0),(.int .i64 xo1_1),(.int .i64 xo1_2),(.int .i64 xo1_3),(.int .i64 xo1_4),(.list true [(.int .i64),(.list false [(.int .u64)])] lo1_5)]))),(53005,none)]⟩))
 (again ⟨[(1,(.ptr 1 0 0)),(2,(.bool b2)),(30,(.agg [(.int .i64 x30_0),(.int .i64 x30_1),(.int .i64 x30_2)])),(31,(.int .i64 (IntKind.wrap IntKind.i64 (x31+1))))],[(1,(some (.box [(.int .i64 xo1_0),(.int .i64 xo1_1),(.int .i64 xo1_2),(.int .i64 xo1_3),(.int .i64 xo1_4),(.list true [(.int .i64),(.list false [(.int .u64)])] lo1_5)]))),(53005,none)]⟩)))
 (cond (decide (x31=ic 1))
 (cond (!z1g x30_1)
 (k .ret ⟨[(1,(.ptr 1 0 0)),(2,(.bool false)),(30,(.agg [(.int .i64 x30_0),(.int .i64 x30_1),(.int .i64 x30_2)])),(31,(.int .i64 x31))],[(1,(some (.box [(.int .i64 xo1_0),(.int .i64 xo1_1),(.int .i64 xo1_2),(.int .i64 xo1_3),(.int .i64 xo1_4),(.list true [(.int .i64),(.list false [(.int .u64)])] lo1_5)]))),(53005,none)]⟩)
 (cond (decide (x31≥xo1_1))
 (cond (x30_1 != 0)
 (k .ret ⟨[(1,(.ptr 1 0 0)),(2,(.bool false)),(30,(.agg [(.int .i64 x30_0),(.int .i64 x30_1),(.int .i64 x30_2)])),(31,(.int .i64 x31))],[(1,(some (.box [(.int .i64 xo1_0),(.int .i64 xo1_1),(.int .i64 xo1_2),(.int .i64 xo1_3),(.int .i64 xo1_4),(.list true [(.int .i64),(.list false [(.int .u64)])] lo1_5)]))),(53005,none)]⟩)
 (again ⟨[(1,(.ptr 1 0 0)),(2,(.bool b2)),(30,(.agg [(.int .i64 x30_0),(.int .i64 x30_1),(.int .i64 x30_2)])),(31,(.int .i64 (IntKind.wrap IntKind.i64 (x31+1))))],[(1,(some (.box [(.int .i64 xo1_0),(.int .i64 xo1_1),(.int .i64 xo1_2),(.int .i64 xo1_3),(.int .i64 xo1_4),(.list true [(.int .i64),(.list false [(.int .u64)])] lo1_5)]))),(53005,none)]⟩))
 (again ⟨[(1,(.ptr 1 0 0)),(2,(.bool b2)),(30,(.agg [(.int .i64 x30_0),(.int .i64 x30_1),(.int .i64 x30_2)])),(31,(.int .i64 (IntKind.wrap IntKind.i64 (x31+1))))],[(1,(some (.box [(.int .i64 xo1_0),(.int .i64 xo1_1),(.int .i64 xo1_2),(.int .i64 xo1_3),(.int .i64 xo1_4),(.list true [(.int .i64),(.list false [(.int .u64)])] lo1_5)]))),(53005,none)]⟩)))
 (cond (decide (x31=ic 2))
 (cond (!z1g x30_2)
 (k .ret ⟨[(1,(.ptr 1 0 0)),(2,(.bool false)),(30,(.agg [(.int .i64 x30_0),(.int .i64 x30_1),(.int .i64 x30_2)])),(31,(.int .i64 x31))],[(1,(some (.box [(.int .i64 xo1_0),(.int .i64 xo1_1),(.int .i64 xo1_2),(.int .i64 xo1_3),(.int .i64 xo1_4),(.list true [(.int .i64),(.list false [(.int .u64)])] lo1_5)]))),(53005,none)]⟩)
 (cond (decide (x31≥xo1_1))
 (cond (x30_2 != 0)
 (k .ret ⟨[(1,(.ptr 1 0 0)),(2,(.bool false)),(30,(.agg [(.int .i64 x30_0),(.int .i64 x30_1),(.int .i64 x30_2)])),(31,(.int .i64 x31))],[(1,(some (.box [(.int .i64 xo1_0),(.int .i64 xo1_1),(.int .i64 xo1_2),(.int .i64 xo1_3),(.int .i64 xo1_4),(.list true [(.int .i64),(.list false [(.int .u64)])] lo1_5)]))),(53005,none)]⟩)
 (again ⟨[(1,(.ptr 1 0 0)),(2,(.bool b2)),(30,(.agg [(.int .i64 x30_0),(.int .i64 x30_1),(.int .i64 x30_2)])),(31,(.int .i64 (IntKind.wrap IntKind.i64 (x31+1))))],[(1,(some (.box [(.int .i64 xo1_0),(.int .i64 xo1_1),(.int .i64 xo1_2),(.int .i64 xo1_3),(.int .i64 xo1_4),(.list true [(.int .i64),(.list false [(.int .u64)])] lo1_5)]))),(53005,none)]⟩))
 (again ⟨[(1,(.ptr 1 0 0)),(2,(.bool b2)),(30,(.agg [(.int .i64 x30_0),(.int .i64 x30_1),(.int .i64 x30_2)])),(31,(.int .i64 (IntKind.wrap IntKind.i64 (x31+1))))],[(1,(some (.box [(.int .i64 xo1_0),(.int .i64 xo1_1),(.int .i64 xo1_2),(.int .i64 xo1_3),(.int .i64 xo1_4),(.list true [(.int .i64),(.list false [(.int .u64)])] lo1_5)]))),(53005,none)]⟩)))
 none)))
 (k (.exit 0) ⟨[(1,(.ptr 1 0 0)),(2,(.bool b2)),(30,(.agg [(.int .i64 x30_0),(.int .i64 x30_1),(.int .i64 x30_2)])),(31,(.int .i64 x31))],[(1,(some (.box [(.int .i64 xo1_0),(.int .i64 xo1_1),(.int .i64 xo1_2),(.int .i64 xo1_3),(.int .i64 xo1_4),(.list true [(.int .i64),(.list false [(.int .u64)])] lo1_5)]))),(53005,none)]⟩)):=by kernel_rfl
theorem zkr (N:Nat) (b2:Bool) (x30_0:Int) (x30_1:Int) (x30_2:Int) (x31:Int) (xo1_0:Int) (xo1_1:Int) (xo1_2:Int) (xo1_3:Int) (xo1_4:Int) (lo1_5:List IV):(z08 0 (kSq (z1w N) (z0l z3c [1,1,1]) (z2w (z1w N) none [(ResultVar.tmp 2)] [[.bool]]))) (.exit 0)
 ⟨[(1,(.ptr 1 0 0)),(2,(.bool b2)),(30,(.agg [(.int .i64 x30_0),(.int .i64 x30_1),(.int .i64 x30_2)])),(31,(.int .i64 x31))],[(1,(some (.box [(.int .i64 xo1_0),(.int .i64 xo1_1),(.int .i64 xo1_2),(.int .i64 xo1_3),(.int .i64 xo1_4),(.list true [(.int .i64),(.list false [(.int .u64)])] lo1_5)]))),(53005,none)]⟩ =
 (some ((.bool (!!List.all lo1_5 (z87 xo1_0 xo1_1))),[])):=by kernel_rfl
theorem zm2 (N:Nat) (b2:Bool) (x30_0:Int) (x30_1:Int) (x30_2:Int) (x31:Int) (xo1_0:Int) (xo1_1:Int) (xo1_2:Int) (xo1_3:Int) (xo1_4:Int) (lo1_5:List IV):(z08 0 (kSq (z1w N) (z0l z3c [1,1,1]) (z2w (z1w N) none [(ResultVar.tmp 2)] [[.bool]]))) .ret
 ⟨[(1,(.ptr 1 0 0)),(2,(.bool b2)),(30,(.agg [(.int .i64 x30_0),(.int .i64 x30_1),(.int .i64 x30_2)])),(31,(.int .i64 x31))],[(1,(some (.box [(.int .i64 xo1_0),(.int .i64 xo1_1),(.int .i64 xo1_2),(.int .i64 xo1_3),(.int .i64 xo1_4),(.list true [(.int .i64),(.list false [(.int .u64)])] lo1_5)]))),(53005,none)]⟩ =
 (some ((.bool b2),[])):=by kernel_rfl
open Go Go.Proofs
theorem zvm {l:List IV} {i:Nat} {w:IV} (h:l[i]?=some w) (j:Nat):z3x (l.take (i+1)) j=z3x (l.take i) j+za9 (z07 w.toInt) j:=by
  unfold z3x
  rw [List.take_add_one,h]
  simp
theorem ybq (x:Nd) (j:Nat):za9 x j≤2:=by
  unfold za9
  cases x.lf
  · simp only [cond_false]
    split <;> split <;> omega
  · simp only [cond_true]
    omega
theorem y6c:∀ (l:List IV) (j:Nat),z3x l j≤2*l.length
  | [],_=>Nat.le_refl _
  | w :: l,j=>by
    have:=y6c l j
    have:=ybq (z07 w.toInt) j
    unfold z3x at *
    simp only [List.map_cons,List.sum_cons,List.length_cons]
    omega
def NM (l:List IV) (i:Nat):List IV:=(List.range l.length).map fun j=>IV.int (z3x (l.take i) j:Nat)
theorem y1s (l:List IV) (i:Nat):(NM l i).length=l.length:=by simp [NM]
theorem zut (l:List IV) (i:Nat) {j:Nat} (h:j < l.length):(NM l i)[j]?=some (IV.int (z3x (l.take i) j:Nat)):=by
  unfold NM
  rw [List.getElem?_map,List.getElem?_range h]
  rfl
theorem yfc (l:List IV):NM l 0=List.replicate l.length (IV.int 0):=by
  apply List.ext_getElem?
  intro j
  by_cases h:j < l.length
  · rw [zut l 0 h,List.getElem?_replicate,if_pos h]
    simp [z3x]
  · rw [List.getElem?_eq_none (by rw [y1s]; omega),List.getElem?_eq_none (by simp; omega)]
theorem yfd {l:List IV} {i:Nat} {w:IV} (h:l[i]?=some w) (hl:(z07 w.toInt).lf=true):NM l (i+1)=NM l i:=by
  unfold NM
  congr 1
  funext j
  rw [zvm h]
  unfold za9
  rw [hl]
  rfl
theorem yfl {l:List IV} {i:Nat} {w:IV} (h:l[i]?=some w) (hl:(z07 w.toInt).lf=false) (hn:l.length≤31) {a b:Nat} (ha:(z07 w.toInt).l=(a:Int)) (hb:(z07 w.toInt).r=(b:Int)) (hab:a≠b) (al:a < l.length) (bl:b < l.length) :
    ((NM l i).set a (IV.int (IntKind.wrap IntKind.i64 (((NM l i).getD a default).toInt+1)))).set b (IV.int (IntKind.wrap IntKind.i64 ((((NM l i).set a (IV.int (IntKind.wrap IntKind.i64 (((NM l i).getD a default).toInt+1)))).getD b default).toInt+1)))=NM l (i+1):=by
  have hil:i < l.length:=(List.getElem?_eq_some_iff.1 h).1
  have hsm:∀ j,z3x (l.take i) j≤62:=fun j=>by
    have:=y6c (l.take i) j
    rw [List.length_take] at this
    omega
  have ga:((NM l i).getD a default).toInt=(z3x (l.take i) a:Nat):=by
    rw [List.getD_eq_getElem?_getD,zut l i al]
    rfl
  have gb:(((NM l i).set a (IV.int (IntKind.wrap IntKind.i64 (((NM l i).getD a default).toInt+1)))).getD b default).toInt=(z3x (l.take i) b:Nat):=by
    rw [List.getD_eq_getElem?_getD,List.getElem?_set_ne hab,zut l i bl]
    rfl
  rw [gb,ga,z12 (by omega) (by have:=hsm a; omega),z12 (by omega) (by have:=hsm b; omega)]
  apply List.ext_getElem?
  intro j
  by_cases hj:j < l.length
  · rw [zut l (i+1) hj,zvm h]
    have e:za9 (z07 w.toInt) j=(if a=j then 1 else 0)+(if b=j then 1 else 0):=by
      unfold za9
      rw [hl,ha,hb,cond_false]
      have e1:((a:Int)=(j:Int))↔a=j:=by omega
      have e2:((b:Int)=(j:Int))↔b=j:=by omega
      simp only [e1,e2]
    rw [e]
    by_cases h1:b=j
    · subst h1
      rw [List.getElem?_set_self (by rw [List.length_set,y1s]; exact bl),if_neg hab,if_pos rfl]
      congr 2
    · rw [List.getElem?_set_ne h1]
      by_cases h2:a=j
      · subst h2
        rw [List.getElem?_set_self (by rw [y1s]; exact al),if_pos rfl,if_neg h1]
        congr 2
      · rw [List.getElem?_set_ne h2,zut l i hj,if_neg h1,if_neg h2]
        congr 2
  · rw [List.getElem?_eq_none (by rw [List.length_set,List.length_set,y1s]; omega),List.getElem?_eq_none (by rw [y1s]; omega)]
abbrev yif (l:List IV) (dim:Int) (b:Bool) (i:Int) (nm:List IV):St:=
  ⟨[(0,(.list false [(.int .u64)] l)),(1,(.int .i64 dim)),(4,(.bool b)),(5,(.row 22 0 l.length)),(23,(.list false [(.int .u64)] l)),(24,(.int .i64 (ic l.length))),(25,(.int .i64 i))],[(22,(some (.row true 3 false [(.int .i64)] nm)))]⟩
theorem zxv (N:Nat) (l:List IV) (dim:Int) (hl:l.length≤31) (K:Out→St→Res) (hK:∀ i nm,K .ret (yif l dim false i nm)=some (.bool false,[])):∀ (d i n:Nat),i+d=l.length→d < n →
    lpE (z0p N) (z0l z1l [1,1,1,0,1,0,0]) ⟨[0,1,4,5,23,24,25],[22],[]⟩ n (yif l dim false (i:Int) (NM l i)) K =
      cond (zbv dim (ic l.length) i (l.drop i)) (K (.exit 0) (yif l dim false (ic l.length) (NM l l.length))) (some (.bool false,[]))
  | d,i,0,_,h=>absurd h (by omega)
  | 0,i,n+1,hd,_=>by
    have hi:i=l.length:=by omega
    subst hi
    rw [z0b,zhd]
    rw [decide_eq_false (show ¬ ((l.length:Nat):Int) < ic l.length by simp only [ic]; omega),z03,List.drop_length]
    rfl
  | d+1,i,n+1,hd,hn=>by
    have hil:i < l.length:=by omega
    have hw:l[i]?=some l[i]:=List.getElem?_eq_getElem hil
    rw [z0b,zhd,List.drop_eq_getElem_cons hil]
    have hg:l.getD (Int.toNat (i:Int)) default=l[i]:=by
      rw [Int.toNat_natCast,List.getD_eq_getElem?_getD,hw]
      rfl
    rw [hg]
    generalize l[i]=w at hw ⊢
    have ei:IntKind.wrap IntKind.i64 ((i:Int)+1)=((i+1:Nat):Int):=by
      rw [z12 (by omega) (by omega)]
      omega
    rw [ei,decide_eq_true (show (i:Int) < ic l.length by simp only [ic]; omega),z01,decide_eq_true (show (0:Int)≤(i:Int) by omega),Bool.and_self,z01]
    unfold zbv
    cases hb:z7v w.toInt with
    | false=>
      simp only [Bool.not_false,z01,Bool.false_and,z03]
      exact hK (i:Int) (NM l i)
    | true=>
      simp only [Bool.not_true,z03,Bool.true_and]
      unfold zmm
      cases hlf:(z07 w.toInt).lf with
      | true=>
        simp only [z01,Bool.true_and]
        rw [← yfd hw hlf]
        exact zxv N l dim hl K hK d (i+1) n (by omega) (by omega)
      | false=>
        simp only [z03]
        cases h1:decide ((z07 w.toInt).f≥dim) with
        | true=>
          simp only [z01,Bool.not_true,Bool.false_and,z03]
          exact hK (i:Int) (NM l i)
        | false=>
        cases h2:((z07 w.toInt).l==(z07 w.toInt).r) with
        | true=>
          simp only [z01,z03,Bool.not_true,Bool.not_false,Bool.false_and,Bool.and_false]
          exact hK (i:Int) (NM l i)
        | false=>
        cases h3:decide (min (z07 w.toInt).l (z07 w.toInt).r≤(i:Int)) with
        | true=>
          simp only [z01,z03,Bool.not_true,Bool.not_false,Bool.false_and,Bool.and_false]
          exact hK (i:Int) (NM l i)
        | false=>
        cases h4:decide (max (z07 w.toInt).l (z07 w.toInt).r≥ic l.length) with
        | true=>
          simp only [z01,z03,Bool.not_true,Bool.not_false,Bool.false_and,Bool.and_false]
          exact hK (i:Int) (NM l i)
        | false=>
          have g2:(z07 w.toInt).l≠(z07 w.toInt).r:=beq_eq_false_iff_ne.1 h2
          have g3:=of_decide_eq_false h3
          have g4:=of_decide_eq_false h4
          simp only [ic] at g4
          obtain ⟨a,ha⟩:∃ a:Nat,(z07 w.toInt).l=(a:Int):=⟨(z07 w.toInt).l.toNat,by omega⟩
          obtain ⟨b,hb'⟩:∃ b:Nat,(z07 w.toInt).r=(b:Int):=⟨(z07 w.toInt).r.toNat,by omega⟩
          have hab:a≠b:=fun e=>g2 (by rw [ha,hb',e])
          have al:a < l.length:=by omega
          have bl:b < l.length:=by omega
          have hN:=yfl hw hlf hl ha hb' hab al bl
          rw [ha,hb']
          rw [decide_eq_true (show (0:Int)≤(a:Int) by omega),decide_eq_true (show (0:Int)≤(b:Int) by omega),decide_eq_true (show (a:Int) < ic (l.length - 0) by simp only [ic]; omega),decide_eq_true (show (b:Int) < ic (l.length - 0) by simp only [ic]; omega)]
          simp only [z01,z03,Bool.not_false,Bool.and_self,Bool.true_and,Int.toNat_natCast,Nat.zero_add]
          refine Eq.trans ?_ (zxv N l dim hl K hK d (i+1) n (by omega) (by omega))
          rw [← hN]
          rfl
abbrev yjp (l:List IV) (b:Bool) (j:Int):St:=
  ⟨[(4,(.bool b)),(85,(.row 22 1 (0+(l.length - 0)))),(86,(.int .i64 (ic (0+(l.length - 0) - 1)))),(87,(.int .i64 j))],[(22,(some (.row true 3 false [(.int .i64)] (NM l l.length))))]⟩
theorem y6h (N:Nat) (l:List IV) (hl:l.length≤31):∀ (d j n:Nat),j+d=l.length - 1→d < n →
    lpE (z0p N) (z0l z1l [1,1,1,1,0,1,0,0]) ⟨[4,85,86,87],[22],[]⟩ n (yjp l false (j:Int)) (z08 2 (kSq (z0p N) (z0l z1l [1,1,1,1,1]) (z2w (z0p N) none [(ResultVar.tmp 4)] [[.bool]]))) =
      some (.bool ((List.range' j d).all fun j=>z3x l (j+1)==1),[])
  | d,j,0,_,h=>absurd h (by omega)
  | 0,j,n+1,hd,_=>by
    rw [z0b,zgo,decide_eq_false (show ¬ (j:Int) < ic (0+(l.length - 0) - 1) by simp only [ic]; omega),z03]
    exact zmi N false _ _ _ _
  | d+1,j,n+1,hd,hn=>by
    have ej:IntKind.wrap IntKind.i64 ((j:Int)+1)=((j+1:Nat):Int):=by
      rw [z12 (by omega) (by omega)]
      omega
    rw [z0b,zgo,ej,decide_eq_true (show (j:Int) < ic (0+(l.length - 0) - 1) by simp only [ic]; omega),z01,decide_eq_true (show (0:Int)≤(j:Int) by omega),Bool.and_self,z01]
    have hg:((NM l l.length).getD (1+Int.toNat (j:Int)) default).toInt=(z3x l (j+1):Nat):=by
      rw [Int.toNat_natCast,Nat.add_comm 1 j,List.getD_eq_getElem?_getD,zut l l.length (by omega),List.take_length]
      rfl
    rw [hg,List.range'_succ,List.all_cons]
    have e:(((z3x l (j+1):Nat):Int) != 1)=!(z3x l (j+1)==1):=by
      show (!(((z3x l (j+1):Nat):Int)==1))=_
      congr 1
      rw [Bool.eq_iff_iff,beq_iff_eq,beq_iff_eq]
      omega
    rw [e]
    cases (z3x l (j+1)==1) with
    | false=>
      rw [Bool.not_false,z01]
      exact zm7 N false _ _ _ _
    | true=>
      rw [Bool.not_true,z03,Bool.true_and]
      exact y6h N l hl d (j+1) n (by omega) (by omega)
theorem ybo (N:Nat) (l:List IV) (dim:Int) (hl:l.length≤31) (h1:1≤l.length) (hN:40≤N) (i:Int) :
    (z08 0 (kSq (z0p N) (z0l z1l [1,1,1,1]) (z2w (z0p N) none [(ResultVar.tmp 4)] [[.bool]]))) (.exit 0) (yif l dim false i (NM l l.length))=some (.bool (y80 l),[]):=by
  refine (zms N l dim false l.length l (ic l.length) i (NM l l.length)).trans ?_
  rw [decide_eq_true (show (0:Nat)≤1 by omega),decide_eq_true (show (1:Int)≤ic (l.length - 0) by simp only [ic]; omega),Bool.and_self,z01]
  have:=y6h N l hl (l.length - 1) 0 N (by omega) (by omega)
  refine this.trans ?_
  unfold y80
  rw [List.range_eq_range']
set_option maxRecDepth 100000 in
theorem ziz:z3n PR B0 67 z5z:=by
  refine z0o [(88,z1y)] [(5,⟨[0,1,4,5,23,24,25],[22],[]⟩),(17,⟨[4,85,86,87],[22],[]⟩)] z5z [[.bool]] Tryz.func67 y1x ⟨z6e,trivial⟩ ?_
  intro vs r hwf h
  unfold z5z at h
  split at h
  · rename_i l dim
    refine ⟨40,?_⟩
    rw [R.get_ok] at h
    rw [← h]
    refine (zxr 40 l dim).trans ?_
    unfold z6v
    by_cases h1:1≤l.length
    · by_cases h2:l.length≤31
      · have eb:ic (TI.bytes (Env.tyd (z0p 40) 3))=8:=rfl
        rw [decide_eq_false (show ¬ ic l.length < 1 by simp only [ic]; omega),decide_eq_false (show ¬ ic l.length > 31 by simp only [ic]; omega),z03,z03,eb,
          decide_eq_true (show (0:Int)≤ic l.length by simp only [ic]; omega),decide_eq_true (show ic l.length=ic l.length from rfl),decide_eq_true (show ic l.length*8≤ic z0d by unfold z0d; simp only [ic]; omega)]
        have e0:(Nat.blt 0 (TI.size (Env.tyd (z0p 40) 3))&&(Nat.blt 3 1000000&&true)&&(true&&true))=true:=rfl
        have e1:Int.toNat (ic l.length)=l.length:=by simp only [ic]; omega
        rw [e0,z01,e1,← yfc,Nat.ble_eq_true_of_le h1,Nat.ble_eq_true_of_le h2]
        refine (zxv 40 l dim h2 _ (fun i nm=>?_) l.length 0 40 (by omega) (by omega)).trans ?_
        · exact znq 40 l dim false l.length l (ic l.length) i nm
        · rw [List.drop_zero,ybo 40 l dim h2 h1 (by omega)]
          cases zbv dim (ic l.length) 0 l <;> rfl
      · have e:Nat.ble l.length 31=false:=by
          cases hb:Nat.ble l.length 31 with
          | false=>rfl
          | true=>exact absurd (Nat.le_of_ble_eq_true hb) h2
        rw [decide_eq_false (show ¬ ic l.length < 1 by simp only [ic]; omega),decide_eq_true (show ic l.length > 31 by simp only [ic]; omega),z03,z01,e,Bool.and_false,Bool.false_and]
    · have e:Nat.ble 1 l.length=false:=by
        cases hb:Nat.ble 1 l.length with
        | false=>rfl
        | true=>exact absurd (Nat.le_of_ble_eq_true hb) h1
      rw [decide_eq_true (show ic l.length < 1 by simp only [ic]; omega),z01,e,Bool.false_and,Bool.false_and]
  · simp [R.get] at h
set_option maxRecDepth 100000 in
theorem zed:z3n PR B0 66 z4d:=by
  refine z0o [(67,z5z)] [] z4d [[.bool]] Tryz.func66 zri ⟨ziz,trivial⟩ ?_
  intro vs r hwf h
  unfold z4d at h
  split at h
  · rename_i k l d c b0 b1 b2 ts
    refine ⟨0,?_⟩
    rw [R.get_ok] at h
    rw [← h]
    refine (zpa 0 k l d c b0 b1 b2 ts).trans ?_
    have e:z87 d c (.agg [.int k,.list l])=(!(decide (k < 0))&&(!(decide (k≥c))&&z6v l d)):=rfl
    rw [e]
    cases decide (k < 0) with
    | true=>rfl
    | false=>
      cases decide (k≥c) with
      | true=>rfl
      | false=>rfl
  · simp [R.get] at h
abbrev yjk (l:List IV) (d c b0 b1 b2:Int) (ts:List IV) (r i:Int):St:=
  ⟨[(0,(.list true [(.int .i64),(.list false [(.int .u64)])] l)),(1,(.clo 66 [(.ptr 900000 0 0)])),(4,(.int .i64 r)),(7,(.int .i64 (ic l.length))),(8,(.int .i64 i))],[(900000,(some (.box [(.int .i64 d),(.int .i64 c),(.int .i64 b0),(.int .i64 b1),(.int .i64 b2),(.list true [(.int .i64),(.list false [(.int .u64)])] ts)])))]⟩
theorem y88 (d c:Int) (t:IV):z87 d c (.agg [.int (IV.toInt (IV.cell t 0)),.list (IV.toList (IV.cell t 1))])=z87 d c t:=rfl
theorem y1h (N:Nat) (l:List IV) (hl:l.length≤strMax) (d c b0 b1 b2:Int) (ts:List IV):∀ (m i n:Nat),i+m=l.length→m < n →
    lpE (z09 N) (z0l z0h [1,0,1,0,0]) ⟨[0,1,4,7,8],[900000],[]⟩ n (yjk l d c b0 b1 b2 ts 0 (i:Int)) (z08 0 (kSq (z09 N) (z0l z0h [1,1]) (z2w (z09 N) (some [(.int .i64 d),(.int .i64 c),(.int .i64 b0),(.int .i64 b1),(.int .i64 b2),(.list true [(.int .i64),(.list false [(.int .u64)])] ts)]) [(ResultVar.tmp 4)] [[(.int .i64)]]))) =
      some (.int .i64 (zr6 d c (l.drop i) (i:Int)),[[(.int .i64 d),(.int .i64 c),(.int .i64 b0),(.int .i64 b1),(.int .i64 b2),(.list true z30 ts)]])
  | m,i,0,_,h=>absurd h (by omega)
  | 0,i,n+1,hd,_=>by
    have hi:i=l.length:=by omega
    subst hi
    rw [z0b,z44,decide_eq_false (show ¬ ((l.length:Nat):Int) < ic l.length by simp only [ic]; omega),z03,List.drop_length]
    exact z6r N d c b0 b1 b2 ts l 0 (ic l.length) (l.length:Int) d c b0 b1 b2 ts
  | m+1,i,n+1,hd,hn=>by
    have hil:i < l.length:=by omega
    have m':strMax=140737488355327:=rfl
    have ei:IntKind.wrap IntKind.i64 ((i:Int)+1)=((i+1:Nat):Int):=by
      rw [z12 (by omega) (by omega)]
      omega
    have hg:l.getD (Int.toNat (i:Int)) default=l[i]:=by
      rw [Int.toNat_natCast,List.getD_eq_getElem?_getD,List.getElem?_eq_getElem hil]
      rfl
    rw [z0b,z44,ei,hg,y88,decide_eq_true (show (i:Int) < ic l.length by simp only [ic]; omega),z01,decide_eq_true (show (0:Int)≤(i:Int) by omega),Bool.and_self,z01,List.drop_eq_getElem_cons hil,zr6]
    cases z87 d c l[i] with
    | true=>
      rw [Bool.not_true,z03,z01]
      exact y1h N l hl d c b0 b1 b2 ts m (i+1) n (by omega) (by omega)
    | false=>
      rw [Bool.not_false,z01,z03]
      exact z6n N d c b0 b1 b2 ts l (i:Int) (ic l.length) (i:Int) d c b0 b1 b2 ts
set_option maxRecDepth 100000 in
theorem z7u:z3n PR B0 87 z1c:=by
  refine z0o [(66,z4d)] [(2,⟨[0,1,4,7,8],[900000],[]⟩)] z1c [[.int .i64]] Tryz.func87 z8r ⟨zed,trivial⟩ ?_
  intro vs r hwf h
  unfold z1c at h
  split at h
  · rename_i l d c b0 b1 b2 ts
    refine ⟨l.length+1,?_⟩
    rw [R.get_ok] at h
    rw [← h]
    refine (z88 (l.length+1) l d c b0 b1 b2 ts).trans ?_
    have hl:l.length≤strMax:=by
      have hb:=hwf (by simp [zhk])
      have:=hb.1
      simp only [wfV,wfL] at this
      exact this.1
    exact y1h (l.length+1) l hl d c b0 b1 b2 ts l.length 0 (l.length+1) (by omega) (by omega)
  · simp [R.get] at h
theorem yaq (d c:Int):∀ (l:List IV) (i:Nat),decide (zr6 d c l (i:Int)≥0)=!(l.all (z87 d c))
  | [],i=>rfl
  | t :: l,i=>by
    unfold zr6
    rw [List.all_cons]
    cases z87 d c t with
    | true=>
      rw [z01,Bool.true_and]
      exact yaq d c l (i+1)
    | false=>
      rw [z03,Bool.false_and,decide_eq_true (show (i:Int)≥0 by omega)]
      rfl
set_option maxRecDepth 100000 in
theorem z6t:z3n PR B0 65 z13:=by
  refine z0o [(87,z1c)] [] z13 [[.bool]] Tryz.func65 z7f ⟨z7u,trivial⟩ ?_
  intro vs r hwf h
  unfold z13 at h
  split at h
  · rename_i l d c b0 b1 b2 ts
    refine ⟨0,?_⟩
    rw [R.get_ok] at h
    rw [← h]
    refine (z6w 0 l d c b0 b1 b2 ts).trans ?_
    have:=yaq d c l 0
    rw [show ((0:Nat):Int)=0 from rfl] at this
    rw [this]
  · simp [R.get] at h
abbrev ygz (d c b0 b1 b2:Int) (ts:List IV) (b:Bool) (i:Int):St:=
  ⟨[(1,(.ptr 1 0 0)),(2,(.bool b)),(30,(.agg [(.int .i64 b0),(.int .i64 b1),(.int .i64 b2)])),(31,(.int .i64 i))],[(1,(some (.box [(.int .i64 d),(.int .i64 c),(.int .i64 b0),(.int .i64 b1),(.int .i64 b2),(.list true [(.int .i64),(.list false [(.int .u64)])] ts)]))),(53005,none)]⟩
theorem y9g (c j b:Int) {α:Type _} (x y:α):cond (!z1g b) y (cond (decide (j≥c)) (cond (b != 0) y x) x)=cond (zgk c j b) x y:=by
  unfold zgk
  have e:(b != 0)=!(b==0):=rfl
  rw [e]
  cases z1g b <;> cases decide (j≥c) <;> cases (b==0) <;> rfl
theorem zn6 (N:Nat) (d c b0 b1 b2:Int) (ts:List IV) (j:Nat) (b:Int) (h:(j=0∧b=b0)∨(j=1∧b=b1)∨(j=2∧b=b2)) (again:St→Res) (k:Out→St→Res) :
    rnd (z1w N) (z0l z3c [1,1,0,1,0,0]) (ygz d c b0 b1 b2 ts false (j:Int)) (z57 again ⟨[1,2,30,31],[1,53005],[]⟩ k) =
      cond (zgk c (j:Int) b) (again (ygz d c b0 b1 b2 ts false ((j+1:Nat):Int))) (k .ret (ygz d c b0 b1 b2 ts false (j:Int))):=by
  rw [zft]
  have ej:IntKind.wrap IntKind.i64 ((j:Int)+1)=((j+1:Nat):Int):=by
    rw [z12 (by omega) (by omega)]
    omega
  rw [ej,← y9g,decide_eq_true (show (j:Int) < 3 by omega),z01]
  rcases h with ⟨rfl,rfl⟩ | ⟨rfl,rfl⟩ | ⟨rfl,rfl⟩ <;> rfl
set_option maxRecDepth 100000 in
theorem z65:z3n PR B0 39 z1u:=by
  refine z0o [(64,z5k),(66,z4d),(65,z13)] [(4,⟨[1,2,30,31],[1,53005],[]⟩)] z1u [[.bool]] Tryz.func39 zxk ⟨zfo,zed,z6t,trivial⟩ ?_
  intro vs r hwf h
  unfold z1u at h
  split at h
  · rename_i d c b0 b1 b2 ts
    refine ⟨6,?_⟩
    rw [R.get_ok] at h
    rw [← h]
    refine (zu1 6 d c b0 b1 b2 ts).trans ?_
    have run:lpE (z1w 6) (z0l z3c [1,1,0,1,0,0]) ⟨[1,2,30,31],[1,53005],[]⟩ 6 (ygz d c b0 b1 b2 ts false 0) (z08 0 (kSq (z1w 6) (z0l z3c [1,1,1]) (z2w (z1w 6) none [(ResultVar.tmp 2)] [[.bool]]))) =
        some (.bool ((zgk c 0 b0&&(zgk c 1 b1&&zgk c 2 b2))&&ts.all (z87 d c)),[]):=by
      have e0:ygz d c b0 b1 b2 ts false 0=ygz d c b0 b1 b2 ts false ((0:Nat):Int):=rfl
      have R2:=fun j=>zm2 6 false b0 b1 b2 j d c b0 b1 b2 ts
      have R1:=fun j=>zkr 6 false b0 b1 b2 j d c b0 b1 b2 ts
      rw [e0,z0b,zn6 6 d c b0 b1 b2 ts 0 b0 (by simp),R2]
      cases h0:zgk c ((0:Nat):Int) b0 with
      | false=>rfl
      | true=>
        rw [z01,z0b,zn6 6 d c b0 b1 b2 ts 1 b1 (by simp),R2]
        cases h1:zgk c ((1:Nat):Int) b1 with
        | false=>rfl
        | true=>
          rw [z01,z0b,zn6 6 d c b0 b1 b2 ts 2 b2 (by simp),R2]
          cases h2:zgk c ((2:Nat):Int) b2 with
          | false=>rfl
          | true=>
            rw [z01,z0b,zft,decide_eq_false (show ¬ ((2+1:Nat):Int) < 3 by omega),z03,R1,Bool.not_not]
            rfl
    unfold z1s
    cases decide (d < 1) with
    | true=>rfl
    | false=>
    cases decide (d > 4) with
    | true=>rfl
    | false=>
    cases decide (c < 1) with
    | true=>rfl
    | false=>
    cases decide (c > 3) with
    | true=>rfl
    | false=>
      simp only [z03,Bool.not_false,Bool.true_and]
      by_cases h8:ts.length≤8
      · rw [decide_eq_false (show ¬ ic ts.length > 8 by simp only [ic]; omega),z03,Nat.ble_eq_true_of_le h8,Bool.true_and]
        exact run
      · have e:Nat.ble ts.length 8=false:=by
          cases hb:Nat.ble ts.length 8 with
          | false=>rfl
          | true=>exact absurd (Nat.le_of_ble_eq_true hb) h8
        rw [decide_eq_true (show ic ts.length > 8 by simp only [ic]; omega),z01,e,Bool.false_and]
  · simp [R.get] at h
open Go
def ycd (x:IV):Prop:=∃ v,-3000≤v∧v≤3000∧x=zio v
def yek (dim n:Int) (i:Nat) (x:IV):Prop:=∃ f a l,0≤f∧f < dim∧0≤a∧a≤9∧(i:Int) < l∧l+1 < n∧x=mkN false 0 f a l (l+1)
def nm (x:IV) (j:Nat):Nat:=cond (x.cell 0).toBool 0 ((if (x.cell 4).toInt=(j:Int) then 1 else 0)+(if (x.cell 5).toInt=(j:Int) then 1 else 0))
def nmS (l:List IV) (j:Nat):Nat:=(l.map (nm · j)).sum
theorem zxa {x:IV} (h:ycd x) (j:Nat):nm x j=0:=by
  obtain ⟨v,_,_,rfl⟩:=h
  rfl
theorem ygu (f a:Int) (n j:Nat):nm (mkN false 0 f a (n:Int) ((n:Int)+1)) j=(if j=n then 1 else 0)+(if j=n+1 then 1 else 0):=by
  show (if (n:Int)=(j:Int) then 1 else 0)+(if (n:Int)+1=(j:Int) then 1 else 0)=_
  have e1:((n:Int)=(j:Int))↔(j=n):=by omega
  have e2:((n:Int)+1=(j:Int))↔(j=n+1):=by omega
  simp only [e1,e2]
theorem ygr (l m:List IV) (j:Nat):nmS (l++m) j=nmS l j+nmS m j:=by simp [nmS]
theorem ybj:∀ {l:List IV} {p:Nat} {x:IV} (y:IV) (j:Nat),l[p]?=some x→nmS (l.set p y) j+nm x j=nmS l j+nm y j
  | [],p,x,y,j,h=>by simp at h
  | z :: l,0,x,y,j,h=>by
    simp only [List.getElem?_cons_zero,Option.some.injEq] at h
    subst h
    simp only [List.set_cons_zero,nmS,List.map_cons,List.sum_cons]
    omega
  | z :: l,p+1,x,y,j,h=>by
    have:=ybj (l:=l) y j (by simpa using h)
    simp only [List.set_cons_succ,nmS,List.map_cons,List.sum_cons] at this ⊢
    omega
structure NsOK (dim:Int) (i:Nat) (s:Ns):Prop where
  len:s.nodes.length=2*i+1
  ll:s.leaves.length=i+1
  node:∀ (k:Nat) x,s.nodes[k]?=some x→ycd x∨yek dim (2*(i:Int)+1) k x
  leaf:∀ y∈s.leaves,∃ p:Nat,y = .int (p:Int)∧∃ x,s.nodes[p]?=some x∧ycd x
  dist:s.leaves.Nodup
  cnt:∀ j,nmS s.nodes j=if 1≤j∧j < 2*i+1 then 1 else 0
theorem zy6 (l:List IV) (i lo hi:Int) (h:lo≤hi) (h0 : -2000000000000000000≤lo) (h1:hi≤2000000000000000000):lo≤z00 (z1x l i) lo hi∧z00 (z1x l i) lo hi≤hi:=
  (z2n h h0 h1).2
theorem zss (l:List IV) (i:Int):ycd (zio (z00 (z1x l i) (-3000) 3000)):=
  ⟨_,(zy6 l i (-3000) 3000 (by omega) (by omega) (by omega)).1,(zy6 l i (-3000) 3000 (by omega) (by omega) (by omega)).2,rfl⟩
theorem yga (val:List IV) (dim:Int):NsOK dim 0 ⟨[zio (z00 (z1x val 0) (-3000) 3000)],[.int 0]⟩ where
  len:=rfl
  ll:=rfl
  node k x h:=by
    cases k with
    | zero=>
      simp only [List.getElem?_cons_zero,Option.some.injEq] at h
      subst h
      exact .inl (zss val 0)
    | succ k=>simp at h
  leaf y hy:=by
    simp only [List.mem_cons,List.not_mem_nil,or_false] at hy
    exact ⟨0,hy,_,rfl,zss val 0⟩
  dist:=by simp
  cnt j:=by
    have:¬ (1≤j∧j < 2*0+1):=by omega
    rw [if_neg this]
    show nm _ j+0=0
    rw [zxa (zss val 0)]
theorem y57 {l:List IV} (h:l.Nodup) {k:Nat} {y:IV} (hk:l[k]?=some y):y ∉ l.take k++l.drop (k+1):=by
  intro hy
  rw [← List.eraseIdx_eq_take_drop_succ,List.mem_eraseIdx_iff_getElem?] at hy
  obtain ⟨i,hne,hi⟩:=hy
  have h1:i < l.length:=(List.getElem?_eq_some_iff.1 hi).1
  have h2:k < l.length:=(List.getElem?_eq_some_iff.1 hk).1
  have:l[i]=l[k]:=by
    rw [(List.getElem?_eq_some_iff.1 hi).2,(List.getElem?_eq_some_iff.1 hk).2]
  have hp:=List.pairwise_iff_getElem.1 h
  rcases Nat.lt_trichotomy i k with hlt | heq | hlt
  · exact hp i k h1 h2 hlt this
  · exact hne heq
  · exact hp k i h2 h1 hlt this.symm
theorem ygn {part byl atl val:List IV} {dim:Int} (hd:1≤dim∧dim≤4) {i:Nat} (hi:i < 7) {s:Ns} (h:NsOK dim i s):NsOK dim (i+1) (z8h part byl atl val dim i s):=by
  obtain ⟨k0,k1⟩:=(z2n (n:=(part.getD i default).toInt) (lo:=0) (hi:=ic s.leaves.length - 1) (by simp only [ic]; have:=h.ll; omega) (by omega) (by simp only [ic]; have:=h.ll; omega)).2
  have hk0:0≤nsK part i s:=k0
  have hk1:nsK part i s≤ic s.leaves.length - 1:=k1
  obtain ⟨k,hk⟩:∃ k:Nat,nsK part i s=k:=⟨(nsK part i s).toNat,by omega⟩
  have hkl:k < s.leaves.length:=by simp only [ic] at hk1; omega
  have hky:s.leaves[k]?=some s.leaves[k]:=List.getElem?_eq_getElem hkl
  obtain ⟨p,hp,x,hx,hlf⟩:=h.leaf _ (List.getElem_mem hkl)
  have hat:(yca part i s).toNat=p:=by
    unfold yca
    rw [hk,Int.toNat_natCast,List.getD_eq_getElem?_getD,hky,hp]
    show ((p:Int)).toNat=p
    omega
  have hpl:p < 2*i+1:=by rw [← h.len]; exact (List.getElem?_eq_some_iff.1 hx).1
  have f1:=zy6 byl (i:Int) 0 (dim - 1) (by omega) (by omega) (by omega)
  have a1:=zy6 atl (i:Int) 0 9 (by omega) (by omega) (by omega)
  generalize hf:z00 (z1x byl (i:Int)) 0 (dim - 1)=f at f1
  generalize ha:z00 (z1x atl (i:Int)) 0 9=a at a1
  have el:ic s.nodes.length=2*(i:Int)+1:=by simp only [ic]; have:=h.len; omega
  have hs:z8h part byl atl val dim i s=⟨s.nodes.set p (mkN false 0 f a (2*(i:Int)+1) (2*(i:Int)+1+1))++[zio (z00 (z1x val (2*(i:Int)+1)) (-3000) 3000),zio (z00 (z1x val (2*(i:Int)+2)) (-3000) 3000)],
      s.leaves.take k++s.leaves.drop (k+1)++[.int (2*(i:Int)+1),.int (2*(i:Int)+1+1)]⟩:=by
    unfold z8h
    rw [hat,hk,Int.toNat_natCast,hf,ha,el]
  rw [hs]
  have L1:=zss val (2*(i:Int)+1)
  have L2:=zss val (2*(i:Int)+2)
  have hgrow:∀ (q:Nat) z,yek dim (2*(i:Int)+1) q z→yek dim (2*((i+1:Nat):Int)+1) q z:=fun q z hz=>by
    obtain ⟨f,a,l,h1,h2,h3,h4,h5,h6,h7⟩:=hz
    exact ⟨f,a,l,h1,h2,h3,h4,h5,by omega,h7⟩
  have hlen:(s.nodes.set p (mkN false 0 f a (2*(i:Int)+1) (2*(i:Int)+1+1))).length=2*i+1:=by rw [List.length_set,h.len]
  have hnew:∀ (q:Nat) z,(s.nodes.set p (mkN false 0 f a (2*(i:Int)+1) (2*(i:Int)+1+1))++[zio (z00 (z1x val (2*(i:Int)+1)) (-3000) 3000),zio (z00 (z1x val (2*(i:Int)+2)) (-3000) 3000)])[q]?=some z →
      (q≠p∧s.nodes[q]?=some z)∨(q=p∧z=mkN false 0 f a (2*(i:Int)+1) (2*(i:Int)+1+1))∨ycd z:=fun q z hz=>by
    by_cases hq:q < 2*i+1
    · rw [List.getElem?_append_left (by rw [hlen]; exact hq)] at hz
      by_cases e:p=q
      · subst e
        rw [List.getElem?_set_self (by rw [h.len]; exact hpl)] at hz
        exact .inr (.inl ⟨rfl,(Option.some.inj hz).symm⟩)
      · rw [List.getElem?_set_ne e] at hz
        exact .inl ⟨fun e'=>e e'.symm,hz⟩
    · rw [List.getElem?_append_right (by rw [hlen]; omega),hlen] at hz
      obtain ⟨r,hr⟩:∃ r,q - (2*i+1)=r:=⟨_,rfl⟩
      rw [hr] at hz
      match r,hz with
      | 0,hz=>exact .inr (.inr (by simp at hz; subst hz; exact L1))
      | 1,hz=>exact .inr (.inr (by simp at hz; subst hz; exact L2))
      | r+2,hz=>simp at hz
  refine ⟨?_,?_,?_,?_,?_,?_⟩
  · show (s.nodes.set p _++[_,_]).length=_
    rw [List.length_append,hlen]
    simp only [List.length_cons,List.length_nil]
    omega
  · show (s.leaves.take k++s.leaves.drop (k+1)++[_,_]).length=_
    simp only [List.length_append,List.length_take,List.length_drop,List.length_cons,List.length_nil]
    have:=h.ll
    omega
  · intro q z hz
    rcases hnew q z hz with ⟨_,hz⟩ | ⟨rfl,rfl⟩ | hz
    · rcases h.node q z hz with h1 | h1
      · exact .inl h1
      · exact .inr (hgrow q z h1)
    · exact .inr ⟨f,a,2*(i:Int)+1,f1.1,by omega,a1.1,a1.2,by omega,by omega,rfl⟩
    · exact .inl hz
  · intro y hy
    rcases List.mem_append.1 hy with hy | hy
    · have hne:y≠.int (p:Int):=fun e=>by
        have:=y57 h.dist hky
        rw [hp] at this
        exact this (e ▸ hy)
      have hyl:y∈s.leaves:=by
        rcases List.mem_append.1 hy with hy | hy
        · exact List.mem_of_mem_take hy
        · exact List.mem_of_mem_drop hy
      obtain ⟨q,hq,x',hx',hl'⟩:=h.leaf y hyl
      have hqp:p≠q:=fun e=>by subst e; exact hne hq
      refine ⟨q,hq,x',?_,hl'⟩
      have hql:q < 2*i+1:=by rw [← h.len]; exact (List.getElem?_eq_some_iff.1 hx').1
      show (s.nodes.set p _++[_,_])[q]?=_
      rw [List.getElem?_append_left (by rw [hlen]; exact hql),List.getElem?_set_ne hqp,hx']
    · simp only [List.mem_cons,List.not_mem_nil,or_false] at hy
      rcases hy with rfl | rfl
      · refine ⟨2*i+1,by simp,zio (z00 (z1x val (2*(i:Int)+1)) (-3000) 3000),?_,L1⟩
        show (s.nodes.set p _++[_,_])[2*i+1]?=_
        rw [List.getElem?_append_right (by rw [hlen]; omega),hlen]
        have:2*i+1 - (2*i+1)=0:=by omega
        rw [this]
        rfl
      · refine ⟨2*i+1+1,by simp,zio (z00 (z1x val (2*(i:Int)+2)) (-3000) 3000),?_,L2⟩
        show (s.nodes.set p _++[_,_])[2*i+1+1]?=_
        rw [List.getElem?_append_right (by rw [hlen]; omega),hlen]
        have:2*i+1+1 - (2*i+1)=1:=by omega
        rw [this]
        rfl
  · show (s.leaves.take k++s.leaves.drop (k+1)++[_,_]).Nodup
    have big:∀ y∈s.leaves,∀ n:Int,2*(i:Int)+1≤n→y≠.int n:=fun y hy n hn e=>by
      obtain ⟨q,hq,x',hx',_⟩:=h.leaf y hy
      have hql:q < 2*i+1:=by rw [← h.len]; exact (List.getElem?_eq_some_iff.1 hx').1
      rw [hq] at e
      injection e with e
      omega
    have hsub:∀ y∈s.leaves.take k++s.leaves.drop (k+1),y∈s.leaves:=fun y hy=>by
      rcases List.mem_append.1 hy with hy | hy
      · exact List.mem_of_mem_take hy
      · exact List.mem_of_mem_drop hy
    rw [List.nodup_append]
    refine ⟨?_,?_,?_⟩
    · rw [← List.eraseIdx_eq_take_drop_succ]
      exact List.Nodup.sublist (List.eraseIdx_sublist ..) h.dist
    · rw [List.nodup_cons]
      refine ⟨fun hm=>?_,by simp⟩
      simp only [List.mem_cons,List.not_mem_nil,or_false] at hm
      injection hm with hm
      omega
    · intro y hy z hz e
      subst e
      simp only [List.mem_cons,List.not_mem_nil,or_false] at hz
      rcases hz with hz | hz
      · exact big y (hsub y hy) _ (by omega) hz
      · exact big y (hsub y hy) _ (by omega) hz
  · intro j
    show nmS (s.nodes.set p _++[_,_]) j=_
    rw [ygr]
    have h1:=ybj (mkN false 0 f a (2*(i:Int)+1) (2*(i:Int)+1+1)) j hx
    rw [zxa hlf,h.cnt j] at h1
    have h2:nmS [zio (z00 (z1x val (2*(i:Int)+1)) (-3000) 3000),zio (z00 (z1x val (2*(i:Int)+2)) (-3000) 3000)] j=0:=by
      show nm _ j+(nm _ j+0)=0
      rw [zxa L1,zxa L2]
    have h3:=ygu f a (2*i+1) j
    have e:((2*i+1:Nat):Int)=2*(i:Int)+1:=by omega
    rw [e] at h3
    rw [h3] at h1
    rw [h2]
    by_cases c1:1≤j∧j < 2*i+1
    · rw [if_pos c1,if_neg (by omega),if_neg (by omega)] at h1
      rw [if_pos (by omega)]
      omega
    · rw [if_neg c1] at h1
      by_cases c2:j=2*i+1
      · rw [if_pos c2,if_neg (by omega)] at h1
        rw [if_pos (by omega)]
        omega
      · by_cases c3:j=2*i+1+1
        · rw [if_neg c2,if_pos c3] at h1
          rw [if_pos (by omega)]
          omega
        · rw [if_neg c2,if_neg c3] at h1
          rw [if_neg (by omega)]
          omega
theorem yes {part byl atl val:List IV} {dim:Int} (hd:1≤dim∧dim≤4):∀ (d i:Nat) (s:Ns),i+d≤7→NsOK dim i s→NsOK dim (i+d) (y7o part byl atl val dim d i s)
  | 0,i,s,_,h=>h
  | d+1,i,s,hi,h=>by
    have:=yes (part:=part) (byl:=byl) (atl:=atl) (val:=val) hd d (i+1) _ (by omega) (ygn (part:=part) (byl:=byl) (atl:=atl) (val:=val) hd (by omega) h)
    rw [Nat.add_assoc,Nat.add_comm 1 d] at this
    exact this
theorem yc9 (part byl atl val:List IV) {dim:Int} (hd:1≤dim∧dim≤4):∃ i,i≤7∧NsOK dim i (zg2 part byl atl val dim):=by
  refine ⟨min part.length 7,by omega,?_⟩
  have:=yes (part:=part) (byl:=byl) (atl:=atl) (val:=val) hd (min part.length 7) 0 _ (by omega) (yga val dim)
  rw [Nat.zero_add] at this
  exact this
open Go
theorem Nd.eq_of {x y:Nd} (h:x.eq y=true):x=y:=by
  obtain ⟨a1,a2,a3,a4,a5,a6⟩:=x
  obtain ⟨b1,b2,b3,b4,b5,b6⟩:=y
  simp only [Nd.eq,Bool.and_eq_true,beq_iff_eq,and_true] at h
  obtain ⟨rfl,rfl,rfl,rfl,rfl,rfl⟩:=h
  rfl
theorem zrt {w:Int} (h:z7v w=true):ze8 (z07 w)=w∧zdh (z07 w)=true:=by
  have hn:z07 w=y34 w:=by unfold z07; rw [h]; rfl
  unfold z7v at h
  simp only [Bool.and_eq_true,Bool.not_eq_true',beq_iff_eq,beq_eq_false_iff_ne] at h
  rw [hn]
  refine ⟨h.2,?_⟩
  cases hr:zdh (y34 w) with
  | true=>rfl
  | false=>
    have:=h.2
    unfold ze8 at this
    rw [hr] at this
    exact absurd this.symm h.1
def lfT (i:Nat):Bool:=z7v (za8 true ((i:Int) - 3000) 0 0 0 0)&&(z07 (za8 true ((i:Int) - 3000) 0 0 0 0)).eq ⟨true,(i:Int) - 3000,0,0,0,0⟩
def yil:Nat→Bool
  | 0=>true
  | n+1=>lfT n&&yil n
theorem yel:∀ {n i:Nat},yil n=true→i < n→lfT i=true
  | n+1,i,h,hi=>by
    rw [yil,Bool.and_eq_true] at h
    by_cases e:i=n
    · subst e; exact h.1
    · exact yel h.2 (by omega)
def fkT (i:Nat):Bool:=z7v (za8 false 0 ((i % 4:Nat):Int) ((i / 4 % 10:Nat):Int) ((i / 40:Nat):Int) (((i / 40:Nat):Int)+1)) &&
  (z07 (za8 false 0 ((i % 4:Nat):Int) ((i / 4 % 10:Nat):Int) ((i / 40:Nat):Int) (((i / 40:Nat):Int)+1))).eq ⟨false,0,((i % 4:Nat):Int),((i / 4 % 10:Nat):Int),((i / 40:Nat):Int),((i / 40:Nat):Int)+1⟩
def yij:Nat→Bool
  | 0=>true
  | n+1=>(Nat.blt n 40||fkT n)&&yij n
theorem yem:∀ {n i:Nat},yij n=true→i < n→40≤i→fkT i=true
  | n+1,i,h,hi,h40=>by
    rw [yij,Bool.and_eq_true] at h
    by_cases e:i=n
    · subst e
      have:=h.1
      rw [Bool.or_eq_true] at this
      rcases this with h1 | h1
      · have:i < 40:=Nat.le_of_ble_eq_true h1
        omega
      · exact h1
    · exact yem h.2 (by omega) h40
set_option maxRecDepth 100000 in
theorem yfw:yil 6001=true:=by kernel_rfl
theorem yey:yij 1200=true:=by kernel_rfl
theorem zr1 {v:Int} (h0 : -3000≤v) (h1:v≤3000):z7v (za8 true v 0 0 0 0)=true∧z07 (za8 true v 0 0 0 0)=⟨true,v,0,0,0,0⟩:=by
  have h:=yel yfw (show (v+3000).toNat < 6001 by omega)
  have e:(((v+3000).toNat:Nat):Int) - 3000=v:=by omega
  unfold lfT at h
  rw [e,Bool.and_eq_true] at h
  exact ⟨h.1,Nd.eq_of h.2⟩
theorem y0y {f a l:Int} (hf:0≤f∧f < 4) (ha:0≤a∧a≤9) (hl:1≤l∧l≤28):z7v (za8 false 0 f a l (l+1))=true∧z07 (za8 false 0 f a l (l+1))=⟨false,0,f,a,l,l+1⟩:=by
  have h:=yem yey (show l.toNat*40+a.toNat*4+f.toNat < 1200 by omega) (by omega)
  have e1:(((l.toNat*40+a.toNat*4+f.toNat) % 4:Nat):Int)=f:=by omega
  have e2:(((l.toNat*40+a.toNat*4+f.toNat) / 4 % 10:Nat):Int)=a:=by omega
  have e3:(((l.toNat*40+a.toNat*4+f.toNat) / 40:Nat):Int)=l:=by omega
  unfold fkT at h
  rw [e1,e2,e3,Bool.and_eq_true] at h
  exact ⟨h.1,Nd.eq_of h.2⟩
theorem y8z {dim n:Int} (hd:dim≤4) (hn:n≤29) {i:Nat} {x:IV} (h:ycd x∨yek dim n i x) (j:Nat):za9 (z07 (zx9 x).toInt) j=nm x j:=by
  rcases h with ⟨v,h0,h1,rfl⟩ | ⟨f,a,l,h0,h1,h2,h3,h4,h5,rfl⟩
  · show za9 (z07 (za8 true v 0 0 0 0)) j=_
    rw [(zr1 h0 h1).2]
    rfl
  · show za9 (z07 (za8 false 0 f a l (l+1))) j=_
    rw [(y0y ⟨h0,by omega⟩ ⟨h2,h3⟩ ⟨by omega,by omega⟩).2]
    rfl
theorem yfx {dim n:Int} (hd:dim≤4) (hn:n≤29) {i:Nat} {x:IV} (h:ycd x∨yek dim n i x):(z7v (zx9 x).toInt&&zmm dim n i (z07 (zx9 x).toInt))=true:=by
  rcases h with ⟨v,h0,h1,rfl⟩ | ⟨f,a,l,h0,h1,h2,h3,h4,h5,rfl⟩
  · show (z7v (za8 true v 0 0 0 0)&&zmm dim n i (z07 (za8 true v 0 0 0 0)))=true
    rw [(zr1 h0 h1).1,(zr1 h0 h1).2]
    rfl
  · show (z7v (za8 false 0 f a l (l+1))&&zmm dim n i (z07 (za8 false 0 f a l (l+1))))=true
    have hw:=y0y ⟨h0,by omega⟩ ⟨h2,h3⟩ (show 1≤l∧l≤28 by omega)
    rw [hw.1,hw.2]
    unfold zmm
    simp only [cond_false,decide_eq_false (show ¬ f≥dim by omega),beq_eq_false_iff_ne.2 (show l≠l+1 by omega),decide_eq_false (show ¬ min l (l+1)≤(i:Int) by omega),decide_eq_false (show ¬ max l (l+1)≥n by omega)]
    rfl
theorem y6a {dim n:Int} (hd:dim≤4) (hn:n≤29):∀ {l:List IV} {i:Nat},(∀ (k:Nat) x,l[k]?=some x→ycd x∨yek dim n (i+k) x)→zbv dim n i (l.map zx9)=true
  | [],_,_=>rfl
  | x :: l,i,h=>by
    rw [List.map_cons,zbv,Bool.and_eq_true]
    refine ⟨yfx hd hn (h 0 x rfl),y6a hd hn (i:=i+1) fun k y hk=>?_⟩
    have:=h (k+1) y (by simpa using hk)
    rwa [show i+(k+1)=i+1+k by omega] at this
theorem y2p {dim n:Int} (hd:dim≤4) (hn:n≤29) (j:Nat):∀ {l:List IV} {i:Nat},(∀ (k:Nat) x,l[k]?=some x→ycd x∨yek dim n (i+k) x)→z3x (l.map zx9) j=nmS l j
  | [],_,_=>rfl
  | x :: l,i,h=>by
    have ih:=y2p hd hn j (l:=l) (i:=i+1) fun k y hk=>by
      have:=h (k+1) y (by simpa using hk)
      rwa [show i+(k+1)=i+1+k by omega] at this
    have h0:=y8z hd hn (h 0 x rfl) j
    unfold z3x nmS at ih ⊢
    simp only [List.map_cons,List.sum_cons]
    rw [h0,ih]
theorem y8y (part byl atl val:List IV) {dim:Int} (hd:1≤dim∧dim≤4):z6v (zd4 part byl atl val dim) dim=true:=by
  obtain ⟨i,hi,h⟩:=yc9 part byl atl val hd
  have hlen:(zd4 part byl atl val dim).length=2*i+1:=by
    unfold zd4
    rw [List.length_map,h.len]
  have hn:∀ (k:Nat) x,(zg2 part byl atl val dim).nodes[k]?=some x→ycd x∨yek dim (ic (zd4 part byl atl val dim).length) (0+k) x:=fun k x hk=>by
    have e:ic (zd4 part byl atl val dim).length=2*(i:Int)+1:=by simp only [ic]; omega
    rw [e,Nat.zero_add]
    exact h.node k x hk
  have hb:ic (zd4 part byl atl val dim).length≤29:=by simp only [ic]; omega
  unfold z6v
  rw [Bool.and_eq_true,Bool.and_eq_true,Bool.and_eq_true]
  refine ⟨⟨Nat.ble_eq_true_of_le (by omega),Nat.ble_eq_true_of_le (by omega)⟩,y6a hd.2 hb hn,?_⟩
  unfold y80
  rw [List.all_eq_true]
  intro j hj
  have hj:=List.mem_range.1 hj
  rw [beq_iff_eq]
  have:=y2p hd.2 hb (j+1) hn
  have e:z3x (zd4 part byl atl val dim) (j+1)=nmS (zg2 part byl atl val dim).nodes (j+1):=this
  rw [e,h.cnt,if_pos (by omega)]
theorem zq9 (d:Int):1≤y82 d∧y82 d≤3:=(z2n (n:=d) (lo:=1) (hi:=3) (by omega) (by omega) (by omega)).2
theorem zxl (d:Int):1≤zzg d∧zzg d≤3:=(z2n (n:=d) (lo:=1) (hi:=3) (by omega) (by omega) (by omega)).2
def yb4 (d c:Int) (bias ts:List IV):Md:=⟨y82 d,zzg c,zys c bias 0,zys c bias 1,zys c bias 2,zob d c ts⟩
theorem y5c (c:Int) (bias:List IV) (j:Int):zgk (zzg c) j (zys c bias j)=true:=by
  unfold zgk zys
  have:=(z2n (n:=z1x bias j) (lo := -500) (hi:=500) (by omega) (by omega) (by omega)).2
  rcases Int.lt_or_le j (zzg c) with h | h
  · rw [decide_eq_true h,decide_eq_false (show ¬ j≥zzg c by omega)]
    simp only [cond_true,Bool.false_and,Bool.not_false,Bool.and_true]
    unfold z1g
    rw [decide_eq_true (by omega),decide_eq_true (by omega)]
    rfl
  · rw [decide_eq_false (show ¬ j < zzg c by omega),decide_eq_true (show j≥zzg c from h)]
    rfl
theorem ygw (d c:Int) (t:IV):z87 (y82 d) (zzg c) (y8l d c t)=true:=by
  have hd:=zq9 d
  have hc:=zxl c
  have hk:=(z2n (n:=(t.cell 0).toInt) (lo:=0) (hi:=zzg c - 1) (by omega) (by omega) (by omega)).2
  show (!(decide (z00 (t.cell 0).toInt 0 (zzg c - 1) < 0))&&(!(decide (z00 (t.cell 0).toInt 0 (zzg c - 1)≥zzg c))&&z6v (zd4 (t.cell 1).toList (t.cell 2).toList (t.cell 3).toList (t.cell 4).toList (y82 d)) (y82 d)))=true
  rw [decide_eq_false (by omega),decide_eq_false (by omega),y8y _ _ _ _ ⟨hd.1,by omega⟩]
  rfl
theorem ydz (d c:Int) (ts:List IV):(zob d c ts).all (z87 (y82 d) (zzg c))=true:=by
  rw [List.all_eq_true]
  intro t ht
  unfold zob at ht
  obtain ⟨u,_,rfl⟩:=List.mem_map.1 ht
  exact ygw d c u
theorem yan (d c:Int) (ts:List IV):(zob d c ts).length≤4:=by
  unfold zob
  rw [List.length_map,List.length_take]
  omega
theorem ycz {m:Md} (hd:1≤m.d∧m.d≤4) (hc:1≤m.c∧m.c≤3) (hl:m.ts.length≤8) (h0:zgk m.c 0 m.b0=true) (h1:zgk m.c 1 m.b1=true) (h2:zgk m.c 2 m.b2=true) (ht:m.ts.all (z87 m.d m.c)=true):z1s m=true:=by
  unfold z1s
  rw [decide_eq_false (show ¬ m.d < 1 by omega),decide_eq_false (show ¬ m.d > 4 by omega),decide_eq_false (show ¬ m.c < 1 by omega),decide_eq_false (show ¬ m.c > 3 by omega),Nat.ble_eq_true_of_le hl,h0,h1,h2,ht]
  rfl
theorem y4i (d c:Int) (bias ts:List IV):z1s (yb4 d c bias ts)=true:=by
  have hd:=zq9 d
  have hc:=zxl c
  exact ycz (m:=yb4 d c bias ts) ⟨hd.1,by show y82 d≤4; omega⟩ hc (by have:=yan d c ts; show (zob d c ts).length≤8; omega) (y5c c bias 0) (y5c c bias 1) (y5c c bias 2) (ydz d c ts)
open Go
abbrev z0q:List Kd:=[.bool,.int .i64,.int .i64]
def z62 (x:IV):Bool:=(x.cell 0).toBool
def z0t (x:IV):Int:=(x.cell 1).toInt
def zbk (x:IV):Int:=(x.cell 2).toInt
def yh1 (x y:IV):Bool:=z62 x==z62 y&&(z0t x==z0t y&&zbk x==zbk y)
def zg1 (x:IV):Bool:=!(z62 x&&!(z0t x==0&&zbk x==0))&&(decide (0≤z0t x)&&decide (z0t x≤4))
def zg8 (l:List IV):Bool:=decide (1≤l.length)&&(decide (l.length≤65536)&&l.all zg1)
def z9v:z0x
  | [.list true [.bool,.int .i64,.int .i64] l]=>.ok (.bool (zg8 l)) []
  | _=>.no
def z4i:List IV→List IV→Bool
  | [],[]=>true
  | x :: l,y :: m=>yh1 x y&&z4i l m
  | _,_=>false
def z2j:z0x
  | [.list true [.bool,.int .i64,.int .i64] l,.list true [.bool,.int .i64,.int .i64] m]=>.ok (.bool (z4i l m)) []
  | _=>.no
structure Vd where
  kind:Int
  proof:List IV
  w0:Int
  w1:Int
  w2:Int
  w3:Int
  twin:Int
  spent:Int
def Vd.none:Vd:=⟨0,[],0,0,0,0,0,0⟩
def Vd.V (v:Vd):V:=.agg [.int .i64 v.kind,.list true z0q v.proof,.int .i64 v.w0,.int .i64 v.w1,.int .i64 v.w2,.int .i64 v.w3,.int .i64 v.twin,.int .i64 v.spent]
def Vd.bare (v:Vd):Bool:=v.w0==0&&(v.w1==0&&(v.w2==0&&(v.w3==0&&v.twin==0)))
def Vd.right (v:Vd):Bool:=
  decide (0≤v.spent)&&(decide (v.spent≤65536) &&
    (v.kind==1&&(v.bare&&zg8 v.proof)||(v.kind==2&&v.proof.isEmpty||(v.kind==3||v.kind==4)&&(v.bare&&v.proof.isEmpty))))
def zam:z0x
  | [.agg [.int .i64 k,.list true [.bool,.int .i64,.int .i64] p,.int .i64 a,.int .i64 b,.int .i64 c,.int .i64 d,.int .i64 t,.int .i64 s]]=>.ok (.bool (Vd.right ⟨k,p,a,b,c,d,t,s⟩)) []
  | _=>.no
def zk1:ByteArray→List IV→ByteArray
  | s,[]=>s
  | s,x :: l=>zk1 (s.push 32++zyz x.toInt) l
def z2o (s w:ByteArray) (l:List IV):ByteArray:=(zk1 (s++w) l).push 10
def zbo:z0x
  | [.bor [.bld s],.str w,.list false [.int .i64] l]=>.br (decide ((z2o s w l).size≤strMax)) (.ok (.tup []) [[.bld (z2o s w l)]]) .no
  | _=>.no
def z1j (l:List IV) (i:Int):Int:=cond (decide (ic l.length≤i)) 0 (zlj (l.getD i.toNat default).toStr)
def z8u:z0x
  | [.list false [.str] l,.int .i64 i]=>.br (decide (0≤i)) (.ok (.int .i64 (z1j l i)) []) .no
  | _=>.no
def zj3 (b:Bool) (p a:Int):IV:=.agg [.bool b,.int p,.int a]
abbrev z8s:ByteArray:=⟨#[104,111,108,100,115]⟩
abbrev zdg:ByteArray:=⟨#[102,97,105,108,115]⟩
abbrev z71:ByteArray:=⟨#[117,110,107,110,111,119,110]⟩
abbrev zdp:ByteArray:=⟨#[119,114,111,110,103]⟩
abbrev zup:ByteArray:=⟨#[115,117,109]⟩
abbrev y3x:ByteArray:=⟨#[99,117,116]⟩
abbrev y2b:ByteArray:=⟨#[10]⟩
abbrev ygx:ByteArray:=⟨#[32]⟩
abbrev z2g:ByteArray:=⟨#[]⟩
def z5d (s:ByteArray):List IV:=(z4k (cutL s y2b) ygx).map IV.str
def zcu (l:List IV):ByteArray:=(l.getD 0 default).toStr
def zii (s:ByteArray):IV:=
  cond ((zcu (z5d s)).toList==zup.toList) (zj3 true 0 0) (zj3 false (z1j (z5d s) 1) (z1j (z5d s) 2))
def z92:Nat→ByteArray→List IV→List IV
  | 0,_,p=>p
  | n+1,s,p=>cond (!(s.toList==z2g.toList)&&decide (p.length≤65536)) (z92 n (y0s s y2b) (p++[zii s])) p
def z91 (s:ByteArray):Vd:=
  cond ((zcu (z5d s)).toList==z8s.toList) ⟨1,z92 ((y0s s y2b).size+1) (y0s s y2b) [],0,0,0,0,0,z1j (z5d s) 1⟩
  (cond ((zcu (z5d s)).toList==zdg.toList) ⟨2,[],z1j (z5d s) 2,z1j (z5d s) 3,z1j (z5d s) 4,z1j (z5d s) 5,z1j (z5d s) 6,z1j (z5d s) 1⟩
  (cond ((zcu (z5d s)).toList==z71.toList) ⟨3,[],0,0,0,0,0,z1j (z5d s) 1⟩
  (cond ((zcu (z5d s)).toList==zdp.toList) ⟨4,[],0,0,0,0,0,z1j (z5d s) 1⟩
  ⟨0,[],0,0,0,0,0,z1j (z5d s) 1⟩)))
def zbp:z0x
  | [.str s]=>.br (decide (s.size < 4294967281)) (.ok (.agg [.int .i64 (z91 s).kind,.list true [.bool,.int .i64,.int .i64] (z91 s).proof,.int .i64 (z91 s).w0,.int .i64 (z91 s).w1,.int .i64 (z91 s).w2,.int .i64 (z91 s).w3,.int .i64 (z91 s).twin,.int .i64 (z91 s).spent]) []) .no
  | _=>.no
def z27:ByteArray→List IV→ByteArray
  | s,[]=>s
  | s,x :: l=>z27 (cond (z62 x) (z2o s zup []) (z2o s y3x [.int (z0t x),.int (zbk x)])) l
def z0r (v:Vd):ByteArray:=
  cond v.right
    (cond (v.kind==1) (z27 (z2o z2g z8s [.int v.spent,.int (ic v.proof.length)]) v.proof)
    (cond (v.kind==2) (z2o z2g zdg [.int v.spent,.int v.w0,.int v.w1,.int v.w2,.int v.w3,.int v.twin])
    (cond (v.kind==3) (z2o z2g z71 [.int v.spent])
    (z2o z2g zdp [.int v.spent]))))
    z2g
def z67:z0x
  | [.agg [.int .i64 k,.list true [.bool,.int .i64,.int .i64] p,.int .i64 a,.int .i64 b,.int .i64 c,.int .i64 d,.int .i64 t,.int .i64 s]]=>
    .br (decide ((z0r ⟨k,p,a,b,c,d,t,s⟩).size≤strMax)) (.ok (.str (z0r ⟨k,p,a,b,c,d,t,s⟩)) []) .no
  | _=>.no
def zdi (s:ByteArray):Bool:=!(s.toList==z2g.toList)&&(z0r (z91 s)).toList==s.toList
def zdb (s:ByteArray):Vd:=cond (zdi s) (z91 s) Vd.none
def zan:z0x
  | [.str s]=>.br (decide (s.size < 4294967281)) (.br (decide ((z0r (z91 s)).size≤strMax)) (.ok (.tup [.agg [.int .i64 (zdb s).kind,.list true [.bool,.int .i64,.int .i64] (zdb s).proof,.int .i64 (zdb s).w0,.int .i64 (zdb s).w1,.int .i64 (zdb s).w2,.int .i64 (zdb s).w3,.int .i64 (zdb s).twin,.int .i64 (zdb s).spent],.bool (zdi s)]) []) .no) .no
  | _=>.no
def yeo (a b:Vd):Bool:=a.kind==b.kind&&(z4i a.proof b.proof&&(a.w0==b.w0&&(a.w1==b.w1&&(a.w2==b.w2&&(a.w3==b.w3&&(a.twin==b.twin&&a.spent==b.spent))))))
def z3q:z0x
  | [.agg [.int .i64 k,.list true [.bool,.int .i64,.int .i64] p,.int .i64 a,.int .i64 b,.int .i64 c,.int .i64 d,.int .i64 t,.int .i64 s],
     .agg [.int .i64 k',.list true [.bool,.int .i64,.int .i64] p',.int .i64 a',.int .i64 b',.int .i64 c',.int .i64 d',.int .i64 t',.int .i64 s']]=>.ok (.bool (yeo ⟨k,p,a,b,c,d,t,s⟩ ⟨k',p',a',b',c',d',t',s'⟩)) []
  | _=>.no
open Go
def Nd.cs (x:Nd):List FM.V:=[.bool x.lf,.int .i64 x.v,.int .i64 x.f,.int .i64 x.a,.int .i64 x.l,.int .i64 x.r]
def Nd.V (x:Nd):FM.V:=.agg x.cs
def Md.cs (m:Md):List FM.V:=[.int .i64 m.d,.int .i64 m.c,.int .i64 m.b0,.int .i64 m.b1,.int .i64 m.b2,.list true [.int .i64,.list false [.int .u64]] m.ts]
def Md.V (m:Md):FM.V:=.agg m.cs
def Qy.cs (q:Qy):List FM.V:=[.int .i64 q.k,.int .i64 q.c,.int .i64 q.a0,.int .i64 q.b0,.int .i64 q.a1,.int .i64 q.b1,.int .i64 q.a2,.int .i64 q.b2,.int .i64 q.a3,.int .i64 q.b3,.int .i64 q.a4,.int .i64 q.b4,.int .i64 q.lo,.int .i64 q.hi,.int .i64 q.ft,.bool q.fl,.int .i64 q.bu]
def Vd.cs (v:Vd):List FM.V:=[.int .i64 v.kind,.list true [.bool,.int .i64,.int .i64] v.proof,.int .i64 v.w0,.int .i64 v.w1,.int .i64 v.w2,.int .i64 v.w3,.int .i64 v.twin,.int .i64 v.spent]
def Ak.cs (a:Ak):List FM.V:=[.int .i64 a.k,.int .i64 a.c,.int .i64 a.lo,.int .i64 a.size,.int .i64 a.ft,.int .i64 a.bu,.bool a.fl,.list false [.int .i64] a.sp]
def Ak.V (a:Ak):FM.V:=.agg a.cs
structure Sp where
  lo:Int
  hi:Int
def Sp.cs (s:Sp):List FM.V:=[.int .i64 s.lo,.int .i64 s.hi]
def Sp.V (s:Sp):FM.V:=.agg s.cs
structure Bx where
  s0:Sp
  s1:Sp
  s2:Sp
  s3:Sp
  s4:Sp
def Bx.g (b:Bx):Nat→Sp
  | 0=>b.s0
  | 1=>b.s1
  | 2=>b.s2
  | 3=>b.s3
  | _=>b.s4
def Bx.p (b:Bx) (s:Sp):Nat→Bx
  | 0=>⟨s,b.s1,b.s2,b.s3,b.s4⟩
  | 1=>⟨b.s0,s,b.s2,b.s3,b.s4⟩
  | 2=>⟨b.s0,b.s1,s,b.s3,b.s4⟩
  | 3=>⟨b.s0,b.s1,b.s2,s,b.s4⟩
  | _=>⟨b.s0,b.s1,b.s2,b.s3,s⟩
def Bx.cs (b:Bx):List FM.V:=[.int .i64 b.s0.lo,.int .i64 b.s0.hi,.int .i64 b.s1.lo,.int .i64 b.s1.hi,.int .i64 b.s2.lo,.int .i64 b.s2.hi,.int .i64 b.s3.lo,.int .i64 b.s3.hi,.int .i64 b.s4.lo,.int .i64 b.s4.hi]
def Bx.V (b:Bx):FM.V:=.agg b.cs
structure Pt where
  p0:Int
  p1:Int
  p2:Int
  p3:Int
def Pt.cs (p:Pt):List FM.V:=[.int .i64 p.p0,.int .i64 p.p1,.int .i64 p.p2,.int .i64 p.p3]
def Pt.V (p:Pt):FM.V:=.agg p.cs
def Pt.g (p:Pt):Nat→Int
  | 0=>p.p0
  | 1=>p.p1
  | 2=>p.p2
  | _=>p.p3
def spOf?:List FM.V→Option Sp
  | [.int .i64 a,.int .i64 b]=>some ⟨a,b⟩
  | _=>none
def ptOf?:List FM.V→Option Pt
  | [.int .i64 a,.int .i64 b,.int .i64 c,.int .i64 d]=>some ⟨a,b,c,d⟩
  | _=>none
def bxOf?:List FM.V→Option Bx
  | [.int .i64 a0,.int .i64 b0,.int .i64 a1,.int .i64 b1,.int .i64 a2,.int .i64 b2,.int .i64 a3,.int .i64 b3,.int .i64 a4,.int .i64 b4]=>some ⟨⟨a0,b0⟩,⟨a1,b1⟩,⟨a2,b2⟩,⟨a3,b3⟩,⟨a4,b4⟩⟩
  | _=>none
def mdOf?:List FM.V→Option Md
  | [.int .i64 d,.int .i64 c,.int .i64 b0,.int .i64 b1,.int .i64 b2,.list true [.int .i64,.list false [.int .u64]] ts]=>some ⟨d,c,b0,b1,b2,ts⟩
  | _=>none
def qyOf?:List FM.V→Option Qy
  | [.int .i64 k,.int .i64 c,.int .i64 a0,.int .i64 b0,.int .i64 a1,.int .i64 b1,.int .i64 a2,.int .i64 b2,.int .i64 a3,.int .i64 b3,.int .i64 a4,.int .i64 b4,.int .i64 lo,.int .i64 hi,.int .i64 ft,.bool fl,.int .i64 bu]=>
    some ⟨k,c,a0,b0,a1,b1,a2,b2,a3,b3,a4,b4,lo,hi,ft,fl,bu⟩
  | _=>none
def vdOf?:List FM.V→Option Vd
  | [.int .i64 k,.list true [.bool,.int .i64,.int .i64] p,.int .i64 a,.int .i64 b,.int .i64 c,.int .i64 d,.int .i64 t,.int .i64 s]=>some ⟨k,p,a,b,c,d,t,s⟩
  | _=>none
def ztz {α:Type} (of:List FM.V→Option α) (v:FM.V) (k:α→R):R:=
  match v with
  | .agg l=>match of l with | some x=>k x | none=>.no
  | _=>.no
abbrev ye5 (v:FM.V) (k:Sp→R):R:=ztz spOf? v k
abbrev y20 (v:FM.V) (k:Pt→R):R:=ztz ptOf? v k
abbrev zch (v:FM.V) (k:Bx→R):R:=ztz bxOf? v k
abbrev zfk (v:FM.V) (k:Md→R):R:=ztz mdOf? v k
abbrev ze1 (v:FM.V) (k:Qy→R):R:=ztz qyOf? v k
abbrev yi0 (v:FM.V) (k:Vd→R):R:=ztz vdOf? v k
theorem za4 {α:Type} {of:List FM.V→Option α} {v:FM.V} {k:α→R} {z:FM.V × List (List FM.V)} (h:(ztz of v k).get=some z):∃ l x,v = .agg l∧of l=some x∧(k x).get=some z:=by
  unfold ztz at h
  split at h
  · rename_i l
    split at h
    · rename_i x hx
      exact ⟨l,x,rfl,hx,h⟩
    · simp [R.get] at h
  · simp [R.get] at h
theorem zsd {v:FM.V} {k:Sp→R} {z:FM.V × List (List FM.V)} (h:(ye5 v k).get=some z):∃ x:Sp,v=x.V∧(k x).get=some z:=by
  obtain ⟨l,x,rfl,hx,h⟩:=za4 h
  unfold spOf? at hx
  split at hx
  · simp only [Option.some.injEq] at hx
    subst hx
    exact ⟨_,rfl,h⟩
  · cases hx
theorem zbu {v:FM.V} {k:Pt→R} {z:FM.V × List (List FM.V)} (h:(y20 v k).get=some z):∃ x:Pt,v=x.V∧(k x).get=some z:=by
  obtain ⟨l,x,rfl,hx,h⟩:=za4 h
  unfold ptOf? at hx
  split at hx
  · simp only [Option.some.injEq] at hx
    subst hx
    exact ⟨_,rfl,h⟩
  · cases hx
theorem z2b {v:FM.V} {k:Bx→R} {z:FM.V × List (List FM.V)} (h:(zch v k).get=some z):∃ x:Bx,v=x.V∧(k x).get=some z:=by
  obtain ⟨l,x,rfl,hx,h⟩:=za4 h
  unfold bxOf? at hx
  split at hx
  · simp only [Option.some.injEq] at hx
    subst hx
    exact ⟨_,rfl,h⟩
  · cases hx
theorem z32 {v:FM.V} {k:Md→R} {z:FM.V × List (List FM.V)} (h:(zfk v k).get=some z):∃ x:Md,v=x.V∧(k x).get=some z:=by
  obtain ⟨l,x,rfl,hx,h⟩:=za4 h
  unfold mdOf? at hx
  split at hx
  · simp only [Option.some.injEq] at hx
    subst hx
    exact ⟨_,rfl,h⟩
  · cases hx
theorem z2r {v:FM.V} {k:Qy→R} {z:FM.V × List (List FM.V)} (h:(ze1 v k).get=some z):∃ x:Qy,v=x.V∧(k x).get=some z:=by
  obtain ⟨l,x,rfl,hx,h⟩:=za4 h
  unfold qyOf? at hx
  split at hx
  · simp only [Option.some.injEq] at hx
    subst hx
    exact ⟨_,rfl,h⟩
  · cases hx
theorem yb9 {v:FM.V} {k:Vd→R} {z:FM.V × List (List FM.V)} (h:(yi0 v k).get=some z):∃ x:Vd,v=x.V∧(k x).get=some z:=by
  obtain ⟨l,x,rfl,hx,h⟩:=za4 h
  unfold vdOf? at hx
  split at hx
  · simp only [Option.some.injEq] at hx
    subst hx
    exact ⟨_,rfl,h⟩
  · cases hx
def Sp.emp (s:Sp):Bool:=decide (s.lo > s.hi)
def Sp.has (s:Sp) (n:Int):Bool:=decide (s.lo≤n)&&decide (n≤s.hi)
def y3h (lo hi:Int):Sp:=cond (decide (lo > hi)) ⟨1,0⟩ ⟨lo,hi⟩
def Sp.cutL (s:Sp) (a:Int):Sp:=y3h s.lo (min s.hi a)
def Sp.cutH (s:Sp) (a:Int):Sp:=cond (decide (a≥s.hi)) ⟨1,0⟩ (y3h (max s.lo (zds (a+1))) s.hi)
def z7r:z0x
  | []=>.ok (.agg [.int .i64 1,.int .i64 0]) []
  | _=>.no
def zh9:z0x
  | [.int .i64 lo,.int .i64 hi]=>.ok (y3h lo hi).V []
  | _=>.no
def z6h:z0x
  | [s]=>ye5 s fun s=>.ok (.bool (s.emp)) []
  | _=>.no
def z9b:z0x
  | [s,.int .i64 n]=>ye5 s fun s=>.ok (.bool (s.has n)) []
  | _=>.no
def zij:z0x
  | [s,.int .i64 n]=>ye5 s fun s=>.ok (.tup [(s.cutL n).V,(s.cutH n).V]) []
  | _=>.no
def Bx.I (b:Bx):IV:=.agg [.int b.s0.lo,.int b.s0.hi,.int b.s1.lo,.int b.s1.hi,.int b.s2.lo,.int b.s2.hi,.int b.s3.lo,.int b.s3.hi,.int b.s4.lo,.int b.s4.hi]
abbrev cI (x:IV) (j:Nat):Int:=(x.cell j).toInt
def bxI (x:IV):Bx:=⟨⟨cI x 0,cI x 1⟩,⟨cI x 2,cI x 3⟩,⟨cI x 4,cI x 5⟩,⟨cI x 6,cI x 7⟩,⟨cI x 8,cI x 9⟩⟩
abbrev z6l:List Kd:=[.int .i64,.int .i64,.int .i64,.int .i64,.int .i64,.int .i64,.int .i64,.int .i64,.int .i64,.int .i64]
def Bx.emp (b:Bx):Bool:=b.s0.emp||(b.s1.emp||(b.s2.emp||(b.s3.emp||b.s4.emp)))
def bx0:Bx:=⟨⟨0,0⟩,⟨0,0⟩,⟨0,0⟩,⟨0,0⟩,⟨0,0⟩⟩
def znf (i:Int):Bool:=decide (0≤i)&&decide (i < 5)
def Bx.cutL (b:Bx) (i a:Int):Bx:=b.p ((b.g i.toNat).cutL a) i.toNat
def Bx.cutH (b:Bx) (i a:Int):Bx:=b.p ((b.g i.toNat).cutH a) i.toNat
def Pt.p (p:Pt) (x:Int):Nat→Pt
  | 0=>⟨x,p.p1,p.p2,p.p3⟩
  | 1=>⟨p.p0,x,p.p2,p.p3⟩
  | 2=>⟨p.p0,p.p1,x,p.p3⟩
  | _=>⟨p.p0,p.p1,p.p2,x⟩
def Bx.low (b:Bx):Pt:=⟨b.s0.lo,b.s1.lo,b.s2.lo,b.s3.lo⟩
def Bx.has (b:Bx) (p:Pt) (t:Int):Bool:=b.s0.has p.p0&&(b.s1.has p.p1&&(b.s2.has p.p2&&(b.s3.has p.p3&&b.s4.has t)))
def z1t:z0x
  | [b]=>zch b fun b=>.ok (.bool (b.emp)) []
  | _=>.no
def zhu:z0x
  | [b]=>zch b fun b=>.ok b.low.V []
  | _=>.no
def zhq:z0x
  | [b,p,.int .i64 t]=>zch b fun b=>y20 p fun p=>.ok (.bool (b.has p t)) []
  | _=>.no
def z69:z0x
  | [b,.int .i64 i,.int .i64 a]=>zch b fun b=>.br (znf i) (.ok (.tup [(b.cutL i a).V,(b.cutH i a).V]) []) .no
  | _=>.no
def zpo (l:List IV) (p:Pt):Nat→Int→Int × Nd
  | 0,_=>(-1,Nd.zero)
  | n+1,a=>
    cond (decide (a≥ic l.length)) (-1,Nd.zero)
      (cond (!(z7v (l.getD a.toNat default).toInt)) (-1,Nd.zero)
        (cond (z07 (l.getD a.toNat default).toInt).lf (a,z07 (l.getD a.toNat default).toInt)
          (cond (decide (p.g (z07 (l.getD a.toNat default).toInt).f.toNat≤(z07 (l.getD a.toNat default).toInt).a)) (zpo l p n (z07 (l.getD a.toNat default).toInt).l) (zpo l p n (z07 (l.getD a.toNat default).toInt).r))))
def yit (l:List IV) (p:Pt):Int:=(zpo l p 31 0).1
def ycs (l:List IV) (p:Pt):Nd:=(zpo l p 31 0).2
def ze0:z0x
  | [.list false [.int .u64] l,p]=>y20 p fun p=>.ok (.tup [.int .i64 (yit l p),(ycs l p).V]) []
  | _=>.no
def ziv (l:List IV) (p:Pt):Int:=(ycs l p).v
def zao:z0x
  | [.list false [.int .u64] l,p]=>y20 p fun p=>.ok (.int .i64 (ziv l p)) []
  | _=>.no
def zb2 (m:Md) (c:Int):Int:=cond (c==0) m.b0 (cond (c==1) m.b1 m.b2)
abbrev ye8 (t:IV):Int:=cI t 0
abbrev z97 (t:IV):List IV:=(t.cell 1).toList
def evF (c:Int) (p:Pt):List IV→Int→Int
  | [],s=>s
  | t :: r,s=>evF c p r (cond (ye8 t==c) (s+ziv (z97 t) p) s)
def zai (m:Md) (c:Int):Bool:=decide (0≤c)&&decide (c < m.c)
def za6:z0x
  | [m,.int .i64 k,p]=>zfk m fun m=>y20 p fun p=>.br (z1s m&&zai m k) (.ok (.int .i64 (evF k p m.ts (zb2 m k))) []) .no
  | _=>.no
def z2a (m:Md) (k:Int) (p:Pt):Int:=cond (z1s m&&zai m k) (evF k p m.ts (zb2 m k)) 0
def zaf:z0x
  | [m,.int .i64 k,p]=>zfk m fun m=>y20 p fun p=>.ok (.int .i64 (z2a m k p)) []
  | _=>.no
def yf2 (x:Int):List Int→List Int
  | []=>[x]
  | y :: r=>cond (decide (x≤y)) (x :: y :: r) (y :: yf2 x r)
def zgj:List Int→List Int
  | []=>[]
  | x :: r=>yf2 x (zgj r)
def y56:Int→List Int→List Int
  | _,[]=>[]
  | p,x :: r=>cond (x==p) (y56 x r) (x :: y56 x r)
def zxe:List Int→List Int
  | []=>[]
  | x :: r=>x :: y56 x r
def zsw (f:Int) (w:IV):List Int:=cond (!(z07 w.toInt).lf&&(z07 w.toInt).f==f) [(z07 w.toInt).a] []
def z5q (ts:List IV) (f:Int):List Int:=ts.flatMap fun t=>(z97 t).flatMap (zsw f)
def ztm (ts:List IV) (f:Int):List Int:=zxe (zgj (z5q ts f))
def iZ (l:List Int):List IV:=l.map IV.int
def z4p:z0x
  | [m,.int .i64 f]=>zfk m fun m=>.br (z1s m) (.ok (.vec 3 false [.int .i64] (iZ (ztm m.ts f))) []) .no
  | _=>.no
def y6b:Ip:=⟨3,false,fun rs l=>match rs with
  | []=>some (iZ (zgj (l.map IV.toInt)))
  | _=>none⟩
def zlw:Ip:=⟨3,true,fun rs l=>match rs with
  | []=>some (iZ (zxe (l.map IV.toInt)))
  | _=>none⟩
def zgq (a b:Int) (l:List Int):List Int:=l.filter fun t=>!(decide (t < a)||decide (t≥b))
def zpq:Ip:=⟨3,true,fun rs l=>match rs with
  | [.clo f [.bor [.int .i64 a,.int .i64 b]]]=>cond (Nat.beq f 84) (some (iZ (zgq a b (l.map IV.toInt)))) none
  | _=>none⟩
def Qy.bx (q:Qy):Bx:=⟨⟨q.a0,q.b0⟩,⟨q.a1,q.b1⟩,⟨q.a2,q.b2⟩,⟨q.a3,q.b3⟩,⟨q.a4,q.b4⟩⟩
def zzj (d i:Int) (s:Sp):Bool:=!(decide (i≥d)&&!((s.lo==0)&&(s.hi==0)))&&(!s.emp&&(z1g s.lo&&z1g s.hi))
def zrn (b:Bx) (d:Int):Bool:=zzj d 0 b.s0&&(zzj d 1 b.s1&&(zzj d 2 b.s2&&(zzj d 3 b.s3&&zzj d 4 b.s4)))
def z7e:z0x
  | [b,.int .i64 d]=>zch b fun b=>.ok (.bool (zrn b d)) []
  | _=>.no
def zu8 (m:Md) (q:Qy):Bool:=
  cond (q.k==1) (decide (q.lo≤q.hi)&&((q.ft==0)&&!q.fl))
    (cond (q.k==2) (decide (m.c≥2)&&((q.lo==0)&&((q.hi==0)&&((q.ft==0)&&!q.fl))))
      (cond (q.k==3) (decide (q.ft≥0)&&(decide (q.ft < m.d)&&((q.lo==0)&&(q.hi==0)))) false))
def z1q (m:Md) (q:Qy):Bool:=z1s m&&(decide (q.c≥0)&&(decide (q.c < m.c)&&(decide (q.bu≥0)&&(decide (q.bu≤65536)&&(zrn q.bx m.d&&zu8 m q)))))
def z42 (q:Qy):Bool:=(q.k==3)&&(decide (q.ft≥0)&&decide (q.ft < 4))
def z33 (q:Qy):Bx:=q.bx.p (cond (z42 q) (q.bx.g q.ft.toNat) ⟨0,0⟩) 4
def z4h (q:Qy) (p:Pt) (t:Int):Pt:=cond (z42 q) (p.p t q.ft.toNat) p
def zl0 (m:Md) (q:Qy) (p:Pt) (own:Int):Bool:=(List.range m.c.toNat).any fun c=>!((c:Int)==q.c)&&decide (z2a m (c:Int) p≥own)
def z2l (m:Md) (q:Qy) (p:Pt) (t:Int):Bool:=
  z1q m q &&
    cond (q.k==1) (!(Sp.has ⟨q.lo,q.hi⟩ (z2a m q.c p)))
      (cond (q.k==2) (zl0 m q p (z2a m q.c p))
        (cond (decide (p.g q.ft.toNat≥t)) false
          (cond q.fl (decide (z2a m q.c (z4h q p t) > z2a m q.c p)) (decide (z2a m q.c (z4h q p t) < z2a m q.c p)))))
def zg6 (n:Nd) (i:Nat) (own:List IV):List IV:=
  cond n.lf own ((own.set n.l.toNat ((bxI (own.getD i default)).cutL n.f n.a).I).set n.r.toNat ((bxI (own.getD i default)).cutH n.f n.a).I)
def pcI (b:Bx) (v:Int):IV:=.agg [.int b.s0.lo,.int b.s0.hi,.int b.s1.lo,.int b.s1.hi,.int b.s2.lo,.int b.s2.hi,.int b.s3.lo,.int b.s3.hi,.int b.s4.lo,.int b.s4.hi,.int v]
abbrev pcV (x:IV):Int:=cI x 10
abbrev z5p:List Kd:=[.int .i64,.int .i64,.int .i64,.int .i64,.int .i64,.int .i64,.int .i64,.int .i64,.int .i64,.int .i64,.int .i64]
def zmv:List IV→Nat→List IV→List IV→List IV
  | [],_,_,out=>out
  | w :: r,i,own,out=>zmv r (i+1) (zg6 (z07 w.toInt) i own) (cond ((z07 w.toInt).lf&&!(bxI (own.getD i default)).emp) (out++[pcI (bxI (own.getD i default)) (z07 w.toInt).v]) out)
def z3w (l:List IV) (b:Bx):List IV:=cond (z6v l 4&&!b.emp) (zmv l 0 ((List.replicate l.length bx0.I).set 0 b.I) []) []
def z8e:z0x
  | [.list false [.int .u64] l,b]=>zch b fun b=>.ok (.list true z5p (z3w l b)) []
  | _=>.no
def y90:List IV→Int→Int
  | [],a=>a
  | x :: r,a=>y90 r (min a (pcV x))
def y92:List IV→Int→Int
  | [],a=>a
  | x :: r,a=>y92 r (max a (pcV x))
def yie (ps:List IV):Int:=y90 ps (pcV (ps.getD 0 default))
def yhp (ps:List IV):Int:=y92 ps (pcV (ps.getD 0 default))
def tOK (l:List IV) (b:Bx):Bool:=!((z3w l b).isEmpty)
def tLo (l:List IV) (b:Bx):Int:=cond (tOK l b) (yie (z3w l b)) 0
def tHi (l:List IV) (b:Bx):Int:=cond (tOK l b) (yhp (z3w l b)) 0
def z9t:z0x
  | [.list false [.int .u64] l,b]=>zch b fun b=>.ok (.tup [.int .i64 (tLo l b),.int .i64 (tHi l b),.bool (tOK l b)]) []
  | _=>.no
def zrg (h:List IV→Int) (c:Int):List IV→Int→Int
  | [],s=>s
  | t :: r,s=>zrg h c r (cond (ye8 t==c) (s+h (z97 t)) s)
def sOK (m:Md) (c:Int) (b:Bx):Bool:=z1s m&&(zai m c&&!b.emp)
def sLo (m:Md) (c:Int) (b:Bx):Int:=cond (sOK m c b) (zrg (fun l=>tLo l b) c m.ts (zb2 m c)) 0
def sHi (m:Md) (c:Int) (b:Bx):Int:=cond (sOK m c b) (zrg (fun l=>tHi l b) c m.ts (zb2 m c)) 0
def z5l:z0x
  | [m,.int .i64 k,b]=>zfk m fun m=>zch b fun b=>.ok (.tup [.int .i64 (sLo m k b),.int .i64 (sHi m k b),.bool (sOK m k b)]) []
  | _=>.no
def zu9 (m:Md) (c lo:Int) (b:Bx):Nat→Int→Int→Bool→Int
  | 0,_,a,_=>a
  | n+1,i,a,z=>cond (i==c) (zu9 m c lo b n (i+1) a z)
      (cond (!z||decide (lo - sHi m i b < a)) (zu9 m c lo b n (i+1) (lo - sHi m i b) true) (zu9 m c lo b n (i+1) a z))
def y67 (m:Md) (c:Int) (b:Bx):Bool:=sOK m c b&&decide (m.c≥2)
def yep (m:Md) (c:Int) (b:Bx):Int:=cond (y67 m c b) (zu9 m c (sLo m c b) b m.c.toNat 0 0 false) 0
def z78:z0x
  | [m,.int .i64 k,b]=>zfk m fun m=>zch b fun b=>.ok (.tup [.int .i64 (yep m k b),.bool (y67 m k b)]) []
  | _=>.no
def z86 (q:Qy) (b:Bx):Bx:=cond (z42 q) (b.p ⟨0,0⟩ 4) b
def z55 (q:Qy) (b:Bx):Bx:=cond (z42 q) ((b.p b.s4 q.ft.toNat).p ⟨0,0⟩ 4) b
def zbr (q:Qy) (b:Bx):Bool:=z42 q&&(!b.emp&&decide ((b.g q.ft.toNat).lo < b.s4.hi))
def y2n (m:Md) (q:Qy) (b:Bx):Bool:=z42 q&&(sOK m q.c (z86 q b)&&sOK m q.c (z55 q b))
def ydk (m:Md) (q:Qy) (b:Bx):Int:=cond (y2n m q b) (sLo m q.c (z55 q b) - sHi m q.c (z86 q b)) 0
def ycn (m:Md) (q:Qy) (b:Bx):Int:=cond (y2n m q b) (sHi m q.c (z55 q b) - sLo m q.c (z86 q b)) 0
def z1r (m:Md) (q:Qy) (b:Bx):Bool:=
  z1q m q &&
    cond b.emp true
      (cond (q.k==1) (sOK m q.c b&&(decide (q.lo≤sLo m q.c b)&&decide (sHi m q.c b≤q.hi)))
        (cond (q.k==2) (y67 m q.c b&&decide (yep m q.c b > 0))
          (cond (!(zbr q b)) true
            (cond q.fl (y2n m q b&&decide (ycn m q b≤0)) (y2n m q b&&decide (ydk m q b≥0))))))
def zb5 (q:Qy) (i:Int):Int:=cond (decide (i≥0)&&decide (i < 4)) i (cond ((i==4)&&(q.k==3)) q.ft (-1))
def z35 (m:Md) (q:Qy) (b:Bx) (i:Nat):List Int:=
  cond (decide (zb5 q (i:Int) < 0)) [] (zgq (b.g i).lo (b.g i).hi (ztm m.ts (zb5 q (i:Int))))
def spR (m:Md) (q:Qy) (b:Bx):Nat→Nat→Option (Int × Int)
  | 0,_=>none
  | n+1,i=>cond (decide ((z35 m q b i).length > 0)) (some ((i:Int),(z35 m q b i).getD (((z35 m q b i).length - 1) / 2) 0)) (spR m q b n (i+1))
def z1b (m:Md) (q:Qy) (b:Bx):Option (Int × Int):=spR m q b 5 0
def zae:z0x
  | [m,q]=>zfk m fun m=>ze1 q fun q=>.ok (.bool (zu8 m q)) []
  | _=>.no
def z2t:z0x
  | [m,q]=>zfk m fun m=>ze1 q fun q=>.ok (.bool (z1q m q)) []
  | _=>.no
def z4v:z0x
  | [q]=>ze1 q fun q=>.ok (.bool (z42 q)) []
  | _=>.no
def z29:z0x
  | [q]=>ze1 q fun q=>.ok (.bool (z42 q)) []
  | _=>.no
def z5n:z0x
  | [q]=>ze1 q fun q=>.ok (z33 q).V []
  | _=>.no
def z72:z0x
  | [q,p,.int .i64 t]=>ze1 q fun q=>y20 p fun p=>.ok (z4h q p t).V []
  | _=>.no
def z4u:z0x
  | [m,q,p,.int .i64 t]=>zfk m fun m=>ze1 q fun q=>y20 p fun p=>.ok (.bool (z2l m q p t)) []
  | _=>.no
def z74:z0x
  | [q,b]=>ze1 q fun q=>zch b fun b=>.ok (z86 q b).V []
  | _=>.no
def z66:z0x
  | [q,b]=>ze1 q fun q=>zch b fun b=>.ok (z55 q b).V []
  | _=>.no
def z5r:z0x
  | [q,b]=>ze1 q fun q=>zch b fun b=>.ok (.bool (zbr q b)) []
  | _=>.no
def z6i:z0x
  | [m,q,b]=>zfk m fun m=>ze1 q fun q=>zch b fun b=>.ok (.tup [.int .i64 (ydk m q b),.int .i64 (ycn m q b),.bool (y2n m q b)]) []
  | _=>.no
def z8b:z0x
  | [m,q,b]=>zfk m fun m=>ze1 q fun q=>zch b fun b=>.ok (.bool (z1r m q b)) []
  | _=>.no
def z8o:z0x
  | [b]=>zch b fun b=>.ok (.tup [b.low.V,.int .i64 b.s4.hi]) []
  | _=>.no
def z7g:z0x
  | [q,.int .i64 i]=>ze1 q fun q=>.ok (.int .i64 (zb5 q i)) []
  | _=>.no
def zc1:z0x
  | [m,q,b,.int .i64 i]=>zfk m fun m=>ze1 q fun q=>zch b fun b=>.br (z1s m&&znf i) (.ok (.list false [.int .i64] (iZ (z35 m q b i.toNat))) []) .no
  | _=>.no
def spI (o:Option (Int × Int)):Int:=match o with | none=>0 | some (i,_)=>i
def zr2 (o:Option (Int × Int)):Int:=match o with | none=>0 | some (_,a)=>a
def zah:z0x
  | [m,q,b]=>zfk m fun m=>ze1 q fun q=>zch b fun b=>.br (z1s m) (.ok (.tup [.int .i64 (spI (z1b m q b)),.int .i64 (zr2 (z1b m q b)),.bool (z1b m q b).isSome]) []) .no
  | _=>.no
structure Sr where
  left:List IV
  proof:List IV
  v:Vd
  spent:Int
def stI (s:Bool) (p a:Int):IV:=.agg [.bool s,.int p,.int a]
def z2k (l:List IV):Bx:=bxI (l.getD (l.length - 1) default)
def zdr (l:List IV):List IV:=l.take (l.length - 1)
def z5a (m:Md) (q:Qy) (s:Sr):Sr:=
  cond (z1r m q (z2k s.left)) ⟨zdr s.left,s.proof++[stI true 0 0],cond (ic (s.left.length - 1)==0) ⟨1,s.proof++[stI true 0 0],0,0,0,0,0,0⟩ s.v,s.spent+1⟩
    (cond (z2l m q (z2k s.left).low (z2k s.left).s4.hi) ⟨zdr s.left,s.proof,⟨2,[],(z2k s.left).s0.lo,(z2k s.left).s1.lo,(z2k s.left).s2.lo,(z2k s.left).s3.lo,(z2k s.left).s4.hi,0⟩,s.spent+1⟩
      (cond (z1b m q (z2k s.left)).isSome
        ⟨zdr s.left++[((z2k s.left).cutH (spI (z1b m q (z2k s.left))) (zr2 (z1b m q (z2k s.left)))).I,((z2k s.left).cutL (spI (z1b m q (z2k s.left))) (zr2 (z1b m q (z2k s.left)))).I],
          s.proof++[stI false (spI (z1b m q (z2k s.left))) (zr2 (z1b m q (z2k s.left)))],s.v,s.spent+1⟩
        ⟨zdr s.left,s.proof,⟨3,[],0,0,0,0,0,0⟩,s.spent+1⟩))
def zdt (q:Qy) (s:Sr):Bool:=!(s.v.kind==0)||decide (s.spent≥q.bu)
def y39 (m:Md) (q:Qy):Nat→Sr→Sr
  | 0,s=>s
  | n+1,s=>cond (zdt q s) s (y39 m q n (z5a m q s))
def yej (m:Md) (q:Qy):Sr:=cond (z1q m q) ⟨[(z33 q).I],[],Vd.none,0⟩ ⟨[],[],⟨4,[],0,0,0,0,0,0⟩,0⟩
def zir (s:Sr):Vd:=⟨cond (s.v.kind==0) 3 s.v.kind,s.v.proof,s.v.w0,s.v.w1,s.v.w2,s.v.w3,s.v.twin,s.spent⟩
def z6y (m:Md) (q:Qy):Vd:=zir (y39 m q (q.bu.toNat+1) (yej m q))
def zdq (m:Md) (q:Qy) (r:List FM.V):List FM.V:=m.cs++(q.cs++r)
def seOf? (l:List FM.V):Option (Md × Qy × List FM.V):=
  match mdOf? (l.take 6),qyOf? ((l.drop 6).take 17) with
  | some m,some q=>some (m,q,(l.drop 6).drop 17)
  | _,_=>none
abbrev yir (l:List IV):FM.V:=.vec 36 true z6l l
abbrev yj1 (l:List IV):FM.V:=.vec 83 true z0q l
abbrev ycq (l:List IV):FM.V:=.list true z0q l
def vdT (v:Vd) (vp:FM.V) (sp:Int):List FM.V:=[.int .i64 v.kind,vp,.int .i64 v.w0,.int .i64 v.w1,.int .i64 v.w2,.int .i64 v.w3,.int .i64 v.twin,.int .i64 v.spent,.int .i64 sp]
def srV (t:Nat) (m:Md) (q:Qy) (s:Sr):List FM.V:=
  zdq m q (match t with
    | 0=>yir s.left :: yj1 s.proof :: vdT s.v .zs s.spent
    | 1=>yir s.left :: .zs :: vdT s.v .zs s.spent
    | 2=>yir s.left :: ycq s.proof :: vdT s.v (ycq s.v.proof) s.spent
    | _=>.zs :: .zs :: vdT s.v .zs s.spent)
def srT?:List FM.V→Option (Nat × Sr)
  | [.vec 36 true [.int .i64,.int .i64,.int .i64,.int .i64,.int .i64,.int .i64,.int .i64,.int .i64,.int .i64,.int .i64] l,.vec 83 true [.bool,.int .i64,.int .i64] p,.int .i64 k,.zs,.int .i64 a,.int .i64 b,.int .i64 c,.int .i64 d,.int .i64 t,.int .i64 vs,.int .i64 sp]=>some (0,⟨l,p,⟨k,[],a,b,c,d,t,vs⟩,sp⟩)
  | [.vec 36 true [.int .i64,.int .i64,.int .i64,.int .i64,.int .i64,.int .i64,.int .i64,.int .i64,.int .i64,.int .i64] l,.zs,.int .i64 k,.zs,.int .i64 a,.int .i64 b,.int .i64 c,.int .i64 d,.int .i64 t,.int .i64 vs,.int .i64 sp]=>some (1,⟨l,[],⟨k,[],a,b,c,d,t,vs⟩,sp⟩)
  | [.vec 36 true [.int .i64,.int .i64,.int .i64,.int .i64,.int .i64,.int .i64,.int .i64,.int .i64,.int .i64,.int .i64] l,.list true [.bool,.int .i64,.int .i64] p,.int .i64 k,.list true [.bool,.int .i64,.int .i64] vp,.int .i64 a,.int .i64 b,.int .i64 c,.int .i64 d,.int .i64 t,.int .i64 vs,.int .i64 sp]=>some (2,⟨l,p,⟨k,vp,a,b,c,d,t,vs⟩,sp⟩)
  | [.zs,.zs,.int .i64 k,.zs,.int .i64 a,.int .i64 b,.int .i64 c,.int .i64 d,.int .i64 t,.int .i64 vs,.int .i64 sp]=>some (3,⟨[],[],⟨k,[],a,b,c,d,t,vs⟩,sp⟩)
  | _=>none
def y5y (v:FM.V) (k:Nat→Md→Qy→Sr→R):R:=
  match v with
  | .bor l=>match seOf? l with
    | some (m,q,r)=>match srT? r with
      | some (t,s)=>k t m q s
      | none=>.no
    | none=>.no
  | _=>.no
def ycr (m:Md) (q:Qy) (t:Nat) (s:Sr):Nat:=
  cond (z1r m q (z2k s.left)) (cond (ic (s.left.length - 1)==0) 2 0)
    (cond (z2l m q (z2k s.left).low (z2k s.left).s4.hi) t (cond (z1b m q (z2k s.left)).isSome 0 t))
def za0:z0x
  | [m,q]=>zfk m fun m=>ze1 q fun q=>.br (z1q m q) (.ok (.bor (srV 1 m q ⟨[(z33 q).I],[],Vd.none,0⟩)) []) (.ok (.bor (srV 3 m q ⟨[],[],⟨4,[],0,0,0,0,0,0⟩,0⟩)) [])
  | _=>.no
def z3p:z0x
  | [x]=>y5y x fun t m q s=>
      .br (zdt q s) (.ok (.bool false) [srV t m q s])
        (.br (Nat.ble t 1&&(z1q m q&&(decide (0≤s.spent)&&(Nat.blt 0 s.left.length&&(Nat.ble s.left.length 100000&&Nat.ble s.proof.length 100000)))))
          (.br (z1r m q (z2k s.left)) (.br (ic (s.left.length - 1)==0) (.ok (.bool true) [srV 2 m q (z5a m q s)]) (.ok (.bool true) [srV 0 m q (z5a m q s)]))
            (.br (z2l m q (z2k s.left).low (z2k s.left).s4.hi) (.ok (.bool true) [srV t m q (z5a m q s)])
              (.br (z1b m q (z2k s.left)).isSome (.ok (.bool true) [srV 0 m q (z5a m q s)]) (.ok (.bool true) [srV t m q (z5a m q s)])))) .no)
  | _=>.no
def z2v:z0x
  | [x]=>y5y x fun t m q s=>.br (Nat.ble s.v.proof.length 100000) (.ok (zir s).V [srV t m q s]) .no
  | _=>.no
def z6b:z0x
  | [m,q]=>zfk m fun m=>ze1 q fun q=>.ok (z6y m q).V []
  | _=>.no
def z2f:z0x
  | [.list true [.bool,.int .i64,.int .i64] l]=>.br (Nat.ble l.length 100000) (.ok (.vec 83 true z0q l) []) .no
  | _=>.no
open Go Go.Proofs
def y3i (N:Nat):Env:=mkE [] [] 2 N
theorem y0f (N:Nat):z16 (y3i N) zra [.cell 0 34] [[.int .i64,.int .i64]] [] =
 (some ((.agg [(.int .i64 1),(.int .i64 0)]),[])):=by kernel_rfl
def y9f (N:Nat):Env:=mkE [(86,z7r)] [] 12 N
theorem y77 (N:Nat) (lo:Int) (hi:Int):z16 (y9f N) y2m [.cell 4 34] [[.int .i64,.int .i64]] [(.int .i64 lo),(.int .i64 hi)] =
 (cond (decide (lo > hi)) (some ((.agg [(.int .i64 1),(.int .i64 0)]),[])) (some ((.agg [(.int .i64 lo),(.int .i64 hi)]),[]))):=by kernel_rfl
def y05 (N:Nat):Env:=mkE [] [] 8 N
theorem zyd (N:Nat) (s:Sp):z16 (y05 N) zoo [.tmp 2] [[.bool]] [(Sp.V s)] =
 (some ((.bool (decide (Sp.lo s > Sp.hi s))),[])):=by kernel_rfl
def y8p (N:Nat):Env:=mkE [] [] 15 N
theorem y4t (N:Nat) (s:Sp) (n:Int):z16 (y8p N) zvs [.tmp 4] [[.bool]] [(Sp.V s),(.int .i64 n)] =
 (cond (decide (Sp.lo s≤n)) (some ((.bool (decide (n≤Sp.hi s))),[])) (some ((.bool false),[]))):=by kernel_rfl
def y7d (N:Nat):Env:=mkE [(86,z7r),(85,zh9)] [] 29 N
theorem y4v (N:Nat) (s:Sp) (atv:Int):z16 (y7d N) zw6 [.cell 4 34,.cell 5 34] [[.int .i64,.int .i64],[.int .i64,.int .i64]] [(Sp.V s),(.int .i64 atv)] =
 (cond (decide (atv≥Sp.hi s))
 (some ((.tup [(Sp.V (y3h (Sp.lo s) (min (Sp.hi s) atv))),(.agg [(.int .i64 1),(.int .i64 0)])]),[]))
 (some ((.tup [(Sp.V (y3h (Sp.lo s) (min (Sp.hi s) atv))),(Sp.V (y3h (max (Sp.lo s) (IntKind.wrap IntKind.i64 (atv+1))) (Sp.hi s)))]),[]))):=by kernel_rfl
def z26 (N:Nat):Env:=mkE [(88,z1y)] [(3,⟨[0,3,4,5,6,9],[3,5],[]⟩)] 46 N
theorem y3u (N:Nat) (l:List IV) (p:Pt):z16 (z26 N) z4b [.tmp 4,.cell 5 87] [[.int .i64],[.bool,.int .i64,.int .i64,.int .i64,.int .i64,.int .i64]] [(.list false [.int .u64] l),(Pt.V p)] =
 (lpE (z26 N) (z0l z4b [1,1,0,1,0,0]) ⟨[0,3,4,5,6,9],[3,5],[]⟩ N ⟨[(0,(.list false [(.int .u64)] l)),(3,(.ptr 3 0 0)),(4,(.int .i64 0)),(5,(.ptr 5 0 0)),(6,(.int .i64 0)),(9,(.int .i64 0))],[(3,(some (.box (Pt.cs p)))),(5,(some (.box [(.bool false),(.int .i64 0),(.int .i64 0),(.int .i64 0),(.int .i64 0),(.int .i64 0)])))]⟩ (z08 0 (kSq (z26 N) (z0l z4b [1,1,1]) (z2w (z26 N) none [(ResultVar.tmp 4),(ResultVar.cell 5 87)] [[(.int .i64)],[.bool,(.int .i64),(.int .i64),(.int .i64),(.int .i64),(.int .i64)]])))):=by kernel_rfl
theorem zkm (N:Nat) (p:Pt) (l0:List IV) (x4:Int) (x6:Int) (x9:Int) (bo5_0:Bool) (xo5_1:Int) (xo5_2:Int) (xo5_3:Int) (xo5_4:Int) (xo5_5:Int) (again:St→Res) (k:Out→St→Res):rnd (z26 N) (z0l z4b [1,1,0,1,0,0])
 ⟨[(0,(.list false [(.int .u64)] l0)),(3,(.ptr 3 0 0)),(4,(.int .i64 x4)),(5,(.ptr 5 0 0)),(6,(.int .i64 x6)),(9,(.int .i64 x9))],[(3,(some (.box (Pt.cs p)))),(5,(some (.box [(.bool bo5_0),(.int .i64 xo5_1),(.int .i64 xo5_2),(.int .i64 xo5_3),(.int .i64 xo5_4),(.int .i64 xo5_5)])))]⟩
 (z57 again ⟨[0,3,4,5,6,9],[3,5],[]⟩ k) =
 (cond (decide (x9 < 31))
 (cond (decide (x6≥ic (List.length l0)))
 (k (.exit 0) ⟨[(0,(.list false [(.int .u64)] l0)),(3,(.ptr 3 0 0)),(4,(.int .i64 x4)),(5,(.ptr 5 0 0)),(6,(.int .i64 x6)),(9,(.int .i64 x9))],[(3,(some (.box (Pt.cs p)))),(5,(some (.box [(.bool bo5_0),(.int .i64 xo5_1),(.int .i64 xo5_2),(.int .i64 xo5_3),(.int .i64 xo5_4),(.int .i64 xo5_5)])))]⟩)
 (cond (decide (0≤x6)&&decide (x6 < ic (List.length l0)))
 (cond (!z7v (IV.toInt (List.getD l0 (Int.toNat x6) default)))
 (k .ret ⟨[(0,(.list false [(.int .u64)] l0)),(3,(.ptr 3 0 0)),(4,(.int .i64 (-1))),(5,(.ptr 5 0 0)),(6,(.int .i64 x6)),(9,(.int .i64 x9))],[(3,(some (.box (Pt.cs p)))),(5,(some (.box [(.bool false),(.int .i64 0),(.int .i64 0),(.int .i64 0),(.int .i64 0),(.int .i64 0)])))]⟩)
 (cond (Nd.lf (z07 (IV.toInt (List.getD l0 (Int.toNat x6) default))))
 (k .ret ⟨[(0,(.list false [(.int .u64)] l0)),(3,(.ptr 3 0 0)),(4,(.int .i64 x6)),(5,(.ptr 5 0 0)),(6,(.int .i64 x6)),(9,(.int .i64 x9))],[(3,(some (.box (Pt.cs p)))),(5,(some (.box (Nd.cs (z07 (IV.toInt (List.getD l0 (Int.toNat x6) default)))))))]⟩)
 (cond (decide (Nd.f (z07 (IV.toInt (List.getD l0 (Int.toNat x6) default)))=ic 0))
 (cond (decide (Pt.p0 p≤Nd.a (z07 (IV.toInt (List.getD l0 (Int.toNat x6) default)))))
 (again ⟨[(0,(.list false [(.int .u64)] l0)),(3,(.ptr 3 0 0)),(4,(.int .i64 x4)),(5,(.ptr 5 0 0)),(6,(.int .i64 (Nd.l (z07 (IV.toInt (List.getD l0 (Int.toNat x6) default)))))),(9,(.int .i64 (IntKind.wrap IntKind.i64 (x9+1))))],[(3,(some (.box (Pt.cs p)))),(5,(some (.box [(.bool bo5_0),(.int .i64 xo5_1),(.int .i64 xo5_2),(.int .i64 xo5_3),(.int .i64 xo5_4),(.int .i64 xo5_5)])))]⟩)
 (again ⟨[(0,(.list false [(.int .u64)] l0)),(3,(.ptr 3 0 0)),(4,(.int .i64 x4)),(5,(.ptr 5 0 0)),(6,(.int .i64 (Nd.r (z07 (IV.toInt (List.getD l0 (Int.toNat x6) default)))))),(9,(.int .i64 (IntKind.wrap IntKind.i64 (x9+1))))],[(3,(some (.box (Pt.cs p)))),(5,(some (.box [(.bool bo5_0),(.int .i64 xo5_1),(.int .i64 xo5_2),(.int .i64 xo5_3),(.int .i64 xo5_4),(.int .i64 xo5_5)])))]⟩))
 (cond (decide (Nd.f (z07 (IV.toInt (List.getD l0 (Int.toNat x6) default)))=ic 1))
 (cond (decide (Pt.p1 p≤Nd.a (z07 (IV.toInt (List.getD l0 (Int.toNat x6) default)))))
 (again ⟨[(0,(.list false [(.int .u64)] l0)),(3,(.ptr 3 0 0)),(4,(.int .i64 x4)),(5,(.ptr 5 0 0)),(6,(.int .i64 (Nd.l (z07 (IV.toInt (List.getD l0 (Int.toNat x6) default)))))),(9,(.int .i64 (IntKind.wrap IntKind.i64 (x9+1))))],[(3,(some (.box (Pt.cs p)))),(5,(some (.box [(.bool bo5_0),(.int .i64 xo5_1),(.int .i64 xo5_2),(.int .i64 xo5_3),(.int .i64 xo5_4),(.int .i64 xo5_5)])))]⟩)
 (again ⟨[(0,(.list false [(.int .u64)] l0)),(3,(.ptr 3 0 0)),(4,(.int .i64 x4)),(5,(.ptr 5 0 0)),(6,(.int .i64 (Nd.r (z07 (IV.toInt (List.getD l0 (Int.toNat x6) default)))))),(9,(.int .i64 (IntKind.wrap IntKind.i64 (x9+1))))],[(3,(some (.box (Pt.cs p)))),(5,(some (.box [(.bool bo5_0),(.int .i64 xo5_1),(.int .i64 xo5_2),(.int .i64 xo5_3),(.int .i64 xo5_4),(.int .i64 xo5_5)])))]⟩))
 (cond (decide (Nd.f (z07 (IV.toInt (List.getD l0 (Int.toNat x6) default)))=ic 2))
 (cond (decide (Pt.p2 p≤Nd.a (z07 (IV.toInt (List.getD l0 (Int.toNat x6) default)))))
 (again ⟨[(0,(.list false [(.int .u64)] l0)),(3,(.ptr 3 0 0)),(4,(.int .i64 x4)),(5,(.ptr 5 0 0)),(6,(.int .i64 (Nd.l (z07 (IV.toInt (List.getD l0 (Int.toNat x6) default)))))),(9,(.int .i64 (IntKind.wrap IntKind.i64 (x9+1))))],[(3,(some (.box (Pt.cs p)))),(5,(some (.box [(.bool bo5_0),(.int .i64 xo5_1),(.int .i64 xo5_2),(.int .i64 xo5_3),(.int .i64 xo5_4),(.int .i64 xo5_5)])))]⟩)
 (again ⟨[(0,(.list false [(.int .u64)] l0)),(3,(.ptr 3 0 0)),(4,(.int .i64 x4)),(5,(.ptr 5 0 0)),(6,(.int .i64 (Nd.r (z07 (IV.toInt (List.getD l0 (Int.toNat x6) default)))))),(9,(.int .i64 (IntKind.wrap IntKind.i64 (x9+1))))],[(3,(some (.box (Pt.cs p)))),(5,(some (.box [(.bool bo5_0),(.int .i64 xo5_1),(.int .i64 xo5_2),(.int .i64 xo5_3),(.int .i64 xo5_4),(.int .i64 xo5_5)])))]⟩))
 (cond (decide (Nd.f (z07 (IV.toInt (List.getD l0 (Int.toNat x6) default)))=ic 3))
 (cond (decide (Pt.p3 p≤Nd.a (z07 (IV.toInt (List.getD l0 (Int.toNat x6) default)))))
 (again ⟨[(0,(.list false [(.int .u64)] l0)),(3,(.ptr 3 0 0)),(4,(.int .i64 x4)),(5,(.ptr 5 0 0)),(6,(.int .i64 (Nd.l (z07 (IV.toInt (List.getD l0 (Int.toNat x6) default)))))),(9,(.int .i64 (IntKind.wrap IntKind.i64 (x9+1))))],[(3,(some (.box (Pt.cs p)))),(5,(some (.box [(.bool bo5_0),(.int .i64 xo5_1),(.int .i64 xo5_2),(.int .i64 xo5_3),(.int .i64 xo5_4),(.int .i64 xo5_5)])))]⟩)
 (again ⟨[(0,(.list false [(.int .u64)] l0)),(3,(.ptr 3 0 0)),(4,(.int .i64 x4)),(5,(.ptr 5 0 0)),(6,(.int .i64 (Nd.r (z07 (IV.toInt (List.getD l0 (Int.toNat x6) default)))))),(9,(.int .i64 (IntKind.wrap IntKind.i64 (x9+1))))],[(3,(some (.box (Pt.cs p)))),(5,(some (.box [(.bool bo5_0),(.int .i64 xo5_1),(.int .i64 xo5_2),(.int .i64 xo5_3),(.int .i64 xo5_4),(.int .i64 xo5_5)])))]⟩))
 none))))))
 none))
 (k (.exit 0) ⟨[(0,(.list false [(.int .u64)] l0)),(3,(.ptr 3 0 0)),(4,(.int .i64 x4)),(5,(.ptr 5 0 0)),(6,(.int .i64 x6)),(9,(.int .i64 x9))],[(3,(some (.box (Pt.cs p)))),(5,(some (.box [(.bool bo5_0),(.int .i64 xo5_1),(.int .i64 xo5_2),(.int .i64 xo5_3),(.int .i64 xo5_4),(.int .i64 xo5_5)])))]⟩)):=by kernel_rfl
theorem zhf (N:Nat) (p:Pt) (l0:List IV) (x4:Int) (x6:Int) (x9:Int) (bo5_0:Bool) (xo5_1:Int) (xo5_2:Int) (xo5_3:Int) (xo5_4:Int) (xo5_5:Int):(z08 0 (kSq (z26 N) (z0l z4b [1,1,1]) (z2w (z26 N) none [(ResultVar.tmp 4),(ResultVar.cell 5 87)] [[(.int .i64)],[.bool,(.int .i64),(.int .i64),(.int .i64),(.int .i64),(.int .i64)]]))) (.exit 0)
 ⟨[(0,(.list false [(.int .u64)] l0)),(3,(.ptr 3 0 0)),(4,(.int .i64 x4)),(5,(.ptr 5 0 0)),(6,(.int .i64 x6)),(9,(.int .i64 x9))],[(3,(some (.box (Pt.cs p)))),(5,(some (.box [(.bool bo5_0),(.int .i64 xo5_1),(.int .i64 xo5_2),(.int .i64 xo5_3),(.int .i64 xo5_4),(.int .i64 xo5_5)])))]⟩ =
 (some ((.tup [(.int .i64 (-1)),(.agg [(.bool false),(.int .i64 0),(.int .i64 0),(.int .i64 0),(.int .i64 0),(.int .i64 0)])]),[])):=by kernel_rfl
theorem zsa (N:Nat) (p:Pt) (l0:List IV) (x4:Int) (x6:Int) (x9:Int) (bo5_0:Bool) (xo5_1:Int) (xo5_2:Int) (xo5_3:Int) (xo5_4:Int) (xo5_5:Int):(z08 0 (kSq (z26 N) (z0l z4b [1,1,1]) (z2w (z26 N) none [(ResultVar.tmp 4),(ResultVar.cell 5 87)] [[(.int .i64)],[.bool,(.int .i64),(.int .i64),(.int .i64),(.int .i64),(.int .i64)]]))) .ret
 ⟨[(0,(.list false [(.int .u64)] l0)),(3,(.ptr 3 0 0)),(4,(.int .i64 x4)),(5,(.ptr 5 0 0)),(6,(.int .i64 x6)),(9,(.int .i64 x9))],[(3,(some (.box (Pt.cs p)))),(5,(some (.box [(.bool bo5_0),(.int .i64 xo5_1),(.int .i64 xo5_2),(.int .i64 xo5_3),(.int .i64 xo5_4),(.int .i64 xo5_5)])))]⟩ =
 (some ((.tup [(.int .i64 x4),(.agg [(.bool bo5_0),(.int .i64 xo5_1),(.int .i64 xo5_2),(.int .i64 xo5_3),(.int .i64 xo5_4),(.int .i64 xo5_5)])]),[])):=by kernel_rfl
def y0k (N:Nat):Env:=mkE [(106,ze0)] [] 15 N
theorem zz4 (N:Nat) (l:List IV) (p:Pt):z16 (y0k N) znu [.tmp 4] [[.int .i64]] [(.list false [.int .u64] l),(Pt.V p)] =
 (some ((.int .i64 (Nd.v (ycs l p))),[])):=by kernel_rfl
def z1n (N:Nat):Env:=mkE [(89,zao)] [(3,⟨[1,5,6,7,15,16,17],[5],[]⟩)] 33 N
theorem zxu (N:Nat) (m:Md) (classv:Int) (p:Pt):z16 (z1n N) z2z [.tmp 6] [[.int .i64]] [(Md.V m),(.int .i64 classv),(Pt.V p)] =
 (cond (decide (classv=ic 0))
 (lpE (z1n N) (z0l z2z [1,1,0,1,0,0]) ⟨[1,5,6,7,15,16,17],[5],[]⟩ N ⟨[(1,(.int .i64 classv)),(5,(.ptr 5 0 0)),(6,(.int .i64 0)),(7,(.int .i64 (Md.b0 m))),(15,(.list true z30 (Md.ts m))),(16,(.int .i64 (ic (List.length (Md.ts m))))),(17,(.int .i64 0))],[(5,(some (.box (Pt.cs p))))]⟩ (z08 0 (kSq (z1n N) (z0l z2z [1,1,1]) (z2w (z1n N) none [(ResultVar.tmp 6)] [[(.int .i64)]]))))
 (cond (decide (classv=ic 1))
 (lpE (z1n N) (z0l z2z [1,1,0,1,0,0]) ⟨[1,5,6,7,15,16,17],[5],[]⟩ N ⟨[(1,(.int .i64 classv)),(5,(.ptr 5 0 0)),(6,(.int .i64 0)),(7,(.int .i64 (Md.b1 m))),(15,(.list true z30 (Md.ts m))),(16,(.int .i64 (ic (List.length (Md.ts m))))),(17,(.int .i64 0))],[(5,(some (.box (Pt.cs p))))]⟩ (z08 0 (kSq (z1n N) (z0l z2z [1,1,1]) (z2w (z1n N) none [(ResultVar.tmp 6)] [[(.int .i64)]]))))
 (cond (decide (classv=ic 2))
 (lpE (z1n N) (z0l z2z [1,1,0,1,0,0]) ⟨[1,5,6,7,15,16,17],[5],[]⟩ N ⟨[(1,(.int .i64 classv)),(5,(.ptr 5 0 0)),(6,(.int .i64 0)),(7,(.int .i64 (Md.b2 m))),(15,(.list true z30 (Md.ts m))),(16,(.int .i64 (ic (List.length (Md.ts m))))),(17,(.int .i64 0))],[(5,(some (.box (Pt.cs p))))]⟩ (z08 0 (kSq (z1n N) (z0l z2z [1,1,1]) (z2w (z1n N) none [(ResultVar.tmp 6)] [[(.int .i64)]]))))
 none))):=by kernel_rfl
theorem zhm (N:Nat) (p:Pt) (x1:Int) (x6:Int) (x7:Int) (l15:List IV) (x16:Int) (x17:Int) (again:St→Res) (k:Out→St→Res):rnd (z1n N) (z0l z2z [1,1,0,1,0,0])
 ⟨[(1,(.int .i64 x1)),(5,(.ptr 5 0 0)),(6,(.int .i64 x6)),(7,(.int .i64 x7)),(15,(.list true z30 l15)),(16,(.int .i64 x16)),(17,(.int .i64 x17))],[(5,(some (.box (Pt.cs p))))]⟩
 (z57 again ⟨[1,5,6,7,15,16,17],[5],[]⟩ k) =
 (cond (decide (x17 < x16))
 (cond (decide (0≤x17)&&decide (x17 < ic (List.length l15)))
 (cond (IV.toInt (IV.cell (List.getD l15 (Int.toNat x17) default) 0)==x1)
 (again ⟨[(1,(.int .i64 x1)),(5,(.ptr 5 0 0)),(6,(.int .i64 x6)),(7,(.int .i64 (IntKind.wrap IntKind.i64 (x7+ziv (IV.toList (IV.cell (List.getD l15 (Int.toNat x17) default) 1)) p)))),(15,(.list true z30 l15)),(16,(.int .i64 x16)),(17,(.int .i64 (IntKind.wrap IntKind.i64 (x17+1))))],[(5,(some (.box (Pt.cs p))))]⟩)
 (again ⟨[(1,(.int .i64 x1)),(5,(.ptr 5 0 0)),(6,(.int .i64 x6)),(7,(.int .i64 x7)),(15,(.list true z30 l15)),(16,(.int .i64 x16)),(17,(.int .i64 (IntKind.wrap IntKind.i64 (x17+1))))],[(5,(some (.box (Pt.cs p))))]⟩))
 none)
 (k (.exit 0) ⟨[(1,(.int .i64 x1)),(5,(.ptr 5 0 0)),(6,(.int .i64 x6)),(7,(.int .i64 x7)),(15,(.list true z30 l15)),(16,(.int .i64 x16)),(17,(.int .i64 x17))],[(5,(some (.box (Pt.cs p))))]⟩)):=by kernel_rfl
theorem zn9 (N:Nat) (p:Pt) (x1:Int) (x6:Int) (x7:Int) (l15:List IV) (x16:Int) (x17:Int):(z08 0 (kSq (z1n N) (z0l z2z [1,1,1]) (z2w (z1n N) none [(ResultVar.tmp 6)] [[(.int .i64)]]))) (.exit 0)
 ⟨[(1,(.int .i64 x1)),(5,(.ptr 5 0 0)),(6,(.int .i64 x6)),(7,(.int .i64 x7)),(15,(.list true z30 l15)),(16,(.int .i64 x16)),(17,(.int .i64 x17))],[(5,(some (.box (Pt.cs p))))]⟩ =
 (some ((.int .i64 x7),[])):=by kernel_rfl
def y24 (N:Nat):Env:=mkE [(39,z1u),(70,za6)] [] 24 N
theorem zx3 (N:Nat) (m:Md) (classv:Int) (p:Pt):z16 (y24 N) zo5 [.tmp 6] [[.int .i64]] [(Md.V m),(.int .i64 classv),(Pt.V p)] =
 (cond (!z1s m)
 (some ((.int .i64 0),[]))
 (cond (decide (classv < 0))
 (some ((.int .i64 0),[]))
 (cond (decide (classv≥Md.c m))
 (some ((.int .i64 0),[]))
 (cond (z1s m&&zai m classv) (some ((.int .i64 (evF classv p (Md.ts m) (zb2 m classv))),[])) none)))):=by kernel_rfl
def y4s (N:Nat):Env:=mkE [(68,z6h)] [(2,⟨[2,5,6],[],[]⟩)] 12 N
def y95 (N:Nat):Env:=mkE [] [(3,⟨[1,2,3,5],[1,2,3],[]⟩)] 16 N
end Go.FM
