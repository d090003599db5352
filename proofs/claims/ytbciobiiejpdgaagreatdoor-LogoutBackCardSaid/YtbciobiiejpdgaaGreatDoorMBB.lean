/- Part 2 of what the proof stands on: Shelf, W18d, Urn, W18e, PatM, Pat, W17b, W18f, Uid, Fm, Xm, GkY, GkM, GkZ, GkO, GkN, Tk, Tre, W23a, W23b, Ms, GkW. -/
import Derived.Test.YtbciobiiejpdgaaGreatDoorMBA
import Derived.Shelf.Strings.Builder1
import Derived.Shelf.Strings.Builder2
import Derived.Shelf.Small.Utf8
import Derived.Shelf.Small.Strs
import Derived.Shelf.Small.Wraps
import Derived.Shelf.Utf8.RuneCount
import Derived.Shelf.Strconv.Atoi
import Derived.Shelf.Strconv.Itoa0
import Derived.Shelf.Strconv.Itoa1
import Derived.Shelf.LaysM
import Derived.Shelf.Strconv.Itoa2
import Derived.Shelf.Strconv.Itoa3
import Derived.Shelf.Strconv.AtoiErrFast
import Derived.Shelf.Strconv.ParseIntEmpty
import Derived.Shelf.Strconv.AtoiFail
import Derived.Shelf.Strconv.Clone
import Derived.Shelf.Strconv.SyntaxError
import Derived.Shelf.LaysC
import Derived.Shelf.Strconv.ToError
import Derived.Shelf.Strconv.Lower
import Derived.Shelf.Strconv.ParseUint10
import Derived.Shelf.Strconv.ParseUint10Empty
import Derived.Shelf.Strconv.ParseUint10Any
import Derived.Shelf.Strconv.ParseInt10
import Derived.Shelf.Strconv.AtoiLong
import Derived.Shelf.Strconv.AtoiInnerAll
import Derived.Shelf.Strconv.RangeError
import Derived.Shelf.Strconv.ToErrorRange
import Derived.Shelf.Strconv.AtoiAll
import Derived.Shelf.Strconv.ErrVarAll
import Derived.Shelf.Strings.Search1
import Derived.Shelf.Strings.Search2
import Derived.Shelf.Strings.Search3
import Derived.Shelf.Strings.Cut
import Derived.Shelf.Strings.Count
import Derived.Shelf.Strings.Shaped
import Derived.Shelf.Strings.Prefix
import Derived.Shelf.Strings.Split
import Derived.Shelf.Strings.Replace
import Derived.Shelf.Strings.SplitShaped
import Derived.Shelf.Unicode.Decode
import Derived.Shelf.Strings.Runes
import Derived.Shelf.Strings.RuneCount
import Derived.Shelf.Strings.IndexAny
import Derived.Shelf.Strings.AsciiSet
import Derived.Shelf.Strings.IndexAnyAll
import Derived.Shelf.Unicode.DecodeSlow
import Derived.Shelf.Unicode.DecodeAny
import Derived.Ground.Names2Prog
import Derived.Shelf.Slices.Clone
import Derived.Test.YtbciobiiejpdgaaGreatDoorProg
import Derived.Lib.CountLaws
import Derived.Lib.Split
import Derived.Lib.ItoaNum
import Derived.Lib.IndexBytes
import Derived.Test.YtbciobiiejpdgaaGreatDoorChecked
import Derived.Lib.Replace
import Derived.WideMake
import Derived.Below
import Derived.ChangeSame
import Derived.Carry
import Derived.ChangeSlices
import Derived.Deep.Strs
import Derived.DataElems
import Derived.Lib.LaidTab
import Derived.Lib.LazyBuf
set_option linter.unusedVariables false
set_option linter.unusedSimpArgs false
namespace Go.Proofs
open Go.Shelf
def Tryz.lays119_ren:Go.Shelf.Ren:=⟨fun | 119=>263 | n=>n,fun | 21=>21 | 4=>4 | n=>n,fun | n=>n⟩
theorem Tryz.lays119:Go.Proofs.Lays.n119 Tryz.prog Tryz.lays119_ren:={
 mixed:=by kernel_rfl
 f119:=Qf263.trans (congrArg some (by kernel_rfl))
 t4:=Qu4
 a4:=Qg4
 z4:=Qs4
 v4:=Qz4
 t21:=Qu21
 a21:=Qg21
 z21:=Qs21
 v21:=Qz21 }
theorem Tryz.utf8_ValidRune (r:Int) (w:World) :
  Calls Tryz.prog 263 #[.int .i32 r] w fun e w'=>e=.returned (.bool (Lib.validRune r))∧w'=w:=Any.utf8_ValidRune Tryz.lays119 r w
def Tryz.lays137_ren:Go.Shelf.Ren:=⟨fun | 137=>229 | 217=>260 | 266=>279 | n=>n,fun | 9=>9 | 5=>5 | 3=>3 | n=>n,fun | n=>n⟩
theorem Tryz.lays137:Go.Proofs.Lays.n137 Tryz.prog Tryz.lays137_ren:={
 mixed:=by kernel_rfl
 f137:=Qf229.trans (congrArg some (by kernel_rfl))
 f217:=Qf260.trans (congrArg some (by kernel_rfl))
 f266:=Qf279.trans (congrArg some (by kernel_rfl))
 t3:=Qu3
 a3:=Qg3
 z3:=Qs3
 v3:=Qz3
 t5:=Qu5
 a5:=Qg5
 z5:=Qs5
 v5:=Qz5
 t9:=Qu9
 a9:=Qg9
 z9:=Qs9
 v9:=Qz9 }
open Go.RowKit in
theorem Tryz.strings_IndexByte (s:ByteArray) (c:Int) (w:World) :
  Calls Tryz.prog 229 #[.string s,.int .u8 c] w fun e w'=>e=.returned (.int .i64 (Lib.indexByte s.data.toList c.toNat.toUInt8))∧w'=w:=Any.strings_IndexByte Tryz.lays137 s c w
def Tryz.lays103_ren:Go.Shelf.Ren:=⟨fun | 103=>190 | 210=>232 | 206=>195 | n=>n,fun | 9=>9 | 4=>4 | 24=>57 | 3=>3 | n=>n,fun | n=>n⟩
theorem Tryz.lays103:Go.Proofs.Lays.n103 Tryz.prog Tryz.lays103_ren:={
 mixed:=by kernel_rfl
 f103:=Tryz.func190.trans (congrArg some (by kernel_rfl))
 f206:=Tryz.func195.trans (congrArg some (by kernel_rfl))
 f210:=Tryz.func232.trans (congrArg some (by kernel_rfl))
 t3:=Qu3
 a3:=Qg3
 z3:=Qs3
 v3:=Qz3
 t4:=Qu4
 a4:=Qg4
 z4:=Qs4
 v4:=Qz4
 t9:=Qu9
 a9:=Qg9
 z9:=Qs9
 v9:=Qz9
 t24:=Tryz.underlying57
 a24:=Tryz.isAgg57
 z24:=Tryz.sizeOf57
 v24:=Tryz.zeroValue57 }
open Go.RowKit in
theorem Tryz.strings_CutPrefix (s p:ByteArray) (w:World) :
  Calls Tryz.prog 190 #[.string s,.string p] w fun e w'=>e=.returned (.tuple #[.string ⟨(Lib.trimPrefix s.data.toList p.data.toList).toArray⟩,.bool (Lib.hasPrefix s.data.toList p.data.toList)])∧w'=w:=Any.strings_CutPrefix Tryz.lays103 s p w
def Tryz.laysM171_ren:Go.Shelf.Ren:=⟨fun | 171=>67 | 243=>112 | 246=>157 | 283=>204 | 284=>205 | 285=>206 | 286=>207 | 129=>245 | 317=>244 | 318=>246 | 319=>247 | 320=>248 | 337=>270 | 338=>271 | n=>n,fun | 3=>3 | 9=>9 | 2=>2 | 4=>4 | 171=>266 | 0=>0 | 53=>62 | 37=>121 | 5=>5 | 173=>269 | 212=>307 | 51=>308 | 20=>20 | 213=>309 | 46=>122 | 232=>328 | 233=>329 | n=>n,fun | 17=>5 | 18=>7 | 19=>8 | n=>n⟩
theorem Tryz.laysM171:Go.Proofs.LaysM.n171 Tryz.prog Tryz.laysM171_ren:={
 mixed:=by kernel_rfl
 f129:=Tryz.func245.trans (congrArg some (by kernel_rfl))
 f171:=Qf67.trans (congrArg some (by kernel_rfl))
 f243:=Tryz.func112.trans (congrArg some (by kernel_rfl))
 f246:=Tryz.func157.trans (congrArg some (by kernel_rfl))
 f283:=Tryz.func204.trans (congrArg some (by kernel_rfl))
 f284:=Tryz.func205.trans (congrArg some (by kernel_rfl))
 f285:=Tryz.func206.trans (congrArg some (by kernel_rfl))
 f286:=Tryz.func207.trans (congrArg some (by kernel_rfl))
 f317:=Tryz.func244.trans (congrArg some (by kernel_rfl))
 f318:=Tryz.func246.trans (congrArg some (by kernel_rfl))
 f319:=Tryz.func247.trans (congrArg some (by kernel_rfl))
 f320:=Tryz.func248.trans (congrArg some (by kernel_rfl))
 f337:=Tryz.func270.trans (congrArg some (by kernel_rfl))
 f338:=Tryz.func271.trans (congrArg some (by kernel_rfl))
 t0:=Qu0
 a0:=Qg0
 z0:=Qs0
 v0:=Qz0
 t2:=Tryz.underlying2
 a2:=Tryz.isAgg2
 z2:=Tryz.sizeOf2
 v2:=Tryz.zeroValue2
 t3:=Qu3
 a3:=Qg3
 z3:=Qs3
 v3:=Qz3
 t4:=Qu4
 a4:=Qg4
 z4:=Qs4
 v4:=Qz4
 t5:=Qu5
 a5:=Qg5
 z5:=Qs5
 v5:=Qz5
 t9:=Qu9
 a9:=Qg9
 z9:=Qs9
 v9:=Qz9
 t20:=Qu20
 a20:=Tryz.isAgg20
 z20:=Tryz.sizeOf20
 v20:=Qz20
 t37:=X20
 a37:=X6v
 z37:=X5d
 v37:=Xe9
 t46:=Xa6
 a46:=X9y
 z46:=X9t
 v46:=Xad
 t51:=Xdg
 a51:=Xcx
 z51:=Xdf
 v51:=Xdk
 t53:=Qu62
 a53:=Tryz.isAgg62
 z53:=Tryz.sizeOf62
 v53:=Tryz.zeroValue62
 t171:=Tryz.underlying266
 a171:=Tryz.isAgg266
 z171:=Tryz.sizeOf266
 v171:=Tryz.zeroValue266
 t173:=Tryz.underlying269
 a173:=Tryz.isAgg269
 z173:=Tryz.sizeOf269
 v173:=Tryz.zeroValue269
 t212:=Xf8
 a212:=Tryz.isAgg307
 z212:=Tryz.sizeOf307
 v212:=Tryz.zeroValue307
 t213:=Tryz.underlying309
 a213:=Tryz.isAgg309
 z213:=Tryz.sizeOf309
 t232:=Tryz.underlying328
 a232:=Tryz.isAgg328
 z232:=Tryz.sizeOf328
 v232:=Tryz.zeroValue328
 t233:=Tryz.underlying329
 a233:=Tryz.isAgg329
 z233:=Tryz.sizeOf329
 v233:=Tryz.zeroValue329
 g17:=by kernel_rfl
 g18:=by kernel_rfl
 g19:=by kernel_rfl
 i0:=by kernel_rfl
 i2:=by kernel_rfl
 i3:=by kernel_rfl
 i4:=by kernel_rfl
 i5:=by kernel_rfl
 i9:=by kernel_rfl
 i20:=by kernel_rfl
 i37:=by kernel_rfl
 i46:=by kernel_rfl
 i51:=by kernel_rfl
 i53:=by kernel_rfl
 i171:=by kernel_rfl
 i173:=by kernel_rfl
 i212:=by kernel_rfl
 i232:=by kernel_rfl
 i233:=by kernel_rfl
 m17:=by kernel_rfl
 m18:=by kernel_rfl
 m19:=by kernel_rfl }
open Go.RowKit Go.Sort Go.Lib in
theorem Tryz.strconv_Itoa (n : Int) (h0 : -9223372036854775808 ≤ n) (h1 : n ≤ 9223372036854775807) (w : World) (htab : Lib.TabIs Tryz.prog w "internal/strconv.uint64pow10" .u64 Lib.pow10Tab) :
  Calls Tryz.prog 67 #[.int .i64 n] w fun e w'=>e=.returned (.string ⟨(Lib.itoa n).toArray⟩)∧∃ k os,w'=grow (w.drewN k) os:=Any.strconv_Itoa Tryz.laysM171 n h0 h1 w htab
def Tryz.laysC172_ren:Go.Shelf.Ren:=⟨fun | 172=>65 | 244=>108 | 245=>109 | 247=>150 | 279=>151 | 280=>152 | 281=>153 | 282=>154 | 287=>199 | 316=>200 | 171=>67 | 205=>201 | 321=>240 | 322=>241 | 243=>112 | 246=>157 | 283=>204 | 284=>205 | 285=>206 | 286=>207 | 129=>245 | 317=>244 | 318=>246 | 319=>247 | 320=>248 | 337=>270 | 338=>271 | n=>n,fun | 9=>9 | 3=>3 | 75=>132 | 76=>133 | 4=>4 | 5=>5 | 167=>222 | 37=>121 | 0=>0 | 85=>223 | 2=>2 | 168=>225 | 53=>62 | 175=>260 | 46=>122 | 210=>263 | 127=>228 | 145=>301 | 143=>299 | 21=>21 | 171=>266 | 173=>269 | 212=>307 | 51=>308 | 20=>20 | 213=>309 | 232=>328 | 233=>329 | 80=>180 | n=>n,fun | 15=>3 | 16=>4 | 17=>5 | 18=>7 | 19=>8 | n=>n⟩
theorem Tryz.laysC172:Go.Proofs.LaysC.n172 Tryz.prog Tryz.laysC172_ren:={
 mixed:=by kernel_rfl
 f129:=Tryz.func245.trans (congrArg some (by kernel_rfl))
 f171:=Qf67.trans (congrArg some (by kernel_rfl))
 f172:=Tryz.func65.trans (congrArg some (by kernel_rfl))
 f205:=Tryz.func201.trans (congrArg some (by kernel_rfl))
 f243:=Tryz.func112.trans (congrArg some (by kernel_rfl))
 f244:=Tryz.func108.trans (congrArg some (by kernel_rfl))
 f245:=Tryz.func109.trans (congrArg some (by kernel_rfl))
 f246:=Tryz.func157.trans (congrArg some (by kernel_rfl))
 f247:=Tryz.func150.trans (congrArg some (by kernel_rfl))
 f279:=Tryz.func151.trans (congrArg some (by kernel_rfl))
 f280:=Tryz.func152.trans (congrArg some (by kernel_rfl))
 f281:=Tryz.func153.trans (congrArg some (by kernel_rfl))
 f282:=Tryz.func154.trans (congrArg some (by kernel_rfl))
 f283:=Tryz.func204.trans (congrArg some (by kernel_rfl))
 f284:=Tryz.func205.trans (congrArg some (by kernel_rfl))
 f285:=Tryz.func206.trans (congrArg some (by kernel_rfl))
 f286:=Tryz.func207.trans (congrArg some (by kernel_rfl))
 f287:=Tryz.func199.trans (congrArg some (by kernel_rfl))
 f316:=Tryz.func200.trans (congrArg some (by kernel_rfl))
 f317:=Tryz.func244.trans (congrArg some (by kernel_rfl))
 f318:=Tryz.func246.trans (congrArg some (by kernel_rfl))
 f319:=Tryz.func247.trans (congrArg some (by kernel_rfl))
 f320:=Tryz.func248.trans (congrArg some (by kernel_rfl))
 f321:=Tryz.func240.trans (congrArg some (by kernel_rfl))
 f322:=Tryz.func241.trans (congrArg some (by kernel_rfl))
 f337:=Tryz.func270.trans (congrArg some (by kernel_rfl))
 f338:=Tryz.func271.trans (congrArg some (by kernel_rfl))
 t0:=Qu0
 a0:=Qg0
 z0:=Qs0
 v0:=Qz0
 t2:=Tryz.underlying2
 a2:=Tryz.isAgg2
 z2:=Tryz.sizeOf2
 v2:=Tryz.zeroValue2
 t3:=Qu3
 a3:=Qg3
 z3:=Qs3
 v3:=Qz3
 t4:=Qu4
 a4:=Qg4
 z4:=Qs4
 v4:=Qz4
 t5:=Qu5
 a5:=Qg5
 z5:=Qs5
 v5:=Qz5
 t9:=Qu9
 a9:=Qg9
 z9:=Qs9
 v9:=Qz9
 t20:=Qu20
 a20:=Tryz.isAgg20
 z20:=Tryz.sizeOf20
 v20:=Qz20
 t21:=Qu21
 a21:=Qg21
 z21:=Qs21
 v21:=Qz21
 t37:=X20
 a37:=X6v
 z37:=X5d
 v37:=Xe9
 t46:=Xa6
 a46:=X9y
 z46:=X9t
 v46:=Xad
 t51:=Xdg
 a51:=Xcx
 z51:=Xdf
 v51:=Xdk
 t53:=Qu62
 a53:=Tryz.isAgg62
 z53:=Tryz.sizeOf62
 v53:=Tryz.zeroValue62
 t75:=Xer
 a75:=Tryz.isAgg132
 z75:=Tryz.sizeOf132
 v75:=Tryz.zeroValue132
 t76:=Tryz.underlying133
 a76:=Tryz.isAgg133
 z76:=Tryz.sizeOf133
 v76:=Tryz.zeroValue133
 t85:=Tryz.underlying223
 a85:=Tryz.isAgg223
 z85:=Tryz.sizeOf223
 v85:=Tryz.zeroValue223
 t127:=Xf2
 a127:=Tryz.isAgg228
 z127:=Tryz.sizeOf228
 v127:=Tryz.zeroValue228
 t143:=Tryz.underlying299
 a143:=Tryz.isAgg299
 z143:=Tryz.sizeOf299
 v143:=Tryz.zeroValue299
 t145:=Tryz.underlying301
 a145:=Tryz.isAgg301
 z145:=Tryz.sizeOf301
 v145:=Tryz.zeroValue301
 t167:=Tryz.underlying222
 a167:=Tryz.isAgg222
 z167:=Tryz.sizeOf222
 v167:=Tryz.zeroValue222
 t168:=Tryz.underlying225
 a168:=Tryz.isAgg225
 z168:=Tryz.sizeOf225
 v168:=Tryz.zeroValue225
 t171:=Tryz.underlying266
 a171:=Tryz.isAgg266
 z171:=Tryz.sizeOf266
 v171:=Tryz.zeroValue266
 t173:=Tryz.underlying269
 a173:=Tryz.isAgg269
 z173:=Tryz.sizeOf269
 v173:=Tryz.zeroValue269
 t175:=Tryz.underlying260
 a175:=Tryz.isAgg260
 z175:=Tryz.sizeOf260
 v175:=Tryz.zeroValue260
 t210:=Tryz.underlying263
 a210:=Tryz.isAgg263
 z210:=Tryz.sizeOf263
 v210:=Tryz.zeroValue263
 t212:=Xf8
 a212:=Tryz.isAgg307
 z212:=Tryz.sizeOf307
 v212:=Tryz.zeroValue307
 t213:=Tryz.underlying309
 a213:=Tryz.isAgg309
 z213:=Tryz.sizeOf309
 t232:=Tryz.underlying328
 a232:=Tryz.isAgg328
 z232:=Tryz.sizeOf328
 v232:=Tryz.zeroValue328
 t233:=Tryz.underlying329
 a233:=Tryz.isAgg329
 z233:=Tryz.sizeOf329
 v233:=Tryz.zeroValue329
 g15:=by kernel_rfl
 g16:=by kernel_rfl
 g17:=by kernel_rfl
 g18:=by kernel_rfl
 g19:=by kernel_rfl
 t80:=Tryz.underlying180
 a80:=Tryz.isAgg180
 z80:=Tryz.sizeOf180
 v80:=Tryz.zeroValue180
 i0:=by kernel_rfl
 i2:=by kernel_rfl
 i3:=by kernel_rfl
 i4:=by kernel_rfl
 i5:=by kernel_rfl
 i9:=by kernel_rfl
 i20:=by kernel_rfl
 i21:=by kernel_rfl
 i37:=by kernel_rfl
 i46:=by kernel_rfl
 i51:=by kernel_rfl
 i53:=by kernel_rfl
 i75:=by kernel_rfl
 i76:=by kernel_rfl
 i80:=by kernel_rfl
 i85:=by kernel_rfl
 i127:=by kernel_rfl
 i143:=by kernel_rfl
 i145:=by kernel_rfl
 i167:=by kernel_rfl
 i168:=by kernel_rfl
 i171:=by kernel_rfl
 i173:=by kernel_rfl
 i175:=by kernel_rfl
 i210:=by kernel_rfl
 i212:=by kernel_rfl
 i232:=by kernel_rfl
 i233:=by kernel_rfl
 m15:=by kernel_rfl
 m16:=by kernel_rfl
 m17:=by kernel_rfl
 m18:=by kernel_rfl
 m19:=by kernel_rfl
 c0:=by kernel_rfl
 c2:=by kernel_rfl
 c3:=by kernel_rfl
 c4:=by kernel_rfl
 c5:=by kernel_rfl
 c9:=by kernel_rfl
 c20:=by kernel_rfl
 c21:=by kernel_rfl
 c37:=by kernel_rfl
 c46:=by kernel_rfl
 c51:=by kernel_rfl
 c53:=by kernel_rfl
 c75:=by kernel_rfl
 c76:=by kernel_rfl
 c80:=by kernel_rfl
 c85:=by kernel_rfl
 c127:=by kernel_rfl
 c143:=by kernel_rfl
 c145:=by kernel_rfl
 c167:=by kernel_rfl
 c168:=by kernel_rfl
 c171:=by kernel_rfl
 c173:=by kernel_rfl
 c175:=by kernel_rfl
 c210:=by kernel_rfl
 c212:=by kernel_rfl
 c213:=by kernel_rfl
 c232:=by kernel_rfl
 c233:=by kernel_rfl }
open Go.RowKit in
theorem Tryz.strconv_Atoi_ok (s:ByteArray) (hmax:s.size≤9223372036854775806) (v:Int) (h:Lib.atoiAll s.data.toList=.ok v) (w:World) :
  Calls Tryz.prog 65 #[.string s] w fun e w'=>e=.returned (.tuple #[.int .i64 v,.nilIface])∧(w'=w∨∃ t,w'=Lib.bytesWorld w 5 t):=Any.strconv_Atoi_ok Tryz.laysC172 s hmax v h w
open Go.RowKit in
theorem Tryz.strconv_Atoi_range (s:ByteArray) (hlim:s.size≤281474976710656) (h:Lib.atoiAll s.data.toList=.range) (ev:Value) (w:World) (hv:w.cell? ⟨4,0,none⟩=some ev) (hev:ev=.nilIface∨∃ te pe,ev=.iface te pe) :
  Calls Tryz.prog 65 #[.string s] w fun e w'=>∃ N,e=.returned (.tuple #[.int .i64 (Lib.atoiSat s.data.toList),.iface 225 (.pointer (some ⟨N,0,none⟩))])∧w.heap.size≤N∧w'.heap[N]?=some (.cells #[.string ⟨#[65,116,111,105]⟩,.string s,ev] 263 (0,0))∧Below w.heap.size w w':=Any.strconv_Atoi_range Tryz.laysC172 s hlim h ev w hv hev
def Tryz.lays145_ren:Go.Shelf.Ren:=⟨fun | 145=>187 | 220=>228 | 219=>259 | 217=>260 | 225=>265 | 224=>264 | 267=>278 | 266=>279 | 314=>290 | n=>n,fun | 9=>9 | 4=>4 | 59=>250 | 3=>3 | 5=>5 | 46=>122 | 146=>334 | 51=>308 | n=>n,fun | 1=>6 | n=>n⟩
theorem Tryz.lays145:Go.Proofs.Lays.n145 Tryz.prog Tryz.lays145_ren:={
 mixed:=by kernel_rfl
 f145:=Tryz.func187.trans (congrArg some (by kernel_rfl))
 f217:=Qf260.trans (congrArg some (by kernel_rfl))
 f219:=Tryz.func259.trans (congrArg some (by kernel_rfl))
 f220:=Tryz.func228.trans (congrArg some (by kernel_rfl))
 f224:=Qf264.trans (congrArg some (by kernel_rfl))
 f225:=Qf265.trans (congrArg some (by kernel_rfl))
 f266:=Qf279.trans (congrArg some (by kernel_rfl))
 f267:=Tryz.func278.trans (congrArg some (by kernel_rfl))
 f314:=Tryz.func290.trans (congrArg some (by kernel_rfl))
 t3:=Qu3
 a3:=Qg3
 z3:=Qs3
 v3:=Qz3
 t4:=Qu4
 a4:=Qg4
 z4:=Qs4
 v4:=Qz4
 t5:=Qu5
 a5:=Qg5
 z5:=Qs5
 v5:=Qz5
 t9:=Qu9
 a9:=Qg9
 z9:=Qs9
 v9:=Qz9
 t46:=Xa6
 a46:=X9y
 z46:=X9t
 v46:=Xad
 t51:=Xdg
 a51:=Xcx
 z51:=Xdf
 v51:=Xdk
 t59:=Tryz.underlying250
 a59:=Tryz.isAgg250
 z59:=Tryz.sizeOf250
 v59:=Tryz.zeroValue250
 t146:=Tryz.underlying334
 a146:=Tryz.isAgg334
 z146:=Tryz.sizeOf334
 v146:=Tryz.zeroValue334
 g1:=by kernel_rfl }
open Go.RowKit Go.Lib in
theorem Tryz.strings_Cut (s sep:ByteArray) (m:Int) (w:World) (hs:s.size<4294967281) (hm:w.cell? ⟨6,0,none⟩=some (.int .i64 m)) :
  Calls Tryz.prog 187 #[.string s,.string sep] w fun e w'=>e=.returned (.tuple #[.string ⟨(Lib.cut s.data.toList sep.data.toList).1.toArray⟩,.string ⟨(Lib.cut s.data.toList sep.data.toList).2.1.toArray⟩,.bool (Lib.cut s.data.toList sep.data.toList).2.2])∧∃ n,w'=w.drewN n:=Any.strings_Cut Tryz.lays145 s sep m w hs hm
def Tryz.lays155_ren:Go.Shelf.Ren:=⟨fun | 155=>203 | 154=>243 | 138=>266 | 165=>267 | 143=>268 | 166=>155 | 197=>269 | 169=>111 | 195=>283 | 218=>284 | 240=>202 | 241=>285 | 219=>259 | 260=>286 | 276=>242 | 277=>294 | 217=>260 | 225=>265 | 224=>264 | 267=>278 | 266=>279 | 314=>290 | n=>n,fun | 9=>9 | 3=>3 | 4=>4 | 72=>178 | 0=>0 | 76=>133 | 105=>320 | 21=>21 | 5=>5 | 70=>176 | 20=>20 | 37=>121 | 75=>132 | 127=>228 | 164=>302 | 46=>122 | 119=>338 | 139=>341 | 138=>340 | 146=>334 | 51=>308 | 80=>180 | n=>n,fun | 1=>6 | 3=>10 | 4=>11 | n=>n⟩
theorem Tryz.lays155:Go.Proofs.Lays.n155 Tryz.prog Tryz.lays155_ren:={
 mixed:=by kernel_rfl
 f138:=Tryz.func266.trans (congrArg some (by kernel_rfl))
 f143:=Tryz.func268.trans (congrArg some (by kernel_rfl))
 f154:=Tryz.func243.trans (congrArg some (by kernel_rfl))
 f155:=Tryz.func203.trans (congrArg some (by kernel_rfl))
 f165:=Tryz.func267.trans (congrArg some (by kernel_rfl))
 f166:=Qf155.trans (congrArg some (by kernel_rfl))
 f169:=Qf111.trans (congrArg some (by kernel_rfl))
 f195:=Tryz.func283.trans (congrArg some (by kernel_rfl))
 f197:=Tryz.func269.trans (congrArg some (by kernel_rfl))
 f217:=Qf260.trans (congrArg some (by kernel_rfl))
 f218:=Tryz.func284.trans (congrArg some (by kernel_rfl))
 f219:=Tryz.func259.trans (congrArg some (by kernel_rfl))
 f224:=Qf264.trans (congrArg some (by kernel_rfl))
 f225:=Qf265.trans (congrArg some (by kernel_rfl))
 f240:=Qf202.trans (congrArg some (by kernel_rfl))
 f241:=Tryz.func285.trans (congrArg some (by kernel_rfl))
 f260:=Tryz.func286.trans (congrArg some (by kernel_rfl))
 f266:=Qf279.trans (congrArg some (by kernel_rfl))
 f267:=Tryz.func278.trans (congrArg some (by kernel_rfl))
 f276:=Tryz.func242.trans (congrArg some (by kernel_rfl))
 f277:=Tryz.func294.trans (congrArg some (by kernel_rfl))
 f314:=Tryz.func290.trans (congrArg some (by kernel_rfl))
 t0:=Qu0
 a0:=Qg0
 z0:=Qs0
 v0:=Qz0
 t3:=Qu3
 a3:=Qg3
 z3:=Qs3
 v3:=Qz3
 t4:=Qu4
 a4:=Qg4
 z4:=Qs4
 v4:=Qz4
 t5:=Qu5
 a5:=Qg5
 z5:=Qs5
 v5:=Qz5
 t9:=Qu9
 a9:=Qg9
 z9:=Qs9
 v9:=Qz9
 t20:=Qu20
 a20:=Tryz.isAgg20
 z20:=Tryz.sizeOf20
 v20:=Qz20
 t21:=Qu21
 a21:=Qg21
 z21:=Qs21
 v21:=Qz21
 t37:=X20
 a37:=X6v
 z37:=X5d
 v37:=Xe9
 t46:=Xa6
 a46:=X9y
 z46:=X9t
 v46:=Xad
 t51:=Xdg
 a51:=Xcx
 z51:=Xdf
 v51:=Xdk
 t70:=Xa1
 a70:=Xcb
 z70:=Xa9
 v70:=Tryz.zeroValue176
 t72:=X4p
 a72:=Tryz.isAgg178
 z72:=Tryz.sizeOf178
 v72:=Xfa
 t75:=Xer
 a75:=Tryz.isAgg132
 z75:=Tryz.sizeOf132
 v75:=Tryz.zeroValue132
 t76:=Tryz.underlying133
 a76:=Tryz.isAgg133
 z76:=Tryz.sizeOf133
 v76:=Tryz.zeroValue133
 t105:=Tryz.underlying320
 a105:=Tryz.isAgg320
 z105:=Tryz.sizeOf320
 v105:=Tryz.zeroValue320
 t119:=Tryz.underlying338
 a119:=Tryz.isAgg338
 z119:=Tryz.sizeOf338
 t127:=Xf2
 a127:=Tryz.isAgg228
 z127:=Tryz.sizeOf228
 v127:=Tryz.zeroValue228
 t138:=Tryz.underlying340
 a138:=Tryz.isAgg340
 z138:=Tryz.sizeOf340
 v138:=Tryz.zeroValue340
 t139:=Tryz.underlying341
 a139:=Tryz.isAgg341
 z139:=Tryz.sizeOf341
 v139:=Tryz.zeroValue341
 t146:=Tryz.underlying334
 a146:=Tryz.isAgg334
 z146:=Tryz.sizeOf334
 v146:=Tryz.zeroValue334
 t164:=Xfh
 a164:=Tryz.isAgg302
 z164:=Tryz.sizeOf302
 v164:=Tryz.zeroValue302
 g1:=by kernel_rfl
 g3:=by kernel_rfl
 g4:=by kernel_rfl }
theorem Tryz.Builder_Extra_155:Builder.Extra Tryz.prog Tryz.lays155_ren:={
 sizeBuilder:=by kernel_rfl
 liesBuilder:=by kernel_rfl
 t5:=Qu5
 a5:=Qg5
 z5:=Qs5
 v5:=Qz5
 infoByte:=by kernel_rfl
 cellsByte:=by kernel_rfl
 sizeByte:=by kernel_rfl
 neB5:=by decide }
open Go.RowKit Go.Lib in
theorem Tryz.strings_ReplaceAll (s old new:ByteArray) (m:Int) (w:World) (hs:s.size<4294967281) (hm:w.cell? ⟨6,0,none⟩=some (.int .i64 m)) (h1:1≤old.size) (hlen:s.size+Lib.countB s old*new.size≤140737488355328) :
  Calls Tryz.prog 203 #[.string s,.string old,.string new] w fun e w' =>
   e=.returned (.string ⟨(Lib.replaceAll s.data.toList old.data.toList new.data.toList).toArray⟩)∧Below w.heap.size w w':=Any.strings_ReplaceAll Tryz.lays155 Tryz.Builder_Extra_155 s old new m w hs hm h1 hlen
def Tryz.lays152_ren:Go.Shelf.Ren:=⟨fun | 152=>233 | 137=>229 | 119=>263 | 224=>264 | 225=>265 | 217=>260 | 266=>279 | n=>n,fun | 9=>9 | 21=>21 | 3=>3 | 4=>4 | 5=>5 | 0=>0 | 46=>122 | n=>n,fun | n=>n⟩
theorem Tryz.lays152:Go.Proofs.Lays.n152 Tryz.prog Tryz.lays152_ren:={
 mixed:=by kernel_rfl
 f119:=Qf263.trans (congrArg some (by kernel_rfl))
 f137:=Qf229.trans (congrArg some (by kernel_rfl))
 f152:=Qf233.trans (congrArg some (by kernel_rfl))
 f217:=Qf260.trans (congrArg some (by kernel_rfl))
 f224:=Qf264.trans (congrArg some (by kernel_rfl))
 f225:=Qf265.trans (congrArg some (by kernel_rfl))
 f266:=Qf279.trans (congrArg some (by kernel_rfl))
 t0:=Qu0
 a0:=Qg0
 z0:=Qs0
 v0:=Qz0
 t3:=Qu3
 a3:=Qg3
 z3:=Qs3
 v3:=Qz3
 t4:=Qu4
 a4:=Qg4
 z4:=Qs4
 v4:=Qz4
 t5:=Qu5
 a5:=Qg5
 z5:=Qs5
 v5:=Qz5
 t9:=Qu9
 a9:=Qg9
 z9:=Qs9
 v9:=Qz9
 t21:=Qu21
 a21:=Qg21
 z21:=Qs21
 v21:=Qz21
 t46:=Xa6
 a46:=X9y
 z46:=X9t
 v46:=Xad }
open Go.RowKit Go.Lib in
theorem Tryz.strings_IndexRune_ascii (s:ByteArray) (r:Int) (w:World) (h0:0≤r) (h1:r<128) :
  Calls Tryz.prog 233 #[.string s,.int .i32 r] w fun e w'=>e=.returned (.int .i64 (Lib.indexByte s.data.toList r.toNat.toUInt8))∧w'=w:=Any.strings_IndexRune_ascii Tryz.lays152 s r w h0 h1
def Tryz.lays153_ren:Go.Shelf.Ren:=⟨fun | 153=>191 | 152=>233 | 226=>234 | 227=>235 | 228=>236 | 137=>229 | 119=>263 | 224=>264 | 225=>265 | 217=>260 | 266=>279 | n=>n,fun | 9=>9 | 3=>3 | 4=>4 | 5=>5 | 21=>21 | 117=>296 | 116=>295 | 0=>0 | 46=>122 | 124=>319 | n=>n,fun | n=>n⟩
theorem Tryz.lays153:Go.Proofs.Lays.n153 Tryz.prog Tryz.lays153_ren:={
 mixed:=by kernel_rfl
 f119:=Qf263.trans (congrArg some (by kernel_rfl))
 f137:=Qf229.trans (congrArg some (by kernel_rfl))
 f152:=Qf233.trans (congrArg some (by kernel_rfl))
 f153:=Qf191.trans (congrArg some (by kernel_rfl))
 f217:=Qf260.trans (congrArg some (by kernel_rfl))
 f224:=Qf264.trans (congrArg some (by kernel_rfl))
 f225:=Qf265.trans (congrArg some (by kernel_rfl))
 f226:=Tryz.func234.trans (congrArg some (by kernel_rfl))
 f227:=Tryz.func235.trans (congrArg some (by kernel_rfl))
 f228:=Tryz.func236.trans (congrArg some (by kernel_rfl))
 f266:=Qf279.trans (congrArg some (by kernel_rfl))
 t0:=Qu0
 a0:=Qg0
 z0:=Qs0
 v0:=Qz0
 t3:=Qu3
 a3:=Qg3
 z3:=Qs3
 v3:=Qz3
 t4:=Qu4
 a4:=Qg4
 z4:=Qs4
 v4:=Qz4
 t5:=Qu5
 a5:=Qg5
 z5:=Qs5
 v5:=Qz5
 t9:=Qu9
 a9:=Qg9
 z9:=Qs9
 v9:=Qz9
 t21:=Qu21
 a21:=Qg21
 z21:=Qs21
 v21:=Qz21
 t46:=Xa6
 a46:=X9y
 z46:=X9t
 v46:=Xad
 t116:=Tryz.underlying295
 a116:=Tryz.isAgg295
 z116:=Tryz.sizeOf295
 t117:=Tryz.underlying296
 a117:=Tryz.isAgg296
 z117:=Tryz.sizeOf296
 v117:=Tryz.zeroValue296
 t124:=Tryz.underlying319
 a124:=Tryz.isAgg319
 z124:=Tryz.sizeOf319
 v124:=Tryz.zeroValue319 }
open Go.RowKit Go.Lib in
theorem Tryz.strings_IndexAny_one (s chars:ByteArray) (w:World) (h1:chars.size=1) (hascii:∀ (j:Nat) b,chars.data.toList[j]?=some b→b.toNat<128) :
  Calls Tryz.prog 191 #[.string s,.string chars] w fun e w'=>e=.returned (.int .i64 (Lib.indexAny s.data.toList chars.data.toList))∧w'=w:=Any.strings_IndexAny_one Tryz.lays153 s chars w h1 hascii
open Go.RowKit Go.Lib in
theorem Tryz.strings_IndexAny_long (hv116:∀ w,(zeroValue 295).run Tryz.prog w=.ok (.agg (Array.replicate 256 (.bool false))) w) (s chars:ByteArray) (w:World) (h2:2≤chars.size) (h8:8<s.size) (hs:s.size<4294967281) (hcs:chars.size<4294967281) (hascii:∀ (j:Nat) b,chars.data.toList[j]?=some b→b.toNat<128) :
  Calls Tryz.prog 191 #[.string s,.string chars] w fun e w'=>e=.returned (.int .i64 (Lib.indexAny s.data.toList chars.data.toList))∧w'=((w.alloc (.cells (Lib.setCells chars.data.toList) 295)).alloc (.cells (Lib.setCells chars.data.toList) 295)):=Any.strings_IndexAny_long Tryz.lays153 hv116 (by kernel_rfl) s chars w h2 h8 hs hcs hascii
end Go.Proofs
namespace Go.Proofs.YtbciobiiejpdgaaGreatDoor
open Gk Pc Ul
theorem X2y (s:List UInt8) (c:UInt8) (w:World):Calls Tryz.prog 229 [S s,U8 c.toNat].toArray w (Ret fun v w'=>v=I64 (Go.Lib.indexByte s c)∧w=w') :=
 (Tryz.strings_IndexByte ⟨s.toArray⟩ c.toNat w).mono fun e w' he=>by
  obtain ⟨rfl,rfl⟩:=he
  refine ⟨_,rfl,?_,rfl⟩
  congr 2
  simp
end Go.Proofs.YtbciobiiejpdgaaGreatDoor
namespace Ul
open Pc Gk
def spl:List UInt8→List (List UInt8)
 | []=>[[]]
 | c::r=>if c=47 then []::spl r else match spl r with
  | []=>[[c]]
  | h::t=>(c::h)::t
def keep (k:List (List UInt8)) (x:List UInt8):List (List UInt8):=if x=[46] then k else if x=[46,46] then k.dropLast else k ++ [x]
def Xeb (k:List (List UInt8)):List UInt8:=(k.map (47::·)).flatten
def isDot (x:List UInt8):Bool:=x == [46] || x == [46,46]
def dots:List UInt8→List UInt8
 | []=>[]
 | c::r=>if c=47 then Xeb ((spl r).foldl keep []) ++ (if isDot ((spl r).getLastD []) || ((spl r).foldl keep []).length == 0 then [47] else []) else c::r
structure U where
 sch:List UInt8
 host:List UInt8
 port:Nat
 path:List UInt8
 query:List UInt8
 ask:Bool
theorem Xf7 (s:List UInt8) (c:UInt8):Go.Lib.cut s [c]=(upto [c] s,(Xc [c] s).drop 1,!(Xc [c] s).isEmpty):=by
 have hge:=Go.Lib.indexByte_ge s c
 have key:Go.Lib.indexAny s [c]=Go.Lib.indexByte s c:=by
  clear hge
  induction s with
  | nil=>rfl
  | cons b l ih =>
   rw [Go.Lib.indexAny,Go.Lib.indexByte,ih]
   have:([c].contains b)=(b == c):=by rw [List.contains_cons]; simp
   rw [this]
 unfold Go.Lib.cut
 rw [Go.Lib.index_one]
 by_cases e:Go.Lib.indexByte s c=-1
 ·rw [e,if_neg (by decide)]
  obtain ⟨h1,h2⟩:=X5w (s:=s) (ats:=[c]) (by rw [key]; exact e)
  rw [h1,h2]; rfl
 ·obtain ⟨k,hk⟩:∃ k:Nat,Go.Lib.indexByte s c=k:=⟨(Go.Lib.indexByte s c).toNat,by omega⟩
  obtain ⟨h1,h2,h3⟩:=X87 (s:=s) (ats:=[c]) (i:=k) (by rw [key]; exact hk)
  rw [hk,if_pos (by omega),h1,h2,Y9,List.drop_drop]
  have:(s.drop k).isEmpty=false:=by
   cases hd:s.drop k with
   | nil =>
    have:=congrArg List.length hd
    rw [Ya,List.length_nil] at this
    omega
   | cons a b=>rfl
  rw [this]
  rfl
theorem X27 (a s:List UInt8):(Xc a s).length≤s.length:=by
 have:=congrArg List.length (X1n a s)
 rw [Y0] at this; omega
theorem X11 (a s:List UInt8):(upto a s).length+(Xc a s).length=s.length:=by
 have:=congrArg List.length (X1n a s)
 rw [Y0] at this; omega
end Ul
namespace Go.Proofs.YtbciobiiejpdgaaGreatDoor
open Gk Pc Ul
theorem X9x (n:Int) (w:World) :
  Calls Tryz.prog 234 [I64 n].toArray w (Ret fun v w'=>v=.bool (decide (8<n))∧w=w'):=by
 refine calls Tryz.func234 rfl Tryz.ntmps234 rfl (.seq (.q 1 rfl (.seq (.q 3 rfl (.ret (Xl Tryz.results234 rfl ?_))))))
 exact ⟨_,rfl,rfl,rfl⟩
theorem X6g (r:Int) (w:World):Calls Tryz.prog 263 [.int .i32 r].toArray w (Ret fun v w'=>v=.bool (Go.Lib.validRune r)∧w=w') :=
 (Tryz.utf8_ValidRune r w).mono fun e w' he=>by
  obtain ⟨rfl,rfl⟩:=he
  exact ⟨_,rfl,rfl,rfl⟩
theorem X6p (cs:List UInt8) (hca:Asc cs) (hl:cs.length≤1000) (r:Int) (h0:128≤r) (h1:r≤1114111) (B w:World) (I:Im) (As:List Xf) (hS:Sat B w I As) :
  Calls Tryz.prog 233 [S cs,.int .i32 r].toArray w (Ret fun v w'=>v=I64 (-1)∧Sat B w' I As):=by
 refine calls Qf233 rfl Tryz.ntmps233 rfl (.seq (.q 1 rfl (.block (.seq (.t 3 rfl (.gval rfl rfl (fun hg1=>(.move (.of rfl))) rfl (.gval rfl rfl (fun hg1=>(.lss (.gd hg1 rfl) (.of rfl))) rfl (.val (.pand (.of rfl) (.of rfl) (.of rfl)) rfl (.q 1 rfl (.nil ?_))))))))))
 refine WC.cond rfl (fun hb160=>by exfalso; simp only [Y4] at hb160; omega) (fun hb160=>?_)
 have hc160:=hb160; try simp only [Y4] at hc160
 refine .seq (.q 3 rfl ?_)
 refine WC.cond rfl (fun hb171=>?_) (fun hb171=>?_)
 ·
  have hc171:=hb171; try simp only [Y4] at hc171
  refine .seq (.seq (.t 1 rfl (.range (s:=cs) hS (.of rfl) Qu9 rfl ?_)))
  clear hS; intro b175 w hS
  refine .nil (.block (.loop (σ:=Nat) (fun i=>[(175,ptr b175 0)]) (fun i w=>i≤cs.length∧Sat B w I (own b175 (.stringIter ⟨cs.toArray⟩ i)::As)) (fun i=>cs.length - i) 0 ⟨rfl,trivial⟩ ⟨Yk _,hS⟩ ?_))
  rintro i w ⟨hi,hS⟩
  change WC _ _ _ _ [(175,ptr b175 0)] w
  refine .seq (.region ?_)
  refine WL.next (i:=i) hS (k:=0) rfl (.of rfl) rfl (fun hn=>?_) (fun hn=>?_)
  ·
   refine .q 1 rfl (.nil (.seq (.condF (rfl) (.exit (.seq (.q 1 rfl (.ret (Xl Xcg rfl ?_))))))))
   exact ⟨_,rfl,rfl,hS.drop (k:=0) rfl⟩
  ·
   rw [X4n cs i hn (hca i _ (Xy hn))]
   have hb7:=hca i _ (Xy hn)
   clear hS; intro w hS; try dsimp only [List.set] at hS
   refine .q 1 rfl (.nil (.seq (.condT (rfl) (.skip (.block (.seq (.q 4 rfl (.seq (.q 2 rfl ?_)))))))))
   refine WC.cond rfl (fun hb181=>by exfalso; simp only [Y4] at hb181; omega) (fun hb181=>?_)
   have hc181:=hb181; try simp only [Y4] at hc181
   refine .skip ?_
   exact ⟨i+1,⟨rfl,trivial⟩,⟨by omega,hS⟩,by omega⟩
 have hc171:=hb171; try simp only [Y4] at hc171
 refine .seq (.t 1 rfl (.call Qf263 rfl (X0 (.of rfl) X1) rfl (X6g r _) ?_))
 rintro _ _ ⟨rfl,rfl⟩
 refine .q 2 rfl (.nil ?_)
 refine WC.cond rfl (fun hb183=>?_) (fun hb183=>?_)
 ·
  have hc183:=hb183; try simp only [Y4] at hc183
  refine .seq (.q 1 rfl (.ret (Xl Xcg rfl ?_)))
  exact ⟨_,rfl,rfl,hS⟩
 have hc183:=hb183; try simp only [Y4] at hc183
 refine .scope (.seq ?_)
 have hvv:Go.Utf8.valid r=true:=Xcs r (by simpa using hb183)
 obtain ⟨he2,he4,heb⟩:=Xb1 r hvv h0
 refine .t 1 rfl ?_
 refine WL.val (.runeStr (.of rfl) (by rw [Qu21]; rfl) Qu9) rfl ?_
 refine .q 1 rfl (.nil (.seq (.region (.run 4 rfl ⟨Qu9,⟨by omega,by omega⟩,trivial⟩ (.nil (.seq (.q 2 rfl (.seq (.q 1 rfl (.seq (.block (.loop (σ:=Unit) (fun _=>[(0,S cs),(7,S (X49 r)),(8,I64 ((((X49 r).length:Nat):Int) - 1)),(9,I64 ((((X49 r).length:Nat):Int) - 1))]) (fun _ w=>Sat B w I As) (fun _=>0) () ⟨rfl,rfl,rfl,rfl,trivial⟩ hS ?_))))))))))))
 rintro _ w hS
 change WC _ _ _ _ [(0,S cs),(7,S (X49 r)),(8,I64 ((((X49 r).length:Nat):Int) - 1)),(9,I64 ((((X49 r).length:Nat):Int) - 1))] w
 refine .seq (.seq (.region (.run 4 rfl ⟨Qu9,trivial⟩ (.nil ?_))))
 refine WC.cond rfl (fun hb26=>?_) (fun hb26=>?_)
 ·
  have hc26:=hb26; try simp only [Y4] at hc26
  refine .skip (.block (.scope (.seq (.seq ?_))))
  have hA:(at_ cs ((((X49 r).length:Nat):Int) - 1)).toNat<128:=hca ((((X49 r).length:Nat):Int) - 1).toNat _ (by rw [at_,Ym,Y3 (by omega)]; rfl)
  refine .quiet (by kernel_rfl) (by kernel_rfl) hS (.val (fun w hS=>(.move (.of rfl))) rfl (.val (fun w hS=>(.move (.of rfl))) rfl (.val (fun w hS=>(.index (.of rfl) (.of rfl) (by omega) (by omega) Qu9)) rfl (.val (fun w hS=>(.move (.of rfl))) rfl (.val (fun w hS=>(.move (.of rfl))) rfl (.val (fun w hS=>(.index (.of rfl) (.of rfl) (by omega) (by omega) Qu9)) rfl (.val (fun w hS=>(.neq (.of rfl) (.of rfl))) rfl (.nil ?_))))))))
  clear hS; intro w hS
  refine WC.cond rfl (fun hb33=>?_) (fun hb33=>by exfalso; simp only [Y4] at hb33; omega)
  have hc33:=hb33; try simp only [Y4] at hc33
  refine .seq (.quiet (by kernel_rfl) (by kernel_rfl) hS (.val (fun w hS=>(.move (.of rfl))) rfl (.val (fun w hS=>(.move (.of rfl))) rfl (.val (fun w hS=>(.add (.of rfl) (.of rfl) ⟨by omega,by omega⟩)) rfl (.val (fun w hS=>(.subFrom (.of rfl) (.of rfl) (by omega) (by omega) Qu9)) rfl (.val (fun w hS=>(.move (.of rfl))) rfl (.val (fun w hS=>(.move (.of rfl))) rfl (.val (fun w hS=>(.index (.of rfl) (.of rfl) (by omega) (by omega) Qu9)) rfl (.call Qf229 rfl (X0 (.of rfl) (X0 (.of rfl) X1)) rfl (fun w hS=>Xcc (X2y _ (at_ (X49 r) ((((X49 r).length:Nat):Int) - 1)) w) hS) (.val (fun w hS=>(.assign (.of rfl))) rfl (.nil ?_)))))))))))
  clear hS; intro w hS
  refine .seq (.seq ?_)
  have hN:=X7j (l:=cs.drop ((((X49 r).length:Nat):Int) - 1+1).toNat) (c:=at_ (X49 r) ((((X49 r).length:Nat):Int) - 1)) heb (fun j b h=>by rw [Yq] at h; exact hca _ _ h)
  refine .q 2 rfl ?_
  refine WC.cond rfl (fun hb43=>?_) (fun hb43=>by exfalso; simp only [Y4] at hb43; omega)
  have hc43:=hb43; try simp only [Y4] at hc43
  refine .seq (.q 1 rfl (.ret (Xl Xcg rfl ?_)))
  exact ⟨_,rfl,rfl,hS⟩
 have hc26:=hb26; try simp only [Y4] at hc26
 refine .exit (.seq (.seq (.q 1 rfl (.ret (Xl Xcg rfl ?_)))))
 exact ⟨_,rfl,rfl,hS⟩
theorem X65 (cs:List UInt8) (hca:Asc cs) (hl:cs.length≤1000) (r:Nat) (h1:r≤1114111) (B w:World) (I:Im) (As:List Xf) (hS:Sat B w I As):Calls Tryz.prog 233 [S cs,.int .i32 r].toArray w (Ret fun v w'=>v=I64 (if r<128 then Go.Lib.indexByte cs (UInt8.ofNat r) else -1)∧Sat B w' I As):=by
 rcases Yo r 128 with h | h
 ·refine (Tryz.strings_IndexRune_ascii ⟨cs.toArray⟩ r w (by omega) (by omega)).mono fun e w' he=>?_
  obtain ⟨rfl,rfl⟩:=he
  refine ⟨_,rfl,?_,hS⟩
  rw [if_pos h]
  simp
 ·rw [if_neg (by omega)]
  exact X6p cs hca hl r (by omega) (by omega) B w I As hS
theorem X6z (s cs:List UInt8) (hca:Asc cs) (hl:cs.length≤1000) (h2:2≤cs.length) (h8:s.length≤8) (hne:(cs == [])=false) (B w:World) (I:Im) (As:List Xf) (hS:Sat B w I As) :
  Calls Tryz.prog 191 [S s,S cs].toArray w (Ret fun v w'=>v=I64 (Go.Lib.indexAny s cs)∧Sat B w' I As):=by
 refine calls Qf191 rfl Tryz.ntmps191 rfl (.seq (.q 1 rfl (.seq (.seq (.q 2 rfl ?_)))))
 refine WC.condF (by show some (Value.bool (cs == []))=_; rw [hne]) ?_
 refine .skip (.seq (.seq (.region (.run 3 rfl ⟨Qu9,trivial⟩ (.nil ?_)))))
 refine WC.cond rfl (fun hb15=>by exfalso; simp only [Y4] at hb15; omega) (fun hb15=>?_)
 have hc15:=hb15; try simp only [Y4] at hc15
 refine .skip (.seq (.seq (.region (.run 2 rfl ⟨Qu9,trivial⟩ (.call Tryz.func234 rfl (X0 (.of rfl) X1) rfl (X9x _ _) ?_)))))
 rintro _ _ ⟨rfl,rfl⟩
 refine .nil ?_
 refine WC.cond rfl (fun hb26=>by exfalso; simp only [Y4] at hb26; omega) (fun hb26=>?_)
 have hc26:=hb26; try simp only [Y4] at hc26
 refine .skip (.seq (.seq (.t 1 rfl (.range (s:=s) hS (.of rfl) Qu9 rfl ?_))))
 clear hS; intro b45 w hS
 refine .nil (.block (.loop (σ:=Nat) (fun i=>[(1,S cs),(45,ptr b45 0)]) (fun i w=>i≤s.length∧Go.Lib.NoAny s cs i∧Sat B w I (own b45 (.stringIter ⟨s.toArray⟩ i)::As)) (fun i=>s.length - i) 0 ⟨rfl,rfl,trivial⟩ ⟨Yk _,Go.Lib.NoAny.zero _ _,hS⟩ ?_))
 rintro i w ⟨hi,hno,hS⟩
 change WC _ _ _ _ [(1,S cs),(45,ptr b45 0)] w
 refine .seq (.region ?_)
 refine WL.next (i:=i) hS (k:=0) rfl (.of rfl) rfl (fun hn=>?_) (fun hn=>?_)
 ·
  refine .q 1 rfl (.nil (.seq (.condF (rfl) (.exit (.seq (.q 1 rfl (.ret (Xl Tryz.results191 rfl ?_))))))))
  exact ⟨_,rfl,by rw [Go.Lib.indexAny_none (by rw [show s.length=i by omega]; exact hno)],hS.drop (k:=0) rfl⟩
 ·
  clear hS; intro w hS; try dsimp only [List.set] at hS
  refine .q 1 rfl (.nil (.seq (.condT (rfl) (.skip (.block (.seq ?_))))))
  have hdm:(Go.Utf8.decode ⟨s.toArray⟩ i).1≤1114111:=by
   rcases Yo (at_ s (i:Int)).toNat 128 with h | h
   ·rw [X4n s i hn h]; dsimp only; omega
   ·exact (X7o s i hn h).2.1
  obtain ⟨hyes,hnot⟩:=Xd8 hca hn hno
  unfold rv at hyes hnot
  refine .q 4 rfl (.seq (.t 2 rfl (.call Qf233 rfl (X0 (.of rfl) (X0 (.of rfl) X1)) rfl (X65 cs hca hl (Go.Utf8.decode ⟨s.toArray⟩ i).1 hdm B _ I _ hS) ?_)))
  clear hS
  rintro _ w ⟨rfl,hS⟩
  refine .q 1 rfl (.nil ?_)
  refine WC.cond rfl (fun hb53=>?_) (fun hb53=>?_)
  ·
   have hc53:=hb53; try simp only [Y4] at hc53
   refine .seq (.q 2 rfl (.ret (Xl Tryz.results191 rfl ?_)))
   refine ⟨_,rfl,?_,hS.drop (k:=0) rfl⟩
   rw [hyes (by omega)]
   rfl
  have hc53:=hb53; try simp only [Y4] at hc53
  refine .skip ?_
  obtain ⟨hn1,hn2,hn3⟩:=hnot (by omega)
  exact ⟨_,⟨rfl,rfl,trivial⟩,⟨hn2,hn1,hS⟩,by omega⟩
theorem X3z (s cs:List UInt8) (hs:s.length≤1000000) (hca:Asc cs) (hl:cs.length≤1000) (h2:2≤cs.length) (B w:World) (I:Im) (As:List Xf) (hS:Sat B w I As):Calls Tryz.prog 191 [S s,S cs].toArray w (Ret fun v w'=>v=I64 (Go.Lib.indexAny s cs)∧Sat B w' I As):=by
 rcases Yo 8 s.length with h | h
 ·refine (Tryz.strings_IndexAny_long (zero_of_info (n:=256) (by kernel_rfl)).1 ⟨s.toArray⟩ ⟨cs.toArray⟩ w h2 h (by show s.length<_; omega) (by show cs.length<_; omega) hca).mono fun e w' he=>?_
  obtain ⟨rfl,rfl⟩:=he
  exact ⟨_,rfl,rfl,(((hS.alloc _).alloc _).drop (k:=0) rfl).drop (k:=0) rfl⟩
 ·exact X6z s cs hca hl h2 h (by cases cs with | nil=>simp at h2 | cons a b=>rfl) B w I As hS
end Go.Proofs.YtbciobiiejpdgaaGreatDoor
namespace Pat
open Go Gk
abbrev X43:=Int×Int×Value
abbrev Pl:=Int×Int×List Int
def enc (x:X43):List Value:=[.int .u8 x.1,.int .u8 x.2.1,x.2.2]
def Xe6 (P:List X43) (i:Nat) (v:Value):List X43:=P.modify i fun x=>(x.1,x.2.1,v)
def Xb8 (Q:List Pl) (i:Nat) (xs:List Int):List Pl:=Q.modify i fun x=>(x.1,x.2.1,xs)
def IntsI (I:Im) (v:Value) (xs:List Int):Prop:=(xs=[]→v=.slice none 0 0)∧∃ a c,v=.slice a xs.length c∧xs.length≤c∧RS I a 1 xs.length (xs.map I64)
theorem IntsI.mono {I J:Im} {v:Value} {xs:List Int} (h:IntsI I v xs) (hl:Le I J):IntsI J v xs:=let ⟨h0,a,c,e,hc,hr⟩:=h; ⟨h0,a,c,e,hc,hr.mono hl⟩
theorem IntsI.nil (I:Im):IntsI I (.slice none 0 0) []:=⟨fun _=>rfl,none,0,rfl,Yh _,RS.nil I 1⟩
def RelP (I:Im) (P:List X43) (Q:List Pl):Prop:=P.length=Q.length∧∀ (i:Nat) (p:X43) (q:Pl),P[i]?=some p→Q[i]?=some q→p.1=q.1∧p.2.1=q.2.1∧IntsI I p.2.2 q.2.2
theorem RelP.mono {I J:Im} {P:List X43} {Q:List Pl} (h:RelP I P Q) (hl:Le I J):RelP J P Q:=⟨h.1,fun i p q hp hq=>let ⟨a,b,c⟩:=h.2 i p q hp hq; ⟨a,b,c.mono hl⟩⟩
theorem RelP.nil (I:Im):RelP I [] []:=⟨rfl,fun _ _ _ h=>by simp at h⟩
theorem RelP.snoc {I:Im} {P:List X43} {Q:List Pl} (h:RelP I P Q) (k c:Int) (v:Value) (xs:List Int) (hv:IntsI I v xs):RelP I (P ++ [(k,c,v)]) (Q ++ [(k,c,xs)]):=by
 refine ⟨by simp [h.1],fun i p q hp hq=>?_⟩
 rcases Nat.lt_trichotomy i P.length with hi | hi | hi
 ·rw [Yl hi] at hp
  rw [Yl (by rw [← h.1]; exact hi)] at hq
  exact h.2 i p q hp hq
 ·subst hi
  rw [Y16 (Yh _)] at hp
  rw [h.1,Y16 (Yh _)] at hq
  simp at hp hq
  subst hp; subst hq
  exact ⟨rfl,rfl,hv⟩
 ·rw [Y26 (by simp; omega)] at hp
  cases hp
theorem RelP.set {I:Im} {P:List X43} {Q:List Pl} (h:RelP I P Q) (i:Nat) (v:Value) (xs:List Int) (hv:IntsI I v xs):RelP I (Xe6 P i v) (Xb8 Q i xs):=by
 refine ⟨by simp [Xe6,Xb8,h.1],fun j p q hp hq=>?_⟩
 unfold Xe6 at hp
 unfold Xb8 at hq
 rw [List.getElem?_modify] at hp hq
 by_cases e:i=j
 ·subst e
  simp only [if_true] at hp hq
  obtain ⟨p0,hp0,rfl⟩:=Y18.1 hp
  obtain ⟨q0,hq0,rfl⟩:=Y18.1 hq
  obtain ⟨a,b,_⟩:=h.2 i p0 q0 hp0 hq0
  exact ⟨a,b,hv⟩
 ·simp only [e,if_false] at hp hq
  exact h.2 j p q (by simpa using hp) (by simpa using hq)
def RelX (I:Im) (o:Nat) (P:List X43) (Q:List Pl):Prop:=P.length=Q.length∧∀ (i:Nat) (p:X43) (q:Pl),P[i]?=some p→Q[i]?=some q→p.1=q.1∧p.2.1=q.2.1∧(i≠o→IntsI I p.2.2 q.2.2)
theorem RelX.mono {I J:Im} {o:Nat} {P:List X43} {Q:List Pl} (h:RelX I o P Q) (hl:Le I J):RelX J o P Q:=⟨h.1,fun i p q hp hq=>let ⟨a,b,c⟩:=h.2 i p q hp hq; ⟨a,b,fun hi=>(c hi).mono hl⟩⟩
theorem RelP.x {I:Im} {P:List X43} {Q:List Pl} (h:RelP I P Q) (o:Nat):RelX I o P Q:=⟨h.1,fun i p q hp hq=>let ⟨a,b,c⟩:=h.2 i p q hp hq; ⟨a,b,fun _=>c⟩⟩
abbrev PFr:=Nat×List Nat
def Frames (Q:List Pl):Nat→List PFr→Prop
 | _,[]=>True
 | lim,(o,bs)::r=>o<lim∧Q[o]?=some (4,0,[])∧bs.length≤Q.length∧(∀ b∈bs,o<b∧b<Q.length)∧Frames Q o r
theorem Frames.grow {Q Q':List Pl}:∀ {stk:List PFr} {lim lim':Nat},Frames Q lim stk→lim≤lim'→Q.length≤Q'.length→(∀ i,i<lim→Q[i]?=some (4,0,[])→Q'[i]?=some (4,0,[]))→Frames Q' lim' stk
 | [],_,_,_,_,_,_=>trivial
 | (o,bs)::r,lim,lim',⟨h1,h2,h3,h4,h5⟩,hl,hq,hk =>
  ⟨by omega,hk o h1 h2,by omega,fun b hb=>⟨(h4 b hb).1,by have:=(h4 b hb).2; omega⟩,h5.grow (Yh _) hq fun i hi=>hk i (by omega)⟩
def mks (f:PFr):List Int:=(f.1::f.2).map fun (x:Nat)=>(x:Int)
def PatI (I:Im) (p:Addr) (Q:List Pl) (n:Nat):Prop:=∃ a c P,At I p [.slice a P.length c,I64 n]∧P.length≤c∧RS I a 3 P.length (P.flatMap enc)∧RelP I P Q
theorem PatI.mono {I J:Im} {p:Addr} {Q:List Pl} {n:Nat} (h:PatI I p Q n) (hl:Le I J):PatI J p Q n:=let ⟨a,c,P,h1,h2,h3,h4⟩:=h; ⟨a,c,P,h1.mono hl,h2,h3.mono hl,h4.mono hl⟩
end Pat
namespace Pat
open Gk
def iter {β:Type} (f:β→Nat→β) (b:β):Nat→β
 | 0=>b
 | k+1=>f (iter f b k) k
def Xa (s p:List UInt8):Bool:=decide ((p.length:Int)≤(s.length:Int)) && (s.take (p.length:Int).toNat == p)
end Pat
namespace Go.Proofs.YtbciobiiejpdgaaGreatDoor
open Gk Pat
theorem X4k (s p:List UInt8) (w:World) (hs:s.length≤140737488351232) (hp:p.length≤140737488351232) :
  Calls Tryz.prog 195 [S s,S p].toArray w (Ret fun v w'=>v=.bool (Xa s p)∧w=w'):=by
 refine calls Tryz.func195 rfl Tryz.ntmps195 rfl (.seq (.q 1 rfl (.seq (.region (.run 6 rfl ⟨Qu9,Qu9,trivial⟩ (.gval rfl rfl (fun hg1=>(.move (.of rfl))) rfl (.gval rfl rfl (fun hg1=>(.move (.of rfl))) rfl (.gval rfl rfl (fun hg1=>(.len (.gd hg1 rfl) Qu9)) rfl ?_))))))))
 refine WL.gval rfl rfl (fun hg1=>(.subTo (.gd hg1 rfl) (.gd hg1 rfl) (by (try simp only [Y4] at hg1); omega) (by (try simp only [Y4] at hg1); omega) Qu9)) rfl ?_
 refine .gval rfl rfl (fun hg1=>(.move (.of rfl))) rfl (.gval rfl rfl (fun hg1=>(.eqs (.gd hg1 rfl) (.gd hg1 rfl))) rfl (.val (.pand (.of rfl) (.of rfl) (.of rfl)) rfl (.q 1 rfl (.nil (.ret (Xl Tryz.results195 rfl ?_))))))
 exact ⟨_,rfl,rfl,rfl⟩
theorem X22 (s p:List UInt8) (w:World) (hs:s.length≤140737488351232) (hp:p.length≤140737488351232) :
  Calls Tryz.prog 148 [S s,S p].toArray w (Ret fun v w'=>v=.bool (Xa s p)∧w=w'):=by
 refine calls Xdd rfl Tryz.ntmps148 rfl (.seq (.q 1 rfl (.seq (.t 2 rfl (.call Tryz.func195 rfl (X0 (.of rfl) (X0 (.of rfl) X1)) rfl (X4k _ _ _ hs hp) ?_)))))
 rintro _ _ ⟨rfl,rfl⟩
 refine .q 1 rfl (.nil (.ret (Xl Tryz.results148 rfl ?_)))
 exact ⟨_,rfl,rfl,rfl⟩
end Go.Proofs.YtbciobiiejpdgaaGreatDoor
namespace Go.Proofs.YtbciobiiejpdgaaGreatDoor
open Gk Pc Ul Pat
structure Known (I:Im):Prop where
 dig:DigAt I
 pow : ∀ (B w : World) (As : List Xf), Sat B w I As → Go.Lib.TabIs Tryz.prog w "internal/strconv.uint64pow10" .u64 Go.Lib.pow10Tab
 max:∀ (B w:World) (As:List Xf),Sat B w I As→∃ m,w.cell? ⟨6,0,none⟩=some (.int .i64 m)
theorem Known.mono {I J:Im} (h:Known I) (hl:Le I J):Known J :=
 have e:∀ (B w:World) (As:List Xf),Sat B w J As→Sat B w I As:=fun B w As ⟨g,h1,h2⟩=>⟨g,h1,h2.os,h2.tape,h2.output,fun b o hi=>h2.imm b o (hl b o hi),h2.own,h2.nodup,fun b o hm=>by
  cases hi:I b with
  | none=>rfl
  | some x=>have:=h2.apart b o hm; rw [hl b x hi] at this; cases this⟩
 ⟨h.dig.mono hl,fun B w As s=>h.pow B w As (e B w As s),fun B w As s=>h.max B w As (e B w As s)⟩
theorem X7k {B w:World} {I:Im} {As:List Xf} (hS:Sat B w I As) (n:Nat):Sat B (w.drewN n) I As:=hS.world rfl rfl rfl rfl
theorem Xcw {B w:World} {I:Im} {As:List Xf} (hS:Sat B w I As) (os:Array Obj):Sat B (Go.Sort.grow w os) I As :=
 hS.grown ⟨rfl,rfl,rfl,by simp [Go.Sort.grow],fun k hk=>by simp [Go.Sort.grow,Array.getElem?_append,hk]⟩
end Go.Proofs.YtbciobiiejpdgaaGreatDoor
namespace Ul
open Pc Gk
def Fix (s:List UInt8):Prop:=norm s=some s
theorem Fix.nil:Fix []:=Xcd
theorem Fix.cons {c:UInt8} {b:List UInt8} (h:c≠37) (k:Fix b):Fix (c::b):=by
 unfold Fix at *
 rw [Xao,if_neg h,k]; rfl
theorem Xc3 (v:UInt8) (u:List UInt8):Xag (X9a (v.toNat / 16)::X9a (v.toNat % 16)::u)=some v:=by
 have:=Xz (p:=fun v=>decide (0≤Xdw (X9a (v.toNat / 16))) && decide (0≤Xdw (X9a (v.toNat % 16))) && (Xb2 (X9a (v.toNat / 16)) (X9a (v.toNat % 16)) == v)) (by decide +kernel) v
 simp only [Yd,decide_eq_true_eq,beq_iff_eq] at this
 show (if Xdw (X9a (v.toNat / 16))<0∨Xdw (X9a (v.toNat % 16))<0 then none else some (Xb2 (X9a (v.toNat / 16)) (X9a (v.toNat % 16))))=some v
 rw [if_neg (by omega),this.2]
theorem X80 {v:UInt8} (h:plain v=true):v≠37:=fun e=>by subst e; revert h; decide
def standQ (c:UInt8):Bool:=Xdt c && c != 63
theorem X1b {ats a b:List UInt8} (ha:∀ c∈a,ats.contains c=false) (hb:∀ c,b.head?=some c→ats.contains c=true):upto ats (a ++ b)=a∧Xc ats (a ++ b)=b:=by
 induction a with
 | nil =>
  cases b with
  | nil=>exact ⟨rfl,rfl⟩
  | cons c b =>
   have:=hb c rfl
   unfold upto Xc
   rw [Y6,Y12,Y1t,this]
   exact ⟨rfl,rfl⟩
 | cons c a ih =>
  have h1:=ha c (by simp)
  obtain ⟨h2,h3⟩:=ih (fun x hx=>ha x (by simp [hx]))
  simp only [upto,Xc] at h2 h3 ⊢
  rw [Y1r,Y12,Y1t,h1]
  exact ⟨congrArg (c::·) h2,h3⟩
theorem Xe2 {p:UInt8→Bool}:∀ {l:List UInt8} {x:UInt8},x∈l.takeWhile p→p x=true
 | [],_,h=>by simp at h
 | a::l,x,h=>by
  rw [Y12] at h
  split at h
  ·rename_i ha
   rcases Y19.1 h with e | e
   ·subst e; exact ha
   ·exact Xe2 e
  ·simp at h
theorem X1y:∀ (n:Nat),val (Go.Lib.decDigits n)=n∧(Go.Lib.decDigits n).all X58=true∧(0<n→(Go.Lib.decDigits n).head?≠some 48)∧Go.Lib.decDigits n≠[]:=by
 have dig:∀ d,d<10→(UInt8.ofNat (48+d)).toNat=48+d∧X58 (UInt8.ofNat (48+d))=true:=fun d hd=>by
  have h:=(by decide:∀ d:Fin 10,(UInt8.ofNat (48+d.val)).toNat=48+d.val∧X58 (UInt8.ofNat (48+d.val))=true) ⟨d,hd⟩
  exact h
 intro n
 induction n using Nat.strongRecOn with
 | _ n ih =>
  rw [Go.Lib.decDigits]
  by_cases h:n<10
  ·rw [dif_pos h]
   obtain ⟨h1,h2⟩:=dig n h
   refine ⟨?_,?_,fun h0=>?_,by simp⟩
   ·simp only [val,Y21,List.foldl_nil,h1]; omega
   ·rw [Y2h,h2]; rfl
   ·simp only [List.head?_cons,Option.some.injEq,ne_eq]
    intro e
    rw [e] at h1
    have:(48:UInt8).toNat=48:=rfl
    omega
  ·rw [dif_neg h]
   obtain ⟨h1,h2⟩:=dig (n % 10) (by omega)
   obtain ⟨i1,i2,i3,i4⟩:=ih (n / 10) (by omega)
   refine ⟨?_,?_,fun _=>?_,by simp⟩
   ·rw [X8d,i1,h1]; omega
   ·rw [Y3p,i2,Y2h,h2]; rfl
   ·rw [List.head?_append]
    cases hd:(Go.Lib.decDigits (n / 10)).head? with
    | none=>exact absurd (List.head?_eq_none_iff.1 hd) i4
    | some x =>
     have:=i3 (by omega)
     rw [hd] at this
     exact this
structure Good (u:U):Prop where
 sch:u.sch=http∨u.sch=https
 host:hostOk u.host=true∧low u.host=u.host
 port:u.port≤65535∧u.port≠ownP u.sch
 path:dots u.path=u.path∧Fix u.path∧u.path.all standQ=true∧u.path.head?=some 47
 query:Fix u.query∧u.query.all Xdt=true∧(u.ask=false→u.query=[])
theorem X72 {ats s:List UInt8} {c:UInt8} (h:(Xc ats s).head?=some c):ats.contains c=true:=by
 unfold Xc at h
 have:=List.head?_dropWhile_not (fun c=>!ats.contains c) s
 rw [h] at this
 simpa using this
def enc (s:List UInt8):List UInt8:=s.flatMap one
theorem Xdp (c:UInt8) (s:List UInt8):enc (c::s)=one c ++ enc s:=rfl
def dB (p:Bool) (c:UInt8):UInt8:=if (p && c == 43)=true then 32 else c
def Xf1 (p:Bool):Nat→List UInt8→Option (List UInt8)
 | 0,_=>some []
 | _+1,[]=>some []
 | f+1,c::r=>if c=37 then match Xag r with
   | none=>none
   | some v=>(Xf1 p f (r.drop 2)).map (v::·)
  else (Xf1 p f r).map (dB p c::·)
def dec (p:Bool) (s:List UInt8):Option (List UInt8):=Xf1 p (s.length+1) s
theorem X4r (p:Bool):∀ (f g:Nat) (s:List UInt8),s.length<f→s.length<g→Xf1 p f s=Xf1 p g s
 | 0,_,_,h,_=>by omega
 | _+1,0,_,_,h=>by omega
 | f+1,g+1,[],_,_=>rfl
 | f+1,g+1,c::r,hf,hg=>by
  simp only [Xf1]
  split
  ·cases ht:Xag r with
   | none=>rfl
   | some v =>
    simp only
    have:=X4b ht
    simp only [List.length_cons] at hf hg
    rw [X4r p f g (r.drop 2) (by rw [Ya]; omega) (by rw [Ya]; omega)]
  ·simp only [List.length_cons] at hf hg
   rw [X4r p f g r (by omega) (by omega)]
theorem X8z (p:Bool) (c:UInt8) (r:List UInt8):dec p (c::r)=if c=37 then match Xag r with
   | none=>none
   | some v=>(dec p (r.drop 2)).map (v::·)
  else (dec p r).map (dB p c::·):=by
 unfold dec
 simp only [List.length_cons,Xf1]
 split
 ·cases ht:Xag r with
  | none=>rfl
  | some v =>
   simp only
   have:=X4b ht
   rw [X4r p (r.length+1) ((r.drop 2).length+1) (r.drop 2) (by rw [Ya]; omega) (by omega)]
 ·rfl
theorem X82 {v:UInt8} (h:plain v=true):v≠43:=fun e=>by subst e; revert h; decide
theorem Xen (p:Bool) (c:UInt8) (t:List UInt8):dec p (one c ++ t)=(dec p t).map (c::·):=by
 unfold one
 split
 ·rename_i h
  show dec p (c::t)=_
  rw [X8z,if_neg (X80 h),dB,if_neg (by simp [X82 h])]
 ·show dec p (37::(X9a (c.toNat / 16)::X9a (c.toNat % 16)::t))=_
  rw [X8z,if_pos rfl,Xc3]; rfl
theorem X8m (p:Bool):∀ (s t:List UInt8),dec p (enc s ++ t)=(dec p t).map (s ++ ·)
 | [],t=>by simp [enc]
 | c::s,t=>by
  rw [Xdp,Ye,Xen,X8m p s t]
  cases dec p t <;> rfl
end Ul
namespace Xm
open Ul Pc Gk Pat
abbrev Px:=List UInt8×List UInt8
def MK:List Px:=[([38],[38,97,109,112,59]),([60],[38,108,116,59]),([62],[38,103,116,59]),([34],[38,113,117,111,116,59]),([39],[38,35,51,57,59])]
def em (c:UInt8):List UInt8:=if c=38 then [38,97,109,112,59] else if c=60 then [38,108,116,59] else if c=62 then [38,103,116,59] else if c=34 then [38,113,117,111,116,59] else if c=39 then [38,35,51,57,59] else [c]
def esc (s:List UInt8):List UInt8:=s.flatMap em
def X81 (c:UInt8) (m s:List UInt8):List UInt8:=s.flatMap fun x=>if x=c then m else [x]
theorem X8w (c:UInt8) (m a b:List UInt8):X81 c m (a ++ b)=X81 c m a ++ X81 c m b:=List.flatMap_append ..
theorem X8q {c:UInt8} {m:List UInt8}:∀ {s:List UInt8},(∀ x∈s,x≠c)→X81 c m s=s
 | [],_=>rfl
 | x::s,h=>by
  show (if x=c then m else [x]) ++ X81 c m s=x::s
  rw [if_neg (h x (by simp)),X8q (fun y hy=>h y (by simp [hy]))]; rfl
theorem X6t (c:UInt8) (m:List UInt8):∀ (n:Nat) (s:List UInt8),s.length≤n→Go.Lib.replaceK [c] m (Go.Lib.count s [c]) s=X81 c m s:=by
 intro n
 induction n with
 | zero =>
  intro s h
  have:s=[]:=Yz (by omega)
  subst this
  have hc:Go.Lib.count ([]:List UInt8) [c]=0:=Go.Lib.count_miss (by rw [Go.Lib.index_one]; rfl)
  rw [hc]; rfl
 | succ n ih =>
  intro s h
  have hge:=Go.Lib.indexByte_ge s c
  by_cases e:Go.Lib.indexByte s c=-1
  ·have hi:Go.Lib.index s [c]=-1:=by rw [Go.Lib.index_one]; exact e
   rw [Go.Lib.count_miss hi]
   show s=X81 c m s
   refine (X8q fun x hx ex=>?_).symm
   obtain ⟨k,hk⟩:=Y1d.1 hx
   exact Go.Lib.indexByte_none e k (by rw [hk,ex])
  ·obtain ⟨i,hk⟩:∃ k:Nat,Go.Lib.indexByte s c=k:=⟨(Go.Lib.indexByte s c).toNat,by omega⟩
   have hi:Go.Lib.index s [c]=i:=by rw [Go.Lib.index_one]; exact hk
   obtain ⟨h1,h2⟩:=Go.Lib.indexByte_some hk
   have hlt:i<s.length:=(Y1.1 h1).1
   rw [Go.Lib.count_hit (by simp) hi,Y22 1,Go.Lib.replaceK_hit _ _ _ _ i hi]
   show s.take i ++ m ++ Go.Lib.replaceK [c] m (Go.Lib.count (s.drop (i+1)) [c]) (s.drop (i+1))=_
   rw [ih (s.drop (i+1)) (by rw [Ya]; omega)]
   have es:s=s.take i ++ c::s.drop (i+1):=by
    conv=>lhs; rw [← Y1a i s]
    rw [Yu hlt,(Y1.1 h1).2]
   conv=>rhs; rw [es,X8w]
   have hno:X81 c m (s.take i)=s.take i:=X8q fun x hx ex=>by
    obtain ⟨k,hk⟩:=Y1d.1 hx
    rw [Y2i] at hk
    split at hk
    ·rename_i hki
     exact h2 k hki (by rw [hk,ex])
    ·cases hk
   rw [hno,Ye]
   congr 1
   show _=(if c=c then m else [c]) ++ X81 c m (s.drop (i+1))
   rw [if_pos rfl]
theorem X8h (c:UInt8) (m s:List UInt8) (h:([c] == m)=false):Go.Lib.replaceAll s [c] m=X81 c m s:=by
 unfold Go.Lib.replaceAll Go.Lib.replace Go.Lib.replaceNum
 rw [h,if_neg (by decide),if_pos (.inl (by decide))]
 exact X6t c m _ s (Yh _)
def X68 (s:List UInt8) (m:Px):List UInt8:=X81 (m.1.headD 0) m.2 s
theorem Xc2 (m:Px) (a b:List UInt8):X68 (a ++ b) m=X68 a m ++ X68 b m:=X8w ..
theorem X9h:∀ (l:List Px) (a b:List UInt8),l.foldl X68 (a ++ b)=l.foldl X68 a ++ l.foldl X68 b
 | [],a,b=>rfl
 | m::l,a,b=>by rw [Y21,Y21,Y21,Xc2,X9h l]
theorem X99:∀ (l:List Px),l.foldl X68 []=[]
 | []=>rfl
 | m::l=>by rw [Y21]; exact X99 l
theorem Xef (c:UInt8):MK.foldl X68 [c]=em c :=
 eq_of_beq (Xz (p:=fun c=>MK.foldl X68 [c] == em c) (by decide +kernel) c)
theorem X92:∀ (s:List UInt8),MK.foldl X68 s=esc s
 | []=>X99 MK
 | c::s=>by
  rw [show c::s=[c] ++ s from rfl,X9h,Xef,X92 s]; rfl
theorem em_len (c:UInt8):(em c).length≤6:=by
 have:=Xz (p:=fun c=>decide ((em c).length≤6)) (by decide +kernel) c
 simpa using this
theorem X8g:∀ (s:List UInt8),(esc s).length≤6*s.length
 | []=>Yh _
 | c::s=>by
  have h1:=em_len c
  have h2:=X8g s
  show (em c ++ esc s).length≤_
  rw [Y0,List.length_cons]; omega
theorem X94 (c:UInt8) (m:List UInt8) (hm:m.length≤6):∀ (s:List UInt8),(X81 c m s).length≤6*s.length
 | []=>Yh _
 | x::s=>by
  have h2:=X94 c m hm s
  show ((if x=c then m else [x]) ++ X81 c m s).length≤_
  rw [Y0,List.length_cons]
  split
  ·omega
  ·show 1+_≤_; omega
def X2g (t:List UInt8):Option Px:=MK.find? fun m=>Xa t m.2
def unF:Nat→List UInt8→Option (List UInt8)
 | 0,_=>some []
 | _+1,[]=>some []
 | f+1,c::r=>if c=38 then match X2g (c::r) with
   | none=>none
   | some m=>(unF f (r.drop (m.2.length - 1))).map (m.1 ++ ·)
  else (unF f r).map (c::·)
def un0 (s:List UInt8):Option (List UInt8):=unF (s.length+1) s
theorem X6d:∀ (f g:Nat) (s:List UInt8),s.length<f→s.length<g→unF f s=unF g s
 | 0,_,_,h,_=>by omega
 | _+1,0,_,_,h=>by omega
 | f+1,g+1,[],_,_=>rfl
 | f+1,g+1,c::r,hf,hg=>by
  simp only [List.length_cons] at hf hg
  simp only [unF]
  split
  ·cases ht:X2g (c::r) with
   | none=>rfl
   | some m =>
    simp only
    rw [X6d f g (r.drop (m.2.length - 1)) (by rw [Ya]; omega) (by rw [Ya]; omega)]
  ·rw [X6d f g r (by omega) (by omega)]
theorem X4y:un0 []=some []:=rfl
theorem X46 (c:UInt8) (r:List UInt8):un0 (c::r)=if c=38 then match X2g (c::r) with
   | none=>none
   | some m=>(un0 (r.drop (m.2.length - 1))).map (m.1 ++ ·)
  else (un0 r).map (c::·):=by
 unfold un0
 simp only [List.length_cons,unF]
 split
 ·cases ht:X2g (c::r) with
  | none=>rfl
  | some m =>
   simp only
   rw [X6d (r.length+1) ((r.drop (m.2.length - 1)).length+1) (r.drop (m.2.length - 1)) (by rw [Ya]; omega) (by omega)]
 ·rfl
theorem X2d:∀ (a b:List UInt8),(∀ x∈a,x≠38)→un0 (a ++ b)=(un0 b).map (a ++ ·)
 | [],b,_=>by simp
 | c::a,b,h=>by
  show un0 (c::(a ++ b))=_
  rw [X46,if_neg (h c (by simp)),X2d a b (fun x hx=>h x (by simp [hx]))]
  cases un0 b <;> rfl
def SIGNS:List UInt8:=[60,62,34,39]
def X25 (s:List UInt8):Option (List UInt8):=if s.any (fun c=>SIGNS.contains c)=true then none else un0 s
theorem X8x {s:List UInt8} (h:∀ x∈s,x≠38∧x≠60∧x≠62∧x≠34∧x≠39):X25 s=some s:=by
 unfold X25
 rw [if_neg,← Y8 s,X2d s [] (fun x hx=>(h x hx).1),X4y]
 ·simp
 ·rw [List.any_eq_true]
  rintro ⟨x,hx,hc⟩
  obtain ⟨_,h1,h2,h3,h4⟩:=h x hx
  simp [SIGNS,h1,h2,h3,h4] at hc
theorem X7c:∀ {s:List UInt8},(∀ x∈s,x≠38∧x≠60∧x≠62∧x≠34∧x≠39)→esc s=s
 | [],_=>rfl
 | c::s,h=>by
  obtain ⟨h0,h1,h2,h3,h4⟩:=h c (by simp)
  show em c ++ esc s=c::s
  rw [X7c (fun x hx=>h x (by simp [hx])),em,if_neg h0,if_neg h1,if_neg h2,if_neg h3,if_neg h4]; rfl
theorem Xfe:∀ (n:Nat) (s t:List UInt8),s.length≤n→un0 s=some t→t.length≤s.length:=by
 intro n
 induction n with
 | zero =>
  intro s t h e
  have:s=[]:=Yz (by omega)
  subst this
  rw [X4y] at e; cases e; exact Yh _
 | succ n ih =>
  intro s t h e
  cases s with
  | nil=>rw [X4y] at e; cases e; exact Yh _
  | cons c r =>
   simp only [List.length_cons] at h ⊢
   rw [X46] at e
   split at e
   ·cases hm:X2g (c::r) with
    | none=>rw [hm] at e; cases e
    | some m =>
     rw [hm] at e
     simp only at e
     cases hu:un0 (r.drop (m.2.length - 1)) with
     | none=>rw [hu] at e; cases e
     | some u =>
      rw [hu] at e
      simp at e
      subst e
      have h1:=ih _ u (by rw [Ya]; omega) hu
      rw [Ya] at h1
      have h2:m.1.length=1:=by
       have:=Y3d hm
       have hall:∀ m∈MK,m.1.length=1:=by decide
       exact hall m this
      rw [Y0]; omega
   ·cases hu:un0 r with
    | none=>rw [hu] at e; cases e
    | some u =>
     rw [hu] at e
     simp at e
     subst e
     have:=ih r u (by omega) hu
     simp only [List.length_cons]; omega
theorem Xdr {s t:List UInt8} (h:X25 s=some t):t.length≤s.length:=by
 unfold X25 at h
 split at h
 ·cases h
 ·exact Xfe _ s t (Yh _) h
def Xd0 (c:UInt8):Bool:=(97≤c && c≤122) || (65≤c && c≤90)
def insB (c:UInt8):Bool:=Xd0 c || (48≤c && c≤57) || c == 58 || c == 45 || c == 95
def X3l (s:List UInt8):Bool:=!(s == []) && Xd0 (s.headD 0) && s.all insB
def shB (c:UInt8):Bool:=!(c == 127 || (c<32 && c != 9 && c != 10))
def X3t (s:List UInt8):Bool:=s.all shB
def X3x:List Px→List Px→Bool
 | _,[]=>true
 | done,a::r=>(X3l a.1 && X3t a.2 && !(done.any fun b=>b.1 == a.1)) && X3x (done ++ [a]) r
inductive Nd where
 | mk (name:List UInt8) (attrs:List Px) (text:List UInt8) (kids:List Nd)
def Nd.name:Nd→List UInt8 | .mk n _ _ _=>n
def Nd.attrs:Nd→List Px | .mk _ a _ _=>a
def Nd.text:Nd→List UInt8 | .mk _ _ t _=>t
def Nd.kids:Nd→List Nd | .mk _ _ _ k=>k
def nd0:Nd:=.mk [] [] [] []
def X1t (f:Int→Nd→Option Int):Int→List Nd→Option Int
 | left,[]=>some left
 | left,k::r=>match f left k with
  | none=>none
  | some l=>X1t f l r
def X1f:Nat→Int→Nd→Option Int
 | 0,_,_=>none
 | d+1,left,n=>if left - 1<0∨X3l n.name=false∨X3x [] n.attrs=false∨X3t n.text=false∨(n.text≠[]∧n.kids≠[]) then none else X1t (X1f d) (left - 1) n.kids
def X2t (a:Px):List UInt8:=32::(a.1 ++ [61,34] ++ esc a.2 ++ [34])
def X1p:Nat→Nd→List UInt8
 | 0,_=>[]
 | d+1,n=>60::n.name ++ (n.attrs.map X2t).flatten ++ 62::esc n.text ++ (n.kids.map (X1p d)).flatten ++ 60::47::n.name ++ [62]
def Xs:Nat→List UInt8→List Px→Option (List Px×List UInt8)
 | 0,_,_=>none
 | f+1,s,out=>if Xa s [32]=false then some (out,s) else if Xa (Xc [61] (s.drop 1)) [61,34]=false then none else match X25 (upto [34] ((Xc [61] (s.drop 1)).drop 2)) with
  | none=>none
  | some v=>if Xa (Xc [34] ((Xc [61] (s.drop 1)).drop 2)) [34]=false then none else Xs f ((Xc [34] ((Xc [61] (s.drop 1)).drop 2)).drop 1) (out ++ [(upto [61] (s.drop 1),v)])
def X1k (el:Int→List UInt8→Option (Nd×List UInt8×Int)):Nat→Int→List UInt8→List Nd→Option (List Nd×List UInt8×Int)
 | 0,_,_,_=>none
 | f+1,left,s,out=>if Xa s [60,47]=true then some (out,s,left) else match el left s with
  | none=>none
  | some (k,r,l)=>X1k el f l r (out ++ [k])
def X13:Nat→Int→List UInt8→Option (Nd×List UInt8×Int)
 | 0,_,_=>none
 | d+1,left,s=>if left - 1<0∨Xa s [60]=false then none else match Xs ((Xc [32,62] (s.drop 1)).length+1) (Xc [32,62] (s.drop 1)) [] with
  | none=>none
  | some (az,r)=>if Xa r [62]=false then none else match X25 (upto [60] (r.drop 1)) with
   | none=>none
   | some t=>match X1k (X13 d) ((Xc [60] (r.drop 1)).length+1) (left - 1) (Xc [60] (r.drop 1)) [] with
    | none=>none
    | some (ks,q,l)=>if Xa q (60::47::upto [32,62] (s.drop 1) ++ [62])=false then none else some (.mk (upto [32,62] (s.drop 1)) az t ks,q.drop ((upto [32,62] (s.drop 1)).length+3),l)
def X7z (s:List UInt8):Option Nd:=match X13 8 200 s with
 | none=>none
 | some (n,r,_)=>if r≠[]∨(X1f 8 200 n).isNone=true then none else some n
theorem X29 {s p:List UInt8} (h:Xa s p=true):p.length≤s.length:=by
 unfold Xa at h
 simp only [Yd,decide_eq_true_eq] at h
 omega
theorem X1o (p r:List UInt8):Xa (p ++ r) p=true:=by
 unfold Xa
 rw [Y9,Y1m]
 simp
 omega
theorem X3f:∀ (f:Nat) (s:List UInt8) (out:List Px) (az:List Px) (r:List UInt8),Xs f s out=some (az,r)→r.length≤s.length
 | 0,_,_,_,_,h=>by cases h
 | f+1,s,out,az,r,h=>by
  rw [Xs] at h
  split at h
  ·cases h; exact Yh _
  ·split at h
   ·cases h
   ·split at h
    ·cases h
    ·split at h
     ·cases h
     ·have:=X3f f _ _ _ _ h
      have a1:=X27 [34] ((Xc [61] (s.drop 1)).drop 2)
      have a2:=X27 [61] (s.drop 1)
      simp only [Ya] at this a1 a2
      omega
theorem X75 {el:Int→List UInt8→Option (Nd×List UInt8×Int)} (hel:∀ l s k r l2,el l s=some (k,r,l2)→r.length<s.length):∀ (f:Nat) (left:Int) (s:List UInt8) (out ks:List Nd) (r:List UInt8) (l2:Int),X1k el f left s out=some (ks,r,l2)→r.length≤s.length
 | 0,_,_,_,_,_,_,h=>by cases h
 | f+1,left,s,out,ks,r,l2,h=>by
  rw [X1k] at h
  split at h
  ·cases h; exact Yh _
  ·split at h
   ·cases h
   ·rename_i k r1 l1 he
    have:=hel _ _ _ _ _ he
    have:=X75 hel f _ _ _ _ _ _ h
    omega
theorem X4o:∀ (d:Nat) (left:Int) (s:List UInt8) (k:Nd) (r:List UInt8) (l2:Int),X13 d left s=some (k,r,l2)→r.length<s.length
 | 0,_,_,_,_,_,h=>by cases h
 | d+1,left,s,k,r,l2,h=>by
  rw [X13] at h
  split at h
  ·cases h
  ·rename_i h0
   simp only [not_or,Bool.not_eq_false] at h0
   have h1:=X29 h0.2
   split at h
   ·cases h
   ·rename_i az r1 ha
    split at h
    ·cases h
    ·split at h
     ·cases h
     ·split at h
      ·cases h
      ·rename_i ks q l hk
       split at h
       ·cases h
       ·cases h
        have a1:=X3f _ _ _ _ _ ha
        have a2:=X75 (fun _ _ _ _ _ h=>X4o d _ _ _ _ _ h) _ _ _ _ _ _ _ hk
        have a3:=X27 [60] (r1.drop 1)
        have a4:=X27 [32,62] (s.drop 1)
        simp only [Ya,List.length_cons,List.length_nil] at *
        omega
theorem X4f:∀ (f g:Nat) (s:List UInt8) (out:List Px),s.length<f→s.length<g→Xs f s out=Xs g s out
 | 0,_,_,_,h,_=>by omega
 | _+1,0,_,_,_,h=>by omega
 | f+1,g+1,s,out,hf,hg=>by
  rw [Xs,Xs]
  split
  ·rfl
  ·rename_i h0
   have h1:=X29 (Bool.not_eq_false _ ▸ h0)
   split
   ·rfl
   ·split
    ·rfl
    ·split
     ·rfl
     ·have a1:=X27 [34] ((Xc [61] (s.drop 1)).drop 2)
      have a2:=X27 [61] (s.drop 1)
      simp only [Ya,List.length_cons,List.length_nil] at *
      exact X4f f g _ _ (by simp only [Ya]; omega) (by simp only [Ya]; omega)
end Xm
namespace Gk
open Go
section
variable {P:Program} {n:Nat} {K:X1x} {L:Env} {w:World} {ops:Array Oper} {rest:List Oper}
theorem WL.opn {d:Option Nat} {op:Op} {ty:TypeId} {pos:String} {af:Array Edge} {j t:Nat} {want:Bool} (hj:(ops[j]?).bind (·.dst)=some t) (ht:Nat.blt t n=true) (hb:look L t=some (.bool want))
  (h:WL P n ops K (⟨d,op,ty,pos,af,none⟩::rest) L w):WL P n ops K (⟨d,op,ty,pos,af,some (j,want)⟩::rest) L w:=by
 intro a ha
 have h1:=h a ha
 have hlt:t<a.tmps.size:=by have:=Y15 ht; rw [ha.size]; omega
 have hv:=ha.get t _ hb
 have hy:yielded ops a.tmps j=some want:=by
  obtain ⟨o,ho,hdd⟩:=Y1f.1 hj
  rw [Yf,Yg hlt] at hv
  simp only [Y1q] at hv
  have h2:a.tmps[t]?=some (.bool want):=by rw [Yg hlt,hv]
  simp only [yielded,ho,hdd,Y1v,h2]
 unfold wpList at h1 ⊢
 rw [if_pos (by simp [Region.wanted])] at h1
 rw [if_pos (by simp [Region.wanted,hy])]
 exact h1
end
end Gk
namespace Gk
open Go
def kvOf {β:Type} (K:β→Value) (kv:List (β×Value)) (es:Array MapEntry):Prop:=es.toList.map (fun e=>(e.key,e.val))=kv.map fun p=>(K p.1,p.2)
def MapI {β:Type} (I:Im) (K:β→Value) (b:Nat) (kv:List (β×Value)):Prop:=∃ es clk,kvOf K kv es∧I b=some (.map es clk)
theorem MapI.mono {β:Type} {I J:Im} {K:β→Value} {b:Nat} {kv:List (β×Value)} (h:MapI I K b kv) (hl:Le I J):MapI J K b kv:=by
 obtain ⟨es,clk,h1,h2⟩:=h
 exact ⟨es,clk,h1,hl _ _ h2⟩
section
variable {P:Program} {n:Nat} {K':X1x} {L:Env} {w B:World} {ops:Array Oper} {rest:List Oper} {I:Im} {As:List Xf} {β:Type} {K:β→Value} {D:TypeDesc} {kv:List (β×Value)} {k b:Nat} {t kt et ty:TypeId} {x y z:Operand} {pos:String} {af:Array Edge} {d:Nat} {g:Option (Nat×Bool)}
theorem MapI.now (h:MapI I K b kv) (hS:Sat B w I As):∃ es clk,kvOf K kv es∧w.heap[b]?=some (.map es clk):=by
 obtain ⟨es,clk,h1,h2⟩:=h
 obtain ⟨g,hs,hg⟩:=hS
 exact ⟨es,clk,h1,hg.imm _ _ h2⟩
end
end Gk
namespace Gk
open Go Go.RowKit Go.WideShapes Go.ChangeShapes
def im0 (W:World):Im:=fun b=>W.heap[b]?
theorem sat0 (W:World):Sat W W (im0 W) []:=⟨[],rfl,rfl,rfl,rfl,fun _ _ h=>h,fun _ _ h=>by simp at h,List.nodup_nil,fun _ _ h=>by simp at h⟩
theorem Sat.below {W w:World} {I:Im} {As:List Xf} (hS:Sat W w I As) (hl:Le (im0 W) I):Below W.heap.size W w:=by
 obtain ⟨h,_,g⟩:=hS
 have hb:∀ k,k<W.heap.size→w.heap[k]?=W.heap[k]?:=fun k hk=>by
  rw [Yg hk]
  exact g.imm k _ (hl k _ (Yg hk))
 refine ⟨g.os,g.tape,g.output,?_,hb⟩
 rcases Y39 W.heap.size with h0 | h0
 ·omega
 ·have h1:=hb (W.heap.size - 1) (by omega)
  rw [Yg (show W.heap.size - 1<W.heap.size by omega)] at h1
  have:=(Yr.1 h1).1
  omega
theorem X6q {H:Type} {enc:TypeId×Value→H} {P:Program} {f:Func} {s:ChangeSpec} {apart fresh handsOn:Bool} {W W':World} {args:Array Value} {v:Value} {ds gs:List (DataW H)} {before pa pv:List MemPlace}
  (hW:DataW.Whole enc P f.params.toList s.vars apart W args.toList ds gs before) (hb:Below W.heap.size W W')
  (hres:∀ (b:Nat) (sp:Nat→Bool) (hd:Bool),DataW.TrodAll enc P W' b sp hd f.resultTypes.toList (v.resultList f.resultTypes.size) (s.fn H (ds ++ gs)).results [])
  (hargs:DataW.TrodAll enc P W' 0 (fun b=>decide (b<W.heap.size)) true f.params.toList args.toList (s.fn H (ds ++ gs)).args pa)
  (hvars:DataW.TrodVars enc P W' (fun b=>decide (b<W.heap.size)) s.vars (s.fn H (ds ++ gs)).vars pv) (hps:before=pa ++ pv) :
  s.post enc P f apart fresh handsOn false W args v W':=by
 refine ⟨ds,gs,before,[],pa,pv,hW,hres _ _ _,hargs,hvars,World.keptBut_mono (fun p hp=>⟨hp,?_⟩) (hb.frame (·∈before)),fun h=>(by cases h)⟩
 rw [hps,Y1b] at hp
 exact Or.inr hp
theorem X73 {c:Nat}:∀ (L:List (List Value)),(∀ l∈L,l.length=c)→∀ (i r:Nat),r<c→L.flatten[i*c+r]?=(L[i]?).bind (·[r]?)
 | [],_,i,r,_=>by simp
 | a::L,h,0,r,hr=>by
  have ha:=h a (by simp)
  rw [Y1s,Y2e,Y7,Yl (by omega)]
  rfl
 | a::L,h,i+1,r,hr=>by
  have ha:=h a (by simp)
  rw [Y1s,Y38,Y16 (by omega),show i*c+c+r - a.length=i*c+r by omega,X73 L (fun l hl=>h l (by simp [hl])) i r hr]
  rfl
theorem X2l {c:Nat}:∀ (L:List (List Value)),(∀ l∈L,l.length=c)→∀ (i:Nat) (l:List Value),L[i]?=some l→(L.flatten.drop (i*c)).take c=l
 | [],_,i,l,h=>by simp at h
 | a::L,h,0,l,hl=>by
  have ha:=h a (by simp)
  simp at hl
  subst hl
  rw [Y1s,Y2e,Y5,← ha,Y1m]
 | a::L,h,i+1,l,hl=>by
  have ha:=h a (by simp)
  rw [Y1s,Y38,Y22,← ha,← List.drop_drop,Y3s,ha]
  exact X2l L (fun l hl=>h l (by simp [hl])) i l (by simpa using hl)
section
variable {H:Type} {enc:TypeId×Value→H} {P:Program} {W:World} {spare:Nat→Bool} {held:Bool}
theorem Xe0 {a:Addr} {xs:List Value} (hn:0<xs.length) (h:∀ j v,xs[j]?=some v→W.cell? (a.add j)=some v):At (im0 W) a xs:=by
 obtain ⟨ab,ao,sp⟩:=a
 have h0:=h 0 xs[0] (Y3 hn)
 have hs:sp=none:=by simpa [Addr.add] using World.cell?_spot h0
 subst hs
 have e:∀ j,(⟨ab,ao,none⟩:Addr).add j=⟨ab,ao+j,none⟩:=X1d ab ao
 rw [e] at h0
 unfold World.cell? at h0
 split at h0
 ·rename_i arr E fr hb
  refine ⟨rfl,arr,E,fr,hb,fun j v hj=>?_⟩
  have hc2:=h j v hj
  rw [e] at hc2
  unfold World.cell? at hc2
  dsimp only at hb
  rw [hb] at hc2
  simpa using hc2
 ·cases h0
end
end Gk
namespace Gk
open Go
def X8 {α:Type} (cells:α→List Value) (l:List α):List Value:=(l.map cells).flatten
theorem X12 {α:Type} {cells:α→List Value} {s:Nat} (hc:∀ x,(cells x).length=s):∀ l:List α,(X8 cells l).length=l.length*s
 | []=>by simp [X8]
 | x::l=>by
  have:=X12 hc l
  unfold X8 at this ⊢
  rw [Y1l,Y1s,Y0,this,hc,List.length_cons,Y1g]; omega
theorem X2x {α:Type} {cells:α→List Value} {s:Nat} (hc:∀ x,(cells x).length=s) {l:List α} {i j:Nat} {r:α} {v:Value} (hr:l[i]?=some r) (hj:(cells r)[j]?=some v):(X8 cells l)[i*s+j]?=some v:=by
 have hjs:j<s:=by rw [← hc r]; exact (Y1.1 hj).1
 have h2:=X73 (l.map cells) (fun c h=>by obtain ⟨x,_,rfl⟩:=Y3k.1 h; exact hc x) i j hjs
 rw [Y1e,hr] at h2
 exact h2.trans hj
def X7n {α:Type} (w:World) (cells:α→List Value) (s:Nat) (a:Option Addr) (l:List α):Prop:=∀ (i:Nat) (r:α),l[i]?=some r→∃ p,a=some p∧∀ (j:Nat) v,(cells r)[j]?=some v→w.cell? ((p.add (i*s)).add j)=some v
section
variable {P:Program} {n:Nat} {K:X1x} {L:Env} {w B:World} {ops:Array Oper} {rest:List Oper} {I:Im} {As:List Xf} {k:Nat} {ty t t' E:TypeId} {x y:Operand} {pos:String} {af:Array Edge} {g:Option (Nat×Bool)} {v:Value}
theorem X56 {α:Type} {cells:α→List Value} {s:Nat} {a:Option Addr} {l:List α} (hc:∀ x,(cells x).length=s) (hS:Sat B w I As) (hR:RS I a s l.length (X8 cells l)):X7n w cells s a l:=fun i r hr=>by
 obtain ⟨p,rfl,hA⟩:=hR.2 (by have:=(Y1.1 hr).1; omega)
 refine ⟨p,rfl,fun j v hj=>?_⟩
 rw [Addr.add_add]
 exact X6i hS hA (X2x hc hr hj)
theorem Ex.ldR {d:Option Nat} {p:Addr} {s:Nat} {vs:List Value} (hx:Ev n L x (.pointer (some p))) (hv:∀ (j:Nat) v,vs[j]?=some v→w.cell? (p.add j)=some v) (ht:∀ w,(isAgg t).run P w=.ok true w) (hs:∀ w,(Go.sizeOf t).run P w=.ok s w)
  (hl:vs.length=s):Ex P n L w ⟨d,.load t x,ty,pos,af,g⟩ (.agg vs.toArray) w:=fun a ha=>by
 have h:=run_loadCells_list (P:=P) w p vs hv
 rw [hl] at h
 simp [execOp,hx a ha,Instr.loadAt,Instr.sureAddr,loadVar,ht,hs,h]
theorem WL.appendF {d E size m c nn:Nat} {a:Option Addr} {v:Value} {xs ys:List Value} {i:TypeInfo} {z:Value} {bytes:Nat} (hS:Sat B w I As) (hx:Ev n L x v) (hy:Ev n L y (.slice a m c)) (hr:RS I a size m ys)
  (hk:As[k]?=some (Vec E size v nn xs)) (ht:P.underlying t=some (.slice E)) (hi:P.info? E=some i) (hz:i.zero=some z) (hsize:i.size=size) (hby:i.bytes=bytes) (hzs:z.cells.size=size)
  (h1:ys.all Value.oneCell'=true) (h63:(nn+m)*bytes≤140737488355328∧nn+m≤maxLen) (hd:Nat.blt d n=true)
  (h:∀ v' w',Sat B w' I (As.set k (Vec E size v' (nn+m) (xs ++ ys)))→WL P n ops K rest ((d,v')::L) w') :
  WL P n ops K (⟨some d,.call ⟨.builtin .append,#[x,y],#[t,t]⟩,ty,pos,af,none⟩::rest) L w:=by
 rcases Y39 m with h0 | h0
 ·subst h0
  have hy0:ys=[]:=Yz (by simpa using hr.1)
  subst hy0
  obtain ⟨a0,c0,rfl,hc0,_⟩:=hS.vecSlice hk
  have hr:(Builtin.append_ #[t,t] ty #[.slice a0 nn c0,.slice a 0 c]).run P w=.ok (.slice a0 nn c0) w:=by
   subst hsize
   cases a0 <;> cases a <;> simp [Builtin.append_,run_underlying ht,Go.sizeOf,typeInfo,hi,Builtin.lenOf,Builtin.firstCells,loadCells,loadCellsFrom,storeCells,hc0]
  have h2:=h (.slice a0 nn c0) w (by
   have hlk:k<As.length:=(Y1.1 hk).1
   have:As.set k (Vec E size (.slice a0 nn c0) (nn+0) (xs ++ []))=As:=by
    rw [Y23,Y8]
    have:=(Y1.1 hk).2
    rw [← this,List.set_getElem_self]
   rw [this]; exact hS)
  exact WL.val (w':=w) (fun a' ha=>by simp [execOp,resolve,invoke,builtin,hx a' ha,hy a' ha,hr]) hd h2
 ·obtain ⟨p,rfl,hA⟩:=hr.2 h0
  obtain ⟨v',w',hr',hS'⟩:=X2p (P:=P) (ty:=ty) hS ht hi hz hsize hby hzs hk (p:=p) (m:=m) (c:=c) hr.1 h0 (fun q u hu=>X6i hS hA hu) (Y1c.1 h1) h63.2 h63.1
  exact WL.val (w':=w') (fun a' ha=>by simp [execOp,resolve,invoke,builtin,hx a' ha,hy a' ha,hr']) hd (h _ _ hS')
end
end Gk
namespace Tk
open Pc Gk Ul
def pre:Nat→List UInt8
 | 1=>[84,71,84]
 | 2=>[83,84]
 | 3=>[80,84]
 | 4=>[80,71,84]
 | 5=>[80,71,84,73,79,85]
 | 6=>[76,84]
 | _=>[]
def hx (c:UInt8):Option Nat:=if 48≤c && c≤57 then some (c.toNat - 48) else if 97≤c && c≤102 then some (c.toNat - 87) else none
def hxS (n:Nat):List UInt8→Option Nat
 | []=>some n
 | c::r=>match hx c with
  | some d=>hxS (16*n+d) r
  | none=>none
def X28 (s:List UInt8):Option Nat:=if s.length=16 then hxS 0 s else none
def X1m (p:List UInt8):Nat:=if p=pre 1 then 1 else if p=pre 2 then 2 else if p=pre 3 then 3 else if p=pre 4 then 4 else if p=pre 5 then 5 else if p=pre 6 then 6 else 0
def Xt (s:List UInt8):Option (Nat×Nat) :=
 if X1m (upto [45] s)=0 then none else (X28 ((Xc [45] s).drop 1)).map fun d=>(X1m (upto [45] s),d)
theorem hx_lt {c:UInt8} {d:Nat} (h:hx c=some d):d<16:=by
 have:=Xz (p:=fun c=>match hx c with | some d=>decide (d<16) | none=>true) (by decide +kernel) c
 rw [h] at this
 simpa using this
theorem Xds:∀ (s:List UInt8) (n m k:Nat),n<16 ^ k→hxS n s=some m→m<16 ^ (k+s.length)
 | [],n,m,k,hn,h=>by
  simp only [hxS,Option.some.injEq] at h
  subst h; exact hn
 | c::r,n,m,k,hn,h=>by
  rw [hxS] at h
  cases hc:hx c with
  | none=>rw [hc] at h; cases h
  | some d =>
   rw [hc] at h
   have hd:=hx_lt hc
   have:=Xds r (16*n+d) m (k+1) (by rw [Y17]; omega) h
   rw [List.length_cons,show k+(r.length+1)=k+1+r.length by omega]; exact this
theorem Xeo {s:List UInt8} {d:Nat} (h:X28 s=some d):d<18446744073709551616:=by
 unfold X28 at h
 split at h
 ·rename_i hl
  have:=Xds s 0 d 0 (by decide) h
  rw [hl] at this
  exact this
 ·cases h
def X9d:Nat→Nat→List UInt8
 | 0,_=>[]
 | k+1,n=>X9d k (n / 16) ++ [if n % 16<10 then UInt8.ofNat (48+n % 16) else UInt8.ofNat (87+n % 16)]
theorem X6n:∀ (k n:Nat),(X9d k n).length=k
 | 0,_=>rfl
 | k+1,n=>by rw [X9d,Y0,X6n k]; rfl
theorem X8k:∀ (s t:List UInt8) (n:Nat),hxS n (s ++ t)=(hxS n s).bind fun m=>hxS m t
 | [],_,_=>rfl
 | c::r,t,n=>by
  rw [Y1r,hxS,hxS]
  cases hx c with
  | none=>rfl
  | some d=>exact X8k r t _
theorem Xco {k:Nat}:∀ c∈pre k,c≠45:=by
 intro c hc e
 subst e
 match k,hc with
 | 0,h=>simp [pre] at h
 | 1,h=>simp [pre] at h
 | 2,h=>simp [pre] at h
 | 3,h=>simp [pre] at h
 | 4,h=>simp [pre] at h
 | 5,h=>simp [pre] at h
 | 6,h=>simp [pre] at h
 | k+7,h=>simp [pre] at h
theorem Xda {p r:List UInt8} (h:∀ c∈p,c≠45):upto [45] (p ++ 45::r)=p∧Xc [45] (p ++ 45::r)=45::r:=by
 induction p with
 | nil=>simp [upto,Xc]
 | cons c p ih =>
  have h1:c≠45:=h c (by simp)
  obtain ⟨h2,h3⟩:=ih (fun x hx=>h x (by simp [hx]))
  simp only [upto,Xc] at h2 h3 ⊢
  rw [Y1r,Y12,Y1t]
  have:(!([45]:List UInt8).contains c)=true:=by simp [h1]
  rw [if_pos this,if_pos this]
  exact ⟨congrArg (c::·) h2,h3⟩
theorem Xcj {k:Nat} (h1:1≤k) (h2:k≤6):X1m (pre k)=k:=by
 have:=(by decide:∀ k:Fin 7,1≤k.val→X1m (pre k.val)=k.val) ⟨k,by omega⟩ h1
 exact this
theorem Xaq (p:List UInt8):X1m p≤6:=by
 unfold X1m
 by_cases h1:p=pre 1
 ·rw [if_pos h1]; decide
 by_cases h2:p=pre 2
 ·rw [if_neg h1,if_pos h2]; decide
 by_cases h3:p=pre 3
 ·rw [if_neg h1,if_neg h2,if_pos h3]; decide
 by_cases h4:p=pre 4
 ·rw [if_neg h1,if_neg h2,if_neg h3,if_pos h4]; decide
 by_cases h5:p=pre 5
 ·rw [if_neg h1,if_neg h2,if_neg h3,if_neg h4,if_pos h5]; decide
 by_cases h6:p=pre 6
 ·rw [if_neg h1,if_neg h2,if_neg h3,if_neg h4,if_neg h5,if_pos h6]; decide
 ·rw [if_neg h1,if_neg h2,if_neg h3,if_neg h4,if_neg h5,if_neg h6]; decide
theorem X86 {p:List UInt8} (h:X1m p≠0):p=pre (X1m p):=by
 unfold X1m at h ⊢
 by_cases h1:p=pre 1
 ·rw [if_pos h1]; exact h1
 by_cases h2:p=pre 2
 ·rw [if_neg h1,if_pos h2]; exact h2
 by_cases h3:p=pre 3
 ·rw [if_neg h1,if_neg h2,if_pos h3]; exact h3
 by_cases h4:p=pre 4
 ·rw [if_neg h1,if_neg h2,if_neg h3,if_pos h4]; exact h4
 by_cases h5:p=pre 5
 ·rw [if_neg h1,if_neg h2,if_neg h3,if_neg h4,if_pos h5]; exact h5
 by_cases h6:p=pre 6
 ·rw [if_neg h1,if_neg h2,if_neg h3,if_neg h4,if_neg h5,if_pos h6]; exact h6
 ·rw [if_neg h1,if_neg h2,if_neg h3,if_neg h4,if_neg h5,if_neg h6] at h; exact absurd rfl h
theorem X2k {s:List UInt8} {k d:Nat} (h:Xt s=some (k,d)):1≤k∧k≤6∧d<18446744073709551616∧s.length≤23∧s≠[]:=by
 unfold Xt at h
 split at h
 ·cases h
 ·rename_i hk
  obtain ⟨x,hx,e⟩:=Y18.1 h
  simp only [Prod.mk.injEq] at e
  obtain ⟨rfl,rfl⟩:=e
  have hl:=Xaq (upto [45] s)
  refine ⟨by omega,hl,Xeo hx,?_,fun e=>by subst e; exact hk rfl⟩
  unfold X28 at hx
  split at hx
  ·rename_i h16
   have h3:=X11 [45] s
   have h4:(upto [45] s).length≤6:=by
    rw [X86 hk]
    have:=(by decide:∀ k:Fin 7,(pre k.val).length≤6) ⟨X1m (upto [45] s),by omega⟩
    exact this
   rw [Ya] at h16
   omega
  ·cases hx
end Tk
namespace Tr
open Tk
structure Rec where
 kind:Int
 name:List UInt8
 parent:List UInt8
 user:List UInt8
 service:List UInt8
 url:List UInt8
 made:Int
 used:Int
 uses:Int
 fresh:Bool
 deriving DecidableEq
def r0:Rec:=⟨0,[],[],[],[],[],0,0,0,false⟩
def comes (kind of:Int):Bool:=(kind == 1 && of == 0) || (kind == 6 && of == 0) || (kind == 2 && of == 1) || (kind == 3 && of == 4) || (kind == 4 && of == 2) || (kind == 4 && of == 3) || (kind == 5 && of == 4)
def Xcl (kind:Int) (name:List UInt8):Bool:=if name=[] then comes kind 0 else match Xt name with
 | some (of,_)=>comes kind (of:Nat)
 | none=>false
def isT (s:List UInt8) (kind:Int):Bool:=match Xt s with
 | some (k,_)=>((k:Nat):Int) == kind
 | none=>false
def X2q (r:Rec):Bool :=
 (decide ((r.user.length:Int)≤32) && decide ((r.service.length:Int)≤100) && decide ((r.url.length:Int)≤100)) && (decide (0≤r.made) && decide (r.made≤r.used) && decide (r.used≤1099511627776) && decide (0≤r.uses) && decide (r.uses≤255)) && isT r.name r.kind && Xcl r.kind r.parent
def atN (name:List UInt8):List Rec→Nat→Int
 | [],_=>-1
 | r::l,i=>if r.name=name then (i:Int) else atN name l (i+1)
def at0 (l:List Rec) (name:List UInt8):Int:=atN name l 0
theorem X8v (name:List UInt8):∀ (l:List Rec) (i:Nat),(atN name l i=-1∧∀ r∈l,r.name≠name)∨∃ (j:Nat) (r:Rec),atN name l i=((i+j:Nat):Int)∧l[j]?=some r∧r.name=name∧∀ (q:Nat) (t:Rec),q<j→l[q]?=some t→t.name≠name
 | [],_=>.inl ⟨rfl,fun r h=>by simp at h⟩
 | a::l,i=>by
  rw [atN]
  by_cases h:a.name=name
  ·rw [if_pos h]
   exact .inr ⟨0,a,rfl,rfl,h,fun q t hq=>absurd hq (by omega)⟩
  ·rw [if_neg h]
   rcases X8v name l (i+1) with ⟨h1,h2⟩ | ⟨j,r,h1,h2,h3,h4⟩
   ·refine .inl ⟨h1,fun r hr=>?_⟩
    rcases Y19.1 hr with e | e
    ·subst e; exact h
    ·exact h2 r e
   ·refine .inr ⟨j+1,r,by rw [h1]; congr 1; omega,h2,h3,fun q t hq ht=>?_⟩
    cases q with
    | zero=>simp at ht; subst ht; exact h
    | succ q=>exact h4 q t (by omega) (by simpa using ht)
theorem X3q (l:List Rec) (name:List UInt8):(at0 l name=-1∧∀ r∈l,r.name≠name)∨∃ (j:Nat) (r:Rec),at0 l name=(j:Int)∧l[j]?=some r∧r.name=name∧∀ (q:Nat) (t:Rec),q<j→l[q]?=some t→t.name≠name:=by
 rcases X8v name l 0 with h | ⟨j,r,h1,h2⟩
 ·exact .inl h
 ·exact .inr ⟨j,r,by rw [at0,h1,Y7],h2⟩
theorem at_lt (l:List Rec) (name:List UInt8):at0 l name<l.length:=by
 rcases X3q l name with ⟨h,_⟩ | ⟨j,r,h,hr,_⟩
 ·rw [h]; omega
 ·have:=(Y1.1 hr).1
  rw [h]; omega
theorem at_ge (l:List Rec) (name:List UInt8):-1≤at0 l name:=by
 rcases X3q l name with ⟨h,_⟩ | ⟨j,r,h,_⟩ <;> rw [h] <;> omega
def get (l:List Rec) (name:List UInt8):Option Rec:=l.find? fun r=>decide (r.name=name)
theorem get_at (l:List Rec) (name:List UInt8):(at0 l name=-1∧get l name=none)∨∃ (j:Nat) (r:Rec),at0 l name=(j:Int)∧l[j]?=some r∧r.name=name∧get l name=some r:=by
 rcases X3q l name with ⟨h1,h2⟩ | ⟨j,r,h1,h2,h3,h4⟩
 ·refine .inl ⟨h1,?_⟩
  unfold get
  rw [List.find?_eq_none]
  intro r hr
  simpa using h2 r hr
 ·refine .inr ⟨j,r,h1,h2,h3,?_⟩
  unfold get
  have:∀ (l:List Rec) (j:Nat),l[j]?=some r→(∀ (q:Nat) (t:Rec),q<j→l[q]?=some t→t.name≠name)→l.find? (fun r=>decide (r.name=name))=some r:=by
   intro l
   induction l with
   | nil=>intro j h; simp at h
   | cons a l ih =>
    intro j h hno
    rw [Y2j]
    cases j with
    | zero=>simp at h; subst h; rw [decide_eq_true h3]
    | succ j =>
     rw [decide_eq_false (hno 0 a (by omega) rfl)]
     exact ih j (by simpa using h) (fun q t hq ht=>hno (q+1) t (by omega) (by simpa using ht))
  exact this l j h2 h4
def addE (room:Int) (l:List Rec) (r:Rec):Nat:=if X2q r=false then 1 else if 0≤at0 l r.name then 7 else if r.parent≠[]∧at0 l r.parent<0 then 6 else if room≤l.length then 5 else 0
def add (room:Int) (l:List Rec) (r:Rec):List Rec:=if addE room l r=0 then l ++ [r] else l
def putE (l:List Rec) (r:Rec):Nat:=if X2q r=false then 1 else match get l r.name with
 | none=>6
 | some t=>if t.parent≠r.parent then 8 else 0
def put (l:List Rec) (r:Rec):List Rec:=if putE l r=0 then l.set (at0 l r.name).toNat r else l
structure Wf (l:List Rec):Prop where
 right:∀ r∈l,X2q r=true
 one:∀ (i j:Nat) (r s:Rec),l[i]?=some r→l[j]?=some s→r.name=s.name→i=j
 up:∀ (i:Nat) (r:Rec),l[i]?=some r→(r.parent=[]∨0≤at0 l r.parent)∧at0 l r.parent<i
theorem Wf.nil:Wf []:=⟨fun r h=>by simp at h,fun i j r s h=>by simp at h,fun i r h=>by simp at h⟩
theorem Wf.at_ {l:List Rec} (h:Wf l) {i:Nat} {r:Rec} (hr:l[i]?=some r):at0 l r.name=(i:Int):=by
 rcases X3q l r.name with ⟨_,h2⟩ | ⟨j,t,h1,h2,h3,_⟩
 ·exact absurd rfl (h2 r (Yj hr))
 ·rw [h1,h.one j i t r h2 hr h3]
theorem X5r {r:Rec} (h:X2q r=true):r.name≠[]:=by
 intro e
 unfold X2q at h
 simp only [Yd] at h
 have h1:=h.1.2
 unfold isT at h1
 rw [e] at h1
 cases hp:Xt [] with
 | none=>rw [hp] at h1; cases h1
 | some x=>exact (X2k (k:=x.1) (d:=x.2) hp).2.2.2.2 rfl
theorem Xak (name:List UInt8):∀ (l m:List Rec) (i:Nat),atN name (l ++ m) i=if atN name l i=-1 then atN name m (i+l.length) else atN name l i
 | [],m,i=>by simp [atN]
 | a::l,m,i=>by
  rw [Y1r,atN,atN]
  split
  ·rw [if_neg (by omega)]
  ·rw [Xak name l m (i+1),List.length_cons,show i+1+l.length=i+(l.length+1) by omega]
theorem Xem (l:List Rec) (r:Rec) (name:List UInt8):at0 (l ++ [r]) name=if at0 l name=-1 then (if r.name=name then (l.length:Int) else -1) else at0 l name:=by
 unfold at0
 rw [Xak]
 simp [atN]
theorem X44 {l:List Rec} {r:Rec} {i:Nat} {t:Rec} (h:(l ++ [r])[i]?=some t):l[i]?=some t∨(i=l.length∧t=r):=by
 rcases Yo i l.length with h1 | h1
 ·rw [Yl h1] at h; exact .inl h
 ·rw [Y16 h1] at h
  have h2:=(Y1.1 h).1
  simp at h2
  have h3:i=l.length:=by omega
  subst h3
  simp at h
  exact .inr ⟨rfl,h.symm⟩
theorem add_ok {room:Int} {l:List Rec} {r:Rec} (h:addE room l r=0):X2q r=true∧at0 l r.name=-1∧(r.parent=[]∨0≤at0 l r.parent)∧(l.length:Int)<room:=by
 unfold addE at h
 split at h
 ·cases h
 ·rename_i h1
  split at h
  ·cases h
  ·rename_i h2
   split at h
   ·cases h
   ·rename_i h3
    split at h
    ·cases h
    ·refine ⟨by simpa using h1,by have:=at_ge l r.name; omega,?_,by omega⟩
     by_cases e:r.parent=[]
     ·exact .inl e
     ·refine .inr ?_
      have:¬ at0 l r.parent<0:=fun h4=>h3 ⟨e,h4⟩
      omega
theorem Wf.snoc {l:List Rec} (h:Wf l) {r:Rec} (hr:X2q r=true) (hm1:at0 l r.name=-1) (hp:r.parent=[]∨0≤at0 l r.parent):Wf (l ++ [r]):=by
 have hno:∀ t∈l,t.name≠r.name:=by
  rcases X3q l r.name with ⟨_,h4⟩ | ⟨j,t,h4,_⟩
  ·exact h4
  ·rw [h4] at hm1; omega
 have hnil:∀ l:List Rec,(∀ r∈l,X2q r=true)→at0 l []=-1:=fun l hl=>by
  rcases X3q l [] with ⟨h4,_⟩ | ⟨j,t,_,ht,he,_⟩
  ·exact h4
  ·exact absurd he (X5r (hl t (Yj ht)))
 refine ⟨fun t ht=>?_,fun i j s t hi hj he=>?_,fun i t hi=>?_⟩
 ·rcases Y1b.1 ht with e | e
  ·exact h.right t e
  ·simp at e; subst e; exact hr
 ·rcases X44 hi with hi1 | ⟨hi1,hi2⟩
  ·rcases X44 hj with hj1 | ⟨hj1,hj2⟩
   ·exact h.one i j s t hi1 hj1 he
   ·rw [hj2] at he; exact absurd he (hno s (Yj hi1))
  ·rcases X44 hj with hj1 | ⟨hj1,hj2⟩
   ·rw [hi2] at he; exact absurd he.symm (hno t (Yj hj1))
   ·omega
 ·have key:∀ (t:Rec),(t.parent=[]∨0≤at0 l t.parent)→at0 (l ++ [r]) t.parent=at0 l t.parent:=fun t ht=>by
   rw [Xem]
   rcases ht with e | e
   ·rw [e,hnil l h.right,if_pos rfl,if_neg (X5r hr)]
   ·rw [if_neg (by omega)]
  rcases X44 hi with hi1 | ⟨hi1,hi2⟩
  ·obtain ⟨h1,h2⟩:=h.up i t hi1
   rw [key t h1]; exact ⟨h1,h2⟩
  ·subst hi1; subst hi2
   rw [key t hp]; exact ⟨hp,at_lt l t.parent⟩
theorem Wf.add {l:List Rec} (h:Wf l) {room:Int} {r:Rec}:Wf (add room l r):=by
 unfold Tr.add
 split
 ·rename_i he
  obtain ⟨h1,h2,h3,_⟩:=add_ok he
  exact h.snoc h1 h2 h3
 ·exact h
theorem Xbv (name:List UInt8) {r:Rec}:∀ (l:List Rec) (k i:Nat) (t:Rec),l[k]?=some t→t.name=r.name→atN name (l.set k r) i=atN name l i
 | [],k,i,t,h,_=>by simp at h
 | a::l,0,i,t,h,he=>by
  simp at h; subst h
  rw [List.set_cons_zero,atN,atN,he]
 | a::l,k+1,i,t,h,he=>by
  rw [List.set_cons_succ,atN,atN,Xbv name l k (i+1) t (by simpa using h) he]
theorem put_ok {l:List Rec} {r:Rec} (h:putE l r=0):X2q r=true∧∃ (j:Nat) (t:Rec),at0 l r.name=(j:Int)∧l[j]?=some t∧t.name=r.name∧t.parent=r.parent∧get l r.name=some t:=by
 unfold putE at h
 split at h
 ·cases h
 ·rename_i h1
  refine ⟨by simpa using h1,?_⟩
  rcases get_at l r.name with ⟨_,h2⟩ | ⟨j,t,h2,h3,h4,h5⟩
  ·rw [h2] at h; cases h
  ·rw [h5] at h
   simp only at h
   split at h
   ·cases h
   ·rename_i h6
    exact ⟨j,t,h2,h3,h4,by simpa using h6,h5⟩
theorem Wf.set {l:List Rec} (h:Wf l) {j:Nat} {t r:Rec} (ht:l[j]?=some t) (hn:t.name=r.name) (hp:t.parent=r.parent) (hr:X2q r=true):Wf (l.set j r):=by
 have hj:=(Y1.1 ht).1
 have e:∀ name,at0 (l.set j r) name=at0 l name:=fun name=>Xbv name l j 0 t ht hn
 have g:∀ (i:Nat) (s:Rec),(l.set j r)[i]?=some s→∃ u,l[i]?=some u∧u.name=s.name∧u.parent=s.parent:=fun i s hs=>by
  rw [List.getElem?_set] at hs
  split at hs
  ·rename_i hij
   subst hij
   cases hs
   exact ⟨t,ht,hn,hp⟩
  ·exact ⟨s,hs,rfl,rfl⟩
 refine ⟨fun s hs=>?_,fun i k s u hi hk he=>?_,fun i s hi=>?_⟩
 ·rcases List.mem_or_eq_of_mem_set hs with h1 | h1
  ·exact h.right s h1
  ·subst h1; exact hr
 ·obtain ⟨s',h1,h2,_⟩:=g i s hi
  obtain ⟨u',h3,h4,_⟩:=g k u hk
  exact h.one i k s' u' h1 h3 (by rw [h2,h4,he])
 ·obtain ⟨s',h1,_,h2⟩:=g i s hi
  rw [e,← h2]
  exact h.up i s' h1
theorem Wf.put {l:List Rec} (h:Wf l) {r:Rec}:Wf (put l r):=by
 unfold Tr.put
 split
 ·rename_i he
  obtain ⟨h1,j,t,h2,h3,h4,h5,_⟩:=put_ok he
  rw [h2,Y9]
  exact h.set h3 h4 h5 h1
 ·exact h
def pathF (l:List Rec):Nat→Int→List Rec
 | 0,_=>[]
 | f+1,i=>if i<0 then [] else match l[i.toNat]? with
  | some r=>r::pathF l f (at0 l r.parent)
  | none=>[]
def pathI (l:List Rec) (i:Int):List Rec:=pathF l (i.toNat+1) i
def path (l:List Rec) (name:List UInt8):List Rec:=pathI l (at0 l name)
def kidsR (l:List Rec) (name:List UInt8):List Rec:=l.filter fun r=>decide (name≠[]) && decide (r.parent=name)
def kids (l:List Rec) (name:List UInt8):List (List UInt8):=(kidsR l name).map Rec.name
def Xdu (l:List Rec):Nat→List UInt8→List (List UInt8)
 | 0,_=>[]
 | f+1,name=>name::(kids l name).flatMap (Xdu l f)
def below (l:List Rec) (name:List UInt8):List (List UInt8):=if 0≤at0 l name then Xdu l l.length name else []
def drop (l:List Rec) (name:List UInt8):List Rec:=l.filter fun r=>!(below l name).contains r.name
def Xw {α:Type} (pr:α→Bool):List α→Nat→Int
 | [],_=>-1
 | s::r,i=>if pr s then (i:Int) else Xw pr r (i+1)
theorem X2v {α:Type} (pr:α→Bool):∀ (n:Nat) (r:List α) (i:Nat),(∀ (j:Nat) s,j<n→r[j]?=some s→pr s=false)→Xw pr r i=Xw pr (r.drop n) (i+min n r.length)
 | 0,r,i,_=>by simp
 | n+1,[],i,_=>by simp [Xw]
 | n+1,s::r,i,h=>by
  rw [Xw,if_neg (by rw [h 0 s (by omega) rfl]; decide),X2v pr n r (i+1) (fun j t hj ht=>h (j+1) t (by omega) (by simpa using ht)),Y2,List.length_cons]
  congr 1
  omega
theorem X3p {α:Type} {pr:α→Bool} {l:List α} {i:Nat} {s:α} (h:∀ (j:Nat) t,j<i→l[j]?=some t→pr t=false) (hs:l[i]?=some s) (hp:pr s=true):Xw pr l 0=(i:Int):=by
 have hi:=(Y1.1 hs).1
 rw [X2v pr i l 0 h,Y7,Y1w (by omega),Yu hi,(Y1.1 hs).2,Xw,if_pos hp]
theorem X2u {α:Type} {pr:α→Bool} {l:List α} (h:∀ (j:Nat) t,l[j]?=some t→pr t=false):Xw pr l 0=-1:=by
 rw [X2v pr l.length l 0 (fun j t _ ht=>h j t ht),Y2y]
 rfl
theorem X1i {α:Type} (pr:α→Bool):∀ (l:List α) (i:Nat),decide (0≤Xw pr l i)=l.any pr
 | [],i=>rfl
 | s::r,i=>by
  rw [Xw,List.any_cons]
  split
  ·rename_i h
   rw [h,Bool.true_or,decide_eq_true_eq]; omega
  ·rename_i h
   rw [Y2n.2 h,Y32,X1i pr r (i+1)]
theorem X36 (name:List UInt8):∀ (l:List Rec) (i:Nat),Xw (fun r=>decide (r.name=name)) l i=atN name l i
 | [],i=>rfl
 | s::r,i=>by
  rw [Xw,atN,X36 name r (i+1)]
  simp only [decide_eq_true_eq]
def getD (l:List Rec) (name:List UInt8):Rec:=(get l name).getD r0
end Tr
namespace Go.Proofs.YtbciobiiejpdgaaGreatDoor
open Gk Ul Pc Pat Xm Tr
theorem X33 {I:Im} {p:Addr} {vs:List Value} (h:At I p vs) (n:Nat):At I p (vs.take n):=by
 obtain ⟨h1,arr,E,fr,h2,h3⟩:=h
 refine ⟨h1,arr,E,fr,h2,fun j v hj=>?_⟩
 rw [Y2i] at hj
 split at hj
 ·exact h3 j v hj
 ·cases hj
theorem X8y {α:Type} {cells:α→List Value} {s:Nat} (hc:∀ x,(cells x).length=s) {I:Im} {a:Option Addr} {l:List α} (hR:RS I a s l.length (X8 cells l)) {i:Nat} {x:α} (hx:l[i]?=some x):∃ q,a=some q∧At I (q.add (i*s)) (cells x):=by
 obtain ⟨q,rfl,hq⟩:=hR.2 (by have:=(Y1.1 hx).1; omega)
 refine ⟨q,rfl,?_⟩
 have h3:=X33 (hq.add (i*s)) s
 rw [X8,X2l (l.map cells) (fun c h=>by obtain ⟨y,_,rfl⟩:=Y3k.1 h; exact hc y) i (cells x) (by rw [Y1e,hx]; rfl)] at h3
 exact h3
def Xe (p:Px):List Value:=[S p.1,S p.2]
def MKC:List Value:=X8 Xe MK
structure Kx (I:Im):Prop where
 mks:At I (ad 2 0) MKC
 pow : ∀ (B w : World) (As : List Xf), Sat B w I As → Go.Lib.TabIs Tryz.prog w "internal/strconv.uint64pow10" .u64 Go.Lib.pow10Tab
 max:∀ (B w:World) (As:List Xf),Sat B w I As→∃ m,w.cell? ⟨6,0,none⟩=some (.int .i64 m)
 syn:∀ (B w:World) (As:List Xf),Sat B w I As→∃ te pe,w.cell? ⟨3,0,none⟩=some (.iface te pe)
 rng:∀ (B w:World) (As:List Xf),Sat B w I As→∃ te pe,w.cell? ⟨4,0,none⟩=some (.iface te pe)
theorem X2c {B w:World} {I J:Im} {As:List Xf} (hl:Le I J):Sat B w J As→Sat B w I As:=fun ⟨g,h1,h2⟩=>⟨g,h1,h2.os,h2.tape,h2.output,fun b o hi=>h2.imm b o (hl b o hi),h2.own,h2.nodup,fun b o hm=>by
  cases hi:I b with
  | none=>rfl
  | some x=>have:=h2.apart b o hm; rw [hl b x hi] at this; cases this⟩
theorem Kx.mono {I J:Im} (h:Kx I) (hl:Le I J):Kx J :=
 ⟨h.mks.mono hl,fun B w As s=>h.pow B w As (X2c hl s),fun B w As s=>h.max B w As (X2c hl s),fun B w As s=>h.syn B w As (X2c hl s),fun B w As s=>h.rng B w As (X2c hl s)⟩
theorem X9f (s:List UInt8) (c:UInt8) (hs:s.length≤1000000) (B w:World) (I:Im) (hK:Kx I) (As:List Xf) (hS:Sat B w I As):Calls Tryz.prog 187 [S s,S [c]].toArray w (Ret fun v w'=>v=.tuple #[S (upto [c] s),S ((Xc [c] s).drop 1),.bool (!(Xc [c] s).isEmpty)]∧Sat B w' I As):=by
 obtain ⟨m,hm⟩:=hK.max B w As hS
 refine (Tryz.strings_Cut ⟨s.toArray⟩ ⟨[c].toArray⟩ m w (by show s.length<_; omega) hm).mono fun e w' he=>?_
 obtain ⟨rfl,n,rfl⟩:=he
 refine ⟨_,rfl,?_,X7k hS n⟩
 show Value.tuple #[S (Go.Lib.cut s [c]).1,S (Go.Lib.cut s [c]).2.1,.bool (Go.Lib.cut s [c]).2.2]=_
 rw [Xf7]
theorem X71 (s m:List UInt8) (c:UInt8) (hs:s.length≤100000000) (hm:m.length≤6) (hne:([c] == m)=false) (B w:World) (I:Im) (hK:Kx I) (As:List Xf) (hS:Sat B w I As):Calls Tryz.prog 203 [S s,S [c],S m].toArray w (Ret fun v w'=>v=S (X81 c m s)∧Sat B w' I As):=by
 obtain ⟨q,hq⟩:=hK.max B w As hS
 have hcnt:Go.Lib.countB ⟨s.toArray⟩ ⟨[c].toArray⟩≤s.length:=by
  have h:∀ (n:Nat) (s:List UInt8),s.length≤n→Go.Lib.count s [c]≤s.length:=by
   intro n
   induction n with
   | zero =>
    intro s h
    have:s=[]:=Yz (by omega)
    subst this
    rw [Go.Lib.count_miss (by rw [Go.Lib.index_one]; rfl)]; exact Yh _
   | succ n ih =>
    intro s h
    have hge:=Go.Lib.indexByte_ge s c
    by_cases e:Go.Lib.indexByte s c=-1
    ·rw [Go.Lib.count_miss (by rw [Go.Lib.index_one]; exact e)]; exact Yk _
    ·obtain ⟨i,hk⟩:∃ k:Nat,Go.Lib.indexByte s c=k:=⟨(Go.Lib.indexByte s c).toNat,by omega⟩
     have hlt:i<s.length:=(Y1.1 (Go.Lib.indexByte_some hk).1).1
     rw [Go.Lib.count_hit (by simp) (by rw [Go.Lib.index_one]; exact hk)]
     have:=ih (s.drop (i+1)) (by rw [Ya]; omega)
     rw [Ya] at this
     show 1+Go.Lib.count (s.drop (i+1)) [c]≤_
     omega
  exact h _ s (Yh _)
 refine (Tryz.strings_ReplaceAll ⟨s.toArray⟩ ⟨[c].toArray⟩ ⟨m.toArray⟩ q w (by show s.length<_; omega) hq (Yh 1) ?_).mono fun e w' he=>?_
 ·show s.length+Go.Lib.countB ⟨s.toArray⟩ ⟨[c].toArray⟩*m.length≤_
  have:Go.Lib.countB ⟨s.toArray⟩ ⟨[c].toArray⟩*m.length≤s.length*6:=Y3c hcnt hm
  omega
 ·obtain ⟨rfl,hb⟩:=he
  refine ⟨_,rfl,?_,hS.grown hb⟩
  show S (Go.Lib.replaceAll s [c] m)=_
  rw [X8h c m s hne]
theorem Xfj:∀ (s p:List UInt8),Go.Lib.hasPrefix s p=Xa s p:=by
 intro s p
 unfold Go.Lib.hasPrefix Xa
 rw [Bool.eq_iff_iff,List.isPrefixOf_iff_prefix,List.prefix_iff_eq_take,Y9]
 simp only [Yd,decide_eq_true_eq,beq_iff_eq]
 constructor
 ·intro h
  have:=congrArg List.length h
  rw [Yw] at this
  exact ⟨by omega,h.symm⟩
 ·exact fun h=>h.2.symm
theorem X5v (s p:List UInt8) (B w:World) (I:Im) (As:List Xf) (hS:Sat B w I As):Calls Tryz.prog 190 [S s,S p].toArray w (Ret fun v w'=>v=.tuple #[S (if Xa s p=true then s.drop p.length else s),.bool (Xa s p)]∧Sat B w' I As):=by
 refine (Tryz.strings_CutPrefix ⟨s.toArray⟩ ⟨p.toArray⟩ w).mono fun e w' he=>?_
 obtain ⟨rfl,rfl⟩:=he
 refine ⟨_,rfl,?_,hS⟩
 show Value.tuple #[S (Go.Lib.trimPrefix s p),.bool (Go.Lib.hasPrefix s p)]=_
 unfold Go.Lib.trimPrefix
 rw [Xfj]
theorem X5z (s:List UInt8) (c:UInt8) (hc:c.toNat<128) (B w:World) (I:Im) (As:List Xf) (hS:Sat B w I As):Calls Tryz.prog 191 [S s,S [c]].toArray w (Ret fun v w'=>v=I64 (Go.Lib.indexAny s [c])∧Sat B w' I As):=by
 refine (Tryz.strings_IndexAny_one ⟨s.toArray⟩ ⟨[c].toArray⟩ w rfl (fun j b h=>?_)).mono fun e w' he=>?_
 ·cases j with
  | zero=>have h:some c=some b:=h; cases h; exact hc
  | succ j=>have h:([]:List UInt8)[j]?=some b:=h; simp at h
 ·obtain ⟨rfl,rfl⟩:=he
  exact ⟨_,rfl,rfl,hS⟩
theorem Ex.indexArrA {P:Program} {n:Nat} {L:Env} {w:World} {x y:Operand} {t:TypeId} {ty:TypeId} {pos:String} {af:Array Edge} {g:Option (Nat×Bool)} {d:Option Nat} {m s:Nat} {e:TypeId} {vs us:List Value} {i:Int} {q:IntKind} (hx:Ev n L x (.agg vs.toArray)) (hy:Ev n L y (.int q i)) (hi:0≤i) (hl:i<(m:Int)) (ht:P.underlying t=some (.array m e)) (hs:∀ w,(Go.sizeOf e).run P w=.ok s w) (ha:∀ w,(isAgg e).run P w=.ok true w) (hv:(vs.drop (i.toNat*s)).take s=us) (hle:i.toNat*s+s≤vs.length) :
  Ex P n L w ⟨d,.index t x y,ty,pos,af,g⟩ (.agg us.toArray) w:=fun b hb=>by
 subst hv
 simp [execOp,hx b hb,hy b hb,Instr.index,run_underlying ht,asIntOf,hi,hl,hs,ha,part,hle]
theorem Xfn (c:UInt8):((decide (97≤(c.toNat:Int)) && decide ((c.toNat:Int)≤122)) || (decide (65≤(c.toNat:Int)) && decide ((c.toNat:Int)≤90)))=Xd0 c:=eq_of_beq (Xz (p:=fun c=>((decide (97≤(c.toNat:Int)) && decide ((c.toNat:Int)≤122)) || (decide (65≤(c.toNat:Int)) && decide ((c.toNat:Int)≤90))) == Xd0 c) (by decide +kernel) c)
theorem Xfg (c:UInt8):((((Xd0 c || (decide (48≤(c.toNat:Int)) && decide ((c.toNat:Int)≤57))) || ((c.toNat:Int) == 58)) || ((c.toNat:Int) == 45)) || ((c.toNat:Int) == 95))=insB c:=eq_of_beq (Xz (p:=fun c=>((((Xd0 c || (decide (48≤(c.toNat:Int)) && decide ((c.toNat:Int)≤57))) || ((c.toNat:Int) == 58)) || ((c.toNat:Int) == 45)) || ((c.toNat:Int) == 95)) == insB c) (by decide +kernel) c)
theorem Xe5 (c:UInt8):(((c.toNat:Int) == 127) || ((decide ((c.toNat:Int)<32) && ((c.toNat:Int) != 9)) && ((c.toNat:Int) != 10)))=!shB c:=eq_of_beq (Xz (p:=fun c=>(((c.toNat:Int) == 127) || ((decide ((c.toNat:Int)<32) && ((c.toNat:Int) != 9)) && ((c.toNat:Int) != 10))) == !shB c) (by decide +kernel) c)
theorem Xb5 {s:List UInt8} (h:s≠[]):s.headD 0=at_ s 0:=by
 cases s with
 | nil=>exact absurd rfl h
 | cons a b=>rfl
theorem X4i (c:UInt8) (B w:World) (I:Im) (As:List Xf) (hS:Sat B w I As) :
  Calls Tryz.prog 237 [U8 c.toNat].toArray w (Ret fun v w'=>v=.bool (Xd0 c)∧Sat B w' I As):=by
 refine calls Tryz.func237 rfl Tryz.ntmps237 rfl (.seq (.q 1 rfl (.seq (.t 3 rfl (.gval rfl rfl (fun hg1=>(.move (.of rfl))) rfl (.gval rfl rfl (fun hg1=>(.leq (.gd hg1 rfl) (.of rfl))) rfl (.val (.pand (.of rfl) (.of rfl) (.of rfl)) rfl (.q 1 rfl (.gval rfl rfl (fun hg1=>(.move (.of rfl))) rfl (.gval rfl rfl (fun hg1=>(.geq (.gd hg1 rfl) (.of rfl))) rfl (.gval rfl rfl (fun hg1=>(.move (.gd hg1 rfl))) rfl (.gval2 rfl rfl rfl (fun hg1 hg2=>(.move (.of rfl))) rfl (.gval2 rfl rfl rfl (fun hg1 hg2=>(.leq (.gd2 hg1 hg2 rfl) (.of rfl))) rfl (.gval rfl rfl (fun hg1=>(.pand (.gd hg1 rfl) (.gd hg1 rfl) (.of rfl))) rfl (.val (.por (.of rfl) (.of rfl) (.of rfl)) rfl (.q 1 rfl (.nil (.ret (Xl Tryz.results237 rfl ?_)))))))))))))))))))
 exact ⟨_,rfl,congrArg Value.bool (Xfn c),hS⟩
theorem X8j (c:UInt8) (B w:World) (I:Im) (As:List Xf) (hS:Sat B w I As) :
  Calls Tryz.prog 238 [U8 c.toNat].toArray w (Ret fun v w'=>v=.bool (insB c)∧Sat B w' I As):=by
 refine calls Tryz.func238 rfl Tryz.ntmps238 rfl (.seq (.q 1 rfl (.seq (.t 1 rfl (.call Tryz.func237 rfl (X0 (.of rfl) X1) rfl (X4i c B _ I _ hS) ?_)))))
 clear hS
 rintro _ w ⟨rfl,hS⟩
 refine .q 1 rfl (.gval rfl rfl (fun hg1=>(.move (.of rfl))) rfl (.gval rfl rfl (fun hg1=>(.geq (.gd hg1 rfl) (.of rfl))) rfl (.gval rfl rfl (fun hg1=>(.move (.gd hg1 rfl))) rfl (.gval2 rfl rfl rfl (fun hg1 hg2=>(.move (.of rfl))) rfl (.gval2 rfl rfl rfl (fun hg1 hg2=>(.leq (.gd2 hg1 hg2 rfl) (.of rfl))) rfl (.gval rfl rfl (fun hg1=>(.pand (.gd hg1 rfl) (.gd hg1 rfl) (.of rfl))) rfl (.val (.por (.of rfl) (.of rfl) (.of rfl)) rfl (.q 1 rfl (.gval rfl rfl (fun hg1=>(.move (.of rfl))) rfl (.gval rfl rfl (fun hg1=>(.eql (.gd hg1 rfl) (.of rfl))) rfl (.val (.por (.of rfl) (.of rfl) (.of rfl)) rfl (.q 1 rfl (.gval rfl rfl (fun hg1=>(.move (.of rfl))) rfl (.gval rfl rfl (fun hg1=>(.eql (.gd hg1 rfl) (.of rfl))) rfl (.val (.por (.of rfl) (.of rfl) (.of rfl)) rfl (.q 1 rfl (.gval rfl rfl (fun hg1=>(.move (.of rfl))) rfl (.gval rfl rfl (fun hg1=>(.eql (.gd hg1 rfl) (.of rfl))) rfl (.val (.por (.of rfl) (.of rfl) (.of rfl)) rfl (.q 1 rfl (.nil (.ret (Xl Tryz.results238 rfl ?_)))))))))))))))))))))))
 exact ⟨_,rfl,congrArg Value.bool (Xfg c),hS⟩
theorem X70 (s:List UInt8) (hl:s.length≤1000000) (B w:World) (I:Im) (As:List Xf) (hS:Sat B w I As) :
  Calls Tryz.prog 196 [S s].toArray w (Ret fun v w'=>v=.bool (X3l s)∧Sat B w' I As):=by
 refine calls Tryz.func196 rfl Tryz.ntmps196 rfl (.seq (.q 1 rfl (.seq (.seq (.t 3 rfl (.gval rfl rfl (fun hg1=>(.move (.of rfl))) rfl ?_))))))
 refine WL.gval rfl rfl (fun hg1=>.index8 (l:=s) (i:=(0:Int)) (.gd hg1 rfl) (.of rfl) (by omega) (by have:=Y34.2 (show s≠[] from by simpa using hg1); omega) Qu9) rfl ?_
 refine .gcall (T:=fun w=>Sat B w I As) rfl rfl rfl Tryz.func237 rfl (fun hg1=>(X0 (.gd hg1 rfl) X1)) rfl (fun hg1=>X4i (at_ s 0) B _ I _ hS) hS ?_
 clear hS; rintro w hS
 refine .gval rfl rfl (fun hg1=>(.not (.gd hg1 rfl))) rfl (.val (.por (.of rfl) (.of rfl) (.of rfl)) rfl (.nil ?_))
 refine WC.cond rfl (fun hb11=>?_) (fun hb11=>?_)
 ·
  have hc11:=hb11; try simp only [Y4] at hc11
  refine .seq (.q 1 rfl (.ret (Xl Xfc rfl ?_)))
  refine ⟨_,rfl,congrArg Value.bool ?_,hS⟩
  unfold X3l
  by_cases hs:s=[]
  ·rw [hs]; rfl
  ·have h:=hb11
   rw [show (s == [])=false by simpa using hs,Y32] at h
   rw [Xb5 hs,show Xd0 (at_ s 0)=false by simpa using h,Y1z]; rfl
 have hc11:=hb11; try simp only [Y4] at hc11
 refine .skip (.seq (.seq (.region (.run 3 rfl ⟨Qu9,trivial⟩ (.nil (.block (.loop (σ:=Nat) (fun i=>[(0,S s),(13,I64 (s.length:Nat)),(14,I64 (i:Nat))]) (fun i w=>i≤s.length∧(∀ j,j<i→j<s.length→insB (at_ s (j:Int))=true)∧Sat B w I As) (fun i=>s.length - i) 0 ⟨rfl,rfl,rfl,trivial⟩ ⟨Yk _,fun _ h=>absurd h (by omega),hS⟩ ?_)))))))
 rintro i w ⟨hi,hok,hS⟩
 change WC _ _ _ _ [(0,S s),(13,I64 (s.length:Nat)),(14,I64 (i:Nat))] w
 refine .seq (.q 1 rfl (.seq ?_))
 refine WC.cond rfl (fun hb15=>?_) (fun hb15=>?_)
 ·
  have hc15:=hb15; try simp only [Y4] at hc15
  refine .skip (.seq (.block (.seq (.q 2 rfl (.seq (.region (.run 3 rfl ⟨⟨⟨by omega,by omega⟩,Qu9⟩,trivial⟩ (.call Tryz.func238 rfl (X0 (.of rfl) X1) rfl (X8j (at_ s (i:Int)) B _ I _ hS) ?_))))))))
  clear hS
  rintro _ w ⟨rfl,hS⟩
  refine .q 1 rfl (.nil ?_)
  refine WC.cond rfl (fun hb21=>?_) (fun hb21=>?_)
  ·
   have hc21:=hb21; try simp only [Y4] at hc21
   refine .seq (.q 1 rfl (.ret (Xl Xfc rfl ?_)))
   refine ⟨_,rfl,congrArg Value.bool ?_,hS⟩
   unfold X3l
   rw [Xbq (p:=insB) (i:=i) (by omega) (by simpa using hb21),Y1z]
  have hc21:=hb21; try simp only [Y4] at hc21
  refine .skip (.region (.run 2 rfl ⟨⟨by omega,by omega⟩,trivial⟩ (.nil ?_)))
  refine ⟨i+1,⟨rfl,rfl,rfl,trivial⟩,⟨by omega,fun j hj hjl=>?_,hS⟩,by omega⟩
  rcases Yo j i with h1 | h1
  ·exact hok j h1 hjl
  ·have e:j=i:=by omega
   subst e
   simpa using hb21
 have hc15:=hb15; try simp only [Y4] at hc15
 refine .exit (.seq (.q 1 rfl (.ret (Xl Xfc rfl ?_))))
 refine ⟨_,rfl,congrArg Value.bool ?_,hS⟩
 have h:=hb11
 simp only [Yi,Y11] at h
 have hs:s≠[]:=by simpa using h.1
 unfold X3l
 rw [Xb5 hs,h.1,h.2,Xdz hok (by omega)]; rfl
theorem X5k (s:List UInt8) (hl:s.length≤1000000) (B w:World) (I:Im) (As:List Xf) (hS:Sat B w I As) :
  Calls Tryz.prog 198 [S s].toArray w (Ret fun v w'=>v=.bool (X3t s)∧Sat B w' I As):=by
 refine calls Tryz.func198 rfl Tryz.ntmps198 rfl (.seq (.q 1 rfl (.seq (.seq (.region (.run 3 rfl ⟨Qu9,trivial⟩ (.nil (.block (.loop (σ:=Nat) (fun i=>[(0,S s),(6,I64 (s.length:Nat)),(7,I64 (i:Nat))]) (fun i w=>i≤s.length∧(∀ j,j<i→j<s.length→shB (at_ s (j:Int))=true)∧Sat B w I As) (fun i=>s.length - i) 0 ⟨rfl,rfl,rfl,trivial⟩ ⟨Yk _,fun _ h=>absurd h (by omega),hS⟩ ?_)))))))))
 rintro i w ⟨hi,hok,hS⟩
 change WC _ _ _ _ [(0,S s),(6,I64 (s.length:Nat)),(7,I64 (i:Nat))] w
 refine .seq (.q 1 rfl (.seq ?_))
 refine WC.cond rfl (fun hb8=>?_) (fun hb8=>?_)
 ·
  have hc8:=hb8; try simp only [Y4] at hc8
  refine .skip (.seq (.block (.seq (.q 2 rfl (.seq (.region (.run 4 rfl ⟨⟨⟨by omega,by omega⟩,Qu9⟩,trivial⟩ (.nil (.seq (.t 3 rfl (.gval rfl rfl (fun hg1=>(.move (.of rfl))) rfl (.gval rfl rfl (fun hg1=>(.lss (.gd hg1 rfl) (.of rfl))) rfl (.gval rfl rfl (fun hg1=>(.move (.gd hg1 rfl))) rfl (.gval2 rfl rfl rfl (fun hg1 hg2=>(.move (.of rfl))) rfl (.gval2 rfl rfl rfl (fun hg1 hg2=>(.neq (.gd2 hg1 hg2 rfl) (.of rfl))) rfl (.gval rfl rfl (fun hg1=>(.pand (.gd hg1 rfl) (.gd hg1 rfl) (.of rfl))) rfl (.gval rfl rfl (fun hg1=>(.move (.gd hg1 rfl))) rfl (.gval2 rfl rfl rfl (fun hg1 hg2=>(.move (.of rfl))) rfl (.gval2 rfl rfl rfl (fun hg1 hg2=>(.neq (.gd2 hg1 hg2 rfl) (.of rfl))) rfl (.gval rfl rfl (fun hg1=>(.pand (.gd hg1 rfl) (.gd hg1 rfl) (.of rfl))) rfl (.val (.por (.of rfl) (.of rfl) (.of rfl)) rfl (.nil ?_))))))))))))))))))))))
  refine WC.cond rfl (fun hb26=>?_) (fun hb26=>?_)
  ·
   have hc26:=hb26; try simp only [Y4] at hc26
   refine .seq (.q 1 rfl (.ret (Xl Tryz.results198 rfl ?_)))
   refine ⟨_,rfl,congrArg Value.bool ?_,hS⟩
   have hh:=Xe5 (at_ s (i:Int))
   rw [hb26] at hh
   exact (Xbq (p:=shB) (i:=i) (by omega) (by simpa using hh.symm)).symm
  have hc26:=hb26; try simp only [Y4] at hc26
  refine .skip (.region (.run 2 rfl ⟨⟨by omega,by omega⟩,trivial⟩ (.nil ?_)))
  refine ⟨i+1,⟨rfl,rfl,rfl,trivial⟩,⟨by omega,fun j hj hjl=>?_,hS⟩,by omega⟩
  rcases Yo j i with h1 | h1
  ·exact hok j h1 hjl
  ·have e:j=i:=by omega
   subst e
   have hh:=Xe5 (at_ s (j:Int))
   rw [hb26] at hh
   simpa using hh.symm
 have hc8:=hb8; try simp only [Y4] at hc8
 refine .exit (.seq (.q 1 rfl (.ret (Xl Tryz.results198 rfl ?_))))
 exact ⟨_,rfl,congrArg Value.bool (Xdz hok (by omega)).symm,hS⟩
theorem X2n (a:Option Addr) (cap:Nat) (l:List (Px)) (hln:l.length≤9223372036854775807) (pr:Px→Bool) (fid:FuncId) (fn:Func) (hfn:Tryz.prog.funcs[fid]?=some fn) (hcal:Xk fn=true) (capv:List Value) (B w:World) (I:Im) (As:List Xf) (hE:∀ w,Sat B w I As→X7n w Xe 2 a l) (hf:∀ (r:Px) (hr:r∈l) w,Sat B w I As→Calls Tryz.prog fid ([Value.agg (Xe r).toArray] ++ capv).toArray w (Ret fun v w'=>v=.bool (pr r)∧Sat B w' I As)) (hS:Sat B w I As) :
  Calls Tryz.prog 193 [.slice a l.length cap,.func (.func fid) #[] capv.toArray].toArray w (Ret fun v w'=>v=I64 (Xw pr l 0)∧Sat B w' I As):=by
 refine calls Tryz.func193 rfl Tryz.ntmps193 rfl (.seq (.q 1 rfl (.seq (.seq (.region (.run 3 rfl ⟨⟨_,X24⟩,trivial⟩ (.nil (.block (.loop (σ:=Nat) (fun i=>[(0,.slice a l.length cap),(1,.func (.func fid) #[] capv.toArray),(7,I64 (l.length:Nat)),(8,I64 (i:Nat))]) (fun i w=>i≤l.length∧(∀ (j:Nat) t,j<i→l[j]?=some t→pr t=false)∧Sat B w I As) (fun i=>l.length - i) 0 ⟨rfl,rfl,rfl,rfl,trivial⟩ ⟨Yk _,fun _ _ h=>absurd h (by omega),hS⟩ ?_)))))))))
 rintro i w ⟨hi,hno,hS⟩
 change WC _ _ _ _ [(0,.slice a l.length cap),(1,.func (.func fid) #[] capv.toArray),(7,I64 (l.length:Nat)),(8,I64 (i:Nat))] w
 refine .seq (.q 1 rfl (.seq ?_))
 refine WC.cond rfl (fun hb9=>?_) (fun hb9=>?_)
 ·
  have hc9:=hb9; try simp only [Y4] at hc9
  refine .skip (.seq (.block (.seq ?_)))
  obtain ⟨r,hr⟩:∃ r,l[i]?=some r:=⟨_,Y3 (by omega)⟩
  obtain ⟨p,rfl,hx⟩:=hE w hS i r hr
  refine .q 2 rfl (.seq (.t 3 rfl ?_))
  first | refine WL.val (.indexAddr (.of rfl) (.of rfl) (by omega) (by omega) X24 X18) rfl ?_ | refine WL.val (.indexAddrI (.of rfl) (.of rfl) (by omega) (by omega) X24 X18) rfl ?_
  refine .val (.ldR (.of rfl) hx Xbe X18 rfl) rfl (.vcall (cap:=capv) hfn hcal (.of rfl) (X0 (.of rfl) X1) rfl (hf r (Yj hr) w hS) ?_)
  clear hS
  rintro _ w ⟨rfl,hS⟩
  refine .nil ?_
  refine WC.cond rfl (fun hb16=>?_) (fun hb16=>?_)
  ·
   have hc16:=hb16; try simp only [Y4] at hc16
   refine .seq (.q 2 rfl (.ret (Xl Tryz.results193 rfl ?_)))
   exact ⟨_,rfl,by rw [X3p hno hr hb16],hS⟩
  have hc16:=hb16; try simp only [Y4] at hc16
  refine .skip (.region (.run 2 rfl ⟨⟨by omega,by omega⟩,trivial⟩ (.nil ?_)))
  refine ⟨i+1,⟨rfl,rfl,rfl,rfl,trivial⟩,⟨by (try dsimp only); omega,fun j t hj ht=>?_,hS⟩,by (try dsimp only); omega⟩
  rcases Yo j i with h1 | h1
  ·exact hno j t h1 ht
  ·have e:j=i:=by omega
   subst e
   rw [hr] at ht; cases ht
   exact hb16
 have hc9:=hb9; try simp only [Y4] at hc9
 refine .exit (.seq (.q 1 rfl (.ret (Xl Tryz.results193 rfl ?_))))
 exact ⟨_,rfl,by rw [X2u (fun j t ht=>hno j t (by have:=(Y1.1 ht).1; omega) ht)],hS⟩
theorem X3d (a:Option Addr) (cap:Nat) (l:List (Px)) (hln:l.length≤9223372036854775807) (pr:Px→Bool) (fid:FuncId) (fn:Func) (hfn:Tryz.prog.funcs[fid]?=some fn) (hcal:Xk fn=true) (capv:List Value) (B w:World) (I:Im) (As:List Xf) (hE:∀ w,Sat B w I As→X7n w Xe 2 a l) (hf:∀ (r:Px) (hr:r∈l) w,Sat B w I As→Calls Tryz.prog fid ([Value.agg (Xe r).toArray] ++ capv).toArray w (Ret fun v w'=>v=.bool (pr r)∧Sat B w' I As)) (hS:Sat B w I As) :
  Calls Tryz.prog 169 [.slice a l.length cap,.func (.func fid) #[] capv.toArray].toArray w (Ret fun v w'=>v=.bool (l.any pr)∧Sat B w' I As):=by
 refine calls Tryz.func169 rfl Tryz.ntmps169 rfl (.seq (.q 1 rfl (.seq (.t 2 rfl (.call Tryz.func193 rfl (X0 (.of rfl) (X0 (.of rfl) X1)) rfl (X2n a cap l hln pr fid fn hfn hcal capv B _ I As hE hf hS) ?_)))))
 clear hS
 rintro _ w ⟨rfl,hS⟩
 refine .q 2 rfl (.nil (.ret (Xl Tryz.results169 rfl ?_)))
 exact ⟨_,rfl,by rw [← X1i pr l 0],hS⟩
theorem Xac (r a:Px) (b4:Nat) (B w:World) (I:Im) (As:List Xf) (hS:Sat B w I (blk b4 [S a.1,S a.2] 136::As)) :
  Calls Tryz.prog 239 [.agg (Xe r).toArray,ptr b4 0].toArray w (Ret fun v w'=>v=.bool (r.1 == a.1)∧Sat B w' I (blk b4 [S a.1,S a.2] 136::As)):=by
 refine calls Tryz.func239 rfl Tryz.ntmps239 rfl (.seq (.region (.boxA (cs:=[_,_]) hS (.of rfl) rfl ?_)))
 clear hS; intro b2 w hS
 refine .q 1 rfl (.nil (.seq (.region ?_)))
 first | refine WL.val (.fieldAddr 0 (.of rfl) X1c rfl rfl Qs9 rfl) rfl ?_ | refine WL.val (.fieldAddrI 0 (.of rfl) X1c rfl rfl Qs9 rfl) rfl ?_
 first | refine WL.val (.ld (.of rfl) hS (k:=0) rfl Qg9 rfl) rfl ?_ | refine WL.val (.ld (.of rfl) hS (k:=1) rfl Qg9 rfl) rfl ?_
 first | refine WL.val (.fieldAddr 0 (.of rfl) X1c rfl rfl Qs9 rfl) rfl ?_ | refine WL.val (.fieldAddrI 0 (.of rfl) X1c rfl rfl Qs9 rfl) rfl ?_
 first | refine WL.val (.ld (.of rfl) hS (k:=0) rfl Qg9 rfl) rfl ?_ | refine WL.val (.ld (.of rfl) hS (k:=1) rfl Qg9 rfl) rfl ?_
 refine .q 2 rfl (.nil (.ret (Xl Tryz.results239 rfl ?_)))
 exact ⟨_,rfl,rfl,hS.drop (k:=0) rfl⟩
theorem Xf5 {I:Im} {a:Option Addr} {l:List Px} (h:RS I a 2 l.length (X8 Xe l)) (k:Nat) (hk:k≤l.length):RS I a 2 (l.take k).length (X8 Xe (l.take k)):=by
 refine ⟨X12 (cells:=Xe) (s:=2) (fun _=>rfl) _,fun h0=>?_⟩
 obtain ⟨p,rfl,hA⟩:=h.2 (by rw [Yw] at h0; omega)
 refine ⟨p,rfl,?_⟩
 have h9:=X33 hA (X8 Xe (l.take k)).length
 have e:(X8 Xe l).take (X8 Xe (l.take k)).length=X8 Xe (l.take k):=by
  have e2:X8 Xe l=X8 Xe (l.take k) ++ X8 Xe (l.drop k):=by
   conv=>lhs; rw [← Y1a k l]
   unfold X8; rw [Y2f,Y2d]
  conv=>lhs; rw [e2]
  exact Y1m
 rw [e] at h9; exact h9
set_option maxRecDepth 20000 in
theorem Xaf (sa:Option Addr) (cap:Nat) (l:List Px) (hcap:l.length≤cap) (hll:l.length≤9223372036854775807) (hsm:∀ a∈l,a.1.length≤1000000∧a.2.length≤1000000) (B w:World) (I:Im) (hR:RS I sa 2 l.length (X8 Xe l)) (As:List Xf) (hS:Sat B w I As) :
  Calls Tryz.prog 197 [.slice sa l.length cap].toArray w (Ret fun v w'=>v=.bool (X3x [] l)∧Sat B w' I As):=by
 refine calls Tryz.func197 rfl Tryz.ntmps197 rfl (.seq (.q 1 rfl (.seq (.seq (.region (.run 3 rfl ⟨⟨_,X24⟩,trivial⟩ (.nil (.block (.loop (σ:=Nat) (fun i=>[(0,.slice sa l.length cap),(5,.slice sa l.length cap),(6,I64 (l.length:Nat)),(7,I64 (i:Nat))]) (fun i w=>i≤l.length∧X3x [] l=X3x (l.take i) (l.drop i)∧Sat B w I As) (fun i=>l.length - i) 0 ⟨rfl,rfl,rfl,rfl,trivial⟩ ⟨Yk _,rfl,hS⟩ ?_)))))))))
 rintro i w ⟨hi,hok,hS⟩
 change WC _ _ _ _ [(0,.slice sa l.length cap),(5,.slice sa l.length cap),(6,I64 (l.length:Nat)),(7,I64 (i:Nat))] w
 refine .seq (.q 1 rfl (.seq ?_))
 refine WC.cond rfl (fun hb8=>?_) (fun hb8=>?_)
 ·
  have hc8:=hb8; try simp only [Y4] at hc8
  refine .skip (.seq (.block (.seq ?_)))
  obtain ⟨a,ha⟩:∃ a,l[i]?=some a:=⟨_,Y3 (by omega)⟩
  obtain ⟨p,hp9,hx⟩:=X8y (cells:=Xe) (s:=2) (fun _=>rfl) hR ha
  subst hp9
  unfold Xe at hx
  have hal:=hsm a (Yj ha)
  have hdr:l.drop i=a::l.drop (i+1):=by rw [Yu (by omega),(Y1.1 ha).2]
  rw [hdr] at hok
  have htl:(l.take i).length=i:=by rw [Yw]; omega
  refine .t 1 rfl ?_
  first | refine WL.val (.indexAddr (.of rfl) (.of rfl) (by omega) (by omega) X24 X18) rfl ?_ | refine WL.val (.indexAddrI (.of rfl) (.of rfl) (by omega) (by omega) X24 X18) rfl ?_
  first | refine WL.val (.ldsI (.of rfl) hS hx Xbe X18 rfl (fun _ _ h=>h)) rfl ?_ | refine WL.val (.ldsI (.of rfl) hS (At.add hx _) Xbe X18 rfl (fun _ _ h=>h)) rfl ?_
  refine .allocA (cs:=[_,_]) hS X7q rfl ?_
  clear hS; intro b4 w hS
  refine .q 1 rfl (.stA hS (k:=0) rfl (.of rfl) (.of rfl) rfl X18 rfl (by simp) ?_)
  clear hS; intro w hS; try dsimp only [List.set] at hS
  try simp only [Yb,Y6,Y8,Y2,Y5,Yc,Y7] at hS
  refine .nil (.seq (.region ?_))
  first | refine WL.val (.fieldAddr 0 (.of rfl) X1c rfl rfl Qs9 rfl) rfl ?_ | refine WL.val (.fieldAddrI 0 (.of rfl) X1c rfl rfl Qs9 rfl) rfl ?_
  first | refine WL.val (.ld (.of rfl) hS (k:=0) rfl Qg9 rfl) rfl ?_ | refine WL.val (.ldI (.of rfl) hS (At.add hx _) Qg9 rfl) rfl ?_
  refine .call Tryz.func196 rfl (X0 (.of rfl) X1) rfl (X70 a.1 hal.1 B _ I _ hS) ?_
  clear hS
  rintro _ w ⟨rfl,hS⟩
  refine .q 2 rfl ?_
  refine WL.gval rfl rfl (fun hg1=>(by first | exact .fieldAddr 1 (.of rfl) X1c rfl rfl Qs9 rfl | exact .fieldAddrI 1 (.of rfl) X1c rfl rfl Qs9 rfl)) rfl ?_
  refine WL.gval rfl rfl (fun hg1=>(by first | exact (.ld (.gd hg1 rfl) hS (k:=0) rfl Qg9 rfl) | exact (.ldI (.gd hg1 rfl) hS (At.add hx _) Qg9 rfl))) rfl ?_
  refine .gcall (T:=fun w=>Sat B w I (blk b4 [S a.1,S a.2] 136::As)) rfl rfl rfl Tryz.func198 rfl (fun hg1=>(X0 (.gd hg1 rfl) X1)) rfl (fun hg1=>X5k a.2 hal.2 B _ I _ hS) hS ?_
  clear hS; rintro w hS
  refine .gval rfl rfl (fun hg1=>(.not (.gd hg1 rfl))) rfl (.val (.por (.of rfl) (.of rfl) (.of rfl)) rfl (.q 1 rfl (.gval rfl rfl (fun hg1=>(.move (.of rfl))) rfl (.gval rfl rfl (fun hg1=>(.move (.of rfl))) rfl (.gval rfl rfl (fun hg1=>.slcTo (.gd hg1 rfl) (.gd hg1 rfl) (by omega) (by omega) X24 X18) rfl ?_)))))
  rw [show ((i:Nat):Int).toNat=(l.take i).length by rw [htl,Y9],X57]
  refine .gval rfl rfl (fun hg1=>(.makeFunc (X0 (.of rfl) X1))) rfl ?_
  have hcf:∀ w,Sat B w I (blk b4 [S a.1,S a.2] 136::As)→Calls Tryz.prog 169 [.slice (some p) (l.take i).length cap,.func (.func 239) #[] [ptr b4 0].toArray].toArray w (Ret fun v w'=>v=.bool ((l.take i).any fun b=>b.1 == a.1)∧Sat B w' I (blk b4 [S a.1,S a.2] 136::As)):=fun w hS=>X3d (some p) cap (l.take i) (by omega) (fun b=>b.1 == a.1) 239 _ Tryz.func239 rfl [ptr b4 0] B w I (blk b4 [S a.1,S a.2] 136::As) (fun w h=>X56 (cells:=Xe) (s:=2) (fun _=>rfl) h (Xf5 hR i (by omega))) (fun r hr w h=>Xac r a b4 B w I As h) hS
  refine .gcall (T:=fun w=>Sat B w I (blk b4 [S a.1,S a.2] 136::As)) rfl rfl rfl Tryz.func169 rfl (fun hg1=>(X0 (.gd hg1 rfl) (X0 (.gd hg1 rfl) X1))) rfl (fun hg1=>hcf w hS) hS ?_
  clear hS; rintro w hS
  refine .val (.por (.of rfl) (.of rfl) (.of rfl)) rfl (.nil ?_)
  refine WC.cond rfl (fun hb28=>?_) (fun hb28=>?_)
  ·
   have hc28:=hb28; try simp only [Y4] at hc28
   refine .seq (.q 1 rfl (.ret (Xl Tryz.results197 rfl ?_)))
   refine ⟨_,rfl,congrArg Value.bool ?_,hS.drop (k:=0) rfl⟩
   rw [hok,X3x]
   revert hb28
   cases X3l a.1 <;> cases X3t a.2 <;> cases ((l.take i).any fun b=>b.1 == a.1) <;> simp
  have hc28:=hb28; try simp only [Y4] at hc28
  refine .skip (.region (.run 2 rfl ⟨⟨by omega,by omega⟩,trivial⟩ (.nil ?_)))
  refine ⟨i+1,⟨rfl,rfl,rfl,rfl,trivial⟩,⟨by omega,?_,hS.drop (k:=0) rfl⟩,by omega⟩
  rw [hok,X3x,Yn,ha,Y1p]
  simp only [Yi,Y11] at hb28
  rw [hb28.1.1,hb28.1.2,hb28.2]; rfl
 have hc8:=hb8; try simp only [Y4] at hc8
 refine .exit (.seq (.q 1 rfl (.ret (Xl Tryz.results197 rfl ?_))))
 exact ⟨_,rfl,congrArg Value.bool (by rw [hok,Y1j (by omega)]; rfl),hS⟩
theorem X37 {i:Nat} {m:Px} (h:MK[i]?=some m):(MKC.drop (i*2)).take 2=[S m.1,S m.2]∧(∃ c,m.1=[c])∧m.2.length≤6∧([m.1.headD 0] == m.2)=false:=by
 match i,h with
 | 0,h=>cases h; exact ⟨rfl,⟨_,rfl⟩,by decide,by decide⟩
 | 1,h=>cases h; exact ⟨rfl,⟨_,rfl⟩,by decide,by decide⟩
 | 2,h=>cases h; exact ⟨rfl,⟨_,rfl⟩,by decide,by decide⟩
 | 3,h=>cases h; exact ⟨rfl,⟨_,rfl⟩,by decide,by decide⟩
 | 4,h=>cases h; exact ⟨rfl,⟨_,rfl⟩,by decide,by decide⟩
 | i+5,h=>simp [MK] at h
theorem mk_len (s:List UInt8) (hl:s.length≤10000):∀ (i:Nat),i≤5→((MK.take i).foldl X68 s).length≤100000000:=by
 have h:∀ (i:Nat),i≤5→((MK.take i).foldl X68 s).length≤6 ^ i*s.length:=by
  intro i
  induction i with
  | zero=>intro _; simp
  | succ i ih =>
   intro hi
   obtain ⟨m,hm⟩:∃ m,MK[i]?=some m:=⟨_,Y3 (by show i<5; omega)⟩
   rw [Yn,hm,Y1p,Y2r]
   show (X81 _ m.2 _).length≤_
   have h1:=X94 (m.1.headD 0) m.2 (X37 hm).2.2.1 ((MK.take i).foldl X68 s)
   have h2:=ih (by omega)
   have h3:6*((MK.take i).foldl X68 s).length≤6*(6 ^ i*s.length):=Nat.mul_le_mul_left 6 h2
   rw [Y17]
   calc _≤_:=h1
    _≤_:=h3
    _=_:=by rw [← Yt,Ys 6]
 intro i hi
 have h1:=h i hi
 have h2:6 ^ i≤6 ^ 5:=Yy (by decide) hi
 have h3:6 ^ i*s.length≤6 ^ 5*10000:=Y3c h2 hl
 have h4:6 ^ 5*10000≤100000000:=by decide
 omega
theorem X7f (s:List UInt8) (m:Px) {i:Nat} (hm:MK[i]?=some m) (hs:s.length≤100000000) (B w:World) (I:Im) (hK:Kx I) (As:List Xf) (hS:Sat B w I As):Calls Tryz.prog 203 [S s,S m.1,S m.2].toArray w (Ret fun v w'=>v=S (X68 s m)∧Sat B w' I As):=by
 obtain ⟨_,⟨c,hc⟩,h2,h3⟩:=X37 hm
 unfold X68
 rw [hc] at h3 ⊢
 exact X71 s m.2 c hs h2 h3 B w I hK As hS
theorem X4z (s:List UInt8) (hl:s.length≤10000) (B w:World) (I:Im) (hK:Kx I) (As:List Xf) (hS:Sat B w I As) :
  Calls Tryz.prog 156 [S s].toArray w (Ret fun v w'=>v=S (esc s)∧Sat B w' I As):=by
 refine calls Tryz.func156 rfl Tryz.ntmps156 rfl (.seq (.q 1 rfl (.seq (.seq (.region (.val (.ldsI (us:=MKC) (.of rfl) hS hK.mks Tryz.isAgg258 Tryz.sizeOf258 rfl (fun _ _ h=>h)) rfl (.q 1 rfl (.nil (.block (.loop (σ:=Nat) (fun i=>[(0,S ((MK.take i).foldl X68 s)),(5,.agg MKC.toArray),(6,I64 (i:Nat))]) (fun i w=>i≤5∧Sat B w I As) (fun i=>5 - i) 0 ⟨rfl,rfl,rfl,trivial⟩ ⟨Yk _,hS⟩ ?_))))))))))
 rintro i w ⟨hi,hS⟩
 change WC _ _ _ _ [(0,S ((MK.take i).foldl X68 s)),(5,.agg MKC.toArray),(6,I64 (i:Nat))] w
 refine .seq (.q 1 rfl (.seq ?_))
 refine WC.cond rfl (fun hb7=>?_) (fun hb7=>?_)
 ·
  have hc7:=hb7; try simp only [Y4] at hc7
  refine .skip (.seq (.block (.seq ?_)))
  obtain ⟨m,hm⟩:∃ m,MK[i]?=some m:=⟨_,Y3 (by show i<5; omega)⟩
  have hmm:=X37 hm
  have hfl:((MK.take i).foldl X68 s).length≤100000000:=mk_len s hl i (by omega)
  refine .region ?_
  refine WL.val (Ex.indexArrA (m:=5) (s:=2) (vs:=MKC) (us:=[S m.1,S m.2]) (.of rfl) (.of rfl) (by omega) (by omega) Xbm X18 Xbe (by rw [Y9]; exact hmm.1) (by rw [Y9]; show i*2+2≤10; omega)) rfl ?_
  refine .allocA (cs:=[_,_]) hS X7q rfl ?_
  clear hS; intro b4 w hS
  refine .stA hS (k:=0) rfl (.of rfl) (.of rfl) rfl X18 rfl (by simp) ?_
  clear hS; intro w hS; try dsimp only [List.set] at hS
  try simp only [Yb,Y6,Y8,Y2,Y5,Yc,Y7] at hS
  refine .nil (.t 1 rfl ?_)
  first | refine WL.val (.fieldAddr 0 (.of rfl) X1c rfl rfl Qs9 rfl) rfl ?_ | refine WL.val (.fieldAddrI 0 (.of rfl) X1c rfl rfl Qs9 rfl) rfl ?_
  refine .val (.ld (.of rfl) hS (k:=0) rfl Qg9 rfl) rfl ?_
  first | refine WL.val (.fieldAddr 1 (.of rfl) X1c rfl rfl Qs9 rfl) rfl ?_ | refine WL.val (.fieldAddrI 1 (.of rfl) X1c rfl rfl Qs9 rfl) rfl ?_
  refine .val (.ld (.of rfl) hS (k:=0) rfl Qg9 rfl) rfl (.call Tryz.func203 rfl (X0 (.of rfl) (X0 (.of rfl) (X0 (.of rfl) X1))) rfl (X7f _ m hm hfl B _ I hK _ hS) ?_)
  clear hS
  rintro _ w ⟨rfl,hS⟩
  refine .q 1 rfl (.nil (.region (.run 2 rfl ⟨⟨by omega,by omega⟩,trivial⟩ (.nil ?_))))
  refine ⟨i+1,⟨?_,rfl,rfl,trivial⟩,⟨by omega,hS.drop (k:=0) rfl⟩,by omega⟩
  show some (S _)=some _
  rw [Yn,hm,Y1p,Y2r]; rfl
 have hc7:=hb7; try simp only [Y4] at hc7
 refine .exit (.seq (.q 2 rfl (.ret (Xl Tryz.results156 rfl ?_))))
 refine ⟨_,rfl,?_,hS⟩
 rw [show i=5 by omega,← X92]; rfl
theorem X9s (m:Px) (hm:m.2.length≤6) (rs:List UInt8) (hrs:rs.length≤1000000) (b6:Nat) (B w:World) (I:Im) (As:List Xf) (hS:Sat B w I (blk b6 [S rs] 9::As)) :
  Calls Tryz.prog 194 [.agg (Xe m).toArray,ptr b6 0].toArray w (Ret fun v w'=>v=.bool (Xa (38::rs) m.2)∧Sat B w' I (blk b6 [S rs] 9::As)):=by
 refine calls Tryz.func194 rfl Tryz.ntmps194 rfl (.seq (.region (.boxA (cs:=[_,_]) hS (.of rfl) rfl ?_)))
 clear hS; intro b2 w hS
 refine .q 1 rfl (.nil (.seq (.region ?_)))
 first | refine WL.val (.ld (.of rfl) hS (k:=0) rfl Qg9 rfl) rfl ?_ | refine WL.val (.ld (.of rfl) hS (k:=1) rfl Qg9 rfl) rfl ?_
 refine WL.val (.cat (l:=[38]) (m:=rs) (.of rfl) (.of rfl) (by simp only [List.length_cons,List.length_nil]; omega)) rfl ?_
 rw [show [38] ++ rs=38::rs from rfl]
 first | refine WL.val (.fieldAddr 1 (.of rfl) X1c rfl rfl Qs9 rfl) rfl ?_ | refine WL.val (.fieldAddrI 1 (.of rfl) X1c rfl rfl Qs9 rfl) rfl ?_
 first | refine WL.val (.ld (.of rfl) hS (k:=0) rfl Qg9 rfl) rfl ?_ | refine WL.val (.ld (.of rfl) hS (k:=1) rfl Qg9 rfl) rfl ?_
 refine WL.call Xdd rfl (X0 (.of rfl) (X0 (.of rfl) X1)) rfl (X22 (38::rs) m.2 _ (by simp only [List.length_cons]; omega) (by omega)) ?_
 rintro _ _ ⟨rfl,rfl⟩
 refine .q 1 rfl (.nil (.ret (Xl Tryz.results194 rfl ?_)))
 exact ⟨_,rfl,rfl,hS.drop (k:=0) rfl⟩
theorem Xe1 (cs:List UInt8):∀ (s:List UInt8),decide (0≤Go.Lib.indexAny s cs)=s.any (fun c=>cs.contains c)
 | []=>rfl
 | b::l=>by
  rw [Go.Lib.indexAny,List.any_cons,← Xe1 cs l]
  split
  ·rename_i hb; rw [hb]; rfl
  ·rename_i hb
   rw [show cs.contains b=false by simpa using hb,Y32]
   have:=Go.Lib.indexAny_ge cs l
   split
   ·rename_i h; rw [beq_iff_eq.1 h]
   ·rename_i h
    have h9:Go.Lib.indexAny l cs≠-1:=fun e=>h (beq_iff_eq.2 e)
    rw [decide_eq_true (by omega),decide_eq_true (by omega)]
theorem X4u (s cs:List UInt8) (hs:s.length≤1000000) (hca:Asc cs) (hl:cs.length≤1000) (h2:2≤cs.length) (B w:World) (I:Im) (As:List Xf) (hS:Sat B w I As) :
  Calls Tryz.prog 192 [S s,S cs].toArray w (Ret fun v w'=>v=.bool (s.any fun c=>cs.contains c)∧Sat B w' I As):=by
 refine calls Tryz.func192 rfl Tryz.ntmps192 rfl (.seq (.q 1 rfl (.seq (.t 2 rfl (.call Qf191 rfl (X0 (.of rfl) (X0 (.of rfl) X1)) rfl (X3z s cs hs hca hl h2 B _ I _ hS) ?_)))))
 clear hS
 rintro _ w ⟨rfl,hS⟩
 refine .q 2 rfl (.nil (.ret (Xl Tryz.results192 rfl ?_)))
 exact ⟨_,rfl,congrArg Value.bool (Xe1 cs s),hS⟩
theorem Xbk:Asc SIGNS:=fun j b h=>by
 match j,h with
 | 0,h=>cases h; decide
 | 1,h=>cases h; decide
 | 2,h=>cases h; decide
 | 3,h=>cases h; decide
 | _+4,h=>simp [SIGNS] at h
theorem Xa5 {t:List UInt8} {i:Nat} (h:Xw (fun m:Px=>Xa t m.2) MK 0=(i:Int)):∃ m,MK[i]?=some m∧X2g t=some m:=by
 unfold X2g
 have key:∀ (l:List Px) (k:Nat),(Xw (fun m:Px=>Xa t m.2) l k=-1∧l.find? (fun m=>Xa t m.2)=none)∨∃ j m,Xw (fun m:Px=>Xa t m.2) l k=((k+j:Nat):Int)∧l[j]?=some m∧l.find? (fun m=>Xa t m.2)=some m:=by
  intro l
  induction l with
  | nil=>intro k; exact .inl ⟨rfl,rfl⟩
  | cons a l ih =>
   intro k
   rw [Xw,Y2j]
   cases ha:Xa t a.2 with
   | true=>exact .inr ⟨0,a,by simp,rfl,rfl⟩
   | false =>
    rcases ih (k+1) with ⟨h1,h2⟩ | ⟨j,m,h1,h2,h3⟩
    ·exact .inl ⟨by simpa using h1,by simpa using h2⟩
    ·exact .inr ⟨j+1,m,by simp only [Yp,if_false]; rw [h1]; congr 1; omega,by simpa using h2,by simpa using h3⟩
 rcases key MK 0 with ⟨h1,_⟩ | ⟨j,m,h1,h2,h3⟩
 ·rw [h1] at h; omega
 ·rw [h1] at h
  have:j=i:=by omega
  subst this
  exact ⟨m,h2,h3⟩
theorem X9r {t:List UInt8} (h:Xw (fun m:Px=>Xa t m.2) MK 0<0):X2g t=none:=by
 cases hm:X2g t with
 | none=>rfl
 | some m =>
  exfalso
  unfold X2g at hm
  obtain ⟨i,hi⟩:=Y1d.1 (Y3d hm)
  have hp:=List.find?_some hm
  have h9:=X1i (fun m:Px=>Xa t m.2) MK 0
  rw [decide_eq_false (by omega)] at h9
  have:=List.any_eq_false.1 h9.symm m (Yj hi)
  exact this hp
theorem mkc_rs {I:Im} (h:At I (ad 2 0) MKC):RS I (some (ad 2 0)) 2 5 (X8 Xe MK):=⟨rfl,fun _=>⟨_,rfl,h⟩⟩
theorem mk_pos {i:Nat} {m:Px} (h:MK[i]?=some m):1≤m.2.length:=by
 match i,h with
 | 0,h=>cases h; decide
 | 1,h=>cases h; decide
 | 2,h=>cases h; decide
 | 3,h=>cases h; decide
 | 4,h=>cases h; decide
 | i+5,h=>simp [MK] at h
theorem mk_mem {m:Px} (h:m∈MK):m.2.length≤6:=by
 obtain ⟨i,hi⟩:=Y1d.1 h
 exact (X37 hi).2.2.1
theorem Ex.slcArrX {P:Program} {n:Nat} {L:Env} {w:World} {d:Option Nat} {ty:TypeId} {pos:String} {af:Array Edge} {gg:Option (Nat×Bool)} {t e:TypeId} {x:Operand} {p:Addr} {m s:Nat} (hx:Ev n L x (.pointer (some p))) (ht:P.underlying t=some (.array m e)) (hs:∀ w,(Go.sizeOf e).run P w=.ok s w) (hm:m≠0) :
  Ex P n L w ⟨d,.slice t x none none none,ty,pos,af,gg⟩ (.slice (some p) m m) w:=fun a ha=>by
 obtain ⟨e1,e2⟩:=X6a ht
 have h:=run_sliceAt_array_all (P:=P) w t p (by rw [e1,e2]; exact ht)
 rw [e1,e2,hs] at h
 simp [execOp,hx a ha,h,slicedAt,hm]
 rfl
set_option maxRecDepth 4000 in
theorem X30 (s:List UInt8) (hl:s.length≤10000) (B w:World) (I:Im) (hK:Kx I) (As:List Xf) (hS:Sat B w I As) :
  Calls Tryz.prog 147 [S s].toArray w (Ret fun v w'=>∃ n1 e1,v=.tuple #[S n1,I64 (e1:Nat)]∧(match X25 s with | none=>n1=[]∧e1=10 | some t=>n1=t∧e1=0)∧Sat B w' I As):=by
 refine calls Tryz.func147 rfl Tryz.ntmps147 rfl (.seq (.q 2 rfl (.seq (.seq (.t 1 rfl (.call Tryz.func192 rfl (X0 (.of rfl) (X0 (.of rfl) X1)) rfl (X4u s SIGNS (by omega) Xbk (by decide) (by decide) B _ I _ hS) ?_))))))
 clear hS
 rintro _ w ⟨rfl,hS⟩
 refine .nil ?_
 refine WC.cond rfl (fun hb10=>?_) (fun hb10=>?_)
 ·
  have hc10:=hb10; try simp only [Y4] at hc10
  refine .seq (.q 2 rfl (.ret (X3u Xd7 rfl rfl ?_)))
  refine ⟨_,rfl,[],10,rfl,?_,hS⟩
  unfold X25
  rw [if_pos hb10]
  exact ⟨rfl,rfl⟩
 have hc10:=hb10; try simp only [Y4] at hc10
 refine .skip (.seq (.region (.allocA (cs:=[_,_]) hS Xfa rfl ?_)))
 clear hS; intro b4 w hS
 refine .nil (.seq (.block ?_))
 replace hS:=(hS.vecNil 5 1).pick 1 rfl; try dsimp only [List.eraseIdx] at hS
 refine .loop (σ:=List UInt8×Value×Value×List UInt8) (fun ⟨out,p,v,t⟩=>[(0,S t),(4,ptr b4 0)]) (fun ⟨out,p,v,t⟩ w=>out.length+t.length≤s.length∧un0 s=(un0 t).map (out ++ ·)∧(p=.pointer none∨p=ptr b4 0)∧(out=[]→v=.slice none 0 0)∧Sat B w I (blk b4 [p,v] 178::Vec 5 1 v (out).length (bcs (out))::As)) (fun ⟨out,p,v,t⟩=>t.length) ([],.pointer none,.slice none 0 0,s) ⟨rfl,rfl,trivial⟩ ⟨by simp,by simp,.inl rfl,fun _=>rfl,hS⟩ ?_
 rintro ⟨out,p,v,t⟩ w ⟨hol,hno,hp,hpv,hS⟩
 change WC _ _ _ _ [(0,S t),(4,ptr b4 0)] w
 refine .seq (.seq (.q 2 rfl ?_))
 refine WC.cond rfl (fun hb12=>?_) (fun hb12=>?_)
 ·
  have hc12:=hb12; try simp only [Y4] at hc12
  refine .skip (.block (.seq ?_))
  have hul:=X11 [38] t
  have hnp:∀ x∈upto [38] t,x≠38:=fun x hx=>by have:=Xe2 hx; simpa using this
  refine .t 1 rfl (.call Tryz.func187 rfl (X0 (.of rfl) (X0 (.of rfl) X1)) rfl (X9f t 38 (by omega) B _ I hK _ hS) ?_)
  clear hS
  rintro _ w ⟨rfl,hS⟩
  refine .q 4 rfl (.alloc1 hS Qz9 rfl rfl ?_)
  clear hS; intro b6 w hS
  refine .q 1 rfl ?_
  first | refine WL.st1 hS (k:=0) rfl (.of rfl) (.of rfl) rfl Qs9 (by simp) ?_ | refine WL.st1 hS (k:=1) rfl (.of rfl) (.of rfl) rfl Qs9 (by simp) ?_ | refine WL.st1 hS (k:=2) rfl (.of rfl) (.of rfl) rfl Qs9 (by simp) ?_
  clear hS; intro w hS; try dsimp only [List.set] at hS
  refine .q 1 rfl (.nil (.seq (.t 1 rfl (.call Qf155 rfl (X0 (.of rfl) (X0 (.of rfl) X1)) rfl (Xu b4 p v out (upto [38] t) hp B _ I _ ((hS.pick 2 rfl).pick 2 rfl) (by omega)) ?_))))
  clear hS
  rintro _ w ⟨rfl,v2,hS⟩
  try dsimp only [List.eraseIdx] at hS
  refine .nil (.seq (.seq (.q 2 rfl ?_)))
  refine WC.cond rfl (fun hb22=>?_) (fun hb22=>?_)
  ·
   have hc22:=hb22; try simp only [Y4] at hc22
   refine .exit (.seq ?_)
   have hz:Xc [38] t=[]:=by
    cases hf:Xc [38] t with
    | nil=>rfl
    | cons a r=>rw [hf] at hb22; simp at hb22
   have ht9:t=upto [38] t:=by have:=X1n [38] t; rw [hz,Y8] at this; exact this.symm
   have hne8:¬ out ++ upto [38] t=[]:=by
    rw [← ht9]
    intro h9
    have h8:=(List.append_eq_nil_iff.1 h9).2
    rw [h8] at hb12
    simp at hb12
   refine .region (.call Qf111 rfl (X0 (.of rfl) X1) rfl (X3j b4 (ptr b4 0) v2 (out ++ upto [38] t) (fun h=>absurd h hne8) B _ I _ ((hS.pick 1 rfl).pick 1 rfl)) ?_)
   clear hS
   rintro _ w ⟨rfl,hS⟩
   try dsimp only [List.eraseIdx] at hS
   refine .q 2 rfl (.nil (.ret (X3u Xd7 rfl rfl ?_)))
   refine ⟨_,rfl,_,0,rfl,?_,(hS.drop (k:=0) rfl)⟩
   have hu:un0 t=some (upto [38] t):=by
    conv=>lhs; rw [ht9,← Y8 (upto [38] t),X2d _ _ hnp,X4y]
    simp
   unfold X25
   rw [if_neg (by rw [hb10]; decide),hno,hu]
   exact ⟨rfl,rfl⟩
  have hc22:=hb22; try simp only [Y4] at hc22
  refine .skip (.seq ?_)
  have hf38:Xc [38] t=38::(Xc [38] t).drop 1:=by
   cases hf:Xc [38] t with
   | nil=>rw [hf] at hb22; simp at hb22
   | cons a r =>
    have:=X72 (ats:=[38]) (s:=t) (c:=a) (by rw [hf]; rfl)
    have e:a=38:=by simpa using this
    rw [e]; rfl
  have ht38:t=upto [38] t ++ 38::(Xc [38] t).drop 1:=by rw [← hf38,X1n]
  refine .region (.val (Ex.slcArrX (m:=5) (s:=2) (.of rfl) Xbm X18 (by decide)) rfl (.val (.makeFunc (X0 (.of rfl) X1)) rfl ?_))
  refine WL.call Tryz.func193 rfl (X0 (.of rfl) (X0 (.of rfl) X1)) rfl (X2n (some (ad 2 0)) 5 MK (by decide) (fun m=>Xa (38::((Xc [38] t).drop 1)) m.2) 194 _ Tryz.func194 rfl [ptr b6 0] B _ I _ (fun w h=>X56 (cells:=Xe) (s:=2) (fun _=>rfl) h (mkc_rs hK.mks)) (fun r hr w h=>X9s r (mk_mem hr) ((Xc [38] t).drop 1) (by have:=X27 [38] t; rw [Ya]; omega) b6 B w I _ h) (hS.pick 2 rfl)) ?_
  clear hS
  rintro _ w ⟨rfl,hS⟩
  try dsimp only [List.eraseIdx] at hS
  refine .q 1 rfl (.nil (.seq (.seq (.q 2 rfl ?_))))
  refine WC.cond rfl (fun hb27=>?_) (fun hb27=>?_)
  ·
   have hc27:=hb27; try simp only [Y4] at hc27
   refine .seq (.q 2 rfl (.ret (X3u Xd7 rfl rfl ?_)))
   refine ⟨_,rfl,[],10,rfl,?_,(((hS.drop (k:=0) rfl).drop (k:=0) rfl).drop (k:=0) rfl)⟩
   have hmk:X2g (38::(Xc [38] t).drop 1)=none:=X9r (by have h9:=hc27; omega)
   have hu:un0 t=none:=by
    conv=>lhs; rw [ht38,X2d _ _ hnp,X46,if_pos rfl,hmk]
    rfl
   unfold X25
   rw [if_neg (by rw [hb10]; decide),hno,hu]
   exact ⟨rfl,rfl⟩
  have hc27:=hb27; try simp only [Y4] at hc27
  refine .skip (.seq ?_)
  obtain ⟨k,hk⟩:∃ k:Nat,Xw (fun m:Px=>Xa (38::(Xc [38] t).drop 1) m.2) MK 0=k:=⟨(Xw (fun m:Px=>Xa (38::(Xc [38] t).drop 1) m.2) MK 0).toNat,by have h9:=hc27; omega⟩
  obtain ⟨m,hm,hmk⟩:=Xa5 hk
  have hmm:=X37 hm
  have hk5:k<5:=(Y1.1 hm).1
  have hmp:m.2.length≤(38::(Xc [38] t).drop 1).length:=X29 (List.find?_some (p:=fun m:Px=>Xa (38::(Xc [38] t).drop 1) m.2) hmk)
  simp only [List.length_cons] at hmp
  have hm2:1≤m.2.length:=mk_pos hm
  have hdl:(((Xc [38] t).drop 1).drop (m.2.length - 1)).length+(upto [38] t).length+m.1.length≤t.length∧(((Xc [38] t).drop 1).drop (m.2.length - 1)).length<t.length:=by
   have h1:=congrArg List.length hf38
   obtain ⟨c,hc⟩:=hmm.2.1
   rw [hc]
   simp only [Ya,List.length_cons,List.length_nil] at h1 ⊢
   omega
  rw [hk]
  have hx0:=hK.mks
  have hxk:At I ((ad 2 0).add (k*2)) [S m.1,S m.2]:=by
   have h9:=X33 (hK.mks.add (k*2)) 2
   rw [hmm.1] at h9; exact h9
  refine .t 1 rfl (.val (.arrAddrI (i:=((k:Nat):Int)) (.of rfl) (.of rfl) (by omega) (by omega) Xbm X18) rfl ?_)
  rw [Y9]
  first | refine WL.val (.fieldAddr 0 (.of rfl) X1c rfl rfl Qs9 rfl) rfl ?_ | refine WL.val (.fieldAddrI 0 (.of rfl) X1c rfl rfl Qs9 rfl) rfl ?_
  first | refine WL.val (.ld (.of rfl) hS (k:=0) rfl Qg9 rfl) rfl ?_ | refine WL.val (.ld (.of rfl) hS (k:=1) rfl Qg9 rfl) rfl ?_ | refine WL.val (.ld (.of rfl) hS (k:=2) rfl Qg9 rfl) rfl ?_ | refine WL.val (.ldI (.of rfl) hS (At.add hxk _) Qg9 rfl) rfl ?_
  refine WL.call Qf155 rfl (X0 (.of rfl) (X0 (.of rfl) X1)) rfl (Xu b4 _ v2 (out ++ upto [38] t) m.1 (.inr rfl) B _ I _ ((hS.pick 2 rfl).pick 2 rfl) (by obtain ⟨c,hc⟩:=hmm.2.1; rw [hc]; simp only [Y0,List.length_cons,List.length_nil]; omega)) ?_
  clear hS
  rintro _ w ⟨rfl,v3,hS⟩
  try dsimp only [List.eraseIdx] at hS
  refine .nil (.drawn (fun w=>∃ R,Sat B w I (blk b6 [S ((Xc [38] t).drop 1)] 9::R)) (fun j=>!([].contains j)) (by kernel_rfl) ?_)
  replace hS:=hS.drew; generalize w.drew=w at hS ⊢
  have hH:∃ R,Sat B w I (blk b6 [S ((Xc [38] t).drop 1)] 9::R):=⟨_,(hS.pick 2 rfl)⟩
  refine WD.tk (i:=0) rfl (by kernel_rfl) hH (fun w ⟨R,hS⟩=>(by first | exact (.ld (.of rfl) hS (k:=0) rfl Qg9 rfl) | exact (.ldI (.of rfl) hS (At.add hxk _) Qg9 rfl))) rfl ?_
  refine .tp (i:=1) rfl (by kernel_rfl) (fun w=>(.move (.of rfl))) rfl (.tp (i:=2) rfl (by kernel_rfl) (fun w=>(.arrAddrI (i:=((k:Nat):Int)) (.of rfl) (.of rfl) (by omega) (by omega) Xbm X18)) rfl ?_)
  rw [Y9]
  refine WD.tp (i:=3) rfl (by kernel_rfl) (fun w=>(by first | exact .fieldAddr 1 (.of rfl) X1c rfl rfl Qs9 rfl | exact .fieldAddrI 1 (.of rfl) X1c rfl rfl Qs9 rfl)) rfl ?_
  refine WD.tk (i:=4) rfl (by kernel_rfl) hH (fun w ⟨R,hS⟩=>(by first | exact (.ld (.of rfl) hS (k:=0) rfl Qg9 rfl) | exact (.ldI (.of rfl) hS (At.add hxk _) Qg9 rfl))) rfl ?_
  refine .tp (i:=5) rfl (by kernel_rfl) (fun w=>(.len (.of rfl) Qu9)) rfl (.tp (i:=6) rfl (by kernel_rfl) (fun w=>(.sub (.of rfl) (.of rfl) ⟨by omega,by omega⟩)) rfl (.tp (i:=7) rfl (by kernel_rfl) (fun w=>(.subFrom (.of rfl) (.of rfl) (by omega) (by omega) Qu9)) rfl (.tp (i:=8) rfl (by kernel_rfl) (fun w=>(.assign (.of rfl))) rfl (.done (by kernel_rfl) ?_))))
  rw [show (((m.2.length:Nat):Int) - 1).toNat=m.2.length - 1 by omega]
  refine ⟨(out ++ upto [38] t ++ m.1,_,_,((Xc [38] t).drop 1).drop (m.2.length - 1)),⟨rfl,rfl,trivial⟩,⟨by (try dsimp only); simp only [Y0]; have:=hdl; omega,?_,.inr rfl,fun h=>absurd h (by obtain ⟨c,hc⟩:=hmm.2.1; rw [hc]; simp),(((hS.pick 1 rfl).pick 1 rfl).drop (k:=2) rfl)⟩,by (try dsimp only); have:=hdl; omega⟩
  have hu:un0 t=(un0 (((Xc [38] t).drop 1).drop (m.2.length - 1))).map (fun x=>upto [38] t ++ (m.1 ++ x)):=by
   conv=>lhs; rw [ht38,X2d _ _ hnp,X46,if_pos rfl,hmk]
   dsimp only
   cases un0 (((Xc [38] t).drop 1).drop (m.2.length - 1)) <;> rfl
  rw [hno,hu]
  cases un0 (((Xc [38] t).drop 1).drop (m.2.length - 1)) <;> simp [Ye]
 have hc12:=hb12; try simp only [Y4] at hc12
 refine .exit (.seq ?_)
 refine .region (.call Qf111 rfl (X0 (.of rfl) X1) rfl (X3j b4 p v out hpv B _ I _ ((hS.pick 1 rfl).pick 1 rfl)) ?_)
 clear hS
 rintro _ w ⟨rfl,hS⟩
 try dsimp only [List.eraseIdx] at hS
 refine .q 2 rfl (.nil (.ret (X3u Xd7 rfl rfl ?_)))
 refine ⟨_,rfl,_,0,rfl,?_,hS⟩
 have ht9:t=[]:=by simpa using hb12
 subst ht9
 unfold X25
 rw [if_neg (by rw [hb10]; decide),hno,X4y]
 exact ⟨by simp,rfl⟩
def NdV:Nat→Im→List Value→Nd→Prop
 | 0,_,_,_=>False
 | d+1,I,cs,n=>n.name.length≤10000∧n.text.length≤10000∧n.attrs.length≤10000∧n.kids.length≤10000∧(∀ a∈n.attrs,a.1.length≤10000∧a.2.length≤10000)∧∃ (aa:Option Addr) (ca:Nat) (ka:Option Addr) (ck:Nat) (xs:List (List Value)),cs=[S n.name,.slice aa n.attrs.length ca,S n.text,.slice ka n.kids.length ck]∧n.attrs.length≤ca∧n.kids.length≤ck∧RS I aa 2 n.attrs.length (X8 Xe n.attrs)∧RS I ka 4 n.kids.length xs.flatten∧xs.length=n.kids.length∧(∀ x∈xs,x.length=4)∧∀ (i:Nat) x k,xs[i]?=some x→n.kids[i]?=some k→NdV d I x k
theorem NdV.mono {I J:Im} (hl:Le I J):∀ {d:Nat} {cs:List Value} {n:Nd},NdV d I cs n→NdV d J cs n
 | 0,_,_,h=>h
 | d+1,cs,n,h=>by
  obtain ⟨h1,h2,h3,h4,h5,aa,ca,ka,ck,xs,h6,h7,h8,h9,h10,h11,h12,h13⟩:=h
  exact ⟨h1,h2,h3,h4,h5,aa,ca,ka,ck,xs,h6,h7,h8,h9.mono hl,h10.mono hl,h11,h12,fun i x k hx hk=>(h13 i x k hx hk).mono hl⟩
theorem NdV.cells {I:Im}:∀ {d:Nat} {cs:List Value} {n:Nd},NdV d I cs n→∃ (s1:List UInt8) (a1:Option Addr) (n1 m1:Nat) (s2:List UInt8) (a2:Option Addr) (n2 m2:Nat),cs=[S s1,.slice a1 n1 m1,S s2,.slice a2 n2 m2]
 | 0,_,_,h=>h.elim
 | d+1,cs,n,h=>by
  obtain ⟨h1,h2,h3,h4,h5,aa,ca,ka,ck,xs,h6,_⟩:=h
  exact ⟨_,_,_,_,_,_,_,_,h6⟩
theorem Xc0 {I:Im} {ka:Option Addr} {m:Nat} {xs:List (List Value)} (hR:RS I ka 4 m xs.flatten) (hm:xs.length=m) (h4:∀ x∈xs,x.length=4) {i:Nat} {x:List Value} (hx:xs[i]?=some x):∃ q,ka=some q∧At I (q.add (i*4)) x:=by
 obtain ⟨q,rfl,hq⟩:=hR.2 (by have:=(Y1.1 hx).1; omega)
 refine ⟨q,rfl,?_⟩
 have h3:=X33 (hq.add (i*4)) 4
 rw [X2l xs h4 i x hx] at h3
 exact h3
theorem X5q {f:Int→Nd→Option Int} (hf:∀ l n m,0≤l→f l n=some m→0≤m∧m≤l):∀ (ks:List Nd) (l m:Int),0≤l→X1t f l ks=some m→0≤m∧m≤l
 | [],l,m,h0,h=>by cases h; exact ⟨h0,Int.le_refl _⟩
 | k::r,l,m,h0,h=>by
  rw [X1t] at h
  split at h
  ·cases h
  ·rename_i l2 h2
   have h3:=hf _ _ _ h0 h2
   have h4:=X5q hf r l2 m h3.1 h
   exact ⟨h4.1,by omega⟩
theorem X9n:∀ (d:Nat) (l:Int) (n:Nd) (m:Int),0≤l→X1f d l n=some m→0≤m∧m≤l
 | 0,_,_,_,_,h=>by cases h
 | d+1,l,n,m,h0,h=>by
  rw [X1f] at h
  split at h
  ·cases h
  ·rename_i hc
   have:=X5q (fun l n m h0 h=>X9n d l n m h0 h) n.kids (l - 1) m (by omega) h
   exact ⟨this.1,by omega⟩
set_option maxRecDepth 4000 in
theorem Xd9:∀ (d:Nat) (n:Nd) (cs:List Value) (deep left:Int) (lb:Nat) (B w:World) (I:Im) (As:List Xf),1≤deep→deep+(d:Int)=9→0≤left→left≤1000→NdV d I cs n→Sat B w I (blk lb [I64 (left)] 3::As) →
  Calls Tryz.prog 149 [.agg cs.toArray,I64 deep,ptr lb 0].toArray w (Ret fun v w'=>∃ l2,v=.bool (X1f d left n).isSome∧(X1f d left n=none∨X1f d left n=some l2)∧Sat B w' I (blk lb [I64 (l2)] 3::As)):=by
 intro d
 induction d with
 | zero=>intro n cs deep left lb B w I As _ _ _ _ hN; exact hN.elim
 | succ d ih =>
  intro n cs deep left lb B w I As hp hd h0 h1 hN hS
  obtain ⟨hnl,htl,hal,hkl,hat,aa,ca,ka,ck,xs,rfl,hca,hck,hRa,hRk,hxl,hx4,hKD⟩:=hN
  refine calls Tryz.func149 rfl Tryz.ntmps149 rfl (.seq (.region (.boxA (cs:=[_,_,_,_]) hS (.of rfl) rfl ?_)))
  clear hS; intro b3 w hS
  refine .q 1 rfl (.nil (.seq (.t 2 rfl ?_)))
  first | refine WL.val (.ld (.of rfl) hS (k:=0) rfl Qg3 rfl) rfl ?_ | refine WL.val (.ld (.of rfl) hS (k:=1) rfl Qg3 rfl) rfl ?_ | refine WL.val (.ldI (.of rfl) hS (At.add hx _) Qg3 rfl) rfl ?_
  refine .run 2 rfl ⟨⟨by omega,by omega⟩,trivial⟩ ?_
  first | refine WL.st1 hS (k:=0) rfl (.of rfl) (.of rfl) rfl Qs3 (by simp) ?_ | refine WL.st1 hS (k:=1) rfl (.of rfl) (.of rfl) rfl Qs3 (by simp) ?_
  clear hS; intro w hS; try dsimp only [List.set] at hS
  refine .nil (.seq (.seq (.t 3 rfl (.gval rfl rfl (fun hg1=>(.move (.of rfl))) rfl (.gval rfl rfl (fun hg1=>(.nilCheck (.gd hg1 rfl))) rfl ?_)))))
  refine WL.gval rfl rfl (fun hg1=>(by first | exact (.ld (.gd hg1 rfl) hS (k:=0) rfl Qg3 rfl) | exact (.ld (.gd hg1 rfl) hS (k:=1) rfl Qg3 rfl) | exact (.ldI (.gd hg1 rfl) hS (At.add hx _) Qg3 rfl))) rfl ?_
  refine .gval rfl rfl (fun hg1=>(.lss (.gd hg1 rfl) (.of rfl))) rfl (.val (.por (.of rfl) (.of rfl) (.of rfl)) rfl (.q 1 rfl ?_))
  refine WL.gval rfl rfl (fun hg1=>(by first | exact .fieldAddr 0 (.of rfl) Xq rfl rfl Qs9 rfl | exact .fieldAddrI 0 (.of rfl) Xq rfl rfl Qs9 rfl)) rfl ?_
  refine WL.gval rfl rfl (fun hg1=>(by first | exact (.ld (.gd hg1 rfl) hS (k:=0) rfl Qg9 rfl) | exact (.ld (.gd hg1 rfl) hS (k:=1) rfl Qg9 rfl) | exact (.ldI (.gd hg1 rfl) hS (At.add hx _) Qg9 rfl))) rfl ?_
  refine .gcall (T:=fun w=>Sat B w I (blk b3 [S n.name,.slice aa n.attrs.length ca,S n.text,.slice ka n.kids.length ck] 126::blk lb [I64 (left - 1)] 3::As)) rfl rfl rfl Tryz.func196 rfl (fun hg1=>(X0 (.gd hg1 rfl) X1)) rfl (fun hg1=>X70 n.name (by omega) B _ I _ hS) hS ?_
  clear hS; rintro w hS
  refine .gval rfl rfl (fun hg1=>(.not (.gd hg1 rfl))) rfl (.val (.por (.of rfl) (.of rfl) (.of rfl)) rfl (.q 1 rfl ?_))
  refine WL.gval rfl rfl (fun hg1=>(by first | exact .fieldAddr 1 (.of rfl) Xq rfl rfl X3o rfl | exact .fieldAddrI 1 (.of rfl) Xq rfl rfl X3o rfl)) rfl ?_
  refine WL.gval rfl rfl (fun hg1=>(by first | exact (.ld (.gd hg1 rfl) hS (k:=0) rfl X31 rfl) | exact (.ld (.gd hg1 rfl) hS (k:=1) rfl X31 rfl) | exact (.ldI (.gd hg1 rfl) hS (At.add hx _) X31 rfl))) rfl ?_
  refine WL.gcall (T:=fun w=>Sat B w I (blk b3 [S n.name,.slice aa n.attrs.length ca,S n.text,.slice ka n.kids.length ck] 126::blk lb [I64 (left - 1)] 3::As)) rfl rfl rfl Tryz.func197 rfl (fun hg1=>(X0 (.gd hg1 rfl) X1)) rfl (fun hg1=>Xaf aa ca n.attrs hca (by omega) (fun a h=>by have:=hat a h; omega) B _ I hRa _ hS) hS ?_
  clear hS; rintro w hS
  refine .gval rfl rfl (fun hg1=>(.not (.gd hg1 rfl))) rfl (.val (.por (.of rfl) (.of rfl) (.of rfl)) rfl (.q 1 rfl ?_))
  refine WL.gval rfl rfl (fun hg1=>(by first | exact .fieldAddr 2 (.of rfl) Xq rfl rfl Qs9 rfl | exact .fieldAddrI 2 (.of rfl) Xq rfl rfl Qs9 rfl)) rfl ?_
  refine WL.gval rfl rfl (fun hg1=>(by first | exact (.ld (.gd hg1 rfl) hS (k:=0) rfl Qg9 rfl) | exact (.ld (.gd hg1 rfl) hS (k:=1) rfl Qg9 rfl) | exact (.ldI (.gd hg1 rfl) hS (At.add hx _) Qg9 rfl))) rfl ?_
  refine .gcall (T:=fun w=>Sat B w I (blk b3 [S n.name,.slice aa n.attrs.length ca,S n.text,.slice ka n.kids.length ck] 126::blk lb [I64 (left - 1)] 3::As)) rfl rfl rfl Tryz.func198 rfl (fun hg1=>(X0 (.gd hg1 rfl) X1)) rfl (fun hg1=>X5k n.text (by omega) B _ I _ hS) hS ?_
  clear hS; rintro w hS
  refine .gval rfl rfl (fun hg1=>(.not (.gd hg1 rfl))) rfl (.val (.por (.of rfl) (.of rfl) (.of rfl)) rfl (.q 1 rfl ?_))
  refine WL.gval rfl rfl (fun hg1=>(by first | exact .fieldAddr 2 (.of rfl) Xq rfl rfl Qs9 rfl | exact .fieldAddrI 2 (.of rfl) Xq rfl rfl Qs9 rfl)) rfl ?_
  refine WL.gval rfl rfl (fun hg1=>(by first | exact (.ld (.gd hg1 rfl) hS (k:=0) rfl Qg9 rfl) | exact (.ld (.gd hg1 rfl) hS (k:=1) rfl Qg9 rfl) | exact (.ldI (.gd hg1 rfl) hS (At.add hx _) Qg9 rfl))) rfl ?_
  refine .gval rfl rfl (fun hg1=>(.nes (.gd hg1 rfl) (.of rfl))) rfl (.gval rfl rfl (fun hg1=>(.move (.gd hg1 rfl))) rfl ?_)
  refine WL.gval2 rfl rfl rfl (fun hg1 hg2=>(by first | exact .fieldAddr 3 (.of rfl) Xq rfl rfl X21 rfl | exact .fieldAddrI 3 (.of rfl) Xq rfl rfl X21 rfl)) rfl ?_
  refine WL.gval2 rfl rfl rfl (fun hg1 hg2=>(by first | exact (.ld (.gd2 hg1 hg2 rfl) hS (k:=0) rfl X1q rfl) | exact (.ld (.gd2 hg1 hg2 rfl) hS (k:=1) rfl X1q rfl) | exact (.ldI (.gd2 hg1 hg2 rfl) hS (At.add hx _) X1q rfl))) rfl ?_
  refine .gval2 rfl rfl rfl (fun hg1 hg2=>(.lenSlice (.gd2 hg1 hg2 rfl) X1s)) rfl (.gval2 rfl rfl rfl (fun hg1 hg2=>(.gtr (.gd2 hg1 hg2 rfl) (.of rfl))) rfl (.gval rfl rfl (fun hg1=>(.pand (.gd hg1 rfl) (.gd hg1 rfl) (.of rfl))) rfl (.val (.por (.of rfl) (.of rfl) (.of rfl)) rfl (.nil ?_))))
  refine WC.cond rfl (fun hb50=>?_) (fun hb50=>?_)
  ·
   have hc50:=hb50; try simp only [Y4] at hc50
   refine .seq (.q 1 rfl (.ret (Xl Xew rfl ?_)))
   have hF:X1f (d+1) left n=none:=by
    rw [X1f,if_pos]
    simp only [Y1o,Yd,Y28,decide_eq_true_eq] at hb50
    rcases hb50 with (((h | h) | h) | h) | h
    ·rcases h with h | h
     ·push_cast at hd; omega
     ·left; omega
    ·exact .inr (.inl h)
    ·exact .inr (.inr (.inl h))
    ·exact .inr (.inr (.inr (.inl h)))
    ·refine .inr (.inr (.inr (.inr ⟨by simpa using h.1,fun e=>?_⟩)))
     have h2:=h.2
     rw [e] at h2; simp at h2
   refine ⟨_,rfl,left - 1,by rw [hF]; rfl,.inl hF,hS.drop (k:=0) rfl⟩
  have hc50:=hb50; try simp only [Y4] at hc50
  refine .skip (.seq (.seq (.region ?_)))
  first | refine WL.val (.fieldAddr 3 (.of rfl) Xq rfl rfl X21 rfl) rfl ?_ | refine WL.val (.fieldAddrI 3 (.of rfl) Xq rfl rfl X21 rfl) rfl ?_
  first | refine WL.val (.ld (.of rfl) hS (k:=0) rfl X1q rfl) rfl ?_ | refine WL.val (.ld (.of rfl) hS (k:=1) rfl X1q rfl) rfl ?_ | refine WL.val (.ldI (.of rfl) hS (At.add hx _) X1q rfl) rfl ?_
  refine .run 2 rfl ⟨⟨_,X1s⟩,trivial⟩ (.nil (.block ?_))
  simp only [Yi,Y27,Y11,decide_eq_false_iff_not] at hb50
  have hF:X1f (d+1) left n=X1t (X1f d) (left - 1) n.kids:=by
   rw [X1f,if_neg]
   rintro (e | e | e | e | ⟨e1,e2⟩)
   ·omega
   ·rw [e] at hb50; simp at hb50
   ·rw [e] at hb50; simp at hb50
   ·rw [e] at hb50; simp at hb50
   ·rcases hb50.2 with e3 | e3
    ·simp at e3; exact e1 e3
    ·have:=Y34.2 e2; omega
  replace hS:Sat B w I (blk lb [I64 (left - 1)] 3::As):=hS.drop (k:=0) rfl
  refine .loop (σ:=Nat×Int) (fun ⟨i,l⟩=>[(1,I64 deep),(2,ptr lb 0),(52,.slice ka n.kids.length ck),(53,I64 (n.kids.length:Nat)),(54,I64 (i:Nat))]) (fun ⟨i,l⟩ w=>i≤n.kids.length∧X1t (X1f d) (left - 1) n.kids=X1t (X1f d) l (n.kids.drop i)∧0≤l∧l≤1000∧Sat B w I (blk lb [I64 (l)] 3::As)) (fun ⟨i,l⟩=>n.kids.length - i) (0,left - 1) ⟨rfl,rfl,rfl,rfl,rfl,trivial⟩ ⟨Yk _,rfl,by omega,by omega,hS⟩ ?_
  rintro ⟨i,l⟩ w ⟨hi,hok,h0l,h1l,hS⟩
  change WC _ _ _ _ [(1,I64 deep),(2,ptr lb 0),(52,.slice ka n.kids.length ck),(53,I64 (n.kids.length:Nat)),(54,I64 (i:Nat))] w
  refine .seq (.q 1 rfl (.seq ?_))
  refine WC.cond rfl (fun hb55=>?_) (fun hb55=>?_)
  ·
   have hc55:=hb55; try simp only [Y4] at hc55
   refine .skip (.seq (.block (.seq ?_)))
   obtain ⟨k,hk⟩:∃ k,n.kids[i]?=some k:=⟨_,Y3 (by omega)⟩
   obtain ⟨x,hxi⟩:∃ x,xs[i]?=some x:=⟨_,Y3 (by omega)⟩
   have hNk:=hKD i x k hxi hk
   obtain ⟨q,hq9,hx⟩:=Xc0 hRk hxl hx4 hxi
   subst hq9
   obtain ⟨s1,a1,n1,m1,s2,a2,n2,m2,hc9⟩:=hNk.cells
   subst hc9
   have hdr:n.kids.drop i=k::n.kids.drop (i+1):=by rw [Yu (by omega),(Y1.1 hk).2]
   refine .region ?_
   first | refine WL.val (.indexAddr (.of rfl) (.of rfl) (by omega) (by omega) X1s X4) rfl ?_ | refine WL.val (.indexAddrI (.of rfl) (.of rfl) (by omega) (by omega) X1s X4) rfl ?_
   rw [Y9]
   refine .val (.ldsI (us:=[S s1,.slice a1 n1 m1,S s2,.slice a2 n2 m2]) (.of rfl) hS hx X7 X4 rfl (fun _ _ h=>h)) rfl (.allocA (cs:=[_,_,_,_]) hS X2s rfl ?_)
   clear hS; intro b8 w hS
   first | refine WL.stA hS (k:=0) rfl (.of rfl) (.of rfl) rfl X4 rfl (by simp) ?_ | refine WL.stA hS (k:=1) rfl (.of rfl) (.of rfl) rfl X4 rfl (by simp) ?_
   clear hS; intro w hS; try dsimp only [List.set] at hS
   try simp only [Yb,Y6,Y8,Y2,Y5,Yc,Y7] at hS
   refine .nil (.seq (.region ?_))
   first | refine WL.val (.ldsW (cs:=[_,_,_,_]) (.of rfl) hS (k:=0) rfl X7 X4 rfl) rfl ?_ | refine WL.val (.lds (vs:=[_,_,_,_]) (.of rfl) hS (k:=0) rfl X7 X4 rfl (fun _ _ h=>h)) rfl ?_ | refine WL.val (.ldsW (cs:=[_,_,_,_]) (.of rfl) hS (k:=1) rfl X7 X4 rfl) rfl ?_ | refine WL.val (.lds (vs:=[_,_,_,_]) (.of rfl) hS (k:=1) rfl X7 X4 rfl (fun _ _ h=>h)) rfl ?_ | refine WL.val (.ldsI (.of rfl) hS hx X7 X4 rfl (fun _ _ h=>h)) rfl ?_ | refine WL.val (.ldsI (.of rfl) hS (At.add hx _) X7 X4 rfl (fun _ _ h=>h)) rfl ?_
   refine .run 3 rfl ⟨⟨by omega,by omega⟩,trivial⟩ ?_
   refine WL.call Tryz.func149 rfl (X0 (.of rfl) (X0 (.of rfl) (X0 (.of rfl) X1))) rfl (ih k [S s1,.slice a1 n1 m1,S s2,.slice a2 n2 m2] (deep+1) l lb B _ I _ (by omega) (by push_cast at hd; omega) h0l h1l hNk (hS.pick 1 rfl)) ?_
   clear hS
   rintro _ w ⟨l2,rfl,hl2,hS⟩
   try dsimp only [List.eraseIdx] at hS
   refine .q 1 rfl (.nil ?_)
   refine WC.cond rfl (fun hb63=>?_) (fun hb63=>?_)
   ·
    have hc63:=hb63; try simp only [Y4] at hc63
    refine .seq (.q 1 rfl (.ret (Xl Xew rfl ?_)))
    have hl3:X1f d l k=none:=by
     cases he:X1f d l k with
     | none=>rfl
     | some z=>rw [he] at hb63; simp at hb63
    have hF2:X1f (d+1) left n=none:=by rw [hF,hok,hdr,X1t,hl3]
    exact ⟨_,rfl,l2,by rw [hF2]; rfl,.inl hF2,(hS.drop (k:=1) rfl)⟩
   have hc63:=hb63; try simp only [Y4] at hc63
   refine .skip (.region (.run 2 rfl ⟨⟨by omega,by omega⟩,trivial⟩ (.nil ?_)))
   have hl3:X1f d l k=some l2:=by
    rcases hl2 with e | e
    ·rw [e] at hb63; simp at hb63
    ·exact e
   have hle:=X9n d l k l2 h0l hl3
   refine ⟨(i+1,l2),⟨rfl,rfl,rfl,rfl,rfl,trivial⟩,⟨by (try dsimp only); omega,?_,hle.1,by (try dsimp only); omega,(hS.drop (k:=1) rfl)⟩,by (try dsimp only); omega⟩
   rw [hok,hdr,X1t,hl3]
  have hc55:=hb55; try simp only [Y4] at hc55
  refine .exit (.seq (.q 1 rfl (.ret (Xl Xew rfl ?_))))
  have hF2:X1f (d+1) left n=some l:=by rw [hF,hok,Y1j (by omega)]; rfl
  exact ⟨_,rfl,l,by rw [hF2]; rfl,.inr hF2,hS⟩
theorem X5i (n:Nd) (cs:List Value) (B w:World) (I:Im) (hN:NdV 8 I cs n) (As:List Xf) (hS:Sat B w I As) :
  Calls Tryz.prog 105 [.agg cs.toArray].toArray w (Ret fun v w'=>v=.bool (X1f 8 200 n).isSome∧Sat B w' I As):=by
 obtain ⟨s1,a1,n1,m1,s2,a2,n2,m2,hc9⟩:=hN.cells
 subst hc9
 refine calls Tryz.func105 rfl Tryz.ntmps105 rfl (.seq (.region (.boxA (cs:=[_,_,_,_]) hS (.of rfl) rfl ?_)))
 clear hS; intro b1 w hS
 refine .q 1 rfl (.nil (.seq (.region (.alloc1 hS Qz3 rfl rfl ?_))))
 clear hS; intro b3 w hS
 first | refine WL.st1 hS (k:=0) rfl (.of rfl) (.of rfl) rfl Qs3 (by simp) ?_ | refine WL.st1 hS (k:=1) rfl (.of rfl) (.of rfl) rfl Qs3 (by simp) ?_
 clear hS; intro w hS; try dsimp only [List.set] at hS
 refine .nil (.seq (.region ?_))
 first | refine WL.val (.ldsW (cs:=[_,_,_,_]) (.of rfl) hS (k:=0) rfl X7 X4 rfl) rfl ?_ | refine WL.val (.lds (vs:=[_,_,_,_]) (.of rfl) hS (k:=0) rfl X7 X4 rfl (fun _ _ h=>h)) rfl ?_ | refine WL.val (.ldsW (cs:=[_,_,_,_]) (.of rfl) hS (k:=1) rfl X7 X4 rfl) rfl ?_ | refine WL.val (.lds (vs:=[_,_,_,_]) (.of rfl) hS (k:=1) rfl X7 X4 rfl (fun _ _ h=>h)) rfl ?_
 refine .call Tryz.func149 rfl (X0 (.of rfl) (X0 (.of rfl) (X0 (.of rfl) X1))) rfl (Xd9 8 n [S s1,.slice a1 n1 m1,S s2,.slice a2 n2 m2] 1 200 b3 B _ I _ (by decide) (by decide) (by decide) (by decide) hN hS) ?_
 clear hS
 rintro _ w ⟨l2,rfl,hl2,hS⟩
 try dsimp only [List.eraseIdx] at hS
 refine .q 1 rfl (.nil (.ret (Xl Tryz.results105 rfl ?_)))
 exact ⟨_,rfl,rfl,((hS.drop (k:=0) rfl).drop (k:=0) rfl)⟩
theorem Xbi {I:Im} {a:Option Addr} {l:List Px} (hR:RS I a 2 l.length (X8 Xe l)) {i:Nat} {x:Px} (hx:l[i]?=some x):∃ q,a=some q∧At I (q.add (i*2)) [S x.1,S x.2]:=X8y (cells:=Xe) (s:=2) (fun _=>rfl) hR hx
set_option maxRecDepth 4000 in
theorem Xd4:∀ (d:Nat) (n:Nd) (cs:List Value) (bb:Nat) (p v:Value) (out:List UInt8) (B w:World) (I:Im) (As:List Xf),Kx I→NdV d I cs n→(p=.pointer none∨p=ptr bb 0)→(out ++ X1p d n).length≤1000000→Sat B w I (blk bb [p,v] 178::Vec 5 1 v (out).length (bcs (out))::As) →
  Calls Tryz.prog 110 [ptr bb 0,.agg cs.toArray].toArray w (Ret fun u w'=>u=.tuple #[]∧∃ v',Sat B w' I (blk bb [ptr bb 0,v'] 178::Vec 5 1 v' (out ++ X1p d n).length (bcs (out ++ X1p d n))::As)):=by
 intro d
 induction d with
 | zero=>intro n cs bb p v out B w I As _ hN; exact hN.elim
 | succ d ih =>
  intro n cs bb p v out B w I As hK hN hp hT hS
  obtain ⟨hnl,htl,hal,hkl,hat,aa,ca,ka,ck,xs,rfl,hca,hck,hRa,hRk,hxl,hx4,hKD⟩:=hN
  have hT1:(out ++ ([60] ++ n.name) ++ (n.attrs.map X2t).flatten).length≤1000000:=by simp only [X1p,Y0,List.length_cons,List.length_nil] at hT ⊢; omega
  have hT2:((out ++ ([60] ++ n.name) ++ (n.attrs.map X2t).flatten) ++ ([62] ++ esc n.text) ++ (n.kids.map (X1p d)).flatten).length≤1000000:=by simp only [X1p,Y0,List.length_cons,List.length_nil] at hT ⊢; omega
  refine calls Tryz.func110 rfl Tryz.ntmps110 rfl (.seq (.region (.boxA (cs:=[_,_,_,_]) hS (.of rfl) rfl ?_)))
  clear hS; intro b3 w hS
  refine .nil (.seq (.t 1 rfl ?_))
  first | refine WL.val (.fieldAddr 0 (.of rfl) Xq rfl rfl Qs9 rfl) rfl ?_ | refine WL.val (.fieldAddrI 0 (.of rfl) Xq rfl rfl Qs9 rfl) rfl ?_
  first | refine WL.val (.ld (.of rfl) hS (k:=0) rfl Qg9 rfl) rfl ?_ | refine WL.val (.ld (.of rfl) hS (k:=1) rfl Qg9 rfl) rfl ?_ | refine WL.val (.ld (.of rfl) hS (k:=2) rfl Qg9 rfl) rfl ?_
  refine WL.run 1 rfl ⟨by (try simp only [Y0,List.length_cons,List.length_nil]); omega,trivial⟩ ?_
  refine WL.call Qf155 rfl (X0 (.of rfl) (X0 (.of rfl) X1)) rfl (Xu bb p v out ([60] ++ n.name) hp B _ I _ ((hS.pick 2 rfl).pick 2 rfl) (by simp only [Y0,List.length_cons,List.length_nil] at hT1 ⊢; omega)) ?_
  clear hS
  rintro _ w ⟨rfl,v1,hS⟩
  try dsimp only [List.eraseIdx] at hS
  refine .nil (.seq (.seq (.region ?_)))
  first | refine WL.val (.fieldAddr 1 (.of rfl) Xq rfl rfl X3o rfl) rfl ?_ | refine WL.val (.fieldAddrI 1 (.of rfl) Xq rfl rfl X3o rfl) rfl ?_
  first | refine WL.val (.ld (.of rfl) hS (k:=0) rfl X31 rfl) rfl ?_ | refine WL.val (.ld (.of rfl) hS (k:=1) rfl X31 rfl) rfl ?_ | refine WL.val (.ld (.of rfl) hS (k:=2) rfl X31 rfl) rfl ?_
  refine .run 2 rfl ⟨⟨_,X24⟩,trivial⟩ (.nil (.block ?_))
  have hS0:=hS; clear hS
  refine .loop (σ:=Nat×List UInt8×Value) (fun ⟨i,q,v⟩=>[(0,ptr bb 0),(3,ptr b3 0),(14,.slice aa n.attrs.length ca),(15,I64 (n.attrs.length:Nat)),(16,I64 (i:Nat))]) (fun ⟨i,q,v⟩ w=>i≤n.attrs.length∧q ++ ((n.attrs.drop i).map X2t).flatten=(out ++ ([60] ++ n.name) ++ (n.attrs.map X2t).flatten)∧Sat B w I (blk bb [ptr bb 0,v] 178::Vec 5 1 v (q).length (bcs (q))::blk b3 [S n.name,.slice aa n.attrs.length ca,S n.text,.slice ka n.kids.length ck] 126::As)) (fun ⟨i,q,v⟩=>n.attrs.length - i) (0,out ++ ([60] ++ n.name),v1) ⟨rfl,rfl,rfl,rfl,rfl,trivial⟩ ⟨Yk _,rfl,hS0⟩ ?_
  rintro ⟨i,q,v⟩ w ⟨hi,hok,hS⟩
  change WC _ _ _ _ [(0,ptr bb 0),(3,ptr b3 0),(14,.slice aa n.attrs.length ca),(15,I64 (n.attrs.length:Nat)),(16,I64 (i:Nat))] w
  clear hS0
  refine .seq (.q 1 rfl (.seq ?_))
  refine WC.cond rfl (fun hb17=>?_) (fun hb17=>?_)
  ·
   have hc17:=hb17; try simp only [Y4] at hc17
   refine .skip (.seq (.block (.seq ?_)))
   obtain ⟨a,ha⟩:∃ a,n.attrs[i]?=some a:=⟨_,Y3 (by omega)⟩
   obtain ⟨qa,hq9,hx⟩:=Xbi hRa ha
   subst hq9
   have hal9:=hat a (Yj ha)
   have he9:=X8g a.2
   have hdr:n.attrs.drop i=a::n.attrs.drop (i+1):=by rw [Yu (by omega),(Y1.1 ha).2]
   have hql:q.length≤1000000:=by have:=congrArg List.length hok; simp only [Y0] at this hT1; omega
   refine .region ?_
   first | refine WL.val (.indexAddr (.of rfl) (.of rfl) (by omega) (by omega) X24 X18) rfl ?_ | refine WL.val (.indexAddrI (.of rfl) (.of rfl) (by omega) (by omega) X24 X18) rfl ?_
   rw [Y9]
   refine .val (.ldsI (us:=[S a.1,S a.2]) (.of rfl) hS hx Xbe X18 rfl (fun _ _ h=>h)) rfl (.allocA (cs:=[_,_]) hS X7q rfl ?_)
   clear hS; intro b5 w hS
   first | refine WL.stA hS (k:=0) rfl (.of rfl) (.of rfl) rfl X18 rfl (by simp) ?_ | refine WL.stA hS (k:=1) rfl (.of rfl) (.of rfl) rfl X18 rfl (by simp) ?_ | refine WL.stA hS (k:=2) rfl (.of rfl) (.of rfl) rfl X18 rfl (by simp) ?_ | refine WL.stA hS (k:=3) rfl (.of rfl) (.of rfl) rfl X18 rfl (by simp) ?_
   clear hS; intro w hS; try dsimp only [List.set] at hS
   try simp only [Yb,Y6,Y8,Y2,Y5,Yc,Y7] at hS
   refine .nil (.drawn (fun w=>∃ R,Sat B w I (blk b5 [S a.1,S a.2] 136::R)) (fun j=>!([].contains j)) (by kernel_rfl) ?_)
   replace hS:=hS.drew; generalize w.drew=w at hS ⊢
   have hH:∃ R,Sat B w I (blk b5 [S a.1,S a.2] 136::R):=⟨_,(hS.pick 0 rfl)⟩
   refine .tp (i:=0) rfl (by kernel_rfl) (fun w=>(.move (.of rfl))) rfl ?_
   refine WD.tp (i:=1) rfl (by kernel_rfl) (fun w=>(by first | exact .fieldAddr 0 (.of rfl) X1c rfl rfl Qs9 rfl | exact .fieldAddrI 0 (.of rfl) X1c rfl rfl Qs9 rfl)) rfl ?_
   refine .tk (i:=2) rfl (by kernel_rfl) hH (fun w ⟨R,hS⟩=>(.ld (.of rfl) hS (k:=0) rfl Qg9 rfl)) rfl ?_
   refine WD.tp (i:=3) rfl (by kernel_rfl) (fun w=>(.cat (.of rfl) (.of rfl) (by (try simp only [Y0,List.length_cons,List.length_nil]); omega))) rfl ?_
   refine WD.tp (i:=4) rfl (by kernel_rfl) (fun w=>(.cat (.of rfl) (.of rfl) (by (try simp only [Y0,List.length_cons,List.length_nil]); omega))) rfl ?_
   refine WD.tp (i:=5) rfl (by kernel_rfl) (fun w=>(by first | exact .fieldAddr 1 (.of rfl) X1c rfl rfl Qs9 rfl | exact .fieldAddrI 1 (.of rfl) X1c rfl rfl Qs9 rfl)) rfl ?_
   refine .tk (i:=6) rfl (by kernel_rfl) hH (fun w ⟨R,hS⟩=>(.ld (.of rfl) hS (k:=0) rfl Qg9 rfl)) rfl ?_
   refine WD.branch [7] (by kernel_rfl) rfl (WO.cons rfl ?_ (WO.nil))
   refine .call Tryz.func156 rfl (X0 (.of rfl) X1) rfl (X4z a.2 (by omega) B _ I hK _ hS) ?_
   clear hS
   rintro _ w ⟨rfl,hS⟩
   refine .nil ?_
   clear hH
   have hH:∃ R,Sat B w I (blk b5 [S a.1,S a.2] 136::R):=⟨_,(hS.pick 0 rfl)⟩
   refine And.intro (by intro _ _; exact hH) ?_
   refine WD.tp (i:=8) rfl (by kernel_rfl) (fun w=>(.cat (.of rfl) (.of rfl) (by (try simp only [Y0,List.length_cons,List.length_nil]); omega))) rfl ?_
   refine WD.tp (i:=9) rfl (by kernel_rfl) (fun w=>(.cat (.of rfl) (.of rfl) (by (try simp only [Y0,List.length_cons,List.length_nil]); omega))) rfl ?_
   refine WD.branch [10] (by kernel_rfl) rfl (WO.cons rfl ?_ (WO.nil))
   refine WL.call Qf155 rfl (X0 (.of rfl) (X0 (.of rfl) X1)) rfl (Xu bb (ptr bb 0) v q (((([32] ++ a.1) ++ [61,34]) ++ esc a.2) ++ [34]) (.inr rfl) B _ I _ ((hS.pick 2 rfl).pick 2 rfl) (by simp only [Y0,List.length_cons,List.length_nil]; omega)) ?_
   clear hS
   rintro _ w ⟨rfl,v2,hS⟩
   try dsimp only [List.eraseIdx] at hS
   refine .nil ?_
   clear hH
   have hH:∃ R,Sat B w I (blk b5 [S a.1,S a.2] 136::R):=⟨_,(hS.pick 2 rfl)⟩
   refine And.intro (by intro _ _; exact hH) ?_
   refine .done (by kernel_rfl) (.region (.run 2 rfl ⟨⟨by omega,by omega⟩,trivial⟩ (.nil ?_)))
   refine ⟨(i+1,q ++ (((([32] ++ a.1) ++ [61,34]) ++ esc a.2) ++ [34]),v2),⟨rfl,rfl,rfl,rfl,rfl,trivial⟩,⟨by (try dsimp only); omega,?_,((((hS.pick 3 rfl).pick 2 rfl).pick 2 rfl).drop (k:=3) rfl)⟩,by (try dsimp only); omega⟩
   rw [← hok,hdr]
   simp [X2t]
  have hc17:=hb17; try simp only [Y4] at hc17
  refine .exit (.seq ?_)
  have hq1:q=(out ++ ([60] ++ n.name) ++ (n.attrs.map X2t).flatten):=by rw [← hok,Y1j (by omega)]; simp
  subst hq1
  have het:=X8g n.text
  refine .t 1 rfl ?_
  first | refine WL.val (.fieldAddr 2 (.of rfl) Xq rfl rfl Qs9 rfl) rfl ?_ | refine WL.val (.fieldAddrI 2 (.of rfl) Xq rfl rfl Qs9 rfl) rfl ?_
  first | refine WL.val (.ld (.of rfl) hS (k:=0) rfl Qg9 rfl) rfl ?_ | refine WL.val (.ld (.of rfl) hS (k:=1) rfl Qg9 rfl) rfl ?_ | refine WL.val (.ld (.of rfl) hS (k:=2) rfl Qg9 rfl) rfl ?_
  refine .call Tryz.func156 rfl (X0 (.of rfl) X1) rfl (X4z n.text (by omega) B _ I hK _ hS) ?_
  clear hS
  rintro _ w ⟨rfl,hS⟩
  refine WL.run 1 rfl ⟨by (try simp only [Y0,List.length_cons,List.length_nil]); omega,trivial⟩ ?_
  refine WL.call Qf155 rfl (X0 (.of rfl) (X0 (.of rfl) X1)) rfl (Xu bb (ptr bb 0) v (out ++ ([60] ++ n.name) ++ (n.attrs.map X2t).flatten) ([62] ++ esc n.text) (.inr rfl) B _ I _ ((hS.pick 1 rfl).pick 1 rfl) (by simp only [Y0,List.length_cons,List.length_nil] at hT1 ⊢; omega)) ?_
  clear hS
  rintro _ w ⟨rfl,v3,hS⟩
  try dsimp only [List.eraseIdx] at hS
  refine .nil (.seq (.seq (.region ?_)))
  first | refine WL.val (.fieldAddr 3 (.of rfl) Xq rfl rfl X21 rfl) rfl ?_ | refine WL.val (.fieldAddrI 3 (.of rfl) Xq rfl rfl X21 rfl) rfl ?_
  first | refine WL.val (.ld (.of rfl) hS (k:=0) rfl X1q rfl) rfl ?_ | refine WL.val (.ld (.of rfl) hS (k:=1) rfl X1q rfl) rfl ?_ | refine WL.val (.ld (.of rfl) hS (k:=2) rfl X1q rfl) rfl ?_
  refine .run 2 rfl ⟨⟨_,X1s⟩,trivial⟩ (.nil (.block ?_))
  have hS0:=hS; clear hS
  refine .loop (σ:=Nat×List UInt8×Value) (fun ⟨i,q,v⟩=>[(0,ptr bb 0),(3,ptr b3 0),(39,.slice ka n.kids.length ck),(40,I64 (n.kids.length:Nat)),(41,I64 (i:Nat))]) (fun ⟨i,q,v⟩ w=>i≤n.kids.length∧q ++ ((n.kids.drop i).map (X1p d)).flatten=((out ++ ([60] ++ n.name) ++ (n.attrs.map X2t).flatten) ++ ([62] ++ esc n.text) ++ (n.kids.map (X1p d)).flatten)∧Sat B w I (blk bb [ptr bb 0,v] 178::Vec 5 1 v (q).length (bcs (q))::blk b3 [S n.name,.slice aa n.attrs.length ca,S n.text,.slice ka n.kids.length ck] 126::As)) (fun ⟨i,q,v⟩=>n.kids.length - i) (0,(out ++ ([60] ++ n.name) ++ (n.attrs.map X2t).flatten) ++ ([62] ++ esc n.text),v3) ⟨rfl,rfl,rfl,rfl,rfl,trivial⟩ ⟨Yk _,rfl,hS0⟩ ?_
  rintro ⟨i,q,v⟩ w ⟨hi,hok,hS⟩
  change WC _ _ _ _ [(0,ptr bb 0),(3,ptr b3 0),(39,.slice ka n.kids.length ck),(40,I64 (n.kids.length:Nat)),(41,I64 (i:Nat))] w
  clear hS0
  refine .seq (.q 1 rfl (.seq ?_))
  refine WC.cond rfl (fun hb42=>?_) (fun hb42=>?_)
  ·
   have hc42:=hb42; try simp only [Y4] at hc42
   refine .skip (.seq (.block (.seq ?_)))
   obtain ⟨k,hk⟩:∃ k,n.kids[i]?=some k:=⟨_,Y3 (by omega)⟩
   obtain ⟨x,hxi⟩:∃ x,xs[i]?=some x:=⟨_,Y3 (by omega)⟩
   have hNk:=hKD i x k hxi hk
   obtain ⟨qa,hq9,hx⟩:=Xc0 hRk hxl hx4 hxi
   subst hq9
   obtain ⟨s1,a1,n1,m1,s2,a2,n2,m2,hc9⟩:=hNk.cells
   subst hc9
   have hdr:n.kids.drop i=k::n.kids.drop (i+1):=by rw [Yu (by omega),(Y1.1 hk).2]
   have hql:(q ++ X1p d k).length≤1000000:=by have:=congrArg List.length hok; rw [hdr] at this; simp only [Y1l,Y1s,Y0] at this hT2 ⊢; omega
   refine .region ?_
   first | refine WL.val (.indexAddr (.of rfl) (.of rfl) (by omega) (by omega) X1s X4) rfl ?_ | refine WL.val (.indexAddrI (.of rfl) (.of rfl) (by omega) (by omega) X1s X4) rfl ?_
   rw [Y9]
   refine .val (.ldsI (us:=[S s1,.slice a1 n1 m1,S s2,.slice a2 n2 m2]) (.of rfl) hS hx X7 X4 rfl (fun _ _ h=>h)) rfl (.allocA (cs:=[_,_,_,_]) hS X2s rfl ?_)
   clear hS; intro b7 w hS
   first | refine WL.stA hS (k:=0) rfl (.of rfl) (.of rfl) rfl X4 rfl (by simp) ?_ | refine WL.stA hS (k:=1) rfl (.of rfl) (.of rfl) rfl X4 rfl (by simp) ?_ | refine WL.stA hS (k:=2) rfl (.of rfl) (.of rfl) rfl X4 rfl (by simp) ?_ | refine WL.stA hS (k:=3) rfl (.of rfl) (.of rfl) rfl X4 rfl (by simp) ?_
   clear hS; intro w hS; try dsimp only [List.set] at hS
   try simp only [Yb,Y6,Y8,Y2,Y5,Yc,Y7] at hS
   refine .nil (.t 1 rfl ?_)
   first | refine WL.val (.ldsW (cs:=[_,_,_,_]) (.of rfl) hS (k:=0) rfl X7 X4 rfl) rfl ?_ | refine WL.val (.lds (vs:=[_,_,_,_]) (.of rfl) hS (k:=0) rfl X7 X4 rfl (fun _ _ h=>h)) rfl ?_ | refine WL.val (.ldsW (cs:=[_,_,_,_]) (.of rfl) hS (k:=1) rfl X7 X4 rfl) rfl ?_ | refine WL.val (.lds (vs:=[_,_,_,_]) (.of rfl) hS (k:=1) rfl X7 X4 rfl (fun _ _ h=>h)) rfl ?_ | refine WL.val (.ldsW (cs:=[_,_,_,_]) (.of rfl) hS (k:=2) rfl X7 X4 rfl) rfl ?_ | refine WL.val (.lds (vs:=[_,_,_,_]) (.of rfl) hS (k:=2) rfl X7 X4 rfl (fun _ _ h=>h)) rfl ?_ | refine WL.val (.ldsW (cs:=[_,_,_,_]) (.of rfl) hS (k:=3) rfl X7 X4 rfl) rfl ?_ | refine WL.val (.lds (vs:=[_,_,_,_]) (.of rfl) hS (k:=3) rfl X7 X4 rfl (fun _ _ h=>h)) rfl ?_
   refine .call Tryz.func110 rfl (X0 (.of rfl) (X0 (.of rfl) X1)) rfl (ih k [S s1,.slice a1 n1 m1,S s2,.slice a2 n2 m2] bb (ptr bb 0) v q B _ I _ hK hNk (.inr rfl) hql ((hS.pick 2 rfl).pick 2 rfl)) ?_
   clear hS
   rintro _ w ⟨rfl,v2,hS⟩
   try dsimp only [List.eraseIdx] at hS
   refine .nil (.region (.run 2 rfl ⟨⟨by omega,by omega⟩,trivial⟩ (.nil ?_)))
   refine ⟨(i+1,q ++ X1p d k,v2),⟨rfl,rfl,rfl,rfl,rfl,trivial⟩,⟨by (try dsimp only); omega,?_,((((hS.pick 3 rfl).pick 2 rfl).pick 2 rfl).drop (k:=3) rfl)⟩,by (try dsimp only); omega⟩
   rw [← hok,hdr]
   simp [X2t]
  have hc42:=hb42; try simp only [Y4] at hc42
  refine .exit ?_
  have hq2:q=((out ++ ([60] ++ n.name) ++ (n.attrs.map X2t).flatten) ++ ([62] ++ esc n.text) ++ (n.kids.map (X1p d)).flatten):=by rw [← hok,Y1j (by omega)]; simp
  subst hq2
  refine .t 1 rfl ?_
  first | refine WL.val (.fieldAddr 0 (.of rfl) Xq rfl rfl Qs9 rfl) rfl ?_ | refine WL.val (.fieldAddrI 0 (.of rfl) Xq rfl rfl Qs9 rfl) rfl ?_
  first | refine WL.val (.ld (.of rfl) hS (k:=0) rfl Qg9 rfl) rfl ?_ | refine WL.val (.ld (.of rfl) hS (k:=1) rfl Qg9 rfl) rfl ?_ | refine WL.val (.ld (.of rfl) hS (k:=2) rfl Qg9 rfl) rfl ?_
  refine WL.run 2 rfl ⟨by (try simp only [Y0,List.length_cons,List.length_nil]); omega,by (try simp only [Y0,List.length_cons,List.length_nil]); omega,trivial⟩ ?_
  refine WL.call Qf155 rfl (X0 (.of rfl) (X0 (.of rfl) X1)) rfl (Xu bb (ptr bb 0) v ((out ++ ([60] ++ n.name) ++ (n.attrs.map X2t).flatten) ++ ([62] ++ esc n.text) ++ (n.kids.map (X1p d)).flatten) (([60,47] ++ n.name) ++ [62]) (.inr rfl) B _ I _ ((hS.pick 1 rfl).pick 1 rfl) (by simp only [Y0,List.length_cons,List.length_nil] at hT2 ⊢; omega)) ?_
  clear hS
  rintro _ w ⟨rfl,v5,hS⟩
  try dsimp only [List.eraseIdx] at hS
  refine .nil (end0 Tryz.results110 ?_)
  have he:((out ++ ([60] ++ n.name) ++ (n.attrs.map X2t).flatten) ++ ([62] ++ esc n.text) ++ (n.kids.map (X1p d)).flatten) ++ (([60,47] ++ n.name) ++ [62])=out ++ X1p (d+1) n:=by simp [X1p]
  rw [he] at hS
  exact ⟨_,rfl,rfl,v5,hS.drop (k:=2) rfl⟩
theorem Xaa (n:Nd) (cs:List Value) (B w:World) (I:Im) (hK:Kx I) (hN:NdV 8 I cs n) (hT:(X1p 8 n).length≤1000000) (As:List Xf) (hS:Sat B w I As) :
  Calls Tryz.prog 66 [.agg cs.toArray].toArray w (Ret fun v w'=>v=.tuple #[S (if (X1f 8 200 n).isSome=true then X1p 8 n else []),I64 (if (X1f 8 200 n).isSome=true then 0 else 1)]∧Sat B w' I As):=by
 obtain ⟨s1,a1,n1,m1,s2,a2,n2,m2,hc9⟩:=hN.cells
 subst hc9
 refine calls Qf66 rfl Tryz.ntmps66 rfl (.seq (.region (.boxA (cs:=[_,_,_,_]) hS (.of rfl) rfl ?_)))
 clear hS; intro b1 w hS
 refine .q 2 rfl (.nil (.seq (.seq (.region ?_))))
 first | refine WL.val (.ldsW (cs:=[_,_,_,_]) (.of rfl) hS (k:=0) rfl X7 X4 rfl) rfl ?_ | refine WL.val (.lds (vs:=[_,_,_,_]) (.of rfl) hS (k:=0) rfl X7 X4 rfl (fun _ _ h=>h)) rfl ?_
 refine .call Tryz.func105 rfl (X0 (.of rfl) X1) rfl (X5i n [S s1,.slice a1 n1 m1,S s2,.slice a2 n2 m2] B _ I hN _ hS) ?_
 clear hS
 rintro _ w ⟨rfl,hS⟩
 refine .q 1 rfl (.nil ?_)
 refine WC.cond rfl (fun hb7=>?_) (fun hb7=>?_)
 ·
  have hc7:=hb7; try simp only [Y4] at hc7
  refine .seq (.q 2 rfl (.ret (X3u Tryz.results66 rfl rfl ?_)))
  refine ⟨_,rfl,?_,(hS.drop (k:=0) rfl)⟩
  rw [if_neg (by simpa using hb7),if_neg (by simpa using hb7)]
 have hc7:=hb7; try simp only [Y4] at hc7
 refine .skip (.seq (.region (.allocA (cs:=[_,_]) hS Xfa rfl ?_)))
 clear hS; intro b4 w hS
 refine .nil (.seq ?_)
 replace hS:=(hS.vecNil 5 1).pick 1 rfl; try dsimp only [List.eraseIdx] at hS
 refine .region ?_
 first | refine WL.val (.ldsW (cs:=[_,_,_,_]) (.of rfl) hS (k:=0) rfl X7 X4 rfl) rfl ?_ | refine WL.val (.lds (vs:=[_,_,_,_]) (.of rfl) hS (k:=0) rfl X7 X4 rfl (fun _ _ h=>h)) rfl ?_ | refine WL.val (.ldsW (cs:=[_,_,_,_]) (.of rfl) hS (k:=1) rfl X7 X4 rfl) rfl ?_ | refine WL.val (.lds (vs:=[_,_,_,_]) (.of rfl) hS (k:=1) rfl X7 X4 rfl (fun _ _ h=>h)) rfl ?_ | refine WL.val (.ldsW (cs:=[_,_,_,_]) (.of rfl) hS (k:=2) rfl X7 X4 rfl) rfl ?_ | refine WL.val (.lds (vs:=[_,_,_,_]) (.of rfl) hS (k:=2) rfl X7 X4 rfl (fun _ _ h=>h)) rfl ?_
 refine WL.call Tryz.func110 rfl (X0 (.of rfl) (X0 (.of rfl) X1)) rfl (Xd4 8 n [S s1,.slice a1 n1 m1,S s2,.slice a2 n2 m2] b4 _ _ [] B _ I _ hK hN (.inl rfl) (by rw [Y6]; exact hT) ((hS.pick 1 rfl).pick 1 rfl)) ?_
 clear hS
 rintro _ w ⟨rfl,v2,hS⟩
 try dsimp only [List.eraseIdx] at hS
 rw [Y6] at hS
 refine .nil (.seq ?_)
 have he9:X1p 8 n≠[]:=by simp [X1p]
 refine .region (.call Qf111 rfl (X0 (.of rfl) X1) rfl (X3j b4 _ v2 (X1p 8 n) (fun h=>absurd h he9) B _ I _ hS) ?_)
 clear hS
 rintro _ w ⟨rfl,hS⟩
 refine .q 2 rfl (.nil (.ret (X3u Tryz.results66 rfl rfl ?_)))
 refine ⟨_,rfl,?_,(hS.drop (k:=0) rfl)⟩
 rw [if_pos (by simpa using hb7),if_pos (by simpa using hb7)]
theorem X53 (rb:Nat) (t x:List UInt8) (l:Int) (B w:World) (I:Im) (As:List Xf) (hS:Sat B w I (blk rb [S (t),I64 (l)] 171::As)) :
  Calls Tryz.prog 144 [ptr rb 0,S x].toArray w (Ret fun v w'=>v=.bool (Xa t x)∧Sat B w' I (blk rb [S (if Xa t x=true then t.drop x.length else t),I64 (l)] 171::As)):=by
 refine calls X9w rfl Tryz.ntmps144 rfl (.seq (.q 1 rfl (.seq (.t 2 rfl ?_))))
 first | refine WL.val (.fieldAddr 0 (.of rfl) X10 rfl rfl Qs9 rfl) rfl ?_ | refine WL.val (.fieldAddrI 0 (.of rfl) X10 rfl rfl Qs9 rfl) rfl ?_
 refine .val (.ld (.of rfl) hS (k:=0) rfl Qg9 rfl) rfl (.q 1 rfl (.call Tryz.func190 rfl (X0 (.of rfl) (X0 (.of rfl) X1)) rfl (X5v t x B _ I _ hS) ?_))
 clear hS
 rintro _ w ⟨rfl,hS⟩
 refine .q 5 rfl (.nil (.seq (.t 3 rfl ?_)))
 first | refine WL.val (.fieldAddr 0 (.of rfl) X10 rfl rfl Qs9 rfl) rfl ?_ | refine WL.val (.fieldAddrI 0 (.of rfl) X10 rfl rfl Qs9 rfl) rfl ?_
 refine .st1 hS (k:=0) rfl (.of rfl) (.of rfl) rfl Qs9 (by simp) ?_
 clear hS; intro w hS; try dsimp only [List.set] at hS
 refine .nil (.seq (.q 2 rfl (.ret (Xl Tryz.results144 rfl ?_))))
 exact ⟨_,rfl,rfl,hS⟩
theorem X9b (rb:Nat) (t ats:List UInt8) (hl:t.length≤1000000) (l:Int) (B w:World) (I:Im) (As:List Xf) (hI:∀ w,Sat B w I (blk rb [S (t),I64 (l)] 171::As)→Calls Tryz.prog 191 [S t,S ats].toArray w (Ret fun v w'=>v=I64 (Go.Lib.indexAny t ats)∧Sat B w' I (blk rb [S (t),I64 (l)] 171::As))) (hS:Sat B w I (blk rb [S (t),I64 (l)] 171::As)) :
  Calls Tryz.prog 145 [ptr rb 0,S ats].toArray w (Ret fun v w'=>v=S (upto ats t)∧Sat B w' I (blk rb [S (Xc ats t),I64 (l)] 171::As)):=by
 refine calls Xaj rfl Tryz.ntmps145 rfl (.seq (.q 1 rfl (.seq (.t 2 rfl ?_))))
 first | refine WL.val (.fieldAddr 0 (.of rfl) X10 rfl rfl Qs9 rfl) rfl ?_ | refine WL.val (.fieldAddrI 0 (.of rfl) X10 rfl rfl Qs9 rfl) rfl ?_
 refine .val (.ld (.of rfl) hS (k:=0) rfl Qg9 rfl) rfl (.q 1 rfl (.call Qf191 rfl (X0 (.of rfl) (X0 (.of rfl) X1)) rfl (hI _ hS) ?_))
 clear hS
 rintro _ w ⟨rfl,hS⟩
 have hix:Go.Lib.indexAny t ats=-1∧upto ats t=t∧Xc ats t=[]∨∃ k:Nat,Go.Lib.indexAny t ats=k∧upto ats t=t.take k∧Xc ats t=t.drop k∧k<t.length:=by
  have hge:=Go.Lib.indexAny_ge ats t
  by_cases e:Go.Lib.indexAny t ats=-1
  ·exact .inl ⟨e,X5w e⟩
  ·obtain ⟨k,hk⟩:∃ k:Nat,Go.Lib.indexAny t ats=k:=⟨(Go.Lib.indexAny t ats).toNat,by omega⟩
   exact .inr ⟨k,hk,X87 hk⟩
 generalize Go.Lib.indexAny t ats=ix at hix
 refine .q 1 rfl (.nil (.seq (.seq (.q 2 rfl ?_))))
 refine WC.cond rfl (fun hb14=>?_) (fun hb14=>?_)
 ·
  have hc14:=hb14; try simp only [Y4] at hc14
  refine .t 2 rfl ?_
  first | refine WL.val (.fieldAddr 0 (.of rfl) X10 rfl rfl Qs9 rfl) rfl ?_ | refine WL.val (.fieldAddrI 0 (.of rfl) X10 rfl rfl Qs9 rfl) rfl ?_
  refine .val (.ld (.of rfl) hS (k:=0) rfl Qg9 rfl) rfl (.run 2 rfl ⟨Qu9,trivial⟩ (.nil (.seq ?_)))
  have hix1:ix=-1∧upto ats t=t∧Xc ats t=[]:=by
   rcases hix with h | ⟨k,h,_⟩
   ·exact h
   ·rw [h] at hc14; omega
  refine .t 2 rfl ?_
  first | refine WL.val (.fieldAddr 0 (.of rfl) X10 rfl rfl Qs9 rfl) rfl ?_ | refine WL.val (.fieldAddrI 0 (.of rfl) X10 rfl rfl Qs9 rfl) rfl ?_
  refine .val (.ld (.of rfl) hS (k:=0) rfl Qg9 rfl) rfl (.q 1 rfl (.val (.subTo (.of rfl) (.of rfl) (by omega) (by omega) Qu9) rfl (.q 1 rfl (.nil (.seq (.t 3 rfl ?_))))))
  first | refine WL.val (.fieldAddr 0 (.of rfl) X10 rfl rfl Qs9 rfl) rfl ?_ | refine WL.val (.fieldAddrI 0 (.of rfl) X10 rfl rfl Qs9 rfl) rfl ?_
  refine .val (.ld (.of rfl) hS (k:=0) rfl Qg9 rfl) rfl (.q 1 rfl (.val (.subFrom (.of rfl) (.of rfl) (by omega) (by omega) Qu9) rfl (.q 1 rfl ?_)))
  first | refine WL.val (.fieldAddr 0 (.of rfl) X10 rfl rfl Qs9 rfl) rfl ?_ | refine WL.val (.fieldAddrI 0 (.of rfl) X10 rfl rfl Qs9 rfl) rfl ?_
  refine .st1 hS (k:=0) rfl (.of rfl) (.of rfl) rfl Qs9 (by simp) ?_
  clear hS; intro w hS; try dsimp only [List.set] at hS
  refine .nil (.seq (.q 2 rfl (.ret (Xl Tryz.results145 rfl ?_))))
  refine ⟨_,rfl,?_,?_⟩
  ·rw [hix1.2.1,Y9,Y2b]
  ·rw [hix1.2.2]; rw [Y9,Y2y] at hS; exact hS
 have hc14:=hb14; try simp only [Y4] at hc14
 refine .skip (.seq ?_)
 obtain ⟨k,hk,hk1,hk2,hk3⟩:∃ k:Nat,ix=k∧upto ats t=t.take k∧Xc ats t=t.drop k∧k<t.length:=by
  rcases hix with ⟨h,_⟩ | h
  ·rw [h] at hc14; omega
  ·exact h
 subst hk
 refine .t 2 rfl ?_
 first | refine WL.val (.fieldAddr 0 (.of rfl) X10 rfl rfl Qs9 rfl) rfl ?_ | refine WL.val (.fieldAddrI 0 (.of rfl) X10 rfl rfl Qs9 rfl) rfl ?_
 refine .val (.ld (.of rfl) hS (k:=0) rfl Qg9 rfl) rfl (.q 1 rfl (.val (.subTo (.of rfl) (.of rfl) (by omega) (by omega) Qu9) rfl (.q 1 rfl (.nil (.seq (.t 3 rfl ?_))))))
 first | refine WL.val (.fieldAddr 0 (.of rfl) X10 rfl rfl Qs9 rfl) rfl ?_ | refine WL.val (.fieldAddrI 0 (.of rfl) X10 rfl rfl Qs9 rfl) rfl ?_
 refine .val (.ld (.of rfl) hS (k:=0) rfl Qg9 rfl) rfl (.q 1 rfl (.val (.subFrom (.of rfl) (.of rfl) (by omega) (by omega) Qu9) rfl (.q 1 rfl ?_)))
 first | refine WL.val (.fieldAddr 0 (.of rfl) X10 rfl rfl Qs9 rfl) rfl ?_ | refine WL.val (.fieldAddrI 0 (.of rfl) X10 rfl rfl Qs9 rfl) rfl ?_
 refine .st1 hS (k:=0) rfl (.of rfl) (.of rfl) rfl Qs9 (by simp) ?_
 clear hS; intro w hS; try dsimp only [List.set] at hS
 refine .nil (.seq (.q 2 rfl (.ret (Xl Tryz.results145 rfl ?_))))
 refine ⟨_,rfl,?_,?_⟩
 ·rw [hk1,Y9]
 ·rw [hk2]; rw [Y9] at hS; exact hS
theorem Xb7 (rb:Nat) (t:List UInt8) (c:UInt8) (hc:c.toNat<128) (hl:t.length≤1000000) (l:Int) (B w:World) (I:Im) (As:List Xf) (hS:Sat B w I (blk rb [S (t),I64 (l)] 171::As)):Calls Tryz.prog 145 [ptr rb 0,S [c]].toArray w (Ret fun v w'=>v=S (upto [c] t)∧Sat B w' I (blk rb [S (Xc [c] t),I64 (l)] 171::As)):=X9b rb t [c] hl l B w I As (fun w h=>X5z t c hc B w I _ h) hS
theorem xword2 (rb:Nat) (t:List UInt8) (hl:t.length≤1000000) (l:Int) (B w:World) (I:Im) (As:List Xf) (hS:Sat B w I (blk rb [S (t),I64 (l)] 171::As)):Calls Tryz.prog 145 [ptr rb 0,S [32,62]].toArray w (Ret fun v w'=>v=S (upto [32,62] t)∧Sat B w' I (blk rb [S (Xc [32,62] t),I64 (l)] 171::As)):=X9b rb t [32,62] hl l B w I As (fun w h=>X3z t [32,62] hl (fun j b h=>by
  match j,h with
  | 0,h=>cases h; decide
  | 1,h=>cases h; decide
  | _+2,h=>simp at h) (by decide) (by decide) B w I _ h) hS
end Go.Proofs.YtbciobiiejpdgaaGreatDoor
namespace Xm
open Ul Pc Gk Pat Tk Tr
def LREQ:List UInt8:=[115,97,109,108,112,58,76,111,103,111,117,116,82,101,113,117,101,115,116]
def ID_:List UInt8:=[73,68]
def LR_:List UInt8:=[76,82,45]
def VER:List UInt8:=[86,101,114,115,105,111,110]
def V20:List UInt8:=[50,46,48]
def Xbb:List UInt8:=[73,115,115,117,101,73,110,115,116,97,110,116]
def NID:List UInt8:=[115,97,109,108,58,78,97,109,101,73,68]
def Xai:List UInt8:=[64,78,79,84,95,85,83,69,68,64]
def SIX:List UInt8:=[115,97,109,108,112,58,83,101,115,115,105,111,110,73,110,100,101,120]
def M1:List UInt8:=[60,115,97,109,108,112,58,76,111,103,111,117,116,82,101,113,117,101,115,116,32,73,68,61,34,76,82,45]
def M2:List UInt8:=[34,32,86,101,114,115,105,111,110,61,34,50,46,48,34,32,73,115,115,117,101,73,110,115,116,97,110,116,61,34]
def M3:List UInt8:=[34,62,60,115,97,109,108,58,78,97,109,101,73,68,62,64,78,79,84,95,85,83,69,68,64,60,47,115,97,109,108,58,78,97,109,101,73,68,62,60,115,97,109,108,112,58,83,101,115,115,105,111,110,73,110,100,101,120,62]
def M4:List UInt8:=[60,47,115,97,109,108,112,58,83,101,115,115,105,111,110,73,110,100,101,120,62,60,47,115,97,109,108,112,58,76,111,103,111,117,116,82,101,113,117,101,115,116,62]
def Xcy (c:UInt8):Bool:=Xd0 c || (48≤c && c≤57) || c == 45
def Tok (s:List UInt8):Prop:=∀ c∈s,Xcy c=true
theorem X1j (c:UInt8) (h:Xcy c=true):(c≠38∧c≠60∧c≠62∧c≠34∧c≠39)∧shB c=true∧c≠32:=by
 have:=Xz (p:=fun c=>!Xcy c || ((c != 38 && c != 60 && c != 62 && c != 34 && c != 39) && shB c && c != 32)) (by decide +kernel) c
 rw [h] at this
 simp only [Bool.not_true,Y32,Yd,bne_iff_ne,ne_eq] at this
 obtain ⟨⟨⟨⟨⟨⟨h1,h2⟩,h3⟩,h4⟩,h5⟩,h6⟩,h7⟩:=this
 exact ⟨⟨h1,h2,h3,h4,h5⟩,h6,h7⟩
theorem hx_tok {c:UInt8} {d:Nat} (h:hx c=some d):Xcy c=true:=by
 have:=Xz (p:=fun c=>!(hx c).isSome || Xcy c) (by decide +kernel) c
 rw [h] at this
 simpa using this
theorem Xbr:∀ (s:List UInt8) (n d:Nat),hxS n s=some d→Tok s
 | [],_,_,_=>fun c hc=>by simp at hc
 | c::r,n,d,h=>by
  rw [hxS] at h
  cases hc:hx c with
  | none=>rw [hc] at h; cases h
  | some x =>
   rw [hc] at h
   intro y hy
   rcases Y19.1 hy with rfl | hy
   ·exact hx_tok hc
   ·exact Xbr r _ _ h y hy
theorem Xbc {s:List UInt8} {k d:Nat} (h:Xt s=some (k,d)):Tok s:=by
 unfold Xt at h
 split at h
 ·cases h
 ·rename_i hk
  obtain ⟨x,hx,e⟩:=Y18.1 h
  have hl:=Xaq (upto [45] s)
  have h1:Tok (upto [45] s):=by
   rw [X86 hk]
   have:=(by decide:∀ k:Fin 7,∀ c∈pre k.val,Xcy c=true) ⟨X1m (upto [45] s),by omega⟩
   exact this
  unfold X28 at hx
  split at hx
  ·rename_i h16
   have h2:=Xbr _ _ _ hx
   intro c hc
   rw [← X1n [45] s] at hc
   rcases Y1b.1 hc with hc | hc
   ·exact h1 c hc
   ·cases hf:Xc [45] s with
    | nil=>rw [hf] at h16; simp at h16
    | cons a r =>
     rw [hf] at hc h2
     rcases Y19.1 hc with rfl | hc
     ·have:=X72 (ats:=[45]) (s:=s) (c:=c) (by rw [hf]; rfl)
      have:c=45:=by simpa using this
      rw [this]; decide
     ·exact h2 c hc
  ·cases hx
theorem X8r (n:Nat):Tok (Go.Lib.decDigits n):=by
 intro c hc
 have:=Y1c.1 (X1y n).2.1 c hc
 unfold Xcy
 unfold X58 at this
 rw [this]; simp
theorem Tok.esc {s:List UInt8} (h:Tok s):esc s=s:=X7c fun c hc=>(X1j c (h c hc)).1
theorem Tok.sh {s:List UInt8} (h:Tok s):X3t s=true:=Y1c.2 fun c hc=>(X1j c (h c hc)).2.1
theorem Xbz {t:List UInt8} (h:Tok t):Tok (LR_ ++ t):=fun c hc=>by
 rcases Y1b.1 hc with hc | hc
 ·exact (by decide:∀ c∈LR_,Xcy c=true) c hc
 ·exact h c hc
def X42 (t:List UInt8) (n:Nat):Nd:=.mk LREQ [(ID_,LR_ ++ t),(VER,V20),(Xbb,Go.Lib.decDigits n)] [] [.mk NID [] Xai [],.mk SIX [] t []]
def MSG (t:List UInt8) (n:Nat):List UInt8:=M1 ++ t ++ M2 ++ Go.Lib.decDigits n ++ M3 ++ t ++ M4
theorem X8u {t:List UInt8} (h:Tok t) (n:Nat):X1p 8 (X42 t n)=MSG t n:=by
 have h1:=h.esc
 have h2:=(Xbz h).esc
 have h3:=(X8r n).esc
 have h4:esc V20=V20:=by decide +kernel
 have h5:esc Xai=Xai:=by decide +kernel
 have h6:esc []=[]:=rfl
 simp only [X1p,X42,Nd.name,Nd.attrs,Nd.text,Nd.kids,Y1l,List.map_nil,X2t,h1,h2,h3,h4,h5,h6]
 unfold MSG LREQ ID_ LR_ VER V20 Xbb NID Xai SIX M1 M2 M3 M4
 simp
theorem Xas {t:List UInt8} (h:Tok t) (n:Nat):X1f 8 200 (X42 t n)=some 197:=by
 have h1:=h.sh
 have h2:=(Xbz h).sh
 have h3:=(X8r n).sh
 have k1:X3l LREQ=true:=by decide +kernel
 have k2:X3l NID=true:=by decide +kernel
 have k3:X3l SIX=true:=by decide +kernel
 have k4:X3t Xai=true:=by decide +kernel
 have k5:X3t []=true:=rfl
 have k6:X3l ID_=true:=by decide +kernel
 have k7:X3l VER=true:=by decide +kernel
 have k8:X3l Xbb=true:=by decide +kernel
 have k9:X3t V20=true:=by decide +kernel
 have j1:(ID_ == VER)=false:=by decide
 have j2:(ID_ == Xbb)=false:=by decide
 have j3:(VER == Xbb)=false:=by decide
 simp [X1f,X1t,X42,Nd.name,Nd.attrs,Nd.text,Nd.kids,X3x,h1,h2,h3,k1,k2,k3,k4,k5,k6,k7,k8,k9,j1,j2,j3]
theorem X6u {a b:UInt8} (h:a≠b) (r p:List UInt8):Xa (a::r) (b::p)=false:=by
 unfold Xa
 simp [h]
theorem Xaw {a b:UInt8} (h:a≠b) (c:UInt8) (r p:List UInt8):Xa (c::a::r) (c::b::p)=false:=by
 unfold Xa
 rw [Y9,List.length_cons,List.length_cons,Y13,Y13,show (c::a::r.take p.length == c::b::p)=false from beq_eq_false_iff_ne.2 fun e=>by injection e with _ e; injection e with e _; exact h e,Y1z]
theorem X62 (a r:List UInt8):(a ++ r).drop a.length=r:=by simp
theorem X6r {nm tx:List UInt8} (rest:List UInt8) (d:Nat) (left:Int) (hl:1≤left) (hnm:∀ c∈nm,c≠32∧c≠62) (htx:∀ x∈tx,x≠38∧x≠60∧x≠62∧x≠34∧x≠39) :
  X13 (d+1) left (60::(nm ++ 62::(tx ++ 60::47::(nm ++ 62::rest))))=some (.mk nm [] tx [],rest,left - 1):=by
 have u1:=X1b (ats:=[32,62]) (a:=nm) (b:=62::(tx ++ 60::47::(nm ++ 62::rest))) (fun c hc=>by have:=hnm c hc; simp [this.1,this.2]) (fun c hc=>by simp at hc; subst hc; decide)
 have u2:=X1b (ats:=[60]) (a:=tx) (b:=60::47::(nm ++ 62::rest)) (fun c hc=>by have:=htx c hc; simp [this.2.1]) (fun c hc=>by simp at hc; subst hc; decide)
 rw [X13,if_neg (by rintro (e | e) <;> first | omega | (rw [show (60::(nm ++ 62::(tx ++ 60::47::(nm ++ 62::rest))))=[60] ++ (nm ++ 62::(tx ++ 60::47::(nm ++ 62::rest))) from rfl,X1o] at e; cases e))]
 rw [Y2,Y5,u1.1,u1.2,Xs,if_pos (X6u (by decide) _ _)]
 dsimp only
 rw [if_neg (by rw [show (62::(tx ++ 60::47::(nm ++ 62::rest)))=[62] ++ (tx ++ 60::47::(nm ++ 62::rest)) from rfl,X1o]; decide),Y2,Y5,u2.1,u2.2,X8x htx]
 dsimp only
 rw [X1k,if_pos (by rw [show (60::47::(nm ++ 62::rest))=[60,47] ++ (nm ++ 62::rest) from rfl,X1o])]
 dsimp only
 rw [if_neg (by rw [show (60::47::(nm ++ 62::rest))=(60::47::nm ++ [62]) ++ rest by simp,X1o]; decide)]
 have e:(60::47::(nm ++ 62::rest)).drop (nm.length+3)=rest:=by
  rw [show (60::47::(nm ++ 62::rest))=(60::47::nm ++ [62]) ++ rest by simp,show nm.length+3=(60::47::nm ++ [62]).length by simp,X62]
 rw [e]
theorem X4e {key v:List UInt8} (rest:List UInt8) (f:Nat) (out:List Px) (hk:∀ c∈key,c≠61) (hv:∀ x∈v,x≠38∧x≠60∧x≠62∧x≠34∧x≠39) :
  Xs (f+1) (32::(key ++ 61::34::(v ++ 34::rest))) out=Xs f rest (out ++ [(key,v)]):=by
 have u1:=X1b (ats:=[61]) (a:=key) (b:=61::34::(v ++ 34::rest)) (fun c hc=>by have:=hk c hc; simp [this]) (fun c hc=>by simp at hc; subst hc; decide)
 have u2:=X1b (ats:=[34]) (a:=v) (b:=34::rest) (fun c hc=>by have:=hv c hc; simp [this.2.2.2.1]) (fun c hc=>by simp at hc; subst hc; decide)
 rw [Xs,if_neg (by rw [show (32::(key ++ 61::34::(v ++ 34::rest)))=[32] ++ (key ++ 61::34::(v ++ 34::rest)) from rfl,X1o]; decide)]
 rw [Y2,Y5,u1.1,u1.2,if_neg (by rw [show (61::34::(v ++ 34::rest))=[61,34] ++ (v ++ 34::rest) from rfl,X1o]; decide)]
 rw [Y2,Y2,Y5,u2.1,u2.2,X8x hv]
 dsimp only
 rw [if_neg (by rw [show (34::rest)=[34] ++ rest from rfl,X1o]; decide),Y2,Y5]
theorem Xbp (a:UInt8) (ha:a≠32) (rest:List UInt8) (f:Nat) (out:List Px):Xs (f+1) (a::rest) out=some (out,a::rest):=by
 rw [Xs,if_pos (X6u ha _ _)]
theorem X7h {f:Nat} (g:Nat) {s:List UInt8} {out:List Px} (hf:s.length<f) (hg:s.length<g):Xs f s out=Xs g s out:=X4f f g s out hf hg
theorem Xdm {t:List UInt8} (h:Tok t) (n:Nat):X13 8 200 (MSG t n)=some (X42 t n,[],197):=by
 have ht:∀ x∈t,x≠38∧x≠60∧x≠62∧x≠34∧x≠39:=fun c hc=>(X1j c (h c hc)).1
 have hlr:∀ x∈LR_ ++ t,x≠38∧x≠60∧x≠62∧x≠34∧x≠39:=fun c hc=>(X1j c (Xbz h c hc)).1
 have hd:∀ x∈Go.Lib.decDigits n,x≠38∧x≠60∧x≠62∧x≠34∧x≠39:=fun c hc=>(X1j c (X8r n c hc)).1
 obtain ⟨K3,hK3⟩:∃ K,K=60::47::(LREQ ++ [62]):=⟨_,rfl⟩
 obtain ⟨K2,hK2⟩:∃ K,K=60::(SIX ++ 62::(t ++ 60::47::(SIX ++ 62::K3))):=⟨_,rfl⟩
 obtain ⟨K1,hK1⟩:∃ K,K=60::(NID ++ 62::(Xai ++ 60::47::(NID ++ 62::K2))):=⟨_,rfl⟩
 obtain ⟨R3,hR3⟩:∃ K,K=32::(Xbb ++ 61::34::(Go.Lib.decDigits n ++ 34::62::K1)):=⟨_,rfl⟩
 obtain ⟨R2,hR2⟩:∃ K,K=32::(VER ++ 61::34::(V20 ++ 34::R3)):=⟨_,rfl⟩
 obtain ⟨R1,hR1⟩:∃ K,K=32::(ID_ ++ 61::34::((LR_ ++ t) ++ 34::R2)):=⟨_,rfl⟩
 have hM:MSG t n=60::(LREQ ++ R1):=by
  rw [hR1,hR2,hR3,hK1,hK2,hK3]
  unfold MSG LREQ ID_ LR_ VER V20 Xbb NID Xai SIX M1 M2 M3 M4
  simp
 have u1:=X1b (ats:=[32,62]) (a:=LREQ) (b:=R1) (by decide) (fun c hc=>by rw [hR1] at hc; simp at hc; subst hc; decide)
 have hA:Xs (R1.length+1) R1 []=some ([(ID_,LR_ ++ t),(VER,V20),(Xbb,Go.Lib.decDigits n)],62::K1):=by
  rw [X7h (R1.length+4) (by omega) (by omega)]
  conv=>lhs; rw [show R1.length+4=(R1.length+3)+1 from rfl,hR1,X4e R2 _ _ (by decide) hlr]
  rw [hR2,X4e R3 _ _ (by decide) (by decide),hR3,X4e (62::K1) _ _ (by decide) hd,Xbp 62 (by decide)]
  rfl
 have e1:X13 7 199 K1=some (.mk NID [] Xai [],K2,198):=by rw [hK1]; exact X6r K2 6 199 (by decide) (by decide) (by decide)
 have e2:X13 7 198 K2=some (.mk SIX [] t [],K3,197):=by rw [hK2]; exact X6r K3 6 198 (by decide) (by decide) ht
 have n1:Xa K1 [60,47]=false:=by rw [hK1]; exact Xaw (by decide) _ _ _
 have n2:Xa K2 [60,47]=false:=by rw [hK2]; exact Xaw (by decide) _ _ _
 have n3:Xa K3 [60,47]=true:=by rw [hK3]; exact X1o [60,47] _
 have l1:2≤K1.length:=by rw [hK1]; simp only [List.length_cons,Y0]; omega
 have hKd:X1k (X13 7) (K1.length+1) 199 K1 []=some ([.mk NID [] Xai [],.mk SIX [] t []],K3,197):=by
  obtain ⟨f,hf⟩:∃ f,K1.length=f+2:=⟨K1.length - 2,by omega⟩
  rw [hf,X1k,n1,if_neg (by decide),e1]
  dsimp only
  rw [X1k,n2,if_neg (by decide),e2]
  dsimp only
  rw [X1k,n3,if_pos rfl]; rfl
 have u2:upto [60] K1=[]∧Xc [60] K1=K1:=by
  have:=X1b (ats:=[60]) (a:=[]) (b:=K1) (by simp) (fun c hc=>by rw [hK1] at hc; simp at hc; subst hc; decide)
  simpa using this
 rw [hM,X13,if_neg (by rintro (e | e) <;> first | omega | (rw [show (60::(LREQ ++ R1))=[60] ++ (LREQ ++ R1) from rfl,X1o] at e; cases e))]
 rw [Y2,Y5,u1.1,u1.2,hA]
 dsimp only
 rw [if_neg (by rw [show (62::K1)=[62] ++ K1 from rfl,X1o]; decide),Y2,Y5,u2.1,u2.2,show X25 []=some [] from by decide]
 dsimp only
 rw [show (200:Int) - 1=199 from rfl,hKd]
 dsimp only
 rw [if_neg (by rw [hK3,show (60::47::(LREQ ++ [62]))=(60::47::LREQ ++ [62]) ++ [] by simp,X1o]; decide),hK3]
 rfl
theorem X93 {t:List UInt8} (h:Tok t) (n:Nat):X7z (MSG t n)=some (X42 t n):=by
 unfold X7z
 rw [Xdm h n]
 dsimp only
 rw [if_neg (by rw [Xas h n]; simp)]
structure Nt where
 ticket:List UInt8
 url:List UInt8
 tries:Int
 next:Int
deriving DecidableEq
def X1g (t:List UInt8):Bool:=isT t 2 || isT t 3
def Xd (n:Nt):Bool:=X1g n.ticket && decide ((n.url.length:Int)≤100) && decide (0≤n.tries) && decide (n.tries≤9) && decide (0≤n.next) && decide (n.next≤1099511627776)
theorem Xv {t:List UInt8} (h:X1g t=true):Tok t∧t.length≤23:=by
 unfold X1g isT at h
 cases hp:Xt t with
 | none=>rw [hp] at h; simp at h
 | some x=>obtain ⟨k,d⟩:=x; exact ⟨Xbc hp,(X2k hp).2.2.2.1⟩
def Xx (s:List UInt8):List UInt8:=upto [34] (s.drop M1.length)
def X7b (s:List UInt8):List UInt8:=(s.drop (M1.length+(Xx s).length+M2.length)).takeWhile X58
def X14 (s:List UInt8):Option (List UInt8):=if X1g (Xx s)=true∧val (X7b s)≤1099511627776∧s=MSG (Xx s) (val (X7b s)) then some (Xx s) else none
theorem X6k {t:List UInt8} (h:Tok t) (n:Nat):Xx (MSG t n)=t:=by
 have e:MSG t n=M1 ++ (t ++ (M2 ++ Go.Lib.decDigits n ++ M3 ++ t ++ M4)):=by unfold MSG; simp only [Ye]
 unfold Xx
 rw [e,X62]
 exact (X1b (ats:=[34]) (a:=t) (b:=M2 ++ Go.Lib.decDigits n ++ M3 ++ t ++ M4) (fun c hc=>by have:=(X1j c (h c hc)).1; simp [this.2.2.2.1]) (fun c hc=>by unfold M2 at hc; simp at hc; subst hc; decide)).1
theorem X7d:∀ (a b:List UInt8),a.all X58=true→(∀ c,b.head?=some c→X58 c=false)→(a ++ b).takeWhile X58=a
 | [],[],_,_=>rfl
 | [],c::b,_,h=>by rw [Y6,Y12,h c rfl]; rfl
 | c::a,b,h,h2=>by
  simp only [Y2h,Yd] at h
  rw [Y1r,Y12,h.1,X7d a b h.2 h2]; rfl
theorem Xbg {t:List UInt8} (h:Tok t) (n:Nat):X7b (MSG t n)=Go.Lib.decDigits n:=by
 unfold X7b
 rw [X6k h n]
 have e:MSG t n=(M1 ++ t ++ M2) ++ (Go.Lib.decDigits n ++ (M3 ++ t ++ M4)):=by unfold MSG; simp only [Ye]
 have hl:M1.length+t.length+M2.length=(M1 ++ t ++ M2).length:=by simp only [Y0]
 rw [e,hl,X62]
 exact X7d _ _ (X1y n).2.1 (fun c hc=>by unfold M3 at hc; simp at hc; subst hc; decide)
theorem X4l {t:List UInt8} (h:X1g t=true) {n:Nat} (hn:n≤1099511627776):X14 (MSG t n)=some t:=by
 have ht:=(Xv h).1
 unfold X14
 rw [X6k ht,Xbg ht,(X1y n).1,if_pos ⟨h,hn,rfl⟩]
theorem X2j {s t:List UInt8} (h:X14 s=some t):X1g t=true∧∃ n,n≤1099511627776∧s=MSG t n:=by
 unfold X14 at h
 split at h
 ·rename_i hc
  cases h
  exact ⟨hc.1,_,hc.2.1,hc.2.2⟩
 ·cases h
theorem X7w {s:List UInt8} (h:∀ t n,X1g t=true→n≤1099511627776→s≠MSG t n):X14 s=none:=by
 cases hr:X14 s with
 | none=>rfl
 | some t =>
  obtain ⟨h1,n,h2,h3⟩:=X2j hr
  exact absurd h3 (h t n h1 h2)
end Xm
namespace Gk
open Go Go.Lib
section
variable {P:Program} {n:Nat} {K:X1x} {L:Env} {w:World} {ops:Array Oper} {rest:List Oper}
theorem WL.gcallT {d j t:Nat} {b want:Bool} {ty:TypeId} {pos:String} {af:Array Edge} {v0:Value} {f:FuncId} {fn:Func} {xs:List Operand} {ts:Array TypeId} {vs:List Value} {T:World→Prop}
  (hj:(ops[j]?).bind (·.dst)=some t) (ht:Nat.blt t n=true) (hb:look L t=some (.bool b)) (hf:P.funcs[f]?=some fn) (hc:Xk fn=true)
  (hx:b=want→∀ a,Holds n L a→xs.map a.eval=vs) (hd:Nat.blt d n=true)
  (hcall:b=want→Calls P f vs.toArray w (Ret fun v w'=>v=v0∧T w')) (h0:b≠want→T w)
  (h:∀ w',T w'→WL P n ops K rest ((d,gd b want v0)::L) w'):WL P n ops K (⟨some d,.call ⟨.value (.func f),xs.toArray,ts⟩,ty,pos,af,some (j,want)⟩::rest) L w:=by
 by_cases e:b=want
 ·subst e
  refine WL.opn hj ht hb (WL.call hf hc (hx rfl) hd (hcall rfl) ?_)
  rintro v w' ⟨rfl,hT⟩
  have:=h w' hT
  simpa [gd] using this
 ·exact WL.gcall (v0:=v0) (T:=fun w'=>w'=w) hj ht hb hf hc hx hd (fun h=>absurd h e) rfl (fun w' hw=>hw.symm ▸ h w (h0 e))
end
theorem Ex.slNil {P:Program} {n:Nat} {L:Env} {w:World} {ty t':TypeId} {pos:String} {af:Array Edge} {g:Option (Nat×Bool)} {t e:TypeId} {x y:Operand} {d:Option Nat} {a:Option Addr} {m c:Nat} (hx:Ev n L x (.slice a m c)) (hy:Ev n L y (.slice none 0 0)) (hT:P.underlying t=some (.slice e)):Ex P n L w ⟨d,.binOp .eql t x y t',ty,pos,af,g⟩ (.bool a.isNone) w :=
 Xn hx hy (fun _ _=>by unfold eqGuard; split <;> simp) (run_eql_slice_nil w t e a m c hT)
theorem WL.clear {P:Program} {n:Nat} {ops:Array Oper} {K:X1x} {rest:List Oper} {L:Env} {w B:World} {I:Im} {As:List Xf} {k b o m cap s:Nat} {cs:List Value} {E e t ty:TypeId} {x:Operand} {z:Value} {pos:String} {af:Array Edge} (hS:Sat B w I As) (hk:As[k]?=some (blk b cs E)) (hx:Ev n L x (.slice (some (ad b o)) m cap)) (ht:P.underlying t=some (.slice e)) (hz:∀ w,(zeroValue e).run P w=.ok z w) (hs:z.cells.size=s) (h1:∀ v∈z.cells,v.oneCell'=true) (ho:o+m*s≤cs.length)
  (h:∀ w' cs',cs'.length=cs.length→cs'.take o=cs.take o→Sat B w' I (As.set k (blk b cs' E))→WL P n ops K rest L w'):WL P n ops K (⟨none,.call ⟨.builtin .clear,#[x],#[t]⟩,ty,pos,af,none⟩::rest) L w:=by
 subst hs
 have go:∀ w' v,(∀ a,Holds n L a→(execOp a.eval (⟨none,.call ⟨.builtin .clear,#[x],#[t]⟩,ty,pos,af,none⟩:Oper)).run P w=.ok (.value v) w')→WL P n ops K rest L w'→WL P n ops K (⟨none,.call ⟨.builtin .clear,#[x],#[t]⟩,ty,pos,af,none⟩::rest) L w:=by
  intro w' v hx h a ha
  refine wpList_plain rfl fun K' hK=>?_
  unfold Oper.wp
  rw [hx a ha]
  exact hK _ _ (h _ (ha.skip v))
 have hb:=hS.block hk
 have hzl:(Builtin.zeroCells z.cells m).toList.length=m*z.cells.size:=by rw [Y2c,size_zeroCells]
 have hst:=run_storeCells_at P b o E (Builtin.zeroCells z.cells m).toList 0 cs.toArray w hb (by simp only [Y23,hzl,Y3e]; exact ho) (fun v hv=>by
  rw [Array.mem_toList_iff] at hv
  unfold Builtin.zeroCells at hv
  obtain ⟨i,hi,rfl⟩:=Array.mem_map.1 hv
  have hi2:i<m*z.cells.size:=by simpa using hi
  have hp:0<z.cells.size:=Nat.pos_of_ne_zero fun e=>by rw [e] at hi2; omega
  have hlt:=Y2p i hp
  rw [getElem!_pos z.cells (i % z.cells.size) hlt]
  exact h1 _ (Array.getElem_mem hlt))
 simp only [Y23] at hst
 cases m with
 | zero =>
  refine go w (.tuple #[]) (fun a ha=>?_) (h w cs rfl rfl ?_)
  ·simp [execOp,resolve,invoke,builtin,hx a ha,Builtin.clear_,run_underlying ht]
  ·have e:As.set k (blk b cs E)=As:=by
    apply Y2o
    intro i
    rw [List.getElem?_set]
    split
    ·rename_i e; subst e
     split
     ·exact hk.symm
     ·rename_i hlt; rw [Y26 (by omega)]
    ·rfl
   rw [e]; exact hS
 | succ m =>
  refine go (w.setRow b _) (.tuple #[]) (fun a ha=>?_) (h _ _ ?_ ?_ (hS.write (o':=Xi (cs.take o ++ (Builtin.zeroCells z.cells (m+1)).toList ++ cs.drop (o+(Builtin.zeroCells z.cells (m+1)).toList.length)) E) hk rfl rfl rfl (setRow_heap w b _ _ E _ hb) fun c hc=>setRow_other w b c _ hc))
  ·simp [execOp,resolve,invoke,builtin,hx a ha,Builtin.clear_,run_underlying ht,hz,hst]
  ·simp only [Y0,Yw,Ya,hzl]; omega
  ·rw [Ye,List.take_append_of_le_length (by rw [Yw]; omega),List.take_take,Nat.min_self]
theorem Ex.slc3 {P:Program} {n:Nat} {L:Env} {w:World} {ty:TypeId} {pos:String} {af:Array Edge} {g:Option (Nat×Bool)} {t e:TypeId} {x y z u:Operand} {d:Option Nat} {a0:Option Addr} {len cap s:Nat} {lo hi mx:Int} (hx:Ev n L x (.slice a0 len cap)) (hy:Ev n L y (I64 lo)) (hz:Ev n L z (I64 hi)) (hu:Ev n L u (I64 mx)) (h0:0≤lo) (h1:lo≤hi) (h2:hi≤mx) (h3:mx≤cap) (ht:P.underlying t=some (.slice e)) (hs:∀ w,(Go.sizeOf e).run P w=.ok s w) :
  Ex P n L w ⟨d,.slice t x (some y) (some z) (some u),ty,pos,af,g⟩ (sliced a0 lo.toNat hi.toNat mx.toNat s) w:=fun a ha=>by
 have hT:P.underlying t=some (.slice (P.elem t)):=by rw [X17 ht]; exact ht
 have h:=run_slice_lhm (P:=P) w t a0 len cap hT .i64 .i64 .i64 lo hi mx h0 h1 h2 h3
 rw [X17 ht,hs] at h
 simp [execOp,hx a ha,hy a ha,hz a ha,hu a ha,run_sliceAt_slice w t _ _ _ _ hT,h,Result.andThen]
theorem WL.appendSelf {P:Program} {n:Nat} {ops:Array Oper} {K:X1x} {rest:List Oper} {L:Env} {w B:World} {I:Im} {As:List Xf} {d k b o len m cap c size:Nat} {cs:List Value} {E t ty:TypeId} {x y:Operand} {i:TypeInfo} {p:Addr} {pos:String} {af:Array Edge} (hS:Sat B w I As) (hk:As[k]?=some (blk b cs E)) (hx:Ev n L x (.slice (some (ad b 0)) len cap)) (hy:Ev n L y (.slice (some p) m c)) (hp:0<m→p=ad b o) (ht:P.underlying t=some (.slice E)) (hi:P.info? E=some i) (hsize:i.size=size)
  (ho:o+m*size≤cs.length) (h1:∀ v∈(cs.drop o).take (m*size),v.oneCell'=true) (hroom:len+m≤cap) (hfit:len*size+m*size≤cs.length) (hd:Nat.blt d n=true)
  (h:∀ w',Sat B w' I (As.set k (blk b (cs.take (len*size) ++ (cs.drop o).take (m*size) ++ cs.drop (len*size+m*size)) E))→WL P n ops K rest ((d,.slice (some (ad b 0)) (len+m) cap)::L) w') :
  WL P n ops K (⟨some d,.call ⟨.builtin .append,#[x,y],#[t,t]⟩,ty,pos,af,none⟩::rest) L w:=by
 subst hsize
 have hb:=hS.block hk
 have hl:((cs.drop o).take (m*i.size)).length=m*i.size:=by rw [Yw,Ya]; omega
 have hr:=run_append_room (P:=P) w t ty E i ht hi b len cap cs.toArray hb p m c ((cs.drop o).take (m*i.size)) hl (fun j u hu=>by
  have hj:j<m*i.size:=by have:=(Y1.1 hu).1; omega
  have hm:0<m:=Nat.pos_of_ne_zero fun e=>by rw [e] at hj; omega
  rw [hp hm,X1d]
  refine X19 hb ?_
  rw [Y2i,if_pos hj,Yq] at hu
  exact hu) h1 hroom (by rw [hl]; simpa using hfit)
 rw [hl] at hr
 simp only [] at hr
 refine WL.val (w':=w.setRow b _) (fun a ha=>?_) hd (h _ (hS.write (o':=Xi (cs.take (len*i.size) ++ (cs.drop o).take (m*i.size) ++ cs.drop (len*i.size+m*i.size)) E) hk rfl rfl rfl (setRow_heap w b _ _ E _ hb) fun c hc=>setRow_other w b c _ hc))
 simp [execOp,resolve,invoke,builtin,hx a ha,hy a ha,hr]
end Gk
