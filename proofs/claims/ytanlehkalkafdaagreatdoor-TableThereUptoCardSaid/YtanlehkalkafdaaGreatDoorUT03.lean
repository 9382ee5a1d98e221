/- Contracts and plain laws,part 3. -/
import Derived.Test.YtanlehkalkafdaaGreatDoorUT00
import Derived.Shelf.Strings.Builder1
import Derived.Shelf.Strings.Builder2
import Derived.Shelf.Strings.OnBuilder
import Derived.Shelf.Strings.Trim
import Derived.Shelf.Small.Utf8
import Derived.Shelf.Small.Bits
import Derived.Shelf.Small.Strs
import Derived.Shelf.Small.Wraps
import Derived.Shelf.Strings.BuilderF
import Derived.Shelf.Strings.BuilderK
import Derived.Shelf.Strconv.Atoi
import Derived.Shelf.Strconv.Itoa0
import Derived.Shelf.Strconv.Itoa1
import Derived.Shelf.LaysM
import Derived.Shelf.Strconv.Itoa2
import Derived.Shelf.Strconv.Itoa3
import Derived.Shelf.Strconv.Itoa4
import Derived.Shelf.Strconv.AtoiErrFast
import Derived.Shelf.Strconv.ParseIntEmpty
import Derived.Shelf.Strconv.AtoiFail
import Derived.Shelf.Strconv.Clone
import Derived.Shelf.Strconv.SyntaxError
import Derived.Shelf.LaysC
import Derived.Shelf.Strconv.ToError
import Derived.Shelf.Strconv.Lower
import Derived.Shelf.Strconv.ParseUint10
import Derived.Shelf.Strconv.ParseUint10Empty
import Derived.Shelf.Strconv.ParseUint10Any
import Derived.Shelf.Strconv.ParseInt10
import Derived.Shelf.Strconv.AtoiLong
import Derived.Shelf.Strconv.AtoiInnerAll
import Derived.Shelf.Strconv.RangeError
import Derived.Shelf.Strconv.ToErrorRange
import Derived.Shelf.Strconv.AtoiAll
import Derived.Shelf.Strconv.ErrVarAll
import Derived.Shelf.Strconv.ParseUintEmpty
import Derived.Shelf.Strconv.ParseUint10b64
import Derived.Shelf.Strconv.ParseUint10b32
import Derived.Shelf.Strconv.ParseUint10b16
import Derived.Shelf.Strconv.ParseUint10b8
import Derived.Shelf.Strconv.ParseUint10At
import Derived.Shelf.Strconv.ParseInt10At64
import Derived.Shelf.Strconv.ParseInt10At32
import Derived.Shelf.Strconv.ParseInt10At16
import Derived.Shelf.Strconv.ParseInt10At8
import Derived.Shelf.Strconv.ParseInt10All
import Derived.Shelf.Strconv.ParseIntPublic10
import Derived.Shelf.Strconv.ErrVarParseInt
import Derived.Shelf.Strings.Search1
import Derived.Shelf.Strings.Search2
import Derived.Shelf.Strings.Search3
import Derived.Shelf.Strings.Cut
import Derived.Shelf.Strings.Count
import Derived.Shelf.Strings.Shaped
import Derived.Shelf.Sort.Plain
import Derived.Shelf.Strings.Prefix
import Derived.Shelf.Strings.Split
import Derived.Shelf.Strings.Replace
import Derived.Shelf.Strings.SplitShaped
import Derived.Shelf.Unicode.Decode
import Derived.Shelf.Strings.Runes
import Derived.Shelf.Strings.RuneCount
import Derived.Shelf.Strings.IndexAny
import Derived.Shelf.Strings.AsciiSet
import Derived.Shelf.Strings.IndexAnyAll
import Derived.Shelf.Strings.Explode
import Derived.Shelf.Unicode.DecodeSlow
import Derived.Shelf.Slices.Turned
import Derived.Shelf.Slices.Equal
import Derived.Ground.Names2Prog
import Derived.Shelf.Slices.Clone
import Derived.Shelf.Slices.SearchI
import Derived.Shelf.Slices.In.SortNone
import Derived.Shelf.Slices.Empties2
import Derived.Ground.SlgnProg
import Derived.Shelf.SlicesE.Clone
import Derived.Test.YtanlehkalkafdaaGreatDoorProg
set_option linter.all false
namespace Go.Proofs
open Go.Shelf
def Tryz.lays156_ren:Go.Shelf.Ren:=⟨fun | 156=>23 | 165=>53 | 166=>54 | 169=>55 | 240=>100 | 241=>101 | 276=>139 | 277=>140 | n=>n,fun | 31=>45 | 9=>9 | 3=>3 | 4=>4 | 0=>0 | 20=>20 | 72=>106 | 76=>110 | 70=>103 | 37=>104 | 75=>109 | 127=>154 | 164=>193 | 5=>5 | 80=>112 | n=>n,fun | n=>n⟩
theorem Tryz.lays156:Go.Proofs.Lays.n156 Tryz.prog Tryz.lays156_ren:={
 mixed:=by kernel_rfl
 f156:=Tryz.func23.trans (lq some (by kernel_rfl))
 f165:=Tryz.func53.trans (lq some (by kernel_rfl))
 f166:=Tryz.func54.trans (lq some (by kernel_rfl))
 f169:=Tryz.func55.trans (lq some (by kernel_rfl))
 f240:=Tryz.func100.trans (lq some (by kernel_rfl))
 f241:=Tryz.func101.trans (lq some (by kernel_rfl))
 f276:=Tryz.func139.trans (lq some (by kernel_rfl))
 f277:=Tryz.func140.trans (lq some (by kernel_rfl))
 t0:=Tryz.underlying0
 a0:=Tryz.isAgg0
 z0:=Tryz.sizeOf0
 v0:=Tryz.zeroValue0
 t3:=Tryz.underlying3
 a3:=Tryz.isAgg3
 z3:=Tryz.sizeOf3
 v3:=Tryz.zeroValue3
 t4:=Tryz.underlying4
 a4:=Tryz.isAgg4
 z4:=Tryz.sizeOf4
 v4:=Tryz.zeroValue4
 t9:=Tryz.underlying9
 a9:=Tryz.isAgg9
 z9:=Tryz.sizeOf9
 v9:=Tryz.zeroValue9
 t20:=Tryz.underlying20
 a20:=Tryz.isAgg20
 z20:=Tryz.sizeOf20
 v20:=Tryz.zeroValue20
 t31:=Tryz.underlying45
 a31:=Tryz.isAgg45
 z31:=Tryz.sizeOf45
 v31:=Tryz.zeroValue45
 t37:=Tryz.underlying104
 a37:=Tryz.isAgg104
 z37:=Tryz.sizeOf104
 v37:=Tryz.zeroValue104
 t70:=Tryz.underlying103
 a70:=Tryz.isAgg103
 z70:=Tryz.sizeOf103
 v70:=Tryz.zeroValue103
 t72:=Tryz.underlying106
 a72:=Tryz.isAgg106
 z72:=Tryz.sizeOf106
 v72:=Tryz.zeroValue106
 t75:=Tryz.underlying109
 a75:=Tryz.isAgg109
 z75:=Tryz.sizeOf109
 v75:=Tryz.zeroValue109
 t76:=Tryz.underlying110
 a76:=Tryz.isAgg110
 z76:=Tryz.sizeOf110
 v76:=Tryz.zeroValue110
 t127:=Tryz.underlying154
 a127:=Tryz.isAgg154
 z127:=Tryz.sizeOf154
 v127:=Tryz.zeroValue154
 t164:=Tryz.underlying193
 a164:=Tryz.isAgg193
 z164:=Tryz.sizeOf193
 v164:=Tryz.zeroValue193}
theorem Tryz.Builder_Extra_156:Builder.Extra Tryz.prog Tryz.lays156_ren:={
 sizeBuilder:=by kernel_rfl
 liesBuilder:=by kernel_rfl
 t5:=Tryz.underlying5
 a5:=Tryz.isAgg5
 z5:=Tryz.sizeOf5
 v5:=Tryz.zeroValue5
 infoByte:=by kernel_rfl
 cellsByte:=by kernel_rfl
 sizeByte:=by kernel_rfl
 neB5:=by decide}
open Go.RowKit in
theorem Tryz.strings_Join_none (a:Option Addr) (c:Nat) (sep:ByteArray) (w:World):
  Calls Tryz.prog 23 #[.slice a 0 c, .string sep] w fun e w'=>e= .returned (.string ⟨#[]⟩)/\w'=w:=Any.strings_Join_none Tryz.lays156 Tryz.Builder_Extra_156 a c sep w
open Go.RowKit in
theorem Tryz.strings_Join (bk o c:Nat) (xs:List ByteArray) (sep:ByteArray) (w:World) (hcells: ∀(j:Nat) x,xs[j]?=some x->w.cell? ⟨bk,o+j,none⟩=some (.string x)) (hbk:bk<w.heap.size) (hN:xs.length<=140737488355328) (hcap:xs.length<=c) (hlen:(Lib.join (xs.map (·.data.toList)) sep.data.toList).length<=140737488355328):
  Calls Tryz.prog 23 #[.slice (some ⟨bk,o,none⟩) xs.length c, .string sep] w fun e w'=>e= .returned (.string ⟨(Lib.join (xs.map (·.data.toList)) sep.data.toList).toArray⟩)/\Below w.heap.size w w':=Any.strings_Join Tryz.lays156 Tryz.Builder_Extra_156 bk o c xs sep w hcells hbk hN hcap hlen
def Tryz.lays162_ren:Go.Shelf.Ren:=⟨fun | 162=>199 | 232=>235 | 227=>149 | 234=>236 | 236=>237 | 228=>150 | 271=>257 | 151=>258 | 120=>265 | 197=>135 | 152=>147 | 260=>186 | 137=>201 | 119=>202 | 224=>189 | 225=>188 | 217=>187 | 266=>228 | n=>n,fun | 9=>9 | 4=>4 | 3=>3 | 5=>5 | 117=>202 | 116=>201 | 0=>0 | 124=>249 | 21=>21 | 105=>190 | 46=>155 | 119=>274 | 139=>277 | 138=>276 | n=>n,fun | 3=>1 | 4=>2 | n=>n⟩
theorem Tryz.lays162:Go.Proofs.Lays.n162 Tryz.prog Tryz.lays162_ren:={
 mixed:=by kernel_rfl
 f119:=Tryz.func202.trans (lq some (by kernel_rfl))
 f120:=Tryz.func265.trans (lq some (by kernel_rfl))
 f137:=Tryz.func201.trans (lq some (by kernel_rfl))
 f151:=Tryz.func258.trans (lq some (by kernel_rfl))
 f152:=Tryz.func147.trans (lq some (by kernel_rfl))
 f162:=Tryz.func199.trans (lq some (by kernel_rfl))
 f197:=Tryz.func135.trans (lq some (by kernel_rfl))
 f217:=Tryz.func187.trans (lq some (by kernel_rfl))
 f224:=Tryz.func189.trans (lq some (by kernel_rfl))
 f225:=Tryz.func188.trans (lq some (by kernel_rfl))
 f227:=Tryz.func149.trans (lq some (by kernel_rfl))
 f228:=Tryz.func150.trans (lq some (by kernel_rfl))
 f232:=Tryz.func235.trans (lq some (by kernel_rfl))
 f234:=Tryz.func236.trans (lq some (by kernel_rfl))
 f236:=Tryz.func237.trans (lq some (by kernel_rfl))
 f260:=Tryz.func186.trans (lq some (by kernel_rfl))
 f266:=Tryz.func228.trans (lq some (by kernel_rfl))
 f271:=Tryz.func257.trans (lq some (by kernel_rfl))
 t0:=Tryz.underlying0
 a0:=Tryz.isAgg0
 z0:=Tryz.sizeOf0
 v0:=Tryz.zeroValue0
 t3:=Tryz.underlying3
 a3:=Tryz.isAgg3
 z3:=Tryz.sizeOf3
 v3:=Tryz.zeroValue3
 t4:=Tryz.underlying4
 a4:=Tryz.isAgg4
 z4:=Tryz.sizeOf4
 v4:=Tryz.zeroValue4
 t5:=Tryz.underlying5
 a5:=Tryz.isAgg5
 z5:=Tryz.sizeOf5
 v5:=Tryz.zeroValue5
 t9:=Tryz.underlying9
 a9:=Tryz.isAgg9
 z9:=Tryz.sizeOf9
 v9:=Tryz.zeroValue9
 t21:=Tryz.underlying21
 a21:=Tryz.isAgg21
 z21:=Tryz.sizeOf21
 v21:=Tryz.zeroValue21
 t46:=Tryz.underlying155
 a46:=Tryz.isAgg155
 z46:=Tryz.sizeOf155
 v46:=Tryz.zeroValue155
 t105:=Tryz.underlying190
 a105:=Tryz.isAgg190
 z105:=Tryz.sizeOf190
 v105:=Tryz.zeroValue190
 t116:=Tryz.underlying201
 a116:=Tryz.isAgg201
 z116:=Tryz.sizeOf201
 t117:=Tryz.underlying202
 a117:=Tryz.isAgg202
 z117:=Tryz.sizeOf202
 v117:=Tryz.zeroValue202
 t119:=Tryz.underlying274
 a119:=Tryz.isAgg274
 z119:=Tryz.sizeOf274
 t124:=Tryz.underlying249
 a124:=Tryz.isAgg249
 z124:=Tryz.sizeOf249
 v124:=Tryz.zeroValue249
 t138:=Tryz.underlying276
 a138:=Tryz.isAgg276
 z138:=Tryz.sizeOf276
 v138:=Tryz.zeroValue276
 t139:=Tryz.underlying277
 a139:=Tryz.isAgg277
 z139:=Tryz.sizeOf277
 v139:=Tryz.zeroValue277
 g3:=by kernel_rfl
 g4:=by kernel_rfl}
open Go.RowKit in
theorem Tryz.strings_TrimRight_one (s:ByteArray) (c:UInt8) (hc:c.toNat<128) (w:World) (hs:s.size<=9223372036854775807):
  Calls Tryz.prog 199 #[.string s, .string ⟨#[c]⟩] w fun e w'=>e= .returned (.string ⟨(Lib.trimRightB s.data.toList c).toArray⟩)/\w'=w:=Any.strings_TrimRight_one Tryz.lays162 s c hc w hs
def Tryz.lays119_ren:Go.Shelf.Ren:=⟨fun | 119=>202 | n=>n,fun | 21=>21 | 4=>4 | n=>n,fun | n=>n⟩
theorem Tryz.lays119:Go.Proofs.Lays.n119 Tryz.prog Tryz.lays119_ren:={
 mixed:=by kernel_rfl
 f119:=Tryz.func202.trans (lq some (by kernel_rfl))
 t4:=Tryz.underlying4
 a4:=Tryz.isAgg4
 z4:=Tryz.sizeOf4
 v4:=Tryz.zeroValue4
 t21:=Tryz.underlying21
 a21:=Tryz.isAgg21
 z21:=Tryz.sizeOf21
 v21:=Tryz.zeroValue21}
theorem Tryz.utf8_ValidRune (r:Int) (w:World):
  Calls Tryz.prog 202 #[.int .i32 r] w fun e w'=>e= .returned (.bool (Lib.validRune r))/\w'=w:=Any.utf8_ValidRune Tryz.lays119 r w
def Tryz.lays134_ren:Go.Shelf.Ren:=⟨fun | 134=>197 | 129=>171 | n=>n,fun | 53=>161 | 3=>3 | 4=>4 | 46=>155 | 5=>5 | 9=>9 | n=>n,fun | n=>n⟩
theorem Tryz.lays134:Go.Proofs.Lays.n134 Tryz.prog Tryz.lays134_ren:={
 mixed:=by kernel_rfl
 f129:=Tryz.func171.trans (lq some (by kernel_rfl))
 f134:=Tryz.func197.trans (lq some (by kernel_rfl))
 t3:=Tryz.underlying3
 a3:=Tryz.isAgg3
 z3:=Tryz.sizeOf3
 v3:=Tryz.zeroValue3
 t4:=Tryz.underlying4
 a4:=Tryz.isAgg4
 z4:=Tryz.sizeOf4
 v4:=Tryz.zeroValue4
 t5:=Tryz.underlying5
 a5:=Tryz.isAgg5
 z5:=Tryz.sizeOf5
 v5:=Tryz.zeroValue5
 t9:=Tryz.underlying9
 a9:=Tryz.isAgg9
 z9:=Tryz.sizeOf9
 v9:=Tryz.zeroValue9
 t46:=Tryz.underlying155
 a46:=Tryz.isAgg155
 z46:=Tryz.sizeOf155
 v46:=Tryz.zeroValue155
 t53:=Tryz.underlying161
 a53:=Tryz.isAgg161
 z53:=Tryz.sizeOf161
 v53:=Tryz.zeroValue161}
theorem Tryz.bits_LeadingZeros64 (x:Int) (w:World) (h0:0<=x) (h1:x<=18446744073709551615):
  Calls Tryz.prog 197 #[.int .u64 x] w fun e w'=>e= .returned (.int .i64 (64 -(Lib.bitLen x.toNat:Int)))/\w'=w:=Any.bits_LeadingZeros64 Tryz.lays134 x w h0 h1
def Tryz.lays106_ren:Go.Shelf.Ren:=⟨fun | 106=>124 | 213=>173 | 265=>219 | n=>n,fun | 9=>9 | 3=>3 | n=>n,fun | n=>n⟩
theorem Tryz.lays106:Go.Proofs.Lays.n106 Tryz.prog Tryz.lays106_ren:={
 mixed:=by kernel_rfl
 f106:=Tryz.func124.trans (lq some (by kernel_rfl))
 f213:=Tryz.func173.trans (lq some (by kernel_rfl))
 f265:=Tryz.func219.trans (lq some (by kernel_rfl))
 t3:=Tryz.underlying3
 a3:=Tryz.isAgg3
 z3:=Tryz.sizeOf3
 v3:=Tryz.zeroValue3
 t9:=Tryz.underlying9
 a9:=Tryz.isAgg9
 z9:=Tryz.sizeOf9
 v9:=Tryz.zeroValue9}
open Go.RowKit in
theorem Tryz.strings_Compare (a b:ByteArray) (w:World):
  Calls Tryz.prog 124 #[.string a, .string b] w fun e w'=>e= .returned (.int .i64 (Lib.compareBytes a.data.toList b.data.toList))/\w'=w:=Any.strings_Compare Tryz.lays106 a b w
def Tryz.lays137_ren:Go.Shelf.Ren:=⟨fun | 137=>201 | 217=>187 | 266=>228 | n=>n,fun | 9=>9 | 5=>5 | 3=>3 | n=>n,fun | n=>n⟩
theorem Tryz.lays137:Go.Proofs.Lays.n137 Tryz.prog Tryz.lays137_ren:={
 mixed:=by kernel_rfl
 f137:=Tryz.func201.trans (lq some (by kernel_rfl))
 f217:=Tryz.func187.trans (lq some (by kernel_rfl))
 f266:=Tryz.func228.trans (lq some (by kernel_rfl))
 t3:=Tryz.underlying3
 a3:=Tryz.isAgg3
 z3:=Tryz.sizeOf3
 v3:=Tryz.zeroValue3
 t5:=Tryz.underlying5
 a5:=Tryz.isAgg5
 z5:=Tryz.sizeOf5
 v5:=Tryz.zeroValue5
 t9:=Tryz.underlying9
 a9:=Tryz.isAgg9
 z9:=Tryz.sizeOf9
 v9:=Tryz.zeroValue9}
open Go.RowKit in
theorem Tryz.strings_IndexByte (s:ByteArray) (c:Int) (w:World):
  Calls Tryz.prog 201 #[.string s, .int .u8 c] w fun e w'=>e= .returned (.int .i64 (Lib.indexByte s.data.toList c.toNat.toUInt8))/\w'=w:=Any.strings_IndexByte Tryz.lays137 s c w
def Tryz.lays103_ren:Go.Shelf.Ren:=⟨fun | 103=>208 | 210=>245 | 206=>204 | n=>n,fun | 9=>9 | 4=>4 | 24=>251 | 3=>3 | n=>n,fun | n=>n⟩
theorem Tryz.lays103:Go.Proofs.Lays.n103 Tryz.prog Tryz.lays103_ren:={
 mixed:=by kernel_rfl
 f103:=Tryz.func208.trans (lq some (by kernel_rfl))
 f206:=Tryz.func204.trans (lq some (by kernel_rfl))
 f210:=Tryz.func245.trans (lq some (by kernel_rfl))
 t3:=Tryz.underlying3
 a3:=Tryz.isAgg3
 z3:=Tryz.sizeOf3
 v3:=Tryz.zeroValue3
 t4:=Tryz.underlying4
 a4:=Tryz.isAgg4
 z4:=Tryz.sizeOf4
 v4:=Tryz.zeroValue4
 t9:=Tryz.underlying9
 a9:=Tryz.isAgg9
 z9:=Tryz.sizeOf9
 v9:=Tryz.zeroValue9
 t24:=Tryz.underlying251
 a24:=Tryz.isAgg251
 z24:=Tryz.sizeOf251
 v24:=Tryz.zeroValue251}
open Go.RowKit in
theorem Tryz.strings_CutPrefix (s p:ByteArray) (w:World):
  Calls Tryz.prog 208 #[.string s, .string p] w fun e w'=>e= .returned (.tuple #[.string ⟨(Lib.trimPrefix s.data.toList p.data.toList).toArray⟩, .bool (Lib.hasPrefix s.data.toList p.data.toList)])/\w'=w:=Any.strings_CutPrefix Tryz.lays103 s p w
def Tryz.lays122_ren:Go.Shelf.Ren:=⟨fun | 122=>78 | 215=>126 | n=>n,fun | 3=>3 | 4=>4 | n=>n,fun | n=>n⟩
theorem Tryz.lays122:Go.Proofs.Lays.n122 Tryz.prog Tryz.lays122_ren:={
 mixed:=by kernel_rfl
 f122:=Tryz.func78.trans (lq some (by kernel_rfl))
 f215:=Tryz.func126.trans (lq some (by kernel_rfl))
 t3:=Tryz.underlying3
 a3:=Tryz.isAgg3
 z3:=Tryz.sizeOf3
 v3:=Tryz.zeroValue3
 t4:=Tryz.underlying4
 a4:=Tryz.isAgg4
 z4:=Tryz.sizeOf4
 v4:=Tryz.zeroValue4}
open Go.RowKit in
theorem Tryz.cmp_Compare_int (x y:Int) (w:World):
  Calls Tryz.prog 78 #[.int .i64 x, .int .i64 y] w fun e w'=>e= .returned (.int .i64 (Lib.compareInt x y))/\w'=w:=Any.cmp_Compare_int Tryz.lays122 x y w
def Tryz.laysM171_ren:Go.Shelf.Ren:=⟨fun | 171=>200 | 243=>238 | 246=>138 | 283=>191 | 284=>192 | 285=>193 | 286=>194 | 129=>171 | 317=>230 | 318=>231 | 319=>232 | 320=>233 | 337=>256 | 338=>249 | n=>n,fun | 3=>3 | 9=>9 | 2=>2 | 4=>4 | 171=>241 | 0=>0 | 53=>161 | 37=>104 | 5=>5 | 173=>243 | 212=>281 | 51=>224 | 20=>20 | 213=>282 | 46=>155 | 232=>303 | 233=>302 | n=>n,fun | 17=>3 | 18=>7 | 19=>6 | n=>n⟩
theorem Tryz.laysM171:Go.Proofs.LaysM.n171 Tryz.prog Tryz.laysM171_ren:={
 mixed:=by kernel_rfl
 f129:=Tryz.func171.trans (lq some (by kernel_rfl))
 f171:=Tryz.func200.trans (lq some (by kernel_rfl))
 f243:=Tryz.func238.trans (lq some (by kernel_rfl))
 f246:=Tryz.func138.trans (lq some (by kernel_rfl))
 f283:=Tryz.func191.trans (lq some (by kernel_rfl))
 f284:=Tryz.func192.trans (lq some (by kernel_rfl))
 f285:=Tryz.func193.trans (lq some (by kernel_rfl))
 f286:=Tryz.func194.trans (lq some (by kernel_rfl))
 f317:=Tryz.func230.trans (lq some (by kernel_rfl))
 f318:=Tryz.func231.trans (lq some (by kernel_rfl))
 f319:=Tryz.func232.trans (lq some (by kernel_rfl))
 f320:=Tryz.func233.trans (lq some (by kernel_rfl))
 f337:=Tryz.func256.trans (lq some (by kernel_rfl))
 f338:=Tryz.func249.trans (lq some (by kernel_rfl))
 t0:=Tryz.underlying0
 a0:=Tryz.isAgg0
 z0:=Tryz.sizeOf0
 v0:=Tryz.zeroValue0
 t2:=Tryz.underlying2
 a2:=Tryz.isAgg2
 z2:=Tryz.sizeOf2
 v2:=Tryz.zeroValue2
 t3:=Tryz.underlying3
 a3:=Tryz.isAgg3
 z3:=Tryz.sizeOf3
 v3:=Tryz.zeroValue3
 t4:=Tryz.underlying4
 a4:=Tryz.isAgg4
 z4:=Tryz.sizeOf4
 v4:=Tryz.zeroValue4
 t5:=Tryz.underlying5
 a5:=Tryz.isAgg5
 z5:=Tryz.sizeOf5
 v5:=Tryz.zeroValue5
 t9:=Tryz.underlying9
 a9:=Tryz.isAgg9
 z9:=Tryz.sizeOf9
 v9:=Tryz.zeroValue9
 t20:=Tryz.underlying20
 a20:=Tryz.isAgg20
 z20:=Tryz.sizeOf20
 v20:=Tryz.zeroValue20
 t37:=Tryz.underlying104
 a37:=Tryz.isAgg104
 z37:=Tryz.sizeOf104
 v37:=Tryz.zeroValue104
 t46:=Tryz.underlying155
 a46:=Tryz.isAgg155
 z46:=Tryz.sizeOf155
 v46:=Tryz.zeroValue155
 t51:=Tryz.underlying224
 a51:=Tryz.isAgg224
 z51:=Tryz.sizeOf224
 v51:=Tryz.zeroValue224
 t53:=Tryz.underlying161
 a53:=Tryz.isAgg161
 z53:=Tryz.sizeOf161
 v53:=Tryz.zeroValue161
 t171:=Tryz.underlying241
 a171:=Tryz.isAgg241
 z171:=Tryz.sizeOf241
 v171:=Tryz.zeroValue241
 t173:=Tryz.underlying243
 a173:=Tryz.isAgg243
 z173:=Tryz.sizeOf243
 v173:=Tryz.zeroValue243
 t212:=Tryz.underlying281
 a212:=Tryz.isAgg281
 z212:=Tryz.sizeOf281
 v212:=Tryz.zeroValue281
 t213:=Tryz.underlying282
 a213:=Tryz.isAgg282
 z213:=Tryz.sizeOf282
 t232:=Tryz.underlying303
 a232:=Tryz.isAgg303
 z232:=Tryz.sizeOf303
 v232:=Tryz.zeroValue303
 t233:=Tryz.underlying302
 a233:=Tryz.isAgg302
 z233:=Tryz.sizeOf302
 v233:=Tryz.zeroValue302
 g17:=by kernel_rfl
 g18:=by kernel_rfl
 g19:=by kernel_rfl
 i0:=by kernel_rfl
 i2:=by kernel_rfl
 i3:=by kernel_rfl
 i4:=by kernel_rfl
 i5:=by kernel_rfl
 i9:=by kernel_rfl
 i20:=by kernel_rfl
 i37:=by kernel_rfl
 i46:=by kernel_rfl
 i51:=by kernel_rfl
 i53:=by kernel_rfl
 i171:=by kernel_rfl
 i173:=by kernel_rfl
 i212:=by kernel_rfl
 i232:=by kernel_rfl
 i233:=by kernel_rfl
 m17:=by kernel_rfl
 m18:=by kernel_rfl
 m19:=by kernel_rfl}
open Go.RowKit Go.Sort Go.Lib in
theorem Tryz.strconv_Itoa (n:Int) (h0: -9223372036854775808<=n) (h1:n<=9223372036854775807) (w:World) (htab:Lib.TabIs Tryz.prog w "internal/strconv.uint64pow10" .u64 Lib.pow10Tab):
  Calls Tryz.prog 200 #[.int .i64 n] w fun e w'=>e= .returned (.string ⟨(Lib.itoa n).toArray⟩)/\ ∃k os,w'=grow (w.drewN k) os:=Any.strconv_Itoa Tryz.laysM171 n h0 h1 w htab
def Tryz.laysM173_ren:Go.Shelf.Ren:=⟨fun | 173=>99 | 246=>138 | 283=>191 | 284=>192 | 285=>193 | 286=>194 | 129=>171 | 317=>230 | 318=>231 | 319=>232 | 320=>233 | 337=>256 | 338=>249 | n=>n,fun | 2=>2 | 3=>3 | 9=>9 | 4=>4 | 171=>241 | 0=>0 | 53=>161 | 37=>104 | 5=>5 | 173=>243 | 212=>281 | 51=>224 | 20=>20 | 213=>282 | 46=>155 | 232=>303 | 233=>302 | n=>n,fun | 17=>3 | 18=>7 | 19=>6 | n=>n⟩
theorem Tryz.laysM173:Go.Proofs.LaysM.n173 Tryz.prog Tryz.laysM173_ren:={
 mixed:=by kernel_rfl
 f129:=Tryz.func171.trans (lq some (by kernel_rfl))
 f173:=Tryz.func99.trans (lq some (by kernel_rfl))
 f246:=Tryz.func138.trans (lq some (by kernel_rfl))
 f283:=Tryz.func191.trans (lq some (by kernel_rfl))
 f284:=Tryz.func192.trans (lq some (by kernel_rfl))
 f285:=Tryz.func193.trans (lq some (by kernel_rfl))
 f286:=Tryz.func194.trans (lq some (by kernel_rfl))
 f317:=Tryz.func230.trans (lq some (by kernel_rfl))
 f318:=Tryz.func231.trans (lq some (by kernel_rfl))
 f319:=Tryz.func232.trans (lq some (by kernel_rfl))
 f320:=Tryz.func233.trans (lq some (by kernel_rfl))
 f337:=Tryz.func256.trans (lq some (by kernel_rfl))
 f338:=Tryz.func249.trans (lq some (by kernel_rfl))
 t0:=Tryz.underlying0
 a0:=Tryz.isAgg0
 z0:=Tryz.sizeOf0
 v0:=Tryz.zeroValue0
 t2:=Tryz.underlying2
 a2:=Tryz.isAgg2
 z2:=Tryz.sizeOf2
 v2:=Tryz.zeroValue2
 t3:=Tryz.underlying3
 a3:=Tryz.isAgg3
 z3:=Tryz.sizeOf3
 v3:=Tryz.zeroValue3
 t4:=Tryz.underlying4
 a4:=Tryz.isAgg4
 z4:=Tryz.sizeOf4
 v4:=Tryz.zeroValue4
 t5:=Tryz.underlying5
 a5:=Tryz.isAgg5
 z5:=Tryz.sizeOf5
 v5:=Tryz.zeroValue5
 t9:=Tryz.underlying9
 a9:=Tryz.isAgg9
 z9:=Tryz.sizeOf9
 v9:=Tryz.zeroValue9
 t20:=Tryz.underlying20
 a20:=Tryz.isAgg20
 z20:=Tryz.sizeOf20
 v20:=Tryz.zeroValue20
 t37:=Tryz.underlying104
 a37:=Tryz.isAgg104
 z37:=Tryz.sizeOf104
 v37:=Tryz.zeroValue104
 t46:=Tryz.underlying155
 a46:=Tryz.isAgg155
 z46:=Tryz.sizeOf155
 v46:=Tryz.zeroValue155
 t51:=Tryz.underlying224
 a51:=Tryz.isAgg224
 z51:=Tryz.sizeOf224
 v51:=Tryz.zeroValue224
 t53:=Tryz.underlying161
 a53:=Tryz.isAgg161
 z53:=Tryz.sizeOf161
 v53:=Tryz.zeroValue161
 t171:=Tryz.underlying241
 a171:=Tryz.isAgg241
 z171:=Tryz.sizeOf241
 v171:=Tryz.zeroValue241
 t173:=Tryz.underlying243
 a173:=Tryz.isAgg243
 z173:=Tryz.sizeOf243
 v173:=Tryz.zeroValue243
 t212:=Tryz.underlying281
 a212:=Tryz.isAgg281
 z212:=Tryz.sizeOf281
 v212:=Tryz.zeroValue281
 t213:=Tryz.underlying282
 a213:=Tryz.isAgg282
 z213:=Tryz.sizeOf282
 t232:=Tryz.underlying303
 a232:=Tryz.isAgg303
 z232:=Tryz.sizeOf303
 v232:=Tryz.zeroValue303
 t233:=Tryz.underlying302
 a233:=Tryz.isAgg302
 z233:=Tryz.sizeOf302
 v233:=Tryz.zeroValue302
 g17:=by kernel_rfl
 g18:=by kernel_rfl
 g19:=by kernel_rfl
 i0:=by kernel_rfl
 i2:=by kernel_rfl
 i3:=by kernel_rfl
 i4:=by kernel_rfl
 i5:=by kernel_rfl
 i9:=by kernel_rfl
 i20:=by kernel_rfl
 i37:=by kernel_rfl
 i46:=by kernel_rfl
 i51:=by kernel_rfl
 i53:=by kernel_rfl
 i171:=by kernel_rfl
 i173:=by kernel_rfl
 i212:=by kernel_rfl
 i232:=by kernel_rfl
 i233:=by kernel_rfl
 m17:=by kernel_rfl
 m18:=by kernel_rfl
 m19:=by kernel_rfl}
open Go.RowKit Go.Sort Go.Lib in
theorem Tryz.strconv_FormatInt_10 (n:Int) (h0: -9223372036854775808<=n) (h1:n<=9223372036854775807) (w:World) (htab:Lib.TabIs Tryz.prog w "internal/strconv.uint64pow10" .u64 Lib.pow10Tab):
  Calls Tryz.prog 99 #[.int .i64 n, .int .i64 10] w fun e w'=>e= .returned (.string ⟨(Lib.itoa n).toArray⟩)/\ ∃k os,w'=grow (w.drewN k) os:=Any.strconv_FormatInt_10 Tryz.laysM173 n h0 h1 w htab
def Tryz.laysC172_ren:Go.Shelf.Ren:=⟨fun | 172=>263 | 244=>266 | 245=>207 | 247=>206 | 279=>241 | 280=>242 | 281=>243 | 282=>244 | 287=>240 | 316=>261 | 171=>200 | 205=>262 | 321=>259 | 322=>260 | 243=>238 | 246=>138 | 283=>191 | 284=>192 | 285=>193 | 286=>194 | 129=>171 | 317=>230 | 318=>231 | 319=>232 | 320=>233 | 337=>256 | 338=>249 | n=>n,fun | 9=>9 | 3=>3 | 75=>109 | 76=>110 | 4=>4 | 5=>5 | 167=>285 | 37=>104 | 0=>0 | 85=>208 | 2=>2 | 168=>288 | 53=>161 | 175=>286 | 46=>155 | 210=>300 | 127=>154 | 145=>306 | 143=>304 | 21=>21 | 171=>241 | 173=>243 | 212=>281 | 51=>224 | 20=>20 | 213=>282 | 232=>303 | 233=>302 | 80=>112 | n=>n,fun | 15=>4 | 16=>5 | 17=>3 | 18=>7 | 19=>6 | n=>n⟩
theorem Tryz.laysC172:Go.Proofs.LaysC.n172 Tryz.prog Tryz.laysC172_ren:={
 mixed:=by kernel_rfl
 f129:=Tryz.func171.trans (lq some (by kernel_rfl))
 f171:=Tryz.func200.trans (lq some (by kernel_rfl))
 f172:=Tryz.func263.trans (lq some (by kernel_rfl))
 f205:=Tryz.func262.trans (lq some (by kernel_rfl))
 f243:=Tryz.func238.trans (lq some (by kernel_rfl))
 f244:=Tryz.func266.trans (lq some (by kernel_rfl))
 f245:=Tryz.func207.trans (lq some (by kernel_rfl))
 f246:=Tryz.func138.trans (lq some (by kernel_rfl))
 f247:=Tryz.func206.trans (lq some (by kernel_rfl))
 f279:=Tryz.func241.trans (lq some (by kernel_rfl))
 f280:=Tryz.func242.trans (lq some (by kernel_rfl))
 f281:=Tryz.func243.trans (lq some (by kernel_rfl))
 f282:=Tryz.func244.trans (lq some (by kernel_rfl))
 f283:=Tryz.func191.trans (lq some (by kernel_rfl))
 f284:=Tryz.func192.trans (lq some (by kernel_rfl))
 f285:=Tryz.func193.trans (lq some (by kernel_rfl))
 f286:=Tryz.func194.trans (lq some (by kernel_rfl))
 f287:=Tryz.func240.trans (lq some (by kernel_rfl))
 f316:=Tryz.func261.trans (lq some (by kernel_rfl))
 f317:=Tryz.func230.trans (lq some (by kernel_rfl))
 f318:=Tryz.func231.trans (lq some (by kernel_rfl))
 f319:=Tryz.func232.trans (lq some (by kernel_rfl))
 f320:=Tryz.func233.trans (lq some (by kernel_rfl))
 f321:=Tryz.func259.trans (lq some (by kernel_rfl))
 f322:=Tryz.func260.trans (lq some (by kernel_rfl))
 f337:=Tryz.func256.trans (lq some (by kernel_rfl))
 f338:=Tryz.func249.trans (lq some (by kernel_rfl))
 t0:=Tryz.underlying0
 a0:=Tryz.isAgg0
 z0:=Tryz.sizeOf0
 v0:=Tryz.zeroValue0
 t2:=Tryz.underlying2
 a2:=Tryz.isAgg2
 z2:=Tryz.sizeOf2
 v2:=Tryz.zeroValue2
 t3:=Tryz.underlying3
 a3:=Tryz.isAgg3
 z3:=Tryz.sizeOf3
 v3:=Tryz.zeroValue3
 t4:=Tryz.underlying4
 a4:=Tryz.isAgg4
 z4:=Tryz.sizeOf4
 v4:=Tryz.zeroValue4
 t5:=Tryz.underlying5
 a5:=Tryz.isAgg5
 z5:=Tryz.sizeOf5
 v5:=Tryz.zeroValue5
 t9:=Tryz.underlying9
 a9:=Tryz.isAgg9
 z9:=Tryz.sizeOf9
 v9:=Tryz.zeroValue9
 t20:=Tryz.underlying20
 a20:=Tryz.isAgg20
 z20:=Tryz.sizeOf20
 v20:=Tryz.zeroValue20
 t21:=Tryz.underlying21
 a21:=Tryz.isAgg21
 z21:=Tryz.sizeOf21
 v21:=Tryz.zeroValue21
 t37:=Tryz.underlying104
 a37:=Tryz.isAgg104
 z37:=Tryz.sizeOf104
 v37:=Tryz.zeroValue104
 t46:=Tryz.underlying155
 a46:=Tryz.isAgg155
 z46:=Tryz.sizeOf155
 v46:=Tryz.zeroValue155
 t51:=Tryz.underlying224
 a51:=Tryz.isAgg224
 z51:=Tryz.sizeOf224
 v51:=Tryz.zeroValue224
 t53:=Tryz.underlying161
 a53:=Tryz.isAgg161
 z53:=Tryz.sizeOf161
 v53:=Tryz.zeroValue161
 t75:=Tryz.underlying109
 a75:=Tryz.isAgg109
 z75:=Tryz.sizeOf109
 v75:=Tryz.zeroValue109
 t76:=Tryz.underlying110
 a76:=Tryz.isAgg110
 z76:=Tryz.sizeOf110
 v76:=Tryz.zeroValue110
 t85:=Tryz.underlying208
 a85:=Tryz.isAgg208
 z85:=Tryz.sizeOf208
 v85:=Tryz.zeroValue208
 t127:=Tryz.underlying154
 a127:=Tryz.isAgg154
 z127:=Tryz.sizeOf154
 v127:=Tryz.zeroValue154
 t143:=Tryz.underlying304
 a143:=Tryz.isAgg304
 z143:=Tryz.sizeOf304
 v143:=Tryz.zeroValue304
 t145:=Tryz.underlying306
 a145:=Tryz.isAgg306
 z145:=Tryz.sizeOf306
 v145:=Tryz.zeroValue306
 t167:=Tryz.underlying285
 a167:=Tryz.isAgg285
 z167:=Tryz.sizeOf285
 v167:=Tryz.zeroValue285
 t168:=Tryz.underlying288
 a168:=Tryz.isAgg288
 z168:=Tryz.sizeOf288
 v168:=Tryz.zeroValue288
 t171:=Tryz.underlying241
 a171:=Tryz.isAgg241
 z171:=Tryz.sizeOf241
 v171:=Tryz.zeroValue241
 t173:=Tryz.underlying243
 a173:=Tryz.isAgg243
 z173:=Tryz.sizeOf243
 v173:=Tryz.zeroValue243
 t175:=Tryz.underlying286
 a175:=Tryz.isAgg286
 z175:=Tryz.sizeOf286
 v175:=Tryz.zeroValue286
 t210:=Tryz.underlying300
 a210:=Tryz.isAgg300
 z210:=Tryz.sizeOf300
 v210:=Tryz.zeroValue300
 t212:=Tryz.underlying281
 a212:=Tryz.isAgg281
 z212:=Tryz.sizeOf281
 v212:=Tryz.zeroValue281
 t213:=Tryz.underlying282
 a213:=Tryz.isAgg282
 z213:=Tryz.sizeOf282
 t232:=Tryz.underlying303
 a232:=Tryz.isAgg303
 z232:=Tryz.sizeOf303
 v232:=Tryz.zeroValue303
 t233:=Tryz.underlying302
 a233:=Tryz.isAgg302
 z233:=Tryz.sizeOf302
 v233:=Tryz.zeroValue302
 g15:=by kernel_rfl
 g16:=by kernel_rfl
 g17:=by kernel_rfl
 g18:=by kernel_rfl
 g19:=by kernel_rfl
 t80:=Tryz.underlying112
 a80:=Tryz.isAgg112
 z80:=Tryz.sizeOf112
 v80:=Tryz.zeroValue112
 i0:=by kernel_rfl
 i2:=by kernel_rfl
 i3:=by kernel_rfl
 i4:=by kernel_rfl
 i5:=by kernel_rfl
 i9:=by kernel_rfl
 i20:=by kernel_rfl
 i21:=by kernel_rfl
 i37:=by kernel_rfl
 i46:=by kernel_rfl
 i51:=by kernel_rfl
 i53:=by kernel_rfl
 i75:=by kernel_rfl
 i76:=by kernel_rfl
 i80:=by kernel_rfl
 i85:=by kernel_rfl
 i127:=by kernel_rfl
 i143:=by kernel_rfl
 i145:=by kernel_rfl
 i167:=by kernel_rfl
 i168:=by kernel_rfl
 i171:=by kernel_rfl
 i173:=by kernel_rfl
 i175:=by kernel_rfl
 i210:=by kernel_rfl
 i212:=by kernel_rfl
 i232:=by kernel_rfl
 i233:=by kernel_rfl
 m15:=by kernel_rfl
 m16:=by kernel_rfl
 m17:=by kernel_rfl
 m18:=by kernel_rfl
 m19:=by kernel_rfl
 c0:=by kernel_rfl
 c2:=by kernel_rfl
 c3:=by kernel_rfl
 c4:=by kernel_rfl
 c5:=by kernel_rfl
 c9:=by kernel_rfl
 c20:=by kernel_rfl
 c21:=by kernel_rfl
 c37:=by kernel_rfl
 c46:=by kernel_rfl
 c51:=by kernel_rfl
 c53:=by kernel_rfl
 c75:=by kernel_rfl
 c76:=by kernel_rfl
 c80:=by kernel_rfl
 c85:=by kernel_rfl
 c127:=by kernel_rfl
 c143:=by kernel_rfl
 c145:=by kernel_rfl
 c167:=by kernel_rfl
 c168:=by kernel_rfl
 c171:=by kernel_rfl
 c173:=by kernel_rfl
 c175:=by kernel_rfl
 c210:=by kernel_rfl
 c212:=by kernel_rfl
 c213:=by kernel_rfl
 c232:=by kernel_rfl
 c233:=by kernel_rfl}
open Go.RowKit in
theorem Tryz.strconv_Atoi_ok (s:ByteArray) (hmax:s.size<=9223372036854775806) (v:Int) (h:Lib.atoiAll s.data.toList= .ok v) (w:World):
  Calls Tryz.prog 263 #[.string s] w fun e w'=>e= .returned (.tuple #[.int .i64 v, .nilIface])/\(w'=w\/ ∃t,w'=Lib.bytesWorld w 5 t):=Any.strconv_Atoi_ok Tryz.laysC172 s hmax v h w
def Tryz.laysC174_ren:Go.Shelf.Ren:=⟨fun | 174=>157 | 247=>206 | 245=>207 | 287=>240 | 279=>241 | 280=>242 | 281=>243 | 282=>244 | 321=>259 | 322=>260 | 316=>261 | 171=>200 | 205=>262 | 243=>238 | 246=>138 | 283=>191 | 284=>192 | 285=>193 | 286=>194 | 129=>171 | 317=>230 | 318=>231 | 319=>232 | 320=>233 | 337=>256 | 338=>249 | n=>n,fun | 9=>9 | 3=>3 | 2=>2 | 75=>109 | 85=>208 | 4=>4 | 167=>285 | 5=>5 | 53=>161 | 175=>286 | 46=>155 | 168=>288 | 37=>104 | 0=>0 | 210=>300 | 21=>21 | 127=>154 | 145=>306 | 143=>304 | 171=>241 | 173=>243 | 212=>281 | 51=>224 | 20=>20 | 213=>282 | 232=>303 | 233=>302 | 80=>112 | n=>n,fun | 15=>4 | 16=>5 | 17=>3 | 18=>7 | 19=>6 | n=>n⟩
theorem Tryz.laysC174:Go.Proofs.LaysC.n174 Tryz.prog Tryz.laysC174_ren:={
 mixed:=by kernel_rfl
 f129:=Tryz.func171.trans (lq some (by kernel_rfl))
 f171:=Tryz.func200.trans (lq some (by kernel_rfl))
 f174:=Tryz.func157.trans (lq some (by kernel_rfl))
 f205:=Tryz.func262.trans (lq some (by kernel_rfl))
 f243:=Tryz.func238.trans (lq some (by kernel_rfl))
 f245:=Tryz.func207.trans (lq some (by kernel_rfl))
 f246:=Tryz.func138.trans (lq some (by kernel_rfl))
 f247:=Tryz.func206.trans (lq some (by kernel_rfl))
 f279:=Tryz.func241.trans (lq some (by kernel_rfl))
 f280:=Tryz.func242.trans (lq some (by kernel_rfl))
 f281:=Tryz.func243.trans (lq some (by kernel_rfl))
 f282:=Tryz.func244.trans (lq some (by kernel_rfl))
 f283:=Tryz.func191.trans (lq some (by kernel_rfl))
 f284:=Tryz.func192.trans (lq some (by kernel_rfl))
 f285:=Tryz.func193.trans (lq some (by kernel_rfl))
 f286:=Tryz.func194.trans (lq some (by kernel_rfl))
 f287:=Tryz.func240.trans (lq some (by kernel_rfl))
 f316:=Tryz.func261.trans (lq some (by kernel_rfl))
 f317:=Tryz.func230.trans (lq some (by kernel_rfl))
 f318:=Tryz.func231.trans (lq some (by kernel_rfl))
 f319:=Tryz.func232.trans (lq some (by kernel_rfl))
 f320:=Tryz.func233.trans (lq some (by kernel_rfl))
 f321:=Tryz.func259.trans (lq some (by kernel_rfl))
 f322:=Tryz.func260.trans (lq some (by kernel_rfl))
 f337:=Tryz.func256.trans (lq some (by kernel_rfl))
 f338:=Tryz.func249.trans (lq some (by kernel_rfl))
 t0:=Tryz.underlying0
 a0:=Tryz.isAgg0
 z0:=Tryz.sizeOf0
 v0:=Tryz.zeroValue0
 t2:=Tryz.underlying2
 a2:=Tryz.isAgg2
 z2:=Tryz.sizeOf2
 v2:=Tryz.zeroValue2
 t3:=Tryz.underlying3
 a3:=Tryz.isAgg3
 z3:=Tryz.sizeOf3
 v3:=Tryz.zeroValue3
 t4:=Tryz.underlying4
 a4:=Tryz.isAgg4
 z4:=Tryz.sizeOf4
 v4:=Tryz.zeroValue4
 t5:=Tryz.underlying5
 a5:=Tryz.isAgg5
 z5:=Tryz.sizeOf5
 v5:=Tryz.zeroValue5
 t9:=Tryz.underlying9
 a9:=Tryz.isAgg9
 z9:=Tryz.sizeOf9
 v9:=Tryz.zeroValue9
 t20:=Tryz.underlying20
 a20:=Tryz.isAgg20
 z20:=Tryz.sizeOf20
 v20:=Tryz.zeroValue20
 t21:=Tryz.underlying21
 a21:=Tryz.isAgg21
 z21:=Tryz.sizeOf21
 v21:=Tryz.zeroValue21
 t37:=Tryz.underlying104
 a37:=Tryz.isAgg104
 z37:=Tryz.sizeOf104
 v37:=Tryz.zeroValue104
 t46:=Tryz.underlying155
 a46:=Tryz.isAgg155
 z46:=Tryz.sizeOf155
 v46:=Tryz.zeroValue155
 t51:=Tryz.underlying224
 a51:=Tryz.isAgg224
 z51:=Tryz.sizeOf224
 v51:=Tryz.zeroValue224
 t53:=Tryz.underlying161
 a53:=Tryz.isAgg161
 z53:=Tryz.sizeOf161
 v53:=Tryz.zeroValue161
 t75:=Tryz.underlying109
 a75:=Tryz.isAgg109
 z75:=Tryz.sizeOf109
 v75:=Tryz.zeroValue109
 t85:=Tryz.underlying208
 a85:=Tryz.isAgg208
 z85:=Tryz.sizeOf208
 v85:=Tryz.zeroValue208
 t127:=Tryz.underlying154
 a127:=Tryz.isAgg154
 z127:=Tryz.sizeOf154
 v127:=Tryz.zeroValue154
 t143:=Tryz.underlying304
 a143:=Tryz.isAgg304
 z143:=Tryz.sizeOf304
 v143:=Tryz.zeroValue304
 t145:=Tryz.underlying306
 a145:=Tryz.isAgg306
 z145:=Tryz.sizeOf306
 v145:=Tryz.zeroValue306
 t167:=Tryz.underlying285
 a167:=Tryz.isAgg285
 z167:=Tryz.sizeOf285
 v167:=Tryz.zeroValue285
 t168:=Tryz.underlying288
 a168:=Tryz.isAgg288
 z168:=Tryz.sizeOf288
 v168:=Tryz.zeroValue288
 t171:=Tryz.underlying241
 a171:=Tryz.isAgg241
 z171:=Tryz.sizeOf241
 v171:=Tryz.zeroValue241
 t173:=Tryz.underlying243
 a173:=Tryz.isAgg243
 z173:=Tryz.sizeOf243
 v173:=Tryz.zeroValue243
 t175:=Tryz.underlying286
 a175:=Tryz.isAgg286
 z175:=Tryz.sizeOf286
 v175:=Tryz.zeroValue286
 t210:=Tryz.underlying300
 a210:=Tryz.isAgg300
 z210:=Tryz.sizeOf300
 v210:=Tryz.zeroValue300
 t212:=Tryz.underlying281
 a212:=Tryz.isAgg281
 z212:=Tryz.sizeOf281
 v212:=Tryz.zeroValue281
 t213:=Tryz.underlying282
 a213:=Tryz.isAgg282
 z213:=Tryz.sizeOf282
 t232:=Tryz.underlying303
 a232:=Tryz.isAgg303
 z232:=Tryz.sizeOf303
 v232:=Tryz.zeroValue303
 t233:=Tryz.underlying302
 a233:=Tryz.isAgg302
 z233:=Tryz.sizeOf302
 v233:=Tryz.zeroValue302
 g15:=by kernel_rfl
 g16:=by kernel_rfl
 g17:=by kernel_rfl
 g18:=by kernel_rfl
 g19:=by kernel_rfl
 t80:=Tryz.underlying112
 a80:=Tryz.isAgg112
 z80:=Tryz.sizeOf112
 v80:=Tryz.zeroValue112
 i0:=by kernel_rfl
 i2:=by kernel_rfl
 i3:=by kernel_rfl
 i4:=by kernel_rfl
 i5:=by kernel_rfl
 i9:=by kernel_rfl
 i20:=by kernel_rfl
 i21:=by kernel_rfl
 i37:=by kernel_rfl
 i46:=by kernel_rfl
 i51:=by kernel_rfl
 i53:=by kernel_rfl
 i75:=by kernel_rfl
 i80:=by kernel_rfl
 i85:=by kernel_rfl
 i127:=by kernel_rfl
 i143:=by kernel_rfl
 i145:=by kernel_rfl
 i167:=by kernel_rfl
 i168:=by kernel_rfl
 i171:=by kernel_rfl
 i173:=by kernel_rfl
 i175:=by kernel_rfl
 i210:=by kernel_rfl
 i212:=by kernel_rfl
 i232:=by kernel_rfl
 i233:=by kernel_rfl
 m15:=by kernel_rfl
 m16:=by kernel_rfl
 m17:=by kernel_rfl
 m18:=by kernel_rfl
 m19:=by kernel_rfl
 c0:=by kernel_rfl
 c2:=by kernel_rfl
 c3:=by kernel_rfl
 c4:=by kernel_rfl
 c5:=by kernel_rfl
 c9:=by kernel_rfl
 c20:=by kernel_rfl
 c21:=by kernel_rfl
 c37:=by kernel_rfl
 c46:=by kernel_rfl
 c51:=by kernel_rfl
 c53:=by kernel_rfl
 c75:=by kernel_rfl
 c80:=by kernel_rfl
 c85:=by kernel_rfl
 c127:=by kernel_rfl
 c143:=by kernel_rfl
 c145:=by kernel_rfl
 c167:=by kernel_rfl
 c168:=by kernel_rfl
 c171:=by kernel_rfl
 c173:=by kernel_rfl
 c175:=by kernel_rfl
 c210:=by kernel_rfl
 c212:=by kernel_rfl
 c213:=by kernel_rfl
 c232:=by kernel_rfl
 c233:=by kernel_rfl}
open Go.RowKit in
theorem Tryz.strconv_ParseInt_10_at64_ok (s:ByteArray) (hmax:s.size<=9223372036854775806) (v:Int) (h:Lib.parseIntB 64 s.data.toList= .ok v) (w:World):
  Calls Tryz.prog 157 #[.string s, .int .i64 10, .int .i64 64] w fun e w'=>e= .returned (.tuple #[.int .i64 v, .nilIface])/\(w'=w\/ ∃t,w'=Lib.bytesWorld w 5 t):=Any.strconv_ParseInt_10_at64_ok Tryz.laysC174 s hmax v h w
open Go.RowKit in
theorem Tryz.strconv_ParseInt_10_at64_range_var (s:ByteArray) (hlim:s.size<=281474976710656) (h:Lib.parseIntB 64 s.data.toList= .range) (tp:TypeId) (p:Value) (w:World) (hvar:w.var? Tryz.prog "strconv.ErrRange" =some #[.iface tp p]):
  Calls Tryz.prog 157 #[.string s, .int .i64 10, .int .i64 64] w fun e w'=> ∃N,e= .returned (.tuple #[.int .i64 (Lib.intSat 64 s.data.toList), .iface 288 (.pointer (some ⟨N,0,none⟩))])/\w.heap.size<=N/\w'.heap[N]?=some (.cells #[.string ⟨#[80,97,114,115,101,73,110,116]⟩, .string s, .iface tp p] 300 (0,0))/\Below w.heap.size w w':=Any.strconv_ParseInt_10_at64_range_var Tryz.laysC174 s hlim h tp p w hvar
def Tryz.lays145_ren:Go.Shelf.Ren:=⟨fun | 145=>210 | 220=>246 | 219=>137 | 217=>187 | 225=>188 | 224=>189 | 267=>190 | 266=>228 | 314=>229 | n=>n,fun | 9=>9 | 4=>4 | 59=>254 | 3=>3 | 5=>5 | 46=>155 | 146=>278 | 51=>224 | n=>n,fun | 1=>0 | n=>n⟩
theorem Tryz.lays145:Go.Proofs.Lays.n145 Tryz.prog Tryz.lays145_ren:={
 mixed:=by kernel_rfl
 f145:=Tryz.func210.trans (lq some (by kernel_rfl))
 f217:=Tryz.func187.trans (lq some (by kernel_rfl))
 f219:=Tryz.func137.trans (lq some (by kernel_rfl))
 f220:=Tryz.func246.trans (lq some (by kernel_rfl))
 f224:=Tryz.func189.trans (lq some (by kernel_rfl))
 f225:=Tryz.func188.trans (lq some (by kernel_rfl))
 f266:=Tryz.func228.trans (lq some (by kernel_rfl))
 f267:=Tryz.func190.trans (lq some (by kernel_rfl))
 f314:=Tryz.func229.trans (lq some (by kernel_rfl))
 t3:=Tryz.underlying3
 a3:=Tryz.isAgg3
 z3:=Tryz.sizeOf3
 v3:=Tryz.zeroValue3
 t4:=Tryz.underlying4
 a4:=Tryz.isAgg4
 z4:=Tryz.sizeOf4
 v4:=Tryz.zeroValue4
 t5:=Tryz.underlying5
 a5:=Tryz.isAgg5
 z5:=Tryz.sizeOf5
 v5:=Tryz.zeroValue5
 t9:=Tryz.underlying9
 a9:=Tryz.isAgg9
 z9:=Tryz.sizeOf9
 v9:=Tryz.zeroValue9
 t46:=Tryz.underlying155
 a46:=Tryz.isAgg155
 z46:=Tryz.sizeOf155
 v46:=Tryz.zeroValue155
 t51:=Tryz.underlying224
 a51:=Tryz.isAgg224
 z51:=Tryz.sizeOf224
 v51:=Tryz.zeroValue224
 t59:=Tryz.underlying254
 a59:=Tryz.isAgg254
 z59:=Tryz.sizeOf254
 v59:=Tryz.zeroValue254
 t146:=Tryz.underlying278
 a146:=Tryz.isAgg278
 z146:=Tryz.sizeOf278
 v146:=Tryz.zeroValue278
 g1:=by kernel_rfl}
open Go.RowKit Go.Lib in
theorem Tryz.strings_Cut (s sep:ByteArray) (m:Int) (w:World) (hs:s.size<4294967281) (hm:w.cell? ⟨0,0,none⟩=some (.int .i64 m)):
  Calls Tryz.prog 210 #[.string s, .string sep] w fun e w'=>e= .returned (.tuple #[.string ⟨(Lib.cut s.data.toList sep.data.toList).1.toArray⟩, .string ⟨(Lib.cut s.data.toList sep.data.toList).2.1.toArray⟩, .bool (Lib.cut s.data.toList sep.data.toList).2.2])/\ ∃n,w'=w.drewN n:=Any.strings_Cut Tryz.lays145 s sep m w hs hm
def Tryz.lays190_ren:Go.Shelf.Ren:=⟨fun | 190=>74 | 125=>119 | 258=>118 | 128=>170 | 129=>171 | 302=>162 | 303=>163 | 304=>164 | 305=>165 | 306=>166 | 307=>167 | 308=>102 | 309=>168 | 310=>169 | 333=>212 | 329=>213 | 330=>214 | 334=>215 | 335=>216 | 336=>141 | 344=>250 | n=>n,fun | 31=>45 | 9=>9 | 3=>3 | 46=>155 | 0=>0 | 51=>224 | 53=>161 | 4=>4 | 183=>218 | 182=>217 | 131=>113 | 5=>5 | 218=>258 | 222=>262 | 228=>294 | 229=>40 | n=>n,fun | n=>n⟩
theorem Tryz.lays190:Go.Proofs.Lays.n190 Tryz.prog Tryz.lays190_ren:={
 mixed:=by kernel_rfl
 f125:=Tryz.func119.trans (lq some (by kernel_rfl))
 f128:=Tryz.func170.trans (lq some (by kernel_rfl))
 f129:=Tryz.func171.trans (lq some (by kernel_rfl))
 f190:=Tryz.func74.trans (lq some (by kernel_rfl))
 f258:=Tryz.func118.trans (lq some (by kernel_rfl))
 f302:=Tryz.func162.trans (lq some (by kernel_rfl))
 f303:=Tryz.func163.trans (lq some (by kernel_rfl))
 f304:=Tryz.func164.trans (lq some (by kernel_rfl))
 f305:=Tryz.func165.trans (lq some (by kernel_rfl))
 f306:=Tryz.func166.trans (lq some (by kernel_rfl))
 f307:=Tryz.func167.trans (lq some (by kernel_rfl))
 f308:=Tryz.func102.trans (lq some (by kernel_rfl))
 f309:=Tryz.func168.trans (lq some (by kernel_rfl))
 f310:=Tryz.func169.trans (lq some (by kernel_rfl))
 f329:=Tryz.func213.trans (lq some (by kernel_rfl))
 f330:=Tryz.func214.trans (lq some (by kernel_rfl))
 f333:=Tryz.func212.trans (lq some (by kernel_rfl))
 f334:=Tryz.func215.trans (lq some (by kernel_rfl))
 f335:=Tryz.func216.trans (lq some (by kernel_rfl))
 f336:=Tryz.func141.trans (lq some (by kernel_rfl))
 f344:=Tryz.func250.trans (lq some (by kernel_rfl))
 t0:=Tryz.underlying0
 a0:=Tryz.isAgg0
 z0:=Tryz.sizeOf0
 v0:=Tryz.zeroValue0
 t3:=Tryz.underlying3
 a3:=Tryz.isAgg3
 z3:=Tryz.sizeOf3
 v3:=Tryz.zeroValue3
 t4:=Tryz.underlying4
 a4:=Tryz.isAgg4
 z4:=Tryz.sizeOf4
 v4:=Tryz.zeroValue4
 t5:=Tryz.underlying5
 a5:=Tryz.isAgg5
 z5:=Tryz.sizeOf5
 v5:=Tryz.zeroValue5
 t9:=Tryz.underlying9
 a9:=Tryz.isAgg9
 z9:=Tryz.sizeOf9
 v9:=Tryz.zeroValue9
 t31:=Tryz.underlying45
 a31:=Tryz.isAgg45
 z31:=Tryz.sizeOf45
 v31:=Tryz.zeroValue45
 t46:=Tryz.underlying155
 a46:=Tryz.isAgg155
 z46:=Tryz.sizeOf155
 v46:=Tryz.zeroValue155
 t51:=Tryz.underlying224
 a51:=Tryz.isAgg224
 z51:=Tryz.sizeOf224
 v51:=Tryz.zeroValue224
 t53:=Tryz.underlying161
 a53:=Tryz.isAgg161
 z53:=Tryz.sizeOf161
 v53:=Tryz.zeroValue161
 t131:=Tryz.underlying113
 a131:=Tryz.isAgg113
 z131:=Tryz.sizeOf113
 v131:=Tryz.zeroValue113
 t182:=Tryz.underlying217
 a182:=Tryz.isAgg217
 z182:=Tryz.sizeOf217
 v182:=Tryz.zeroValue217
 t183:=Tryz.underlying218
 a183:=Tryz.isAgg218
 z183:=Tryz.sizeOf218
 v183:=Tryz.zeroValue218
 t218:=Tryz.underlying258
 a218:=Tryz.isAgg258
 z218:=Tryz.sizeOf258
 v218:=Tryz.zeroValue258
 t222:=Tryz.underlying262
 a222:=Tryz.isAgg262
 z222:=Tryz.sizeOf262
 v222:=Tryz.zeroValue262
 t228:=Tryz.underlying294
 a228:=Tryz.isAgg294
 z228:=Tryz.sizeOf294
 v228:=Tryz.zeroValue294
 t229:=Tryz.underlying40
 a229:=Tryz.isAgg40
 z229:=Tryz.sizeOf40
 v229:=Tryz.zeroValue40}
open Go.Sort Go.RowKit in
theorem Tryz.slices_Sort_string (blk off cap:Nat) (ss:List (List UInt8)) (w:World) (hH:Holds encStr w blk off ss.toArray) (hblk:blk<w.heap.size) (hsz:ss.length<4611686018427387904):
  Calls Tryz.prog 74 #[.slice (some ⟨blk,off,none⟩) ss.length cap] w fun e w'=>
   e= .returned (.tuple #[])/\ ∃n os,w'=grow (putRow encStr (Sort.ahead w n) blk off (ss.mergeSort fun x y=>decide (x<=y)).toArray) os:=Any.slices_Sort_string Tryz.lays190 blk off cap ss w hH hblk hsz
def Tryz.lays99_ren:Go.Shelf.Ren:=⟨fun | 99=>155 | 206=>204 | n=>n,fun | 9=>9 | 4=>4 | 3=>3 | n=>n,fun | n=>n⟩
theorem Tryz.lays99:Go.Proofs.Lays.n99 Tryz.prog Tryz.lays99_ren:={
 mixed:=by kernel_rfl
 f99:=Tryz.func155.trans (lq some (by kernel_rfl))
 f206:=Tryz.func204.trans (lq some (by kernel_rfl))
 t3:=Tryz.underlying3
 a3:=Tryz.isAgg3
 z3:=Tryz.sizeOf3
 v3:=Tryz.zeroValue3
 t4:=Tryz.underlying4
 a4:=Tryz.isAgg4
 z4:=Tryz.sizeOf4
 v4:=Tryz.zeroValue4
 t9:=Tryz.underlying9
 a9:=Tryz.isAgg9
 z9:=Tryz.sizeOf9
 v9:=Tryz.zeroValue9}
open Go.RowKit Go.Lib in
theorem Tryz.strings_HasPrefix (s p:ByteArray) (w:World):
  Calls Tryz.prog 155 #[.string s, .string p] w fun e w'=>e= .returned (.bool (Lib.hasPrefix s.data.toList p.data.toList))/\w'=w:=Any.strings_HasPrefix Tryz.lays99 s p w
def Tryz.lays101_ren:Go.Shelf.Ren:=⟨fun | 101=>205 | 208=>239 | 206=>204 | n=>n,fun | 9=>9 | 4=>4 | 3=>3 | n=>n,fun | n=>n⟩
theorem Tryz.lays101:Go.Proofs.Lays.n101 Tryz.prog Tryz.lays101_ren:={
 mixed:=by kernel_rfl
 f101:=Tryz.func205.trans (lq some (by kernel_rfl))
 f206:=Tryz.func204.trans (lq some (by kernel_rfl))
 f208:=Tryz.func239.trans (lq some (by kernel_rfl))
 t3:=Tryz.underlying3
 a3:=Tryz.isAgg3
 z3:=Tryz.sizeOf3
 v3:=Tryz.zeroValue3
 t4:=Tryz.underlying4
 a4:=Tryz.isAgg4
 z4:=Tryz.sizeOf4
 v4:=Tryz.zeroValue4
 t9:=Tryz.underlying9
 a9:=Tryz.isAgg9
 z9:=Tryz.sizeOf9
 v9:=Tryz.zeroValue9}
open Go.RowKit Go.Lib in
theorem Tryz.strings_TrimPrefix (s p:ByteArray) (w:World):
  Calls Tryz.prog 205 #[.string s, .string p] w fun e w'=>e= .returned (.string ⟨(Lib.trimPrefix s.data.toList p.data.toList).toArray⟩)/\w'=w:=Any.strings_TrimPrefix Tryz.lays101 s p w
def Tryz.lays146_ren:Go.Shelf.Ren:=⟨fun | 146=>21 | 221=>51 | 268=>96 | 138=>97 | 143=>98 | 195=>134 | 197=>135 | 218=>136 | 219=>137 | 260=>186 | 217=>187 | 225=>188 | 224=>189 | 267=>190 | 266=>228 | 314=>229 | n=>n,fun | 9=>9 | 31=>45 | 3=>3 | 4=>4 | 0=>0 | 105=>190 | 21=>21 | 5=>5 | 46=>155 | 119=>274 | 139=>277 | 138=>276 | 146=>278 | 51=>224 | n=>n,fun | 1=>0 | 3=>1 | 4=>2 | n=>n⟩
theorem Tryz.lays146:Go.Proofs.Lays.n146 Tryz.prog Tryz.lays146_ren:={
 mixed:=by kernel_rfl
 f138:=Tryz.func97.trans (lq some (by kernel_rfl))
 f143:=Tryz.func98.trans (lq some (by kernel_rfl))
 f146:=Tryz.func21.trans (lq some (by kernel_rfl))
 f195:=Tryz.func134.trans (lq some (by kernel_rfl))
 f197:=Tryz.func135.trans (lq some (by kernel_rfl))
 f217:=Tryz.func187.trans (lq some (by kernel_rfl))
 f218:=Tryz.func136.trans (lq some (by kernel_rfl))
 f219:=Tryz.func137.trans (lq some (by kernel_rfl))
 f221:=Tryz.func51.trans (lq some (by kernel_rfl))
 f224:=Tryz.func189.trans (lq some (by kernel_rfl))
 f225:=Tryz.func188.trans (lq some (by kernel_rfl))
 f260:=Tryz.func186.trans (lq some (by kernel_rfl))
 f266:=Tryz.func228.trans (lq some (by kernel_rfl))
 f267:=Tryz.func190.trans (lq some (by kernel_rfl))
 f268:=Tryz.func96.trans (lq some (by kernel_rfl))
 f314:=Tryz.func229.trans (lq some (by kernel_rfl))
 t0:=Tryz.underlying0
 a0:=Tryz.isAgg0
 z0:=Tryz.sizeOf0
 v0:=Tryz.zeroValue0
 t3:=Tryz.underlying3
 a3:=Tryz.isAgg3
 z3:=Tryz.sizeOf3
 v3:=Tryz.zeroValue3
 t4:=Tryz.underlying4
 a4:=Tryz.isAgg4
 z4:=Tryz.sizeOf4
 v4:=Tryz.zeroValue4
 t5:=Tryz.underlying5
 a5:=Tryz.isAgg5
 z5:=Tryz.sizeOf5
 v5:=Tryz.zeroValue5
 t9:=Tryz.underlying9
 a9:=Tryz.isAgg9
 z9:=Tryz.sizeOf9
 v9:=Tryz.zeroValue9
 t21:=Tryz.underlying21
 a21:=Tryz.isAgg21
 z21:=Tryz.sizeOf21
 v21:=Tryz.zeroValue21
 t31:=Tryz.underlying45
 a31:=Tryz.isAgg45
 z31:=Tryz.sizeOf45
 v31:=Tryz.zeroValue45
 t46:=Tryz.underlying155
 a46:=Tryz.isAgg155
 z46:=Tryz.sizeOf155
 v46:=Tryz.zeroValue155
 t51:=Tryz.underlying224
 a51:=Tryz.isAgg224
 z51:=Tryz.sizeOf224
 v51:=Tryz.zeroValue224
 t105:=Tryz.underlying190
 a105:=Tryz.isAgg190
 z105:=Tryz.sizeOf190
 v105:=Tryz.zeroValue190
 t119:=Tryz.underlying274
 a119:=Tryz.isAgg274
 z119:=Tryz.sizeOf274
 t138:=Tryz.underlying276
 a138:=Tryz.isAgg276
 z138:=Tryz.sizeOf276
 v138:=Tryz.zeroValue276
 t139:=Tryz.underlying277
 a139:=Tryz.isAgg277
 z139:=Tryz.sizeOf277
 v139:=Tryz.zeroValue277
 t146:=Tryz.underlying278
 a146:=Tryz.isAgg278
 z146:=Tryz.sizeOf278
 v146:=Tryz.zeroValue278
 g1:=by kernel_rfl
 g3:=by kernel_rfl
 g4:=by kernel_rfl}
open Go.RowKit Go.Lib in
theorem Tryz.strings_Split (s sep:ByteArray) (m:Int) (w:World) (hs:s.size<4294967281) (hm:w.cell? ⟨0,0,none⟩=some (.int .i64 m)) (h1:1<=sep.size):
  Calls Tryz.prog 21 #[.string s, .string sep] w fun e w'=>
   e= .returned (.slice (some ⟨w.heap.size,0,none⟩) (Lib.countB s sep+1) (Lib.countB s sep+1))/\w'=w.alloc (.cells ((Lib.splitB sep 0 (Lib.countB s sep) s).map Value.string).toArray 9):=Any.strings_Split Tryz.lays146 (by kernel_rfl) s sep m w hs hm h1
def Tryz.lays155_ren:Go.Shelf.Ren:=⟨fun | 155=>60 | 154=>108 | 138=>97 | 165=>53 | 143=>98 | 166=>54 | 197=>135 | 169=>55 | 195=>134 | 218=>136 | 240=>100 | 241=>101 | 219=>137 | 260=>186 | 276=>139 | 277=>140 | 217=>187 | 225=>188 | 224=>189 | 267=>190 | 266=>228 | 314=>229 | n=>n,fun | 9=>9 | 3=>3 | 4=>4 | 72=>106 | 0=>0 | 76=>110 | 105=>190 | 21=>21 | 5=>5 | 70=>103 | 20=>20 | 37=>104 | 75=>109 | 127=>154 | 164=>193 | 46=>155 | 119=>274 | 139=>277 | 138=>276 | 146=>278 | 51=>224 | 80=>112 | n=>n,fun | 1=>0 | 3=>1 | 4=>2 | n=>n⟩
theorem Tryz.lays155:Go.Proofs.Lays.n155 Tryz.prog Tryz.lays155_ren:={
 mixed:=by kernel_rfl
 f138:=Tryz.func97.trans (lq some (by kernel_rfl))
 f143:=Tryz.func98.trans (lq some (by kernel_rfl))
 f154:=Tryz.func108.trans (lq some (by kernel_rfl))
 f155:=Tryz.func60.trans (lq some (by kernel_rfl))
 f165:=Tryz.func53.trans (lq some (by kernel_rfl))
 f166:=Tryz.func54.trans (lq some (by kernel_rfl))
 f169:=Tryz.func55.trans (lq some (by kernel_rfl))
 f195:=Tryz.func134.trans (lq some (by kernel_rfl))
 f197:=Tryz.func135.trans (lq some (by kernel_rfl))
 f217:=Tryz.func187.trans (lq some (by kernel_rfl))
 f218:=Tryz.func136.trans (lq some (by kernel_rfl))
 f219:=Tryz.func137.trans (lq some (by kernel_rfl))
 f224:=Tryz.func189.trans (lq some (by kernel_rfl))
 f225:=Tryz.func188.trans (lq some (by kernel_rfl))
 f240:=Tryz.func100.trans (lq some (by kernel_rfl))
 f241:=Tryz.func101.trans (lq some (by kernel_rfl))
 f260:=Tryz.func186.trans (lq some (by kernel_rfl))
 f266:=Tryz.func228.trans (lq some (by kernel_rfl))
 f267:=Tryz.func190.trans (lq some (by kernel_rfl))
 f276:=Tryz.func139.trans (lq some (by kernel_rfl))
 f277:=Tryz.func140.trans (lq some (by kernel_rfl))
 f314:=Tryz.func229.trans (lq some (by kernel_rfl))
 t0:=Tryz.underlying0
 a0:=Tryz.isAgg0
 z0:=Tryz.sizeOf0
 v0:=Tryz.zeroValue0
 t3:=Tryz.underlying3
 a3:=Tryz.isAgg3
 z3:=Tryz.sizeOf3
 v3:=Tryz.zeroValue3
 t4:=Tryz.underlying4
 a4:=Tryz.isAgg4
 z4:=Tryz.sizeOf4
 v4:=Tryz.zeroValue4
 t5:=Tryz.underlying5
 a5:=Tryz.isAgg5
 z5:=Tryz.sizeOf5
 v5:=Tryz.zeroValue5
 t9:=Tryz.underlying9
 a9:=Tryz.isAgg9
 z9:=Tryz.sizeOf9
 v9:=Tryz.zeroValue9
 t20:=Tryz.underlying20
 a20:=Tryz.isAgg20
 z20:=Tryz.sizeOf20
 v20:=Tryz.zeroValue20
 t21:=Tryz.underlying21
 a21:=Tryz.isAgg21
 z21:=Tryz.sizeOf21
 v21:=Tryz.zeroValue21
 t37:=Tryz.underlying104
 a37:=Tryz.isAgg104
 z37:=Tryz.sizeOf104
 v37:=Tryz.zeroValue104
 t46:=Tryz.underlying155
 a46:=Tryz.isAgg155
 z46:=Tryz.sizeOf155
 v46:=Tryz.zeroValue155
 t51:=Tryz.underlying224
 a51:=Tryz.isAgg224
 z51:=Tryz.sizeOf224
 v51:=Tryz.zeroValue224
 t70:=Tryz.underlying103
 a70:=Tryz.isAgg103
 z70:=Tryz.sizeOf103
 v70:=Tryz.zeroValue103
 t72:=Tryz.underlying106
 a72:=Tryz.isAgg106
 z72:=Tryz.sizeOf106
 v72:=Tryz.zeroValue106
 t75:=Tryz.underlying109
 a75:=Tryz.isAgg109
 z75:=Tryz.sizeOf109
 v75:=Tryz.zeroValue109
 t76:=Tryz.underlying110
 a76:=Tryz.isAgg110
 z76:=Tryz.sizeOf110
 v76:=Tryz.zeroValue110
 t105:=Tryz.underlying190
 a105:=Tryz.isAgg190
 z105:=Tryz.sizeOf190
 v105:=Tryz.zeroValue190
 t119:=Tryz.underlying274
 a119:=Tryz.isAgg274
 z119:=Tryz.sizeOf274
 t127:=Tryz.underlying154
 a127:=Tryz.isAgg154
 z127:=Tryz.sizeOf154
 v127:=Tryz.zeroValue154
 t138:=Tryz.underlying276
 a138:=Tryz.isAgg276
 z138:=Tryz.sizeOf276
 v138:=Tryz.zeroValue276
 t139:=Tryz.underlying277
 a139:=Tryz.isAgg277
 z139:=Tryz.sizeOf277
 v139:=Tryz.zeroValue277
 t146:=Tryz.underlying278
 a146:=Tryz.isAgg278
 z146:=Tryz.sizeOf278
 v146:=Tryz.zeroValue278
 t164:=Tryz.underlying193
 a164:=Tryz.isAgg193
 z164:=Tryz.sizeOf193
 v164:=Tryz.zeroValue193
 g1:=by kernel_rfl
 g3:=by kernel_rfl
 g4:=by kernel_rfl}
theorem Tryz.Builder_Extra_155:Builder.Extra Tryz.prog Tryz.lays155_ren:={
 sizeBuilder:=by kernel_rfl
 liesBuilder:=by kernel_rfl
 t5:=Tryz.underlying5
 a5:=Tryz.isAgg5
 z5:=Tryz.sizeOf5
 v5:=Tryz.zeroValue5
 infoByte:=by kernel_rfl
 cellsByte:=by kernel_rfl
 sizeByte:=by kernel_rfl
 neB5:=by decide}
open Go.RowKit Go.Lib in
theorem Tryz.strings_ReplaceAll (s old new:ByteArray) (m:Int) (w:World) (hs:s.size<4294967281) (hm:w.cell? ⟨0,0,none⟩=some (.int .i64 m)) (h1:1<=old.size) (hlen:s.size+Lib.countB s old*new.size<=140737488355328):
  Calls Tryz.prog 60 #[.string s, .string old, .string new] w fun e w'=>
   e= .returned (.string ⟨(Lib.replaceAll s.data.toList old.data.toList new.data.toList).toArray⟩)/\Below w.heap.size w w':=Any.strings_ReplaceAll Tryz.lays155 Tryz.Builder_Extra_155 s old new m w hs hm h1 hlen
def Tryz.lays152_ren:Go.Shelf.Ren:=⟨fun | 152=>147 | 137=>201 | 119=>202 | 224=>189 | 225=>188 | 217=>187 | 266=>228 | n=>n,fun | 9=>9 | 21=>21 | 3=>3 | 4=>4 | 5=>5 | 0=>0 | 46=>155 | n=>n,fun | n=>n⟩
theorem Tryz.lays152:Go.Proofs.Lays.n152 Tryz.prog Tryz.lays152_ren:={
 mixed:=by kernel_rfl
 f119:=Tryz.func202.trans (lq some (by kernel_rfl))
 f137:=Tryz.func201.trans (lq some (by kernel_rfl))
 f152:=Tryz.func147.trans (lq some (by kernel_rfl))
 f217:=Tryz.func187.trans (lq some (by kernel_rfl))
 f224:=Tryz.func189.trans (lq some (by kernel_rfl))
 f225:=Tryz.func188.trans (lq some (by kernel_rfl))
 f266:=Tryz.func228.trans (lq some (by kernel_rfl))
 t0:=Tryz.underlying0
 a0:=Tryz.isAgg0
 z0:=Tryz.sizeOf0
 v0:=Tryz.zeroValue0
 t3:=Tryz.underlying3
 a3:=Tryz.isAgg3
 z3:=Tryz.sizeOf3
 v3:=Tryz.zeroValue3
 t4:=Tryz.underlying4
 a4:=Tryz.isAgg4
 z4:=Tryz.sizeOf4
 v4:=Tryz.zeroValue4
 t5:=Tryz.underlying5
 a5:=Tryz.isAgg5
 z5:=Tryz.sizeOf5
 v5:=Tryz.zeroValue5
 t9:=Tryz.underlying9
 a9:=Tryz.isAgg9
 z9:=Tryz.sizeOf9
 v9:=Tryz.zeroValue9
 t21:=Tryz.underlying21
 a21:=Tryz.isAgg21
 z21:=Tryz.sizeOf21
 v21:=Tryz.zeroValue21
 t46:=Tryz.underlying155
 a46:=Tryz.isAgg155
 z46:=Tryz.sizeOf155
 v46:=Tryz.zeroValue155}
open Go.RowKit Go.Lib in
theorem Tryz.strings_IndexRune_ascii (s:ByteArray) (r:Int) (w:World) (h0:0<=r) (h1:r<128):
  Calls Tryz.prog 147 #[.string s, .int .i32 r] w fun e w'=>e= .returned (.int .i64 (Lib.indexByte s.data.toList r.toNat.toUInt8))/\w'=w:=Any.strings_IndexRune_ascii Tryz.lays152 s r w h0 h1
def Tryz.lays226_ren:Go.Shelf.Ren:=⟨fun | 226=>148 | n=>n,fun | 3=>3 | 4=>4 | n=>n,fun | n=>n⟩
theorem Tryz.lays226:Go.Proofs.Lays.n226 Tryz.prog Tryz.lays226_ren:={
 mixed:=by kernel_rfl
 f226:=Tryz.func148.trans (lq some (by kernel_rfl))
 t3:=Tryz.underlying3
 a3:=Tryz.isAgg3
 z3:=Tryz.sizeOf3
 v3:=Tryz.zeroValue3
 t4:=Tryz.underlying4
 a4:=Tryz.isAgg4
 z4:=Tryz.sizeOf4
 v4:=Tryz.zeroValue4}
open Go.RowKit Go.Lib in
theorem Tryz.strings_shouldUseASCIISet (n:Int) (w:World):
  Calls Tryz.prog 148 #[.int .i64 n] w fun e w'=>e= .returned (.bool (decide (8<n)))/\w'=w:=Any.strings_shouldUseASCIISet Tryz.lays226 n w
def Tryz.lays153_ren:Go.Shelf.Ren:=⟨fun | 153=>107 | 152=>147 | 226=>148 | 227=>149 | 228=>150 | 137=>201 | 119=>202 | 224=>189 | 225=>188 | 217=>187 | 266=>228 | n=>n,fun | 9=>9 | 3=>3 | 4=>4 | 5=>5 | 21=>21 | 117=>202 | 116=>201 | 0=>0 | 46=>155 | 124=>249 | n=>n,fun | n=>n⟩
theorem Tryz.lays153:Go.Proofs.Lays.n153 Tryz.prog Tryz.lays153_ren:={
 mixed:=by kernel_rfl
 f119:=Tryz.func202.trans (lq some (by kernel_rfl))
 f137:=Tryz.func201.trans (lq some (by kernel_rfl))
 f152:=Tryz.func147.trans (lq some (by kernel_rfl))
 f153:=Tryz.func107.trans (lq some (by kernel_rfl))
 f217:=Tryz.func187.trans (lq some (by kernel_rfl))
 f224:=Tryz.func189.trans (lq some (by kernel_rfl))
 f225:=Tryz.func188.trans (lq some (by kernel_rfl))
 f226:=Tryz.func148.trans (lq some (by kernel_rfl))
 f227:=Tryz.func149.trans (lq some (by kernel_rfl))
 f228:=Tryz.func150.trans (lq some (by kernel_rfl))
 f266:=Tryz.func228.trans (lq some (by kernel_rfl))
 t0:=Tryz.underlying0
 a0:=Tryz.isAgg0
 z0:=Tryz.sizeOf0
 v0:=Tryz.zeroValue0
 t3:=Tryz.underlying3
 a3:=Tryz.isAgg3
 z3:=Tryz.sizeOf3
 v3:=Tryz.zeroValue3
 t4:=Tryz.underlying4
 a4:=Tryz.isAgg4
 z4:=Tryz.sizeOf4
 v4:=Tryz.zeroValue4
 t5:=Tryz.underlying5
 a5:=Tryz.isAgg5
 z5:=Tryz.sizeOf5
 v5:=Tryz.zeroValue5
 t9:=Tryz.underlying9
 a9:=Tryz.isAgg9
 z9:=Tryz.sizeOf9
 v9:=Tryz.zeroValue9
 t21:=Tryz.underlying21
 a21:=Tryz.isAgg21
 z21:=Tryz.sizeOf21
 v21:=Tryz.zeroValue21
 t46:=Tryz.underlying155
 a46:=Tryz.isAgg155
 z46:=Tryz.sizeOf155
 v46:=Tryz.zeroValue155
 t116:=Tryz.underlying201
 a116:=Tryz.isAgg201
 z116:=Tryz.sizeOf201
 t117:=Tryz.underlying202
 a117:=Tryz.isAgg202
 z117:=Tryz.sizeOf202
 v117:=Tryz.zeroValue202
 t124:=Tryz.underlying249
 a124:=Tryz.isAgg249
 z124:=Tryz.sizeOf249
 v124:=Tryz.zeroValue249}
open Go.RowKit Go.Lib in
theorem Tryz.strings_IndexAny_long (hv116: ∀w,(zeroValue 201).run Tryz.prog w= .ok (.agg (Array.replicate 256 (.bool false))) w) (s chars:ByteArray) (w:World) (h2:2<=chars.size) (h8:8<s.size) (hs:s.size<4294967281) (hcs:chars.size<4294967281) (hascii: ∀(j:Nat) b,chars.data.toList[j]?=some b->b.toNat<128):
  Calls Tryz.prog 107 #[.string s, .string chars] w fun e w'=>e= .returned (.int .i64 (Lib.indexAny s.data.toList chars.data.toList))/\w'=((w.alloc (.cells (Lib.setCells chars.data.toList) 201)).alloc (.cells (Lib.setCells chars.data.toList) 201)):=Any.strings_IndexAny_long Tryz.lays153 hv116 (by kernel_rfl) s chars w h2 h8 hs hcs hascii
def Tryz.lays110_ren:Go.Shelf.Ren:=⟨fun | 110=>116 | 109=>158 | n=>n,fun | 31=>45 | 9=>9 | 4=>4 | 3=>3 | 0=>0 | n=>n,fun | n=>n⟩
theorem Tryz.lays110:Go.Proofs.Lays.n110 Tryz.prog Tryz.lays110_ren:={
 mixed:=by kernel_rfl
 f109:=Tryz.func158.trans (lq some (by kernel_rfl))
 f110:=Tryz.func116.trans (lq some (by kernel_rfl))
 t0:=Tryz.underlying0
 a0:=Tryz.isAgg0
 z0:=Tryz.sizeOf0
 v0:=Tryz.zeroValue0
 t3:=Tryz.underlying3
 a3:=Tryz.isAgg3
 z3:=Tryz.sizeOf3
 v3:=Tryz.zeroValue3
 t4:=Tryz.underlying4
 a4:=Tryz.isAgg4
 z4:=Tryz.sizeOf4
 v4:=Tryz.zeroValue4
 t9:=Tryz.underlying9
 a9:=Tryz.isAgg9
 z9:=Tryz.sizeOf9
 v9:=Tryz.zeroValue9
 t31:=Tryz.underlying45
 a31:=Tryz.isAgg45
 z31:=Tryz.sizeOf45
 v31:=Tryz.zeroValue45}
open Go.Lib in
theorem Tryz.slices_Contains_string (b off n c:Nat) (zs:List ByteArray) (x:ByteArray) (w:World) (hz:n<=zs.length) (hbig:n<=9223372036854775807) (hc: ∀j,j<zs.length->w.cell? ⟨b,off+j,none⟩=some (.string (zs.getD j ByteArray.empty))):
  Calls Tryz.prog 116 #[.slice (some ⟨b,off,none⟩) n c, .string x] w fun e w'=>e= .returned (.bool (Lib.containsS (zs.take n) x))/\w'=w:=Any.slices_Contains_string Tryz.lays110 b off n c zs x w hz hbig hc
open Go.Lib in
theorem Tryz.slices_Contains_string_empty (a:Option Addr) (c:Nat) (x:ByteArray) (w:World):
  Calls Tryz.prog 116 #[.slice a 0 c, .string x] w fun e w'=>e= .returned (.bool false)/\w'=w:=Any.slices_Contains_string_empty Tryz.lays110 a c x w
def Tryz.lays193_ren:Go.Shelf.Ren:=⟨fun | 193=>114 | n=>n,fun | 31=>45 | 9=>9 | 4=>4 | 3=>3 | 0=>0 | n=>n,fun | n=>n⟩
theorem Tryz.lays193:Go.Proofs.Lays.n193 Tryz.prog Tryz.lays193_ren:={
 mixed:=by kernel_rfl
 f193:=Tryz.func114.trans (lq some (by kernel_rfl))
 t0:=Tryz.underlying0
 a0:=Tryz.isAgg0
 z0:=Tryz.sizeOf0
 v0:=Tryz.zeroValue0
 t3:=Tryz.underlying3
 a3:=Tryz.isAgg3
 z3:=Tryz.sizeOf3
 v3:=Tryz.zeroValue3
 t4:=Tryz.underlying4
 a4:=Tryz.isAgg4
 z4:=Tryz.sizeOf4
 v4:=Tryz.zeroValue4
 t9:=Tryz.underlying9
 a9:=Tryz.isAgg9
 z9:=Tryz.sizeOf9
 v9:=Tryz.zeroValue9
 t31:=Tryz.underlying45
 a31:=Tryz.isAgg45
 z31:=Tryz.sizeOf45
 v31:=Tryz.zeroValue45}
open Go.RowKit Go.Lib in
theorem Tryz.slices_Equal_string (b1 o1 n c b2 o2 m d:Nat) (xs ys:List ByteArray) (w:World) (hx:n<=xs.length) (hy:m<=ys.length) (hbig:n<=9223372036854775807) (hbig2:m<=9223372036854775807) (hc1: ∀j,j<xs.length->w.cell? ⟨b1,o1+j,none⟩=some (.string (xs.getD j ByteArray.empty))) (hc2: ∀j,j<ys.length->w.cell? ⟨b2,o2+j,none⟩=some (.string (ys.getD j ByteArray.empty))):
  Calls Tryz.prog 114 #[.slice (some ⟨b1,o1,none⟩) n c, .slice (some ⟨b2,o2,none⟩) m d] w fun e w'=>e= .returned (.bool (decide (xs.take n=ys.take m)))/\ ∃q,w'=w.drewN q:=Any.slices_Equal_string Tryz.lays193 b1 o1 n c b2 o2 m d xs ys w hx hy hbig hbig2 hc1 hc2
open Go.RowKit Go.Sort in
theorem Tryz.slices_Sort_string_none (p:Option Addr) (cap:Nat) (w:World):
  Calls Tryz.prog 74 #[.slice p 0 cap] w fun e w'=>e= .returned (.tuple #[])/\w'=w:=Any.slices_Sort_string_none Tryz.lays190 p cap w
end Go.Proofs
