/- Contracts and plain laws,part 3. -/
import Derived.Test.YtoofbflplhbpbaaGreatDoorUO01
import Derived.Shelf.Strings.Builder1
import Derived.Shelf.Strings.Builder2
import Derived.Shelf.Strings.OnBuilder
import Derived.Shelf.Strings.Trim
import Derived.Shelf.Small.Utf8
import Derived.Shelf.Small.Bits
import Derived.Shelf.Small.Strs
import Derived.Shelf.Small.Wraps
import Derived.Shelf.Strings.BuilderF
import Derived.Shelf.Strings.BuilderK
import Derived.Shelf.Strconv.Atoi
import Derived.Shelf.Strconv.Itoa0
import Derived.Shelf.Strconv.Itoa1
import Derived.Shelf.LaysM
import Derived.Shelf.Strconv.Itoa2
import Derived.Shelf.Strconv.Itoa3
import Derived.Shelf.Strconv.Itoa4
import Derived.Shelf.Strconv.AtoiErrFast
import Derived.Shelf.Strconv.ParseIntEmpty
import Derived.Shelf.Strconv.AtoiFail
import Derived.Shelf.Strconv.Clone
import Derived.Shelf.Strconv.SyntaxError
import Derived.Shelf.LaysC
import Derived.Shelf.Strconv.ToError
import Derived.Shelf.Strconv.AtoiErr
import Derived.Shelf.Strconv.Lower
import Derived.Shelf.Strconv.ParseUint10
import Derived.Shelf.Strconv.ParseUint10Empty
import Derived.Shelf.Strconv.ParseUint10Any
import Derived.Shelf.Strconv.ParseInt10
import Derived.Shelf.Strconv.AtoiLong
import Derived.Shelf.Strconv.AtoiInnerAll
import Derived.Shelf.Strconv.RangeError
import Derived.Shelf.Strconv.ToErrorRange
import Derived.Shelf.Strconv.AtoiAll
import Derived.Shelf.Strconv.ErrVarAll
import Derived.Shelf.Strconv.ParseUintEmpty
import Derived.Shelf.Strconv.ParseUint10b64
import Derived.Shelf.Strconv.ParseUint10b32
import Derived.Shelf.Strconv.ParseUint10b16
import Derived.Shelf.Strconv.ParseUint10b8
import Derived.Shelf.Strconv.ParseUint10At
import Derived.Shelf.Strconv.ParseInt10At64
import Derived.Shelf.Strconv.ParseInt10At32
import Derived.Shelf.Strconv.ParseInt10At16
import Derived.Shelf.Strconv.ParseInt10At8
import Derived.Shelf.Strconv.ParseInt10All
import Derived.Shelf.Strconv.ParseIntPublic10
import Derived.Shelf.Strconv.ErrVarParseInt
import Derived.Shelf.Strings.Search1
import Derived.Shelf.Strings.Search2
import Derived.Shelf.Strings.Search3
import Derived.Shelf.Strings.Cut
import Derived.Shelf.Strings.Count
import Derived.Shelf.Strings.Shaped
import Derived.Shelf.Sort.Plain
import Derived.Shelf.Strings.Prefix
import Derived.Shelf.Strings.Split
import Derived.Shelf.Strings.Replace
import Derived.Shelf.Strings.SplitShaped
import Derived.Shelf.Unicode.Decode
import Derived.Shelf.Strings.Runes
import Derived.Shelf.Strings.IndexAny
import Derived.Shelf.Strings.AsciiSet
import Derived.Shelf.Strings.IndexAnyAll
import Derived.Shelf.Unicode.DecodeSlow
import Derived.Shelf.Unicode.DecodeAny
import Derived.Ground.Names2Prog
import Derived.Shelf.Slices.Clone
import Derived.Shelf.Slices.SearchI
import Derived.Shelf.Slices.In.SortNone
import Derived.Ground.SlgnProg
import Derived.Shelf.SlicesE.Clone
import Derived.Test.YtoofbflplhbpbaaGreatDoorProg
import Derived.Test.YtoofbflplhbpbaaGreatDoorRows
import Derived.WalkKit
import Derived.WalkSpells
import Derived.WalkLawsBesides
import Derived.Lib.Hide
import Derived.IntWalk
import Derived.Deep.LoopGhost
import Derived.Deep.Cut
import Derived.OwnWalk
import Derived.Lib.SmallJoins
import Derived.Laws.Bits64b
import Derived.Outline
set_option linter.all false
namespace Go.Proofs
open Go.Shelf
def Tryz.lays156_ren:Go.Shelf.Ren:=⟨fun | 156=>37 | 165=>74 | 166=>31 | 169=>34 | 240=>70 | 241=>131 | 276=>125 | 277=>185 | n=>n,fun | 31=>23 | 9=>9 | 3=>3 | 4=>4 | 0=>0 | 20=>20 | 72=>70 | 76=>74 | 70=>68 | 37=>55 | 75=>72 | 127=>128 | 164=>190 | 5=>5 | 80=>78 | n=>n,fun | n=>n⟩
theorem Tryz.lays156:Go.Proofs.Lays.n156 Tryz.prog Tryz.lays156_ren:={
 mixed:=by kernel_rfl
 f156:=Tryz.func37.trans (ab8 some (by kernel_rfl))
 f165:=Tryz.func74.trans (ab8 some (by kernel_rfl))
 f166:=Tryz.func31.trans (ab8 some (by kernel_rfl))
 f169:=Tryz.func34.trans (ab8 some (by kernel_rfl))
 f240:=Tryz.func70.trans (ab8 some (by kernel_rfl))
 f241:=Tryz.func131.trans (ab8 some (by kernel_rfl))
 f276:=Tryz.func125.trans (ab8 some (by kernel_rfl))
 f277:=Tryz.func185.trans (ab8 some (by kernel_rfl))
 t0:=Tryz.underlying0
 a0:=Tryz.isAgg0
 z0:=Tryz.sizeOf0
 v0:=Tryz.zeroValue0
 t3:=Tryz.underlying3
 a3:=Tryz.isAgg3
 z3:=Tryz.sizeOf3
 v3:=Tryz.zeroValue3
 t4:=Tryz.underlying4
 a4:=Tryz.isAgg4
 z4:=Tryz.sizeOf4
 v4:=Tryz.zeroValue4
 t9:=Tryz.underlying9
 a9:=Tryz.isAgg9
 z9:=Tryz.sizeOf9
 v9:=Tryz.zeroValue9
 t20:=Tryz.underlying20
 a20:=Tryz.isAgg20
 z20:=Tryz.sizeOf20
 v20:=Tryz.zeroValue20
 t31:=Tryz.underlying23
 a31:=Tryz.isAgg23
 z31:=Tryz.sizeOf23
 v31:=Tryz.zeroValue23
 t37:=Tryz.underlying55
 a37:=Tryz.isAgg55
 z37:=Tryz.sizeOf55
 v37:=Tryz.zeroValue55
 t70:=Tryz.underlying68
 a70:=Tryz.isAgg68
 z70:=Tryz.sizeOf68
 v70:=Tryz.zeroValue68
 t72:=Tryz.underlying70
 a72:=Tryz.isAgg70
 z72:=Tryz.sizeOf70
 v72:=Tryz.zeroValue70
 t75:=Tryz.underlying72
 a75:=Tryz.isAgg72
 z75:=Tryz.sizeOf72
 v75:=Tryz.zeroValue72
 t76:=Tryz.underlying74
 a76:=Tryz.isAgg74
 z76:=Tryz.sizeOf74
 v76:=Tryz.zeroValue74
 t127:=Tryz.underlying128
 a127:=Tryz.isAgg128
 z127:=Tryz.sizeOf128
 v127:=Tryz.zeroValue128
 t164:=Tryz.underlying190
 a164:=Tryz.isAgg190
 z164:=Tryz.sizeOf190
 v164:=Tryz.zeroValue190}
theorem Tryz.Builder_Extra_156:Builder.Extra Tryz.prog Tryz.lays156_ren:={
 sizeBuilder:=by kernel_rfl
 liesBuilder:=by kernel_rfl
 t5:=Tryz.underlying5
 a5:=Tryz.isAgg5
 z5:=Tryz.sizeOf5
 v5:=Tryz.zeroValue5
 infoByte:=by kernel_rfl
 cellsByte:=by kernel_rfl
 sizeByte:=by kernel_rfl
 neB5:=by decide}
open Go.RowKit in
theorem Tryz.strings_Join_none (a:Option Addr) (c:Nat) (sep:ByteArray) (w:World):
  Calls Tryz.prog 37 #[.slice a 0 c, .string sep] w fun e w'=>e= .returned (.string ⟨#[]⟩)/\w'=w:=Any.strings_Join_none Tryz.lays156 Tryz.Builder_Extra_156 a c sep w
open Go.RowKit in
theorem Tryz.strings_Join (bk o c:Nat) (xs:List ByteArray) (sep:ByteArray) (w:World) (hcells: ∀(j:Nat) x,xs[j]?=some x->w.cell? ⟨bk,o+j,none⟩=some (.string x)) (hbk:bk<w.heap.size) (hN:xs.length<=140737488355328) (hcap:xs.length<=c) (hlen:(Lib.join (xs.map (·.data.toList)) sep.data.toList).length<=140737488355328):
  Calls Tryz.prog 37 #[.slice (some ⟨bk,o,none⟩) xs.length c, .string sep] w fun e w'=>e= .returned (.string ⟨(Lib.join (xs.map (·.data.toList)) sep.data.toList).toArray⟩)/\Below w.heap.size w w':=Any.strings_Join Tryz.lays156 Tryz.Builder_Extra_156 bk o c xs sep w hcells hbk hN hcap hlen
def Tryz.aff:Go.Shelf.Ren:=⟨fun | 162=>128 | 232=>177 | 227=>178 | 234=>179 | 236=>180 | 228=>235 | 271=>237 | 151=>238 | 120=>283 | 197=>184 | 152=>233 | 260=>241 | 137=>117 | 119=>281 | 224=>273 | 225=>272 | 217=>166 | 266=>227 | n=>n,fun | 9=>9 | 4=>4 | 3=>3 | 5=>5 | 117=>236 | 116=>235 | 0=>0 | 124=>239 | 21=>21 | 105=>240 | 46=>189 | 119=>311 | 139=>314 | 138=>313 | n=>n,fun | 3=>3 | 4=>4 | n=>n⟩
theorem Tryz.lays162:Go.Proofs.Lays.n162 Tryz.prog Tryz.aff:={
 mixed:=by kernel_rfl
 f119:=Tryz.func281.trans (ab8 some (by kernel_rfl))
 f120:=Tryz.func283.trans (ab8 some (by kernel_rfl))
 f137:=Tryz.func117.trans (ab8 some (by kernel_rfl))
 f151:=Tryz.func238.trans (ab8 some (by kernel_rfl))
 f152:=Tryz.func233.trans (ab8 some (by kernel_rfl))
 f162:=Tryz.func128.trans (ab8 some (by kernel_rfl))
 f197:=Tryz.func184.trans (ab8 some (by kernel_rfl))
 f217:=Tryz.func166.trans (ab8 some (by kernel_rfl))
 f224:=Tryz.func273.trans (ab8 some (by kernel_rfl))
 f225:=Tryz.func272.trans (ab8 some (by kernel_rfl))
 f227:=Tryz.func178.trans (ab8 some (by kernel_rfl))
 f228:=Tryz.func235.trans (ab8 some (by kernel_rfl))
 f232:=Tryz.func177.trans (ab8 some (by kernel_rfl))
 f234:=Tryz.func179.trans (ab8 some (by kernel_rfl))
 f236:=Tryz.func180.trans (ab8 some (by kernel_rfl))
 f260:=Tryz.func241.trans (ab8 some (by kernel_rfl))
 f266:=Tryz.func227.trans (ab8 some (by kernel_rfl))
 f271:=Tryz.func237.trans (ab8 some (by kernel_rfl))
 t0:=Tryz.underlying0
 a0:=Tryz.isAgg0
 z0:=Tryz.sizeOf0
 v0:=Tryz.zeroValue0
 t3:=Tryz.underlying3
 a3:=Tryz.isAgg3
 z3:=Tryz.sizeOf3
 v3:=Tryz.zeroValue3
 t4:=Tryz.underlying4
 a4:=Tryz.isAgg4
 z4:=Tryz.sizeOf4
 v4:=Tryz.zeroValue4
 t5:=Tryz.underlying5
 a5:=Tryz.isAgg5
 z5:=Tryz.sizeOf5
 v5:=Tryz.zeroValue5
 t9:=Tryz.underlying9
 a9:=Tryz.isAgg9
 z9:=Tryz.sizeOf9
 v9:=Tryz.zeroValue9
 t21:=Tryz.underlying21
 a21:=Tryz.isAgg21
 z21:=Tryz.sizeOf21
 v21:=Tryz.zeroValue21
 t46:=Tryz.underlying189
 a46:=Tryz.isAgg189
 z46:=Tryz.sizeOf189
 v46:=Tryz.zeroValue189
 t105:=Tryz.underlying240
 a105:=Tryz.isAgg240
 z105:=Tryz.sizeOf240
 v105:=Tryz.zeroValue240
 t116:=Tryz.underlying235
 a116:=Tryz.isAgg235
 z116:=Tryz.sizeOf235
 t117:=Tryz.underlying236
 a117:=Tryz.isAgg236
 z117:=Tryz.sizeOf236
 v117:=Tryz.zeroValue236
 t119:=Tryz.underlying311
 a119:=Tryz.isAgg311
 z119:=Tryz.sizeOf311
 t124:=Tryz.underlying239
 a124:=Tryz.isAgg239
 z124:=Tryz.sizeOf239
 v124:=Tryz.zeroValue239
 t138:=Tryz.underlying313
 a138:=Tryz.isAgg313
 z138:=Tryz.sizeOf313
 v138:=Tryz.zeroValue313
 t139:=Tryz.underlying314
 a139:=Tryz.isAgg314
 z139:=Tryz.sizeOf314
 v139:=Tryz.zeroValue314
 g3:=by kernel_rfl
 g4:=by kernel_rfl}
open Go.RowKit in
theorem Tryz.strings_TrimRight_one (s:ByteArray) (c:UInt8) (hc:c.toNat<128) (w:World) (hs:s.size<=9223372036854775807):
  Calls Tryz.prog 128 #[.string s, .string ⟨#[c]⟩] w fun e w'=>e= .returned (.string ⟨(Lib.trimRightB s.data.toList c).toArray⟩)/\w'=w:=Any.strings_TrimRight_one Tryz.lays162 s c hc w hs
def Tryz.afg:Go.Shelf.Ren:=⟨fun | 119=>281 | n=>n,fun | 21=>21 | 4=>4 | n=>n,fun | n=>n⟩
theorem Tryz.lays119:Go.Proofs.Lays.n119 Tryz.prog Tryz.afg:={
 mixed:=by kernel_rfl
 f119:=Tryz.func281.trans (ab8 some (by kernel_rfl))
 t4:=Tryz.underlying4
 a4:=Tryz.isAgg4
 z4:=Tryz.sizeOf4
 v4:=Tryz.zeroValue4
 t21:=Tryz.underlying21
 a21:=Tryz.isAgg21
 z21:=Tryz.sizeOf21
 v21:=Tryz.zeroValue21}
theorem Tryz.utf8_ValidRune (r:Int) (w:World):
  Calls Tryz.prog 281 #[.int .i32 r] w fun e w'=>e= .returned (.bool (Lib.validRune r))/\w'=w:=Any.utf8_ValidRune Tryz.lays119 r w
def Tryz.afh:Go.Shelf.Ren:=⟨fun | 134=>126 | 129=>175 | n=>n,fun | 53=>123 | 3=>3 | 4=>4 | 46=>189 | 5=>5 | 9=>9 | n=>n,fun | n=>n⟩
theorem Tryz.lays134:Go.Proofs.Lays.n134 Tryz.prog Tryz.afh:={
 mixed:=by kernel_rfl
 f129:=Tryz.func175.trans (ab8 some (by kernel_rfl))
 f134:=Tryz.func126.trans (ab8 some (by kernel_rfl))
 t3:=Tryz.underlying3
 a3:=Tryz.isAgg3
 z3:=Tryz.sizeOf3
 v3:=Tryz.zeroValue3
 t4:=Tryz.underlying4
 a4:=Tryz.isAgg4
 z4:=Tryz.sizeOf4
 v4:=Tryz.zeroValue4
 t5:=Tryz.underlying5
 a5:=Tryz.isAgg5
 z5:=Tryz.sizeOf5
 v5:=Tryz.zeroValue5
 t9:=Tryz.underlying9
 a9:=Tryz.isAgg9
 z9:=Tryz.sizeOf9
 v9:=Tryz.zeroValue9
 t46:=Tryz.underlying189
 a46:=Tryz.isAgg189
 z46:=Tryz.sizeOf189
 v46:=Tryz.zeroValue189
 t53:=Tryz.underlying123
 a53:=Tryz.isAgg123
 z53:=Tryz.sizeOf123
 v53:=Tryz.zeroValue123}
theorem Tryz.bits_LeadingZeros64 (x:Int) (w:World) (h0:0<=x) (h1:x<=18446744073709551615):
  Calls Tryz.prog 126 #[.int .u64 x] w fun e w'=>e= .returned (.int .i64 (64 -(Lib.bitLen x.toNat:Int)))/\w'=w:=Any.bits_LeadingZeros64 Tryz.lays134 x w h0 h1
def Tryz.afi:Go.Shelf.Ren:=⟨fun | 106=>153 | 213=>217 | 265=>264 | n=>n,fun | 9=>9 | 3=>3 | n=>n,fun | n=>n⟩
theorem Tryz.lays106:Go.Proofs.Lays.n106 Tryz.prog Tryz.afi:={
 mixed:=by kernel_rfl
 f106:=Tryz.func153.trans (ab8 some (by kernel_rfl))
 f213:=Tryz.func217.trans (ab8 some (by kernel_rfl))
 f265:=Tryz.func264.trans (ab8 some (by kernel_rfl))
 t3:=Tryz.underlying3
 a3:=Tryz.isAgg3
 z3:=Tryz.sizeOf3
 v3:=Tryz.zeroValue3
 t9:=Tryz.underlying9
 a9:=Tryz.isAgg9
 z9:=Tryz.sizeOf9
 v9:=Tryz.zeroValue9}
open Go.RowKit in
theorem Tryz.strings_Compare (a b:ByteArray) (w:World):
  Calls Tryz.prog 153 #[.string a, .string b] w fun e w'=>e= .returned (.int .i64 (Lib.compareBytes a.data.toList b.data.toList))/\w'=w:=Any.strings_Compare Tryz.lays106 a b w
def Tryz.afj:Go.Shelf.Ren:=⟨fun | 137=>117 | 217=>166 | 266=>227 | n=>n,fun | 9=>9 | 5=>5 | 3=>3 | n=>n,fun | n=>n⟩
theorem Tryz.lays137:Go.Proofs.Lays.n137 Tryz.prog Tryz.afj:={
 mixed:=by kernel_rfl
 f137:=Tryz.func117.trans (ab8 some (by kernel_rfl))
 f217:=Tryz.func166.trans (ab8 some (by kernel_rfl))
 f266:=Tryz.func227.trans (ab8 some (by kernel_rfl))
 t3:=Tryz.underlying3
 a3:=Tryz.isAgg3
 z3:=Tryz.sizeOf3
 v3:=Tryz.zeroValue3
 t5:=Tryz.underlying5
 a5:=Tryz.isAgg5
 z5:=Tryz.sizeOf5
 v5:=Tryz.zeroValue5
 t9:=Tryz.underlying9
 a9:=Tryz.isAgg9
 z9:=Tryz.sizeOf9
 v9:=Tryz.zeroValue9}
open Go.RowKit in
theorem Tryz.strings_IndexByte (s:ByteArray) (c:Int) (w:World):
  Calls Tryz.prog 117 #[.string s, .int .u8 c] w fun e w'=>e= .returned (.int .i64 (Lib.indexByte s.data.toList c.toNat.toUInt8))/\w'=w:=Any.strings_IndexByte Tryz.lays137 s c w
def Tryz.afk:Go.Shelf.Ren:=⟨fun | 103=>118 | 210=>167 | 206=>228 | n=>n,fun | 9=>9 | 4=>4 | 24=>178 | 3=>3 | n=>n,fun | n=>n⟩
theorem Tryz.lays103:Go.Proofs.Lays.n103 Tryz.prog Tryz.afk:={
 mixed:=by kernel_rfl
 f103:=Tryz.func118.trans (ab8 some (by kernel_rfl))
 f206:=Tryz.func228.trans (ab8 some (by kernel_rfl))
 f210:=Tryz.func167.trans (ab8 some (by kernel_rfl))
 t3:=Tryz.underlying3
 a3:=Tryz.isAgg3
 z3:=Tryz.sizeOf3
 v3:=Tryz.zeroValue3
 t4:=Tryz.underlying4
 a4:=Tryz.isAgg4
 z4:=Tryz.sizeOf4
 v4:=Tryz.zeroValue4
 t9:=Tryz.underlying9
 a9:=Tryz.isAgg9
 z9:=Tryz.sizeOf9
 v9:=Tryz.zeroValue9
 t24:=Tryz.underlying178
 a24:=Tryz.isAgg178
 z24:=Tryz.sizeOf178
 v24:=Tryz.zeroValue178}
open Go.RowKit in
theorem Tryz.strings_CutPrefix (s p:ByteArray) (w:World):
  Calls Tryz.prog 118 #[.string s, .string p] w fun e w'=>e= .returned (.tuple #[.string ⟨(Lib.trimPrefix s.data.toList p.data.toList).toArray⟩, .bool (Lib.hasPrefix s.data.toList p.data.toList)])/\w'=w:=Any.strings_CutPrefix Tryz.lays103 s p w
def Tryz.afl:Go.Shelf.Ren:=⟨fun | 122=>100 | 215=>155 | n=>n,fun | 3=>3 | 4=>4 | n=>n,fun | n=>n⟩
theorem Tryz.lays122:Go.Proofs.Lays.n122 Tryz.prog Tryz.afl:={
 mixed:=by kernel_rfl
 f122:=Tryz.func100.trans (ab8 some (by kernel_rfl))
 f215:=Tryz.func155.trans (ab8 some (by kernel_rfl))
 t3:=Tryz.underlying3
 a3:=Tryz.isAgg3
 z3:=Tryz.sizeOf3
 v3:=Tryz.zeroValue3
 t4:=Tryz.underlying4
 a4:=Tryz.isAgg4
 z4:=Tryz.sizeOf4
 v4:=Tryz.zeroValue4}
open Go.RowKit in
theorem Tryz.cmp_Compare_int (x y:Int) (w:World):
  Calls Tryz.prog 100 #[.int .i64 x, .int .i64 y] w fun e w'=>e= .returned (.int .i64 (Lib.compareInt x y))/\w'=w:=Any.cmp_Compare_int Tryz.lays122 x y w
def Tryz.afm:Go.Shelf.Ren:=⟨fun | 171=>129 | 243=>181 | 246=>140 | 283=>190 | 284=>191 | 285=>192 | 286=>193 | 129=>175 | 317=>248 | 318=>249 | 319=>250 | 320=>251 | 337=>288 | 338=>174 | n=>n,fun | 3=>3 | 9=>9 | 2=>2 | 4=>4 | 171=>246 | 0=>0 | 53=>123 | 37=>55 | 5=>5 | 173=>248 | 212=>287 | 51=>262 | 20=>20 | 213=>288 | 46=>189 | 232=>327 | 233=>276 | n=>n,fun | 17=>2 | 18=>7 | 19=>0 | n=>n⟩
theorem Tryz.laysM171:Go.Proofs.LaysM.n171 Tryz.prog Tryz.afm:={
 mixed:=by kernel_rfl
 f129:=Tryz.func175.trans (ab8 some (by kernel_rfl))
 f171:=Tryz.func129.trans (ab8 some (by kernel_rfl))
 f243:=Tryz.func181.trans (ab8 some (by kernel_rfl))
 f246:=Tryz.func140.trans (ab8 some (by kernel_rfl))
 f283:=Tryz.func190.trans (ab8 some (by kernel_rfl))
 f284:=Tryz.func191.trans (ab8 some (by kernel_rfl))
 f285:=Tryz.func192.trans (ab8 some (by kernel_rfl))
 f286:=Tryz.func193.trans (ab8 some (by kernel_rfl))
 f317:=Tryz.func248.trans (ab8 some (by kernel_rfl))
 f318:=Tryz.func249.trans (ab8 some (by kernel_rfl))
 f319:=Tryz.func250.trans (ab8 some (by kernel_rfl))
 f320:=Tryz.func251.trans (ab8 some (by kernel_rfl))
 f337:=Tryz.func288.trans (ab8 some (by kernel_rfl))
 f338:=Tryz.func174.trans (ab8 some (by kernel_rfl))
 t0:=Tryz.underlying0
 a0:=Tryz.isAgg0
 z0:=Tryz.sizeOf0
 v0:=Tryz.zeroValue0
 t2:=Tryz.underlying2
 a2:=Tryz.isAgg2
 z2:=Tryz.sizeOf2
 v2:=Tryz.zeroValue2
 t3:=Tryz.underlying3
 a3:=Tryz.isAgg3
 z3:=Tryz.sizeOf3
 v3:=Tryz.zeroValue3
 t4:=Tryz.underlying4
 a4:=Tryz.isAgg4
 z4:=Tryz.sizeOf4
 v4:=Tryz.zeroValue4
 t5:=Tryz.underlying5
 a5:=Tryz.isAgg5
 z5:=Tryz.sizeOf5
 v5:=Tryz.zeroValue5
 t9:=Tryz.underlying9
 a9:=Tryz.isAgg9
 z9:=Tryz.sizeOf9
 v9:=Tryz.zeroValue9
 t20:=Tryz.underlying20
 a20:=Tryz.isAgg20
 z20:=Tryz.sizeOf20
 v20:=Tryz.zeroValue20
 t37:=Tryz.underlying55
 a37:=Tryz.isAgg55
 z37:=Tryz.sizeOf55
 v37:=Tryz.zeroValue55
 t46:=Tryz.underlying189
 a46:=Tryz.isAgg189
 z46:=Tryz.sizeOf189
 v46:=Tryz.zeroValue189
 t51:=Tryz.underlying262
 a51:=Tryz.isAgg262
 z51:=Tryz.sizeOf262
 v51:=Tryz.zeroValue262
 t53:=Tryz.underlying123
 a53:=Tryz.isAgg123
 z53:=Tryz.sizeOf123
 v53:=Tryz.zeroValue123
 t171:=Tryz.underlying246
 a171:=Tryz.isAgg246
 z171:=Tryz.sizeOf246
 v171:=Tryz.zeroValue246
 t173:=Tryz.underlying248
 a173:=Tryz.isAgg248
 z173:=Tryz.sizeOf248
 v173:=Tryz.zeroValue248
 t212:=Tryz.underlying287
 a212:=Tryz.isAgg287
 z212:=Tryz.sizeOf287
 v212:=Tryz.zeroValue287
 t213:=Tryz.underlying288
 a213:=Tryz.isAgg288
 z213:=Tryz.sizeOf288
 t232:=Tryz.underlying327
 a232:=Tryz.isAgg327
 z232:=Tryz.sizeOf327
 v232:=Tryz.zeroValue327
 t233:=Tryz.underlying276
 a233:=Tryz.isAgg276
 z233:=Tryz.sizeOf276
 v233:=Tryz.zeroValue276
 g17:=by kernel_rfl
 g18:=by kernel_rfl
 g19:=by kernel_rfl
 i0:=by kernel_rfl
 i2:=by kernel_rfl
 i3:=by kernel_rfl
 i4:=by kernel_rfl
 i5:=by kernel_rfl
 i9:=by kernel_rfl
 i20:=by kernel_rfl
 i37:=by kernel_rfl
 i46:=by kernel_rfl
 i51:=by kernel_rfl
 i53:=by kernel_rfl
 i171:=by kernel_rfl
 i173:=by kernel_rfl
 i212:=by kernel_rfl
 i232:=by kernel_rfl
 i233:=by kernel_rfl
 m17:=by kernel_rfl
 m18:=by kernel_rfl
 m19:=by kernel_rfl}
open Go.RowKit Go.Sort Go.Lib in
theorem Tryz.strconv_Itoa (n:Int) (h0: -9223372036854775808<=n) (h1:n<=9223372036854775807) (w:World) (htab:Lib.TabIs Tryz.prog w "internal/strconv.uint64pow10" .u64 Lib.pow10Tab):
  Calls Tryz.prog 129 #[.int .i64 n] w fun e w'=>e= .returned (.string ⟨(Lib.itoa n).toArray⟩)/\ ∃k os,w'=grow (w.drewN k) os:=Any.strconv_Itoa Tryz.laysM171 n h0 h1 w htab
def Tryz.afn:Go.Shelf.Ren:=⟨fun | 173=>81 | 246=>140 | 283=>190 | 284=>191 | 285=>192 | 286=>193 | 129=>175 | 317=>248 | 318=>249 | 319=>250 | 320=>251 | 337=>288 | 338=>174 | n=>n,fun | 2=>2 | 3=>3 | 9=>9 | 4=>4 | 171=>246 | 0=>0 | 53=>123 | 37=>55 | 5=>5 | 173=>248 | 212=>287 | 51=>262 | 20=>20 | 213=>288 | 46=>189 | 232=>327 | 233=>276 | n=>n,fun | 17=>2 | 18=>7 | 19=>0 | n=>n⟩
theorem Tryz.laysM173:Go.Proofs.LaysM.n173 Tryz.prog Tryz.afn:={
 mixed:=by kernel_rfl
 f129:=Tryz.func175.trans (ab8 some (by kernel_rfl))
 f173:=Tryz.func81.trans (ab8 some (by kernel_rfl))
 f246:=Tryz.func140.trans (ab8 some (by kernel_rfl))
 f283:=Tryz.func190.trans (ab8 some (by kernel_rfl))
 f284:=Tryz.func191.trans (ab8 some (by kernel_rfl))
 f285:=Tryz.func192.trans (ab8 some (by kernel_rfl))
 f286:=Tryz.func193.trans (ab8 some (by kernel_rfl))
 f317:=Tryz.func248.trans (ab8 some (by kernel_rfl))
 f318:=Tryz.func249.trans (ab8 some (by kernel_rfl))
 f319:=Tryz.func250.trans (ab8 some (by kernel_rfl))
 f320:=Tryz.func251.trans (ab8 some (by kernel_rfl))
 f337:=Tryz.func288.trans (ab8 some (by kernel_rfl))
 f338:=Tryz.func174.trans (ab8 some (by kernel_rfl))
 t0:=Tryz.underlying0
 a0:=Tryz.isAgg0
 z0:=Tryz.sizeOf0
 v0:=Tryz.zeroValue0
 t2:=Tryz.underlying2
 a2:=Tryz.isAgg2
 z2:=Tryz.sizeOf2
 v2:=Tryz.zeroValue2
 t3:=Tryz.underlying3
 a3:=Tryz.isAgg3
 z3:=Tryz.sizeOf3
 v3:=Tryz.zeroValue3
 t4:=Tryz.underlying4
 a4:=Tryz.isAgg4
 z4:=Tryz.sizeOf4
 v4:=Tryz.zeroValue4
 t5:=Tryz.underlying5
 a5:=Tryz.isAgg5
 z5:=Tryz.sizeOf5
 v5:=Tryz.zeroValue5
 t9:=Tryz.underlying9
 a9:=Tryz.isAgg9
 z9:=Tryz.sizeOf9
 v9:=Tryz.zeroValue9
 t20:=Tryz.underlying20
 a20:=Tryz.isAgg20
 z20:=Tryz.sizeOf20
 v20:=Tryz.zeroValue20
 t37:=Tryz.underlying55
 a37:=Tryz.isAgg55
 z37:=Tryz.sizeOf55
 v37:=Tryz.zeroValue55
 t46:=Tryz.underlying189
 a46:=Tryz.isAgg189
 z46:=Tryz.sizeOf189
 v46:=Tryz.zeroValue189
 t51:=Tryz.underlying262
 a51:=Tryz.isAgg262
 z51:=Tryz.sizeOf262
 v51:=Tryz.zeroValue262
 t53:=Tryz.underlying123
 a53:=Tryz.isAgg123
 z53:=Tryz.sizeOf123
 v53:=Tryz.zeroValue123
 t171:=Tryz.underlying246
 a171:=Tryz.isAgg246
 z171:=Tryz.sizeOf246
 v171:=Tryz.zeroValue246
 t173:=Tryz.underlying248
 a173:=Tryz.isAgg248
 z173:=Tryz.sizeOf248
 v173:=Tryz.zeroValue248
 t212:=Tryz.underlying287
 a212:=Tryz.isAgg287
 z212:=Tryz.sizeOf287
 v212:=Tryz.zeroValue287
 t213:=Tryz.underlying288
 a213:=Tryz.isAgg288
 z213:=Tryz.sizeOf288
 t232:=Tryz.underlying327
 a232:=Tryz.isAgg327
 z232:=Tryz.sizeOf327
 v232:=Tryz.zeroValue327
 t233:=Tryz.underlying276
 a233:=Tryz.isAgg276
 z233:=Tryz.sizeOf276
 v233:=Tryz.zeroValue276
 g17:=by kernel_rfl
 g18:=by kernel_rfl
 g19:=by kernel_rfl
 i0:=by kernel_rfl
 i2:=by kernel_rfl
 i3:=by kernel_rfl
 i4:=by kernel_rfl
 i5:=by kernel_rfl
 i9:=by kernel_rfl
 i20:=by kernel_rfl
 i37:=by kernel_rfl
 i46:=by kernel_rfl
 i51:=by kernel_rfl
 i53:=by kernel_rfl
 i171:=by kernel_rfl
 i173:=by kernel_rfl
 i212:=by kernel_rfl
 i232:=by kernel_rfl
 i233:=by kernel_rfl
 m17:=by kernel_rfl
 m18:=by kernel_rfl
 m19:=by kernel_rfl}
open Go.RowKit Go.Sort Go.Lib in
theorem Tryz.strconv_FormatInt_10 (n:Int) (h0: -9223372036854775808<=n) (h1:n<=9223372036854775807) (w:World) (htab:Lib.TabIs Tryz.prog w "internal/strconv.uint64pow10" .u64 Lib.pow10Tab):
  Calls Tryz.prog 81 #[.int .i64 n, .int .i64 10] w fun e w'=>e= .returned (.string ⟨(Lib.itoa n).toArray⟩)/\ ∃k os,w'=grow (w.drewN k) os:=Any.strconv_FormatInt_10 Tryz.laysM173 n h0 h1 w htab
def Tryz.afo:Go.Shelf.Ren:=⟨fun | 172=>236 | 244=>282 | 245=>232 | 247=>231 | 279=>277 | 280=>278 | 281=>279 | 282=>280 | 287=>276 | 316=>297 | 171=>129 | 205=>298 | 321=>295 | 322=>296 | 243=>181 | 246=>140 | 283=>190 | 284=>191 | 285=>192 | 286=>193 | 129=>175 | 317=>248 | 318=>249 | 319=>250 | 320=>251 | 337=>288 | 338=>174 | n=>n,fun | 9=>9 | 3=>3 | 75=>72 | 76=>74 | 4=>4 | 5=>5 | 167=>304 | 37=>55 | 0=>0 | 85=>228 | 2=>2 | 168=>307 | 53=>123 | 175=>305 | 46=>189 | 210=>325 | 127=>128 | 145=>330 | 143=>328 | 21=>21 | 171=>246 | 173=>248 | 212=>287 | 51=>262 | 20=>20 | 213=>288 | 232=>327 | 233=>276 | 80=>78 | n=>n,fun | 15=>5 | 16=>6 | 17=>2 | 18=>7 | 19=>0 | n=>n⟩
theorem Tryz.laysC172:Go.Proofs.LaysC.n172 Tryz.prog Tryz.afo:={
 mixed:=by kernel_rfl
 f129:=Tryz.func175.trans (ab8 some (by kernel_rfl))
 f171:=Tryz.func129.trans (ab8 some (by kernel_rfl))
 f172:=Tryz.func236.trans (ab8 some (by kernel_rfl))
 f205:=Tryz.func298.trans (ab8 some (by kernel_rfl))
 f243:=Tryz.func181.trans (ab8 some (by kernel_rfl))
 f244:=Tryz.func282.trans (ab8 some (by kernel_rfl))
 f245:=Tryz.func232.trans (ab8 some (by kernel_rfl))
 f246:=Tryz.func140.trans (ab8 some (by kernel_rfl))
 f247:=Tryz.func231.trans (ab8 some (by kernel_rfl))
 f279:=Tryz.func277.trans (ab8 some (by kernel_rfl))
 f280:=Tryz.func278.trans (ab8 some (by kernel_rfl))
 f281:=Tryz.func279.trans (ab8 some (by kernel_rfl))
 f282:=Tryz.func280.trans (ab8 some (by kernel_rfl))
 f283:=Tryz.func190.trans (ab8 some (by kernel_rfl))
 f284:=Tryz.func191.trans (ab8 some (by kernel_rfl))
 f285:=Tryz.func192.trans (ab8 some (by kernel_rfl))
 f286:=Tryz.func193.trans (ab8 some (by kernel_rfl))
 f287:=Tryz.func276.trans (ab8 some (by kernel_rfl))
 f316:=Tryz.func297.trans (ab8 some (by kernel_rfl))
 f317:=Tryz.func248.trans (ab8 some (by kernel_rfl))
 f318:=Tryz.func249.trans (ab8 some (by kernel_rfl))
 f319:=Tryz.func250.trans (ab8 some (by kernel_rfl))
 f320:=Tryz.func251.trans (ab8 some (by kernel_rfl))
 f321:=Tryz.func295.trans (ab8 some (by kernel_rfl))
 f322:=Tryz.func296.trans (ab8 some (by kernel_rfl))
 f337:=Tryz.func288.trans (ab8 some (by kernel_rfl))
 f338:=Tryz.func174.trans (ab8 some (by kernel_rfl))
 t0:=Tryz.underlying0
 a0:=Tryz.isAgg0
 z0:=Tryz.sizeOf0
 v0:=Tryz.zeroValue0
 t2:=Tryz.underlying2
 a2:=Tryz.isAgg2
 z2:=Tryz.sizeOf2
 v2:=Tryz.zeroValue2
 t3:=Tryz.underlying3
 a3:=Tryz.isAgg3
 z3:=Tryz.sizeOf3
 v3:=Tryz.zeroValue3
 t4:=Tryz.underlying4
 a4:=Tryz.isAgg4
 z4:=Tryz.sizeOf4
 v4:=Tryz.zeroValue4
 t5:=Tryz.underlying5
 a5:=Tryz.isAgg5
 z5:=Tryz.sizeOf5
 v5:=Tryz.zeroValue5
 t9:=Tryz.underlying9
 a9:=Tryz.isAgg9
 z9:=Tryz.sizeOf9
 v9:=Tryz.zeroValue9
 t20:=Tryz.underlying20
 a20:=Tryz.isAgg20
 z20:=Tryz.sizeOf20
 v20:=Tryz.zeroValue20
 t21:=Tryz.underlying21
 a21:=Tryz.isAgg21
 z21:=Tryz.sizeOf21
 v21:=Tryz.zeroValue21
 t37:=Tryz.underlying55
 a37:=Tryz.isAgg55
 z37:=Tryz.sizeOf55
 v37:=Tryz.zeroValue55
 t46:=Tryz.underlying189
 a46:=Tryz.isAgg189
 z46:=Tryz.sizeOf189
 v46:=Tryz.zeroValue189
 t51:=Tryz.underlying262
 a51:=Tryz.isAgg262
 z51:=Tryz.sizeOf262
 v51:=Tryz.zeroValue262
 t53:=Tryz.underlying123
 a53:=Tryz.isAgg123
 z53:=Tryz.sizeOf123
 v53:=Tryz.zeroValue123
 t75:=Tryz.underlying72
 a75:=Tryz.isAgg72
 z75:=Tryz.sizeOf72
 v75:=Tryz.zeroValue72
 t76:=Tryz.underlying74
 a76:=Tryz.isAgg74
 z76:=Tryz.sizeOf74
 v76:=Tryz.zeroValue74
 t85:=Tryz.underlying228
 a85:=Tryz.isAgg228
 z85:=Tryz.sizeOf228
 v85:=Tryz.zeroValue228
 t127:=Tryz.underlying128
 a127:=Tryz.isAgg128
 z127:=Tryz.sizeOf128
 v127:=Tryz.zeroValue128
 t143:=Tryz.underlying328
 a143:=Tryz.isAgg328
 z143:=Tryz.sizeOf328
 v143:=Tryz.zeroValue328
 t145:=Tryz.underlying330
 a145:=Tryz.isAgg330
 z145:=Tryz.sizeOf330
 v145:=Tryz.zeroValue330
 t167:=Tryz.underlying304
 a167:=Tryz.isAgg304
 z167:=Tryz.sizeOf304
 v167:=Tryz.zeroValue304
 t168:=Tryz.underlying307
 a168:=Tryz.isAgg307
 z168:=Tryz.sizeOf307
 v168:=Tryz.zeroValue307
 t171:=Tryz.underlying246
 a171:=Tryz.isAgg246
 z171:=Tryz.sizeOf246
 v171:=Tryz.zeroValue246
 t173:=Tryz.underlying248
 a173:=Tryz.isAgg248
 z173:=Tryz.sizeOf248
 v173:=Tryz.zeroValue248
 t175:=Tryz.underlying305
 a175:=Tryz.isAgg305
 z175:=Tryz.sizeOf305
 v175:=Tryz.zeroValue305
 t210:=Tryz.underlying325
 a210:=Tryz.isAgg325
 z210:=Tryz.sizeOf325
 v210:=Tryz.zeroValue325
 t212:=Tryz.underlying287
 a212:=Tryz.isAgg287
 z212:=Tryz.sizeOf287
 v212:=Tryz.zeroValue287
 t213:=Tryz.underlying288
 a213:=Tryz.isAgg288
 z213:=Tryz.sizeOf288
 t232:=Tryz.underlying327
 a232:=Tryz.isAgg327
 z232:=Tryz.sizeOf327
 v232:=Tryz.zeroValue327
 t233:=Tryz.underlying276
 a233:=Tryz.isAgg276
 z233:=Tryz.sizeOf276
 v233:=Tryz.zeroValue276
 g15:=by kernel_rfl
 g16:=by kernel_rfl
 g17:=by kernel_rfl
 g18:=by kernel_rfl
 g19:=by kernel_rfl
 t80:=Tryz.underlying78
 a80:=Tryz.isAgg78
 z80:=Tryz.sizeOf78
 v80:=Tryz.zeroValue78
 i0:=by kernel_rfl
 i2:=by kernel_rfl
 i3:=by kernel_rfl
 i4:=by kernel_rfl
 i5:=by kernel_rfl
 i9:=by kernel_rfl
 i20:=by kernel_rfl
 i21:=by kernel_rfl
 i37:=by kernel_rfl
 i46:=by kernel_rfl
 i51:=by kernel_rfl
 i53:=by kernel_rfl
 i75:=by kernel_rfl
 i76:=by kernel_rfl
 i80:=by kernel_rfl
 i85:=by kernel_rfl
 i127:=by kernel_rfl
 i143:=by kernel_rfl
 i145:=by kernel_rfl
 i167:=by kernel_rfl
 i168:=by kernel_rfl
 i171:=by kernel_rfl
 i173:=by kernel_rfl
 i175:=by kernel_rfl
 i210:=by kernel_rfl
 i212:=by kernel_rfl
 i232:=by kernel_rfl
 i233:=by kernel_rfl
 m15:=by kernel_rfl
 m16:=by kernel_rfl
 m17:=by kernel_rfl
 m18:=by kernel_rfl
 m19:=by kernel_rfl
 c0:=by kernel_rfl
 c2:=by kernel_rfl
 c3:=by kernel_rfl
 c4:=by kernel_rfl
 c5:=by kernel_rfl
 c9:=by kernel_rfl
 c20:=by kernel_rfl
 c21:=by kernel_rfl
 c37:=by kernel_rfl
 c46:=by kernel_rfl
 c51:=by kernel_rfl
 c53:=by kernel_rfl
 c75:=by kernel_rfl
 c76:=by kernel_rfl
 c80:=by kernel_rfl
 c85:=by kernel_rfl
 c127:=by kernel_rfl
 c143:=by kernel_rfl
 c145:=by kernel_rfl
 c167:=by kernel_rfl
 c168:=by kernel_rfl
 c171:=by kernel_rfl
 c173:=by kernel_rfl
 c175:=by kernel_rfl
 c210:=by kernel_rfl
 c212:=by kernel_rfl
 c213:=by kernel_rfl
 c232:=by kernel_rfl
 c233:=by kernel_rfl}
open Go.RowKit in
theorem Tryz.strconv_Atoi_ok (s:ByteArray) (hmax:s.size<=9223372036854775806) (v:Int) (h:Lib.atoiAll s.data.toList= .ok v) (w:World):
  Calls Tryz.prog 236 #[.string s] w fun e w'=>e= .returned (.tuple #[.int .i64 v, .nilIface])/\(w'=w\/ ∃t,w'=Lib.bytesWorld w 5 t):=Any.strconv_Atoi_ok Tryz.laysC172 s hmax v h w
def Tryz.afp:Go.Shelf.Ren:=⟨fun | 174=>170 | 247=>231 | 245=>232 | 287=>276 | 279=>277 | 280=>278 | 281=>279 | 282=>280 | 321=>295 | 322=>296 | 316=>297 | 171=>129 | 205=>298 | 243=>181 | 246=>140 | 283=>190 | 284=>191 | 285=>192 | 286=>193 | 129=>175 | 317=>248 | 318=>249 | 319=>250 | 320=>251 | 337=>288 | 338=>174 | n=>n,fun | 9=>9 | 3=>3 | 2=>2 | 75=>72 | 85=>228 | 4=>4 | 167=>304 | 5=>5 | 53=>123 | 175=>305 | 46=>189 | 168=>307 | 37=>55 | 0=>0 | 210=>325 | 21=>21 | 127=>128 | 145=>330 | 143=>328 | 171=>246 | 173=>248 | 212=>287 | 51=>262 | 20=>20 | 213=>288 | 232=>327 | 233=>276 | 80=>78 | n=>n,fun | 15=>5 | 16=>6 | 17=>2 | 18=>7 | 19=>0 | n=>n⟩
theorem Tryz.laysC174:Go.Proofs.LaysC.n174 Tryz.prog Tryz.afp:={
 mixed:=by kernel_rfl
 f129:=Tryz.func175.trans (ab8 some (by kernel_rfl))
 f171:=Tryz.func129.trans (ab8 some (by kernel_rfl))
 f174:=Tryz.func170.trans (ab8 some (by kernel_rfl))
 f205:=Tryz.func298.trans (ab8 some (by kernel_rfl))
 f243:=Tryz.func181.trans (ab8 some (by kernel_rfl))
 f245:=Tryz.func232.trans (ab8 some (by kernel_rfl))
 f246:=Tryz.func140.trans (ab8 some (by kernel_rfl))
 f247:=Tryz.func231.trans (ab8 some (by kernel_rfl))
 f279:=Tryz.func277.trans (ab8 some (by kernel_rfl))
 f280:=Tryz.func278.trans (ab8 some (by kernel_rfl))
 f281:=Tryz.func279.trans (ab8 some (by kernel_rfl))
 f282:=Tryz.func280.trans (ab8 some (by kernel_rfl))
 f283:=Tryz.func190.trans (ab8 some (by kernel_rfl))
 f284:=Tryz.func191.trans (ab8 some (by kernel_rfl))
 f285:=Tryz.func192.trans (ab8 some (by kernel_rfl))
 f286:=Tryz.func193.trans (ab8 some (by kernel_rfl))
 f287:=Tryz.func276.trans (ab8 some (by kernel_rfl))
 f316:=Tryz.func297.trans (ab8 some (by kernel_rfl))
 f317:=Tryz.func248.trans (ab8 some (by kernel_rfl))
 f318:=Tryz.func249.trans (ab8 some (by kernel_rfl))
 f319:=Tryz.func250.trans (ab8 some (by kernel_rfl))
 f320:=Tryz.func251.trans (ab8 some (by kernel_rfl))
 f321:=Tryz.func295.trans (ab8 some (by kernel_rfl))
 f322:=Tryz.func296.trans (ab8 some (by kernel_rfl))
 f337:=Tryz.func288.trans (ab8 some (by kernel_rfl))
 f338:=Tryz.func174.trans (ab8 some (by kernel_rfl))
 t0:=Tryz.underlying0
 a0:=Tryz.isAgg0
 z0:=Tryz.sizeOf0
 v0:=Tryz.zeroValue0
 t2:=Tryz.underlying2
 a2:=Tryz.isAgg2
 z2:=Tryz.sizeOf2
 v2:=Tryz.zeroValue2
 t3:=Tryz.underlying3
 a3:=Tryz.isAgg3
 z3:=Tryz.sizeOf3
 v3:=Tryz.zeroValue3
 t4:=Tryz.underlying4
 a4:=Tryz.isAgg4
 z4:=Tryz.sizeOf4
 v4:=Tryz.zeroValue4
 t5:=Tryz.underlying5
 a5:=Tryz.isAgg5
 z5:=Tryz.sizeOf5
 v5:=Tryz.zeroValue5
 t9:=Tryz.underlying9
 a9:=Tryz.isAgg9
 z9:=Tryz.sizeOf9
 v9:=Tryz.zeroValue9
 t20:=Tryz.underlying20
 a20:=Tryz.isAgg20
 z20:=Tryz.sizeOf20
 v20:=Tryz.zeroValue20
 t21:=Tryz.underlying21
 a21:=Tryz.isAgg21
 z21:=Tryz.sizeOf21
 v21:=Tryz.zeroValue21
 t37:=Tryz.underlying55
 a37:=Tryz.isAgg55
 z37:=Tryz.sizeOf55
 v37:=Tryz.zeroValue55
 t46:=Tryz.underlying189
 a46:=Tryz.isAgg189
 z46:=Tryz.sizeOf189
 v46:=Tryz.zeroValue189
 t51:=Tryz.underlying262
 a51:=Tryz.isAgg262
 z51:=Tryz.sizeOf262
 v51:=Tryz.zeroValue262
 t53:=Tryz.underlying123
 a53:=Tryz.isAgg123
 z53:=Tryz.sizeOf123
 v53:=Tryz.zeroValue123
 t75:=Tryz.underlying72
 a75:=Tryz.isAgg72
 z75:=Tryz.sizeOf72
 v75:=Tryz.zeroValue72
 t85:=Tryz.underlying228
 a85:=Tryz.isAgg228
 z85:=Tryz.sizeOf228
 v85:=Tryz.zeroValue228
 t127:=Tryz.underlying128
 a127:=Tryz.isAgg128
 z127:=Tryz.sizeOf128
 v127:=Tryz.zeroValue128
 t143:=Tryz.underlying328
 a143:=Tryz.isAgg328
 z143:=Tryz.sizeOf328
 v143:=Tryz.zeroValue328
 t145:=Tryz.underlying330
 a145:=Tryz.isAgg330
 z145:=Tryz.sizeOf330
 v145:=Tryz.zeroValue330
 t167:=Tryz.underlying304
 a167:=Tryz.isAgg304
 z167:=Tryz.sizeOf304
 v167:=Tryz.zeroValue304
 t168:=Tryz.underlying307
 a168:=Tryz.isAgg307
 z168:=Tryz.sizeOf307
 v168:=Tryz.zeroValue307
 t171:=Tryz.underlying246
 a171:=Tryz.isAgg246
 z171:=Tryz.sizeOf246
 v171:=Tryz.zeroValue246
 t173:=Tryz.underlying248
 a173:=Tryz.isAgg248
 z173:=Tryz.sizeOf248
 v173:=Tryz.zeroValue248
 t175:=Tryz.underlying305
 a175:=Tryz.isAgg305
 z175:=Tryz.sizeOf305
 v175:=Tryz.zeroValue305
 t210:=Tryz.underlying325
 a210:=Tryz.isAgg325
 z210:=Tryz.sizeOf325
 v210:=Tryz.zeroValue325
 t212:=Tryz.underlying287
 a212:=Tryz.isAgg287
 z212:=Tryz.sizeOf287
 v212:=Tryz.zeroValue287
 t213:=Tryz.underlying288
 a213:=Tryz.isAgg288
 z213:=Tryz.sizeOf288
 t232:=Tryz.underlying327
 a232:=Tryz.isAgg327
 z232:=Tryz.sizeOf327
 v232:=Tryz.zeroValue327
 t233:=Tryz.underlying276
 a233:=Tryz.isAgg276
 z233:=Tryz.sizeOf276
 v233:=Tryz.zeroValue276
 g15:=by kernel_rfl
 g16:=by kernel_rfl
 g17:=by kernel_rfl
 g18:=by kernel_rfl
 g19:=by kernel_rfl
 t80:=Tryz.underlying78
 a80:=Tryz.isAgg78
 z80:=Tryz.sizeOf78
 v80:=Tryz.zeroValue78
 i0:=by kernel_rfl
 i2:=by kernel_rfl
 i3:=by kernel_rfl
 i4:=by kernel_rfl
 i5:=by kernel_rfl
 i9:=by kernel_rfl
 i20:=by kernel_rfl
 i21:=by kernel_rfl
 i37:=by kernel_rfl
 i46:=by kernel_rfl
 i51:=by kernel_rfl
 i53:=by kernel_rfl
 i75:=by kernel_rfl
 i80:=by kernel_rfl
 i85:=by kernel_rfl
 i127:=by kernel_rfl
 i143:=by kernel_rfl
 i145:=by kernel_rfl
 i167:=by kernel_rfl
 i168:=by kernel_rfl
 i171:=by kernel_rfl
 i173:=by kernel_rfl
 i175:=by kernel_rfl
 i210:=by kernel_rfl
 i212:=by kernel_rfl
 i232:=by kernel_rfl
 i233:=by kernel_rfl
 m15:=by kernel_rfl
 m16:=by kernel_rfl
 m17:=by kernel_rfl
 m18:=by kernel_rfl
 m19:=by kernel_rfl
 c0:=by kernel_rfl
 c2:=by kernel_rfl
 c3:=by kernel_rfl
 c4:=by kernel_rfl
 c5:=by kernel_rfl
 c9:=by kernel_rfl
 c20:=by kernel_rfl
 c21:=by kernel_rfl
 c37:=by kernel_rfl
 c46:=by kernel_rfl
 c51:=by kernel_rfl
 c53:=by kernel_rfl
 c75:=by kernel_rfl
 c80:=by kernel_rfl
 c85:=by kernel_rfl
 c127:=by kernel_rfl
 c143:=by kernel_rfl
 c145:=by kernel_rfl
 c167:=by kernel_rfl
 c168:=by kernel_rfl
 c171:=by kernel_rfl
 c173:=by kernel_rfl
 c175:=by kernel_rfl
 c210:=by kernel_rfl
 c212:=by kernel_rfl
 c213:=by kernel_rfl
 c232:=by kernel_rfl
 c233:=by kernel_rfl}
open Go.RowKit in
theorem Tryz.strconv_ParseInt_10_at64_ok (s:ByteArray) (hmax:s.size<=9223372036854775806) (v:Int) (h:Lib.parseIntB 64 s.data.toList= .ok v) (w:World):
  Calls Tryz.prog 170 #[.string s, .int .i64 10, .int .i64 64] w fun e w'=>e= .returned (.tuple #[.int .i64 v, .nilIface])/\(w'=w\/ ∃t,w'=Lib.bytesWorld w 5 t):=Any.strconv_ParseInt_10_at64_ok Tryz.laysC174 s hmax v h w
open Go.RowKit in
theorem Tryz.strconv_ParseInt_10_at64_range_var (s:ByteArray) (hlim:s.size<=281474976710656) (h:Lib.parseIntB 64 s.data.toList= .range) (tp:TypeId) (p:Value) (w:World) (hvar:w.var? Tryz.prog "strconv.ErrRange" =some #[.iface tp p]):
  Calls Tryz.prog 170 #[.string s, .int .i64 10, .int .i64 64] w fun e w'=> ∃N,e= .returned (.tuple #[.int .i64 (Lib.intSat 64 s.data.toList), .iface 307 (.pointer (some ⟨N,0,none⟩))])/\w.heap.size<=N/\w'.heap[N]?=some (.cells #[.string ⟨#[80,97,114,115,101,73,110,116]⟩, .string s, .iface tp p] 325 (0,0))/\Below w.heap.size w w':=Any.strconv_ParseInt_10_at64_range_var Tryz.laysC174 s hlim h tp p w hvar
def Tryz.afq:Go.Shelf.Ren:=⟨fun | 144=>203 | 143=>183 | 219=>229 | 217=>166 | 225=>272 | 224=>273 | 267=>274 | 266=>227 | 314=>294 | n=>n,fun | 9=>9 | 4=>4 | 3=>3 | 5=>5 | 46=>189 | 146=>321 | 51=>262 | n=>n,fun | 1=>1 | n=>n⟩
theorem Tryz.lays144:Go.Proofs.Lays.n144 Tryz.prog Tryz.afq:={
 mixed:=by kernel_rfl
 f143:=Tryz.func183.trans (ab8 some (by kernel_rfl))
 f144:=Tryz.func203.trans (ab8 some (by kernel_rfl))
 f217:=Tryz.func166.trans (ab8 some (by kernel_rfl))
 f219:=Tryz.func229.trans (ab8 some (by kernel_rfl))
 f224:=Tryz.func273.trans (ab8 some (by kernel_rfl))
 f225:=Tryz.func272.trans (ab8 some (by kernel_rfl))
 f266:=Tryz.func227.trans (ab8 some (by kernel_rfl))
 f267:=Tryz.func274.trans (ab8 some (by kernel_rfl))
 f314:=Tryz.func294.trans (ab8 some (by kernel_rfl))
 t3:=Tryz.underlying3
 a3:=Tryz.isAgg3
 z3:=Tryz.sizeOf3
 v3:=Tryz.zeroValue3
 t4:=Tryz.underlying4
 a4:=Tryz.isAgg4
 z4:=Tryz.sizeOf4
 v4:=Tryz.zeroValue4
 t5:=Tryz.underlying5
 a5:=Tryz.isAgg5
 z5:=Tryz.sizeOf5
 v5:=Tryz.zeroValue5
 t9:=Tryz.underlying9
 a9:=Tryz.isAgg9
 z9:=Tryz.sizeOf9
 v9:=Tryz.zeroValue9
 t46:=Tryz.underlying189
 a46:=Tryz.isAgg189
 z46:=Tryz.sizeOf189
 v46:=Tryz.zeroValue189
 t51:=Tryz.underlying262
 a51:=Tryz.isAgg262
 z51:=Tryz.sizeOf262
 v51:=Tryz.zeroValue262
 t146:=Tryz.underlying321
 a146:=Tryz.isAgg321
 z146:=Tryz.sizeOf321
 v146:=Tryz.zeroValue321
 g1:=by kernel_rfl}
open Go.RowKit Go.Lib in
theorem Tryz.strings_Contains (s sub:ByteArray) (m:Int) (w:World) (hs:s.size<4294967281) (hm:w.cell? ⟨1,0,none⟩=some (.int .i64 m)):
  Calls Tryz.prog 203 #[.string s, .string sub] w fun e w'=>e= .returned (.bool (Lib.contains s.data.toList sub.data.toList))/\w'=w:=Any.strings_Contains Tryz.lays144 s sub m w hs hm
def Tryz.afr:Go.Shelf.Ren:=⟨fun | 190=>96 | 125=>148 | 258=>147 | 128=>215 | 129=>175 | 302=>206 | 303=>207 | 304=>208 | 305=>209 | 306=>210 | 307=>211 | 308=>212 | 309=>213 | 310=>214 | 333=>256 | 329=>257 | 330=>258 | 334=>259 | 335=>260 | 336=>261 | 344=>289 | n=>n,fun | 31=>23 | 9=>9 | 3=>3 | 46=>189 | 0=>0 | 51=>262 | 53=>123 | 4=>4 | 183=>256 | 182=>255 | 131=>148 | 5=>5 | 218=>293 | 222=>297 | 228=>319 | 229=>50 | n=>n,fun | n=>n⟩
theorem Tryz.lays190:Go.Proofs.Lays.n190 Tryz.prog Tryz.afr:={
 mixed:=by kernel_rfl
 f125:=Tryz.func148.trans (ab8 some (by kernel_rfl))
 f128:=Tryz.func215.trans (ab8 some (by kernel_rfl))
 f129:=Tryz.func175.trans (ab8 some (by kernel_rfl))
 f190:=Tryz.func96.trans (ab8 some (by kernel_rfl))
 f258:=Tryz.func147.trans (ab8 some (by kernel_rfl))
 f302:=Tryz.func206.trans (ab8 some (by kernel_rfl))
 f303:=Tryz.func207.trans (ab8 some (by kernel_rfl))
 f304:=Tryz.func208.trans (ab8 some (by kernel_rfl))
 f305:=Tryz.func209.trans (ab8 some (by kernel_rfl))
 f306:=Tryz.func210.trans (ab8 some (by kernel_rfl))
 f307:=Tryz.func211.trans (ab8 some (by kernel_rfl))
 f308:=Tryz.func212.trans (ab8 some (by kernel_rfl))
 f309:=Tryz.func213.trans (ab8 some (by kernel_rfl))
 f310:=Tryz.func214.trans (ab8 some (by kernel_rfl))
 f329:=Tryz.func257.trans (ab8 some (by kernel_rfl))
 f330:=Tryz.func258.trans (ab8 some (by kernel_rfl))
 f333:=Tryz.func256.trans (ab8 some (by kernel_rfl))
 f334:=Tryz.func259.trans (ab8 some (by kernel_rfl))
 f335:=Tryz.func260.trans (ab8 some (by kernel_rfl))
 f336:=Tryz.func261.trans (ab8 some (by kernel_rfl))
 f344:=Tryz.func289.trans (ab8 some (by kernel_rfl))
 t0:=Tryz.underlying0
 a0:=Tryz.isAgg0
 z0:=Tryz.sizeOf0
 v0:=Tryz.zeroValue0
 t3:=Tryz.underlying3
 a3:=Tryz.isAgg3
 z3:=Tryz.sizeOf3
 v3:=Tryz.zeroValue3
 t4:=Tryz.underlying4
 a4:=Tryz.isAgg4
 z4:=Tryz.sizeOf4
 v4:=Tryz.zeroValue4
 t5:=Tryz.underlying5
 a5:=Tryz.isAgg5
 z5:=Tryz.sizeOf5
 v5:=Tryz.zeroValue5
 t9:=Tryz.underlying9
 a9:=Tryz.isAgg9
 z9:=Tryz.sizeOf9
 v9:=Tryz.zeroValue9
 t31:=Tryz.underlying23
 a31:=Tryz.isAgg23
 z31:=Tryz.sizeOf23
 v31:=Tryz.zeroValue23
 t46:=Tryz.underlying189
 a46:=Tryz.isAgg189
 z46:=Tryz.sizeOf189
 v46:=Tryz.zeroValue189
 t51:=Tryz.underlying262
 a51:=Tryz.isAgg262
 z51:=Tryz.sizeOf262
 v51:=Tryz.zeroValue262
 t53:=Tryz.underlying123
 a53:=Tryz.isAgg123
 z53:=Tryz.sizeOf123
 v53:=Tryz.zeroValue123
 t131:=Tryz.underlying148
 a131:=Tryz.isAgg148
 z131:=Tryz.sizeOf148
 v131:=Tryz.zeroValue148
 t182:=Tryz.underlying255
 a182:=Tryz.isAgg255
 z182:=Tryz.sizeOf255
 v182:=Tryz.zeroValue255
 t183:=Tryz.underlying256
 a183:=Tryz.isAgg256
 z183:=Tryz.sizeOf256
 v183:=Tryz.zeroValue256
 t218:=Tryz.underlying293
 a218:=Tryz.isAgg293
 z218:=Tryz.sizeOf293
 v218:=Tryz.zeroValue293
 t222:=Tryz.underlying297
 a222:=Tryz.isAgg297
 z222:=Tryz.sizeOf297
 v222:=Tryz.zeroValue297
 t228:=Tryz.underlying319
 a228:=Tryz.isAgg319
 z228:=Tryz.sizeOf319
 v228:=Tryz.zeroValue319
 t229:=Tryz.underlying50
 a229:=Tryz.isAgg50
 z229:=Tryz.sizeOf50
 v229:=Tryz.zeroValue50}
open Go.Sort Go.RowKit in
theorem Tryz.slices_Sort_string (blk off cap:Nat) (ss:List (List UInt8)) (w:World) (hH:Holds encStr w blk off ss.toArray) (hblk:blk<w.heap.size) (hsz:ss.length<4611686018427387904):
  Calls Tryz.prog 96 #[.slice (some ⟨blk,off,none⟩) ss.length cap] w fun e w'=>
   e= .returned (.tuple #[])/\ ∃n os,w'=grow (putRow encStr (Sort.ahead w n) blk off (ss.mergeSort fun x y=>decide (x<=y)).toArray) os:=Any.slices_Sort_string Tryz.lays190 blk off cap ss w hH hblk hsz
def Tryz.lays99_ren:Go.Shelf.Ren:=⟨fun | 99=>196 | 206=>228 | n=>n,fun | 9=>9 | 4=>4 | 3=>3 | n=>n,fun | n=>n⟩
theorem Tryz.lays99:Go.Proofs.Lays.n99 Tryz.prog Tryz.lays99_ren:={
 mixed:=by kernel_rfl
 f99:=Tryz.func196.trans (ab8 some (by kernel_rfl))
 f206:=Tryz.func228.trans (ab8 some (by kernel_rfl))
 t3:=Tryz.underlying3
 a3:=Tryz.isAgg3
 z3:=Tryz.sizeOf3
 v3:=Tryz.zeroValue3
 t4:=Tryz.underlying4
 a4:=Tryz.isAgg4
 z4:=Tryz.sizeOf4
 v4:=Tryz.zeroValue4
 t9:=Tryz.underlying9
 a9:=Tryz.isAgg9
 z9:=Tryz.sizeOf9
 v9:=Tryz.zeroValue9}
open Go.RowKit Go.Lib in
theorem Tryz.strings_HasPrefix (s p:ByteArray) (w:World):
  Calls Tryz.prog 196 #[.string s, .string p] w fun e w'=>e= .returned (.bool (Lib.hasPrefix s.data.toList p.data.toList))/\w'=w:=Any.strings_HasPrefix Tryz.lays99 s p w
def Tryz.lays101_ren:Go.Shelf.Ren:=⟨fun | 101=>230 | 208=>275 | 206=>228 | n=>n,fun | 9=>9 | 4=>4 | 3=>3 | n=>n,fun | n=>n⟩
theorem Tryz.lays101:Go.Proofs.Lays.n101 Tryz.prog Tryz.lays101_ren:={
 mixed:=by kernel_rfl
 f101:=Tryz.func230.trans (ab8 some (by kernel_rfl))
 f206:=Tryz.func228.trans (ab8 some (by kernel_rfl))
 f208:=Tryz.func275.trans (ab8 some (by kernel_rfl))
 t3:=Tryz.underlying3
 a3:=Tryz.isAgg3
 z3:=Tryz.sizeOf3
 v3:=Tryz.zeroValue3
 t4:=Tryz.underlying4
 a4:=Tryz.isAgg4
 z4:=Tryz.sizeOf4
 v4:=Tryz.zeroValue4
 t9:=Tryz.underlying9
 a9:=Tryz.isAgg9
 z9:=Tryz.sizeOf9
 v9:=Tryz.zeroValue9}
open Go.RowKit Go.Lib in
theorem Tryz.strings_TrimPrefix (s p:ByteArray) (w:World):
  Calls Tryz.prog 230 #[.string s, .string p] w fun e w'=>e= .returned (.string ⟨(Lib.trimPrefix s.data.toList p.data.toList).toArray⟩)/\w'=w:=Any.strings_TrimPrefix Tryz.lays101 s p w
def Tryz.lays152_ren:Go.Shelf.Ren:=⟨fun | 152=>233 | 137=>117 | 119=>281 | 224=>273 | 225=>272 | 217=>166 | 266=>227 | n=>n,fun | 9=>9 | 21=>21 | 3=>3 | 4=>4 | 5=>5 | 0=>0 | 46=>189 | n=>n,fun | n=>n⟩
theorem Tryz.lays152:Go.Proofs.Lays.n152 Tryz.prog Tryz.lays152_ren:={
 mixed:=by kernel_rfl
 f119:=Tryz.func281.trans (ab8 some (by kernel_rfl))
 f137:=Tryz.func117.trans (ab8 some (by kernel_rfl))
 f152:=Tryz.func233.trans (ab8 some (by kernel_rfl))
 f217:=Tryz.func166.trans (ab8 some (by kernel_rfl))
 f224:=Tryz.func273.trans (ab8 some (by kernel_rfl))
 f225:=Tryz.func272.trans (ab8 some (by kernel_rfl))
 f266:=Tryz.func227.trans (ab8 some (by kernel_rfl))
 t0:=Tryz.underlying0
 a0:=Tryz.isAgg0
 z0:=Tryz.sizeOf0
 v0:=Tryz.zeroValue0
 t3:=Tryz.underlying3
 a3:=Tryz.isAgg3
 z3:=Tryz.sizeOf3
 v3:=Tryz.zeroValue3
 t4:=Tryz.underlying4
 a4:=Tryz.isAgg4
 z4:=Tryz.sizeOf4
 v4:=Tryz.zeroValue4
 t5:=Tryz.underlying5
 a5:=Tryz.isAgg5
 z5:=Tryz.sizeOf5
 v5:=Tryz.zeroValue5
 t9:=Tryz.underlying9
 a9:=Tryz.isAgg9
 z9:=Tryz.sizeOf9
 v9:=Tryz.zeroValue9
 t21:=Tryz.underlying21
 a21:=Tryz.isAgg21
 z21:=Tryz.sizeOf21
 v21:=Tryz.zeroValue21
 t46:=Tryz.underlying189
 a46:=Tryz.isAgg189
 z46:=Tryz.sizeOf189
 v46:=Tryz.zeroValue189}
open Go.RowKit Go.Lib in
theorem Tryz.strings_IndexRune_ascii (s:ByteArray) (r:Int) (w:World) (h0:0<=r) (h1:r<128):
  Calls Tryz.prog 233 #[.string s, .int .i32 r] w fun e w'=>e= .returned (.int .i64 (Lib.indexByte s.data.toList r.toNat.toUInt8))/\w'=w:=Any.strings_IndexRune_ascii Tryz.lays152 s r w h0 h1
def Tryz.afs:Go.Shelf.Ren:=⟨fun | 226=>234 | n=>n,fun | 3=>3 | 4=>4 | n=>n,fun | n=>n⟩
theorem Tryz.lays226:Go.Proofs.Lays.n226 Tryz.prog Tryz.afs:={
 mixed:=by kernel_rfl
 f226:=Tryz.func234.trans (ab8 some (by kernel_rfl))
 t3:=Tryz.underlying3
 a3:=Tryz.isAgg3
 z3:=Tryz.sizeOf3
 v3:=Tryz.zeroValue3
 t4:=Tryz.underlying4
 a4:=Tryz.isAgg4
 z4:=Tryz.sizeOf4
 v4:=Tryz.zeroValue4}
open Go.RowKit Go.Lib in
theorem Tryz.strings_shouldUseASCIISet (n:Int) (w:World):
  Calls Tryz.prog 234 #[.int .i64 n] w fun e w'=>e= .returned (.bool (decide (8<n)))/\w'=w:=Any.strings_shouldUseASCIISet Tryz.lays226 n w
def Tryz.lays153_ren:Go.Shelf.Ren:=⟨fun | 153=>171 | 152=>233 | 226=>234 | 227=>178 | 228=>235 | 137=>117 | 119=>281 | 224=>273 | 225=>272 | 217=>166 | 266=>227 | n=>n,fun | 9=>9 | 3=>3 | 4=>4 | 5=>5 | 21=>21 | 117=>236 | 116=>235 | 0=>0 | 46=>189 | 124=>239 | n=>n,fun | n=>n⟩
theorem Tryz.lays153:Go.Proofs.Lays.n153 Tryz.prog Tryz.lays153_ren:={
 mixed:=by kernel_rfl
 f119:=Tryz.func281.trans (ab8 some (by kernel_rfl))
 f137:=Tryz.func117.trans (ab8 some (by kernel_rfl))
 f152:=Tryz.func233.trans (ab8 some (by kernel_rfl))
 f153:=Tryz.func171.trans (ab8 some (by kernel_rfl))
 f217:=Tryz.func166.trans (ab8 some (by kernel_rfl))
 f224:=Tryz.func273.trans (ab8 some (by kernel_rfl))
 f225:=Tryz.func272.trans (ab8 some (by kernel_rfl))
 f226:=Tryz.func234.trans (ab8 some (by kernel_rfl))
 f227:=Tryz.func178.trans (ab8 some (by kernel_rfl))
 f228:=Tryz.func235.trans (ab8 some (by kernel_rfl))
 f266:=Tryz.func227.trans (ab8 some (by kernel_rfl))
 t0:=Tryz.underlying0
 a0:=Tryz.isAgg0
 z0:=Tryz.sizeOf0
 v0:=Tryz.zeroValue0
 t3:=Tryz.underlying3
 a3:=Tryz.isAgg3
 z3:=Tryz.sizeOf3
 v3:=Tryz.zeroValue3
 t4:=Tryz.underlying4
 a4:=Tryz.isAgg4
 z4:=Tryz.sizeOf4
 v4:=Tryz.zeroValue4
 t5:=Tryz.underlying5
 a5:=Tryz.isAgg5
 z5:=Tryz.sizeOf5
 v5:=Tryz.zeroValue5
 t9:=Tryz.underlying9
 a9:=Tryz.isAgg9
 z9:=Tryz.sizeOf9
 v9:=Tryz.zeroValue9
 t21:=Tryz.underlying21
 a21:=Tryz.isAgg21
 z21:=Tryz.sizeOf21
 v21:=Tryz.zeroValue21
 t46:=Tryz.underlying189
 a46:=Tryz.isAgg189
 z46:=Tryz.sizeOf189
 v46:=Tryz.zeroValue189
 t116:=Tryz.underlying235
 a116:=Tryz.isAgg235
 z116:=Tryz.sizeOf235
 t117:=Tryz.underlying236
 a117:=Tryz.isAgg236
 z117:=Tryz.sizeOf236
 v117:=Tryz.zeroValue236
 t124:=Tryz.underlying239
 a124:=Tryz.isAgg239
 z124:=Tryz.sizeOf239
 v124:=Tryz.zeroValue239}
open Go.RowKit Go.Lib in
theorem Tryz.strings_IndexAny_long (hv116: ∀w,(zeroValue 235).run Tryz.prog w= .ok (.agg (Array.replicate 256 (.bool false))) w) (s chars:ByteArray) (w:World) (h2:2<=chars.size) (h8:8<s.size) (hs:s.size<4294967281) (hcs:chars.size<4294967281) (hascii: ∀(j:Nat) b,chars.data.toList[j]?=some b->b.toNat<128):
  Calls Tryz.prog 171 #[.string s, .string chars] w fun e w'=>e= .returned (.int .i64 (Lib.indexAny s.data.toList chars.data.toList))/\w'=((w.alloc (.cells (Lib.setCells chars.data.toList) 235)).alloc (.cells (Lib.setCells chars.data.toList) 235)):=Any.strings_IndexAny_long Tryz.lays153 hv116 (by kernel_rfl) s chars w h2 h8 hs hcs hascii
open Go.RowKit Go.Sort in
theorem Tryz.slices_Sort_string_none (p:Option Addr) (cap:Nat) (w:World):
  Calls Tryz.prog 96 #[.slice p 0 cap] w fun e w'=>e= .returned (.tuple #[])/\w'=w:=Any.slices_Sort_string_none Tryz.lays190 p cap w
end Go.Proofs
namespace Go.Proofs.YtoofbflplhbpbaaGreatDoor
open Go.RowKit
structure Laid (W:World):Prop where
 pow:Lib.TabIs Tryz.prog W "internal/strconv.uint64pow10" .u64 Lib.pow10Tab
 bru: ∃cs,W.var? Tryz.prog "math/bits.deBruijn64tab" =some cs/\ ∀j,j<64->cs[j]?=some (.int .u8 (Lib.deBruijn64tab.getD j 0))
 syn: ∃tp p,W.var? Tryz.prog "strconv.ErrSyntax" =some #[.iface tp p]
 rng: ∃tp p,W.var? Tryz.prog "strconv.ErrRange" =some #[.iface tp p]
 max: ∃m,W.cell? ⟨1,0,none⟩=some (.int .i64 m)
theorem Qm:Tryz.prog.globalNamed "math/bits.deBruijn64tab" =some 0:=by kernel_rfl
theorem X0:Tryz.prog.globalNamed "internal/strconv.uint64pow10" =some 2:=by kernel_rfl
theorem X3:Tryz.prog.globalNamed "strconv.ErrSyntax" =some 5:=by kernel_rfl
theorem X4:Tryz.prog.globalNamed "strconv.ErrRange" =some 6:=by kernel_rfl
theorem Ie {w:World} {a:Addr} {v:Value} (h:w.cell? a=some v):a.block<w.heap.size:=by
 rcases akZ a.block w.heap.size with h0 | h0
 ·exact h0
 unfold World.cell? at h;simp [amr h0] at h
theorem Laid.below {W W':World} (h:Laid W) (hb:Below W.heap.size W W'):Laid W':=by
 obtain ⟨cs,h1,h2⟩:=h.bru;obtain ⟨t1,p1,e1⟩:=h.syn;obtain ⟨t2,p2,e2⟩:=h.rng
 obtain ⟨m,hm⟩:=h.max
 exact ⟨Joins.tab_stays X0 h.pow hb (ab1 _),⟨cs,Joins.var_stays Qm h1 hb (ab1 _),h2⟩,⟨t1,p1,Joins.var_stays X3 e1 hb (ab1 _)⟩,⟨t2,p2,Joins.var_stays X4 e2 hb (ab1 _)⟩,⟨m,(hb.cell (Ie hm)).trans hm⟩⟩
theorem below_grow {W:World} (k:Nat) (os:Array Obj):Below W.heap.size W (Sort.grow (W.drewN k) os):=by
 refine ⟨rfl,rfl,rfl, ?_,fun j hj=> ?_⟩
 ·simp [Sort.grow,World.drewN]
 simp [Sort.grow,World.drewN,amF hj]
theorem bf (l:List UInt8):(⟨l.toArray⟩:ByteArray).size=l.length:=by simp [ByteArray.size]
theorem aft (n:Int) (w:World) (h0: -9223372036854775808<=n) (h1:n<=9223372036854775807) (hL:Laid w):
  Calls Tryz.prog 81 #[.int .i64 n, .int .i64 10] w fun e w'=>e= .returned (.string ⟨(Lib.itoa n).toArray⟩)/\Below w.heap.size w w':=
 (Tryz.strconv_FormatInt_10 n h0 h1 w hL.pow).mono fun e w' ⟨he,k,os,hw⟩=>⟨he,by rw [hw];exact below_grow k os⟩
theorem uf (n:Int) (w:World) (h0: -9223372036854775808<=n) (h1:n<=9223372036854775807) (hL:Laid w):
  Calls Tryz.prog 129 #[.int .i64 n] w fun e w'=>e= .returned (.string ⟨(Lib.itoa n).toArray⟩)/\Below w.heap.size w w':=
 (Tryz.strconv_Itoa n h0 h1 w hL.pow).mono fun e w' ⟨he,k,os,hw⟩=>⟨he,by rw [hw];exact below_grow k os⟩
theorem below_bytesWorld {w w':World} {T:TypeId} (h:w'=w\/ ∃t,w'=Lib.bytesWorld w T t):Below w.heap.size w w':=by
 rcases h with rfl |⟨t,rfl⟩
 ·exact Below.refl _ _
 exact Lib.bytesWorld_below _ _ _
end Go.Proofs.YtoofbflplhbpbaaGreatDoor
