/- Contracts and plain laws,part 3. -/
import Derived.Test.YtkdakckjafomhaaGreatDoorUW02
import Derived.Shelf.Strings.Builder1
import Derived.Shelf.Strings.Builder2
import Derived.Shelf.Strings.OnBuilder
import Derived.Shelf.Strings.Trim
import Derived.Shelf.Small.Utf8
import Derived.Shelf.Small.Bits
import Derived.Shelf.Small.Strs
import Derived.Shelf.Small.Wraps
import Derived.Shelf.Strings.BuilderF
import Derived.Shelf.Strings.BuilderK
import Derived.Shelf.Strconv.Atoi
import Derived.Shelf.Strconv.Itoa0
import Derived.Shelf.Strconv.Itoa1
import Derived.Shelf.LaysM
import Derived.Shelf.Strconv.Itoa2
import Derived.Shelf.Strconv.Itoa3
import Derived.Shelf.Strconv.Itoa4
import Derived.Shelf.Strconv.AtoiErrFast
import Derived.Shelf.Strconv.ParseIntEmpty
import Derived.Shelf.Strconv.AtoiFail
import Derived.Shelf.Strconv.Clone
import Derived.Shelf.Strconv.SyntaxError
import Derived.Shelf.LaysC
import Derived.Shelf.Strconv.ToError
import Derived.Shelf.Strconv.AtoiErr
import Derived.Shelf.Strconv.Lower
import Derived.Shelf.Strconv.ParseUint10
import Derived.Shelf.Strconv.ParseUint10Empty
import Derived.Shelf.Strconv.ParseUint10Any
import Derived.Shelf.Strconv.ParseInt10
import Derived.Shelf.Strconv.AtoiLong
import Derived.Shelf.Strconv.AtoiInnerAll
import Derived.Shelf.Strconv.RangeError
import Derived.Shelf.Strconv.ToErrorRange
import Derived.Shelf.Strconv.AtoiAll
import Derived.Shelf.Strconv.ErrVarAll
import Derived.Shelf.Strconv.ParseUintEmpty
import Derived.Shelf.Strconv.ParseUint10b64
import Derived.Shelf.Strconv.ParseUint10b32
import Derived.Shelf.Strconv.ParseUint10b16
import Derived.Shelf.Strconv.ParseUint10b8
import Derived.Shelf.Strconv.ParseUint10At
import Derived.Shelf.Strconv.ParseInt10At64
import Derived.Shelf.Strconv.ParseInt10At32
import Derived.Shelf.Strconv.ParseInt10At16
import Derived.Shelf.Strconv.ParseInt10At8
import Derived.Shelf.Strconv.ParseInt10All
import Derived.Shelf.Strconv.ParseIntPublic10
import Derived.Shelf.Strconv.ErrVarParseInt
import Derived.Shelf.Strings.Search1
import Derived.Shelf.Strings.Search2
import Derived.Shelf.Strings.Search3
import Derived.Shelf.Strings.Cut
import Derived.Shelf.Strings.Count
import Derived.Shelf.Strings.Shaped
import Derived.Shelf.Sort.Plain
import Derived.Shelf.Strings.Prefix
import Derived.Shelf.Strings.Split
import Derived.Shelf.Strings.Replace
import Derived.Shelf.Strings.SplitShaped
import Derived.Shelf.Unicode.Decode
import Derived.Shelf.Strings.Runes
import Derived.Shelf.Strings.RuneCount
import Derived.Shelf.Strings.IndexAny
import Derived.Shelf.Strings.AsciiSet
import Derived.Shelf.Strings.IndexAnyAll
import Derived.Shelf.Strings.Explode
import Derived.Shelf.Unicode.DecodeSlow
import Derived.Shelf.Slices.Turned
import Derived.Shelf.Slices.Equal
import Derived.Ground.Names2Prog
import Derived.Shelf.Slices.Clone
import Derived.Shelf.Slices.SearchI
import Derived.Shelf.Slices.In.SortNone
import Derived.Shelf.Slices.Empties2
import Derived.Ground.SlgnProg
import Derived.Shelf.SlicesE.Clone
import Derived.Test.YtkdakckjafomhaaGreatDoorProg
import Derived.Test.YtkdakckjafomhaaGreatDoorRows
import Derived.WalkKit
import Derived.WalkSpells
import Derived.WalkLawsBesides
import Derived.Lib.Hide
import Derived.IntWalk
import Derived.Deep.LoopGhost
import Derived.Deep.Cut
import Derived.OwnWalk
import Derived.Lib.SmallJoins
import Derived.Laws.Bits64b
import Derived.Outline
set_option maxHeartbeats 64000000
set_option maxRecDepth 1000000
set_option linter.all false
namespace Go.Proofs
open Go.Shelf
def Tryz.lays156_ren:Go.Shelf.Ren:=⟨fun|156=>24|165=>64|166=>65|169=>66|240=>104|241=>105|276=>151|277=>152|n=>n,fun|31=>34|9=>9|3=>3|4=>4|0=>0|20=>20|72=>126|76=>130|70=>123|37=>124|75=>129|127=>167|164=>210|5=>5|80=>132|n=>n,fun|n=>n⟩
theorem Tryz.lays156:Go.Proofs.Lays.n156 Tryz.prog Tryz.lays156_ren:=by
 repeat' first|kernel_rfl|exact fun _=>rfl|constructor
theorem Tryz.Builder_Extra_156:Builder.Extra Tryz.prog Tryz.lays156_ren:={
 sizeBuilder:=by kernel_rfl
 liesBuilder:=by kernel_rfl
 t5:=Tryz.underlying5
 a5:=Tryz.isAgg5
 z5:=Tryz.sizeOf5
 v5:=Tryz.zeroValue5
 infoByte:=by kernel_rfl
 cellsByte:=by kernel_rfl
 sizeByte:=by kernel_rfl
 neB5:=by decide}
open Go.RowKit in
theorem Tryz.strings_Join_none (a:Option Addr) (c:Nat) (sep:ByteArray) (w:World):
  Calls Tryz.prog 24 #[.slice a 0 c,.string sep] w fun e w'=>e=.returned (.string ⟨#[]⟩)/\w'=w:=Any.strings_Join_none Tryz.lays156 Tryz.Builder_Extra_156 a c sep w
open Go.RowKit in
theorem Tryz.strings_Join (bk o c:Nat) (xs:List ByteArray) (sep:ByteArray) (w:World) (hcells: ∀(j:Nat) x,xs[j]?=some x->w.cell? ⟨bk,o+j,none⟩=some (.string x)) (hbk:bk<w.heap.size) (hN:xs.length<=140737488355328) (hcap:xs.length<=c) (hlen:(Lib.join (xs.map (·.data.toList)) sep.data.toList).length<=140737488355328):
  Calls Tryz.prog 24 #[.slice (some ⟨bk,o,none⟩) xs.length c,.string sep] w fun e w'=>e=.returned (.string ⟨(Lib.join (xs.map (·.data.toList)) sep.data.toList).toArray⟩)/\Below w.heap.size w w':=Any.strings_Join Tryz.lays156 Tryz.Builder_Extra_156 bk o c xs sep w hcells hbk hN hcap hlen
def Tryz.ag0:Go.Shelf.Ren:=⟨fun|162=>203|232=>235|227=>161|234=>236|236=>237|228=>162|271=>249|151=>250|120=>252|197=>147|152=>159|260=>190|137=>163|119=>205|224=>193|225=>192|217=>191|266=>228|n=>n,fun|9=>9|4=>4|3=>3|5=>5|117=>220|116=>219|0=>0|124=>258|21=>21|105=>207|46=>149|119=>277|139=>280|138=>279|n=>n,fun|3=>1|4=>2|n=>n⟩
theorem Tryz.lays162:Go.Proofs.Lays.n162 Tryz.prog Tryz.ag0:=by
 repeat' first|kernel_rfl|exact fun _=>rfl|constructor
open Go.RowKit in
theorem Tryz.strings_TrimRight_one (s:ByteArray) (c:UInt8) (hc:c.toNat<128) (w:World) (hs:s.size<=9223372036854775807):
  Calls Tryz.prog 203 #[.string s,.string ⟨#[c]⟩] w fun e w'=>e=.returned (.string ⟨(Lib.trimRightB s.data.toList c).toArray⟩)/\w'=w:=Any.strings_TrimRight_one Tryz.lays162 s c hc w hs
def Tryz.ag1:Go.Shelf.Ren:=⟨fun|119=>205|n=>n,fun|21=>21|4=>4|n=>n,fun|n=>n⟩
theorem Tryz.lays119:Go.Proofs.Lays.n119 Tryz.prog Tryz.ag1:=by
 repeat' first|kernel_rfl|exact fun _=>rfl|constructor
theorem Tryz.utf8_ValidRune (r:Int) (w:World):
  Calls Tryz.prog 205 #[.int .i32 r] w fun e w'=>e=.returned (.bool (Lib.validRune r))/\w'=w:=Any.utf8_ValidRune Tryz.lays119 r w
def Tryz.ag2:Go.Shelf.Ren:=⟨fun|134=>201|129=>132|n=>n,fun|53=>193|3=>3|4=>4|46=>149|5=>5|9=>9|n=>n,fun|n=>n⟩
theorem Tryz.lays134:Go.Proofs.Lays.n134 Tryz.prog Tryz.ag2:=by
 repeat' first|kernel_rfl|exact fun _=>rfl|constructor
theorem Tryz.bits_LeadingZeros64 (x:Int) (w:World) (h0:0<=x) (h1:x<=18446744073709551615):
  Calls Tryz.prog 201 #[.int .u64 x] w fun e w'=>e=.returned (.int .i64 (64 -(Lib.bitLen x.toNat:Int)))/\w'=w:=Any.bits_LeadingZeros64 Tryz.lays134 x w h0 h1
def Tryz.ag3:Go.Shelf.Ren:=⟨fun|106=>84|213=>134|265=>179|n=>n,fun|9=>9|3=>3|n=>n,fun|n=>n⟩
theorem Tryz.lays106:Go.Proofs.Lays.n106 Tryz.prog Tryz.ag3:=by
 repeat' first|kernel_rfl|exact fun _=>rfl|constructor
open Go.RowKit in
theorem Tryz.strings_Compare (a b:ByteArray) (w:World):
  Calls Tryz.prog 84 #[.string a,.string b] w fun e w'=>e=.returned (.int .i64 (Lib.compareBytes a.data.toList b.data.toList))/\w'=w:=Any.strings_Compare Tryz.lays106 a b w
def Tryz.ag4:Go.Shelf.Ren:=⟨fun|137=>163|217=>191|266=>228|n=>n,fun|9=>9|5=>5|3=>3|n=>n,fun|n=>n⟩
theorem Tryz.lays137:Go.Proofs.Lays.n137 Tryz.prog Tryz.ag4:=by
 repeat' first|kernel_rfl|exact fun _=>rfl|constructor
open Go.RowKit in
theorem Tryz.strings_IndexByte (s:ByteArray) (c:Int) (w:World):
  Calls Tryz.prog 163 #[.string s,.int .u8 c] w fun e w'=>e=.returned (.int .i64 (Lib.indexByte s.data.toList c.toNat.toUInt8))/\w'=w:=Any.strings_IndexByte Tryz.lays137 s c w
def Tryz.ag5:Go.Shelf.Ren:=⟨fun|103=>168|210=>212|206=>164|n=>n,fun|9=>9|4=>4|24=>225|3=>3|n=>n,fun|n=>n⟩
theorem Tryz.lays103:Go.Proofs.Lays.n103 Tryz.prog Tryz.ag5:=by
 repeat' first|kernel_rfl|exact fun _=>rfl|constructor
open Go.RowKit in
theorem Tryz.strings_CutPrefix (s p:ByteArray) (w:World):
  Calls Tryz.prog 168 #[.string s,.string p] w fun e w'=>e=.returned (.tuple #[.string ⟨(Lib.trimPrefix s.data.toList p.data.toList).toArray⟩,.bool (Lib.hasPrefix s.data.toList p.data.toList)])/\w'=w:=Any.strings_CutPrefix Tryz.lays103 s p w
def Tryz.ag6:Go.Shelf.Ren:=⟨fun|122=>40|215=>86|n=>n,fun|3=>3|4=>4|n=>n,fun|n=>n⟩
theorem Tryz.lays122:Go.Proofs.Lays.n122 Tryz.prog Tryz.ag6:=by
 repeat' first|kernel_rfl|exact fun _=>rfl|constructor
open Go.RowKit in
theorem Tryz.cmp_Compare_int (x y:Int) (w:World):
  Calls Tryz.prog 40 #[.int .i64 x,.int .i64 y] w fun e w'=>e=.returned (.int .i64 (Lib.compareInt x y))/\w'=w:=Any.cmp_Compare_int Tryz.lays122 x y w
def Tryz.ag7:Go.Shelf.Ren:=⟨fun|171=>204|243=>238|246=>150|283=>195|284=>196|285=>197|286=>198|129=>132|317=>230|318=>231|319=>232|320=>233|337=>248|338=>216|n=>n,fun|3=>3|9=>9|2=>2|4=>4|171=>251|0=>0|53=>193|37=>124|5=>5|173=>253|212=>284|51=>191|20=>20|213=>285|46=>149|232=>297|233=>292|n=>n,fun|17=>3|18=>7|19=>6|n=>n⟩
theorem Tryz.laysM171:Go.Proofs.LaysM.n171 Tryz.prog Tryz.ag7:=by
 repeat' first|kernel_rfl|exact fun _=>rfl|constructor
open Go.RowKit Go.Sort Go.Lib in
theorem Tryz.strconv_Itoa (n:Int) (h0: -9223372036854775808<=n) (h1:n<=9223372036854775807) (w:World) (htab:Lib.TabIs Tryz.prog w "internal/strconv.uint64pow10" .u64 Lib.pow10Tab):
  Calls Tryz.prog 204 #[.int .i64 n] w fun e w'=>e=.returned (.string ⟨(Lib.itoa n).toArray⟩)/\ ∃k os,w'=grow (w.drewN k) os:=Any.strconv_Itoa Tryz.laysM171 n h0 h1 w htab
def Tryz.ag8:Go.Shelf.Ren:=⟨fun|173=>103|246=>150|283=>195|284=>196|285=>197|286=>198|129=>132|317=>230|318=>231|319=>232|320=>233|337=>248|338=>216|n=>n,fun|2=>2|3=>3|9=>9|4=>4|171=>251|0=>0|53=>193|37=>124|5=>5|173=>253|212=>284|51=>191|20=>20|213=>285|46=>149|232=>297|233=>292|n=>n,fun|17=>3|18=>7|19=>6|n=>n⟩
theorem Tryz.laysM173:Go.Proofs.LaysM.n173 Tryz.prog Tryz.ag8:=by
 repeat' first|kernel_rfl|exact fun _=>rfl|constructor
open Go.RowKit Go.Sort Go.Lib in
theorem Tryz.strconv_FormatInt_10 (n:Int) (h0: -9223372036854775808<=n) (h1:n<=9223372036854775807) (w:World) (htab:Lib.TabIs Tryz.prog w "internal/strconv.uint64pow10" .u64 Lib.pow10Tab):
  Calls Tryz.prog 103 #[.int .i64 n,.int .i64 10] w fun e w'=>e=.returned (.string ⟨(Lib.itoa n).toArray⟩)/\ ∃k os,w'=grow (w.drewN k) os:=Any.strconv_FormatInt_10 Tryz.laysM173 n h0 h1 w htab
def Tryz.ag9:Go.Shelf.Ren:=⟨fun|172=>243|244=>251|245=>167|247=>166|279=>208|280=>209|281=>210|282=>211|287=>207|316=>241|171=>204|205=>242|321=>239|322=>240|243=>238|246=>150|283=>195|284=>196|285=>197|286=>198|129=>132|317=>230|318=>231|319=>232|320=>233|337=>248|338=>216|n=>n,fun|9=>9|3=>3|75=>129|76=>130|4=>4|5=>5|167=>259|37=>124|0=>0|85=>175|2=>2|168=>262|53=>193|175=>260|46=>149|210=>290|127=>167|145=>296|143=>294|21=>21|171=>251|173=>253|212=>284|51=>191|20=>20|213=>285|232=>297|233=>292|80=>132|n=>n,fun|15=>4|16=>5|17=>3|18=>7|19=>6|n=>n⟩
theorem Tryz.laysC172:Go.Proofs.LaysC.n172 Tryz.prog Tryz.ag9:=by
 repeat' first|kernel_rfl|exact fun _=>rfl|constructor
open Go.RowKit in
theorem Tryz.strconv_Atoi_ok (s:ByteArray) (hmax:s.size<=9223372036854775806) (v:Int) (h:Lib.atoiAll s.data.toList=.ok v) (w:World):
  Calls Tryz.prog 243 #[.string s] w fun e w'=>e=.returned (.tuple #[.int .i64 v,.nilIface])/\(w'=w\/ ∃t,w'=Lib.bytesWorld w 5 t):=Any.strconv_Atoi_ok Tryz.laysC172 s hmax v h w
def Tryz.aha:Go.Shelf.Ren:=⟨fun|174=>118|247=>166|245=>167|287=>207|279=>208|280=>209|281=>210|282=>211|321=>239|322=>240|316=>241|171=>204|205=>242|243=>238|246=>150|283=>195|284=>196|285=>197|286=>198|129=>132|317=>230|318=>231|319=>232|320=>233|337=>248|338=>216|n=>n,fun|9=>9|3=>3|2=>2|75=>129|85=>175|4=>4|167=>259|5=>5|53=>193|175=>260|46=>149|168=>262|37=>124|0=>0|210=>290|21=>21|127=>167|145=>296|143=>294|171=>251|173=>253|212=>284|51=>191|20=>20|213=>285|232=>297|233=>292|80=>132|n=>n,fun|15=>4|16=>5|17=>3|18=>7|19=>6|n=>n⟩
theorem Tryz.laysC174:Go.Proofs.LaysC.n174 Tryz.prog Tryz.aha:=by
 repeat' first|kernel_rfl|exact fun _=>rfl|constructor
open Go.RowKit in
theorem Tryz.strconv_ParseInt_10_at64_ok (s:ByteArray) (hmax:s.size<=9223372036854775806) (v:Int) (h:Lib.parseIntB 64 s.data.toList=.ok v) (w:World):
  Calls Tryz.prog 118 #[.string s,.int .i64 10,.int .i64 64] w fun e w'=>e=.returned (.tuple #[.int .i64 v,.nilIface])/\(w'=w\/ ∃t,w'=Lib.bytesWorld w 5 t):=Any.strconv_ParseInt_10_at64_ok Tryz.laysC174 s hmax v h w
open Go.RowKit in
theorem Tryz.strconv_ParseInt_10_at64_range_var (s:ByteArray) (hlim:s.size<=281474976710656) (h:Lib.parseIntB 64 s.data.toList=.range) (tp:TypeId) (p:Value) (w:World) (hvar:w.var? Tryz.prog "strconv.ErrRange" =some #[.iface tp p]):
  Calls Tryz.prog 118 #[.string s,.int .i64 10,.int .i64 64] w fun e w'=> ∃N,e=.returned (.tuple #[.int .i64 (Lib.intSat 64 s.data.toList),.iface 262 (.pointer (some ⟨N,0,none⟩))])/\w.heap.size<=N/\w'.heap[N]?=some (.cells #[.string ⟨#[80,97,114,115,101,73,110,116]⟩,.string s,.iface tp p] 290 (0,0))/\Below w.heap.size w w':=Any.strconv_ParseInt_10_at64_range_var Tryz.laysC174 s hlim h tp p w hvar
def Tryz.ahb:Go.Shelf.Ren:=⟨fun|145=>170|220=>213|219=>149|217=>191|225=>192|224=>193|267=>194|266=>228|314=>229|n=>n,fun|9=>9|4=>4|59=>228|3=>3|5=>5|46=>149|146=>281|51=>191|n=>n,fun|1=>0|n=>n⟩
theorem Tryz.lays145:Go.Proofs.Lays.n145 Tryz.prog Tryz.ahb:=by
 repeat' first|kernel_rfl|exact fun _=>rfl|constructor
open Go.RowKit Go.Lib in
theorem Tryz.strings_Cut (s sep:ByteArray) (m:Int) (w:World) (hs:s.size<4294967281) (hm:w.cell? ⟨0,0,none⟩=some (.int .i64 m)):
  Calls Tryz.prog 170 #[.string s,.string sep] w fun e w'=>e=.returned (.tuple #[.string ⟨(Lib.cut s.data.toList sep.data.toList).1.toArray⟩,.string ⟨(Lib.cut s.data.toList sep.data.toList).2.1.toArray⟩,.bool (Lib.cut s.data.toList sep.data.toList).2.2])/\ ∃n,w'=w.drewN n:=Any.strings_Cut Tryz.lays145 s sep m w hs hm
def Tryz.ahc:Go.Shelf.Ren:=⟨fun|190=>36|125=>79|258=>78|128=>131|129=>132|302=>123|303=>124|304=>125|305=>126|306=>127|307=>128|308=>106|309=>129|310=>130|333=>172|329=>173|330=>174|334=>175|335=>176|336=>153|344=>217|n=>n,fun|31=>34|9=>9|3=>3|46=>149|0=>0|51=>191|53=>193|4=>4|183=>185|182=>184|131=>81|5=>5|218=>232|222=>236|228=>268|229=>64|n=>n,fun|n=>n⟩
theorem Tryz.lays190:Go.Proofs.Lays.n190 Tryz.prog Tryz.ahc:=by
 repeat' first|kernel_rfl|exact fun _=>rfl|constructor
open Go.Sort Go.RowKit in
theorem Tryz.slices_Sort_string (blk off cap:Nat) (ss:List (List UInt8)) (w:World) (hH:Holds encStr w blk off ss.toArray) (hblk:blk<w.heap.size) (hsz:ss.length<4611686018427387904):
  Calls Tryz.prog 36 #[.slice (some ⟨blk,off,none⟩) ss.length cap] w fun e w'=>
   e=.returned (.tuple #[])/\ ∃n os,w'=grow (putRow encStr (Sort.ahead w n) blk off (ss.mergeSort fun x y=>decide (x<=y)).toArray) os:=Any.slices_Sort_string Tryz.lays190 blk off cap ss w hH hblk hsz
def Tryz.lays99_ren:Go.Shelf.Ren:=⟨fun|99=>116|206=>164|n=>n,fun|9=>9|4=>4|3=>3|n=>n,fun|n=>n⟩
theorem Tryz.lays99:Go.Proofs.Lays.n99 Tryz.prog Tryz.lays99_ren:=by
 repeat' first|kernel_rfl|exact fun _=>rfl|constructor
open Go.RowKit Go.Lib in
theorem Tryz.strings_HasPrefix (s p:ByteArray) (w:World):
  Calls Tryz.prog 116 #[.string s,.string p] w fun e w'=>e=.returned (.bool (Lib.hasPrefix s.data.toList p.data.toList))/\w'=w:=Any.strings_HasPrefix Tryz.lays99 s p w
def Tryz.lays101_ren:Go.Shelf.Ren:=⟨fun|101=>165|208=>206|206=>164|n=>n,fun|9=>9|4=>4|3=>3|n=>n,fun|n=>n⟩
theorem Tryz.lays101:Go.Proofs.Lays.n101 Tryz.prog Tryz.lays101_ren:=by
 repeat' first|kernel_rfl|exact fun _=>rfl|constructor
open Go.RowKit Go.Lib in
theorem Tryz.strings_TrimPrefix (s p:ByteArray) (w:World):
  Calls Tryz.prog 165 #[.string s,.string p] w fun e w'=>e=.returned (.string ⟨(Lib.trimPrefix s.data.toList p.data.toList).toArray⟩)/\w'=w:=Any.strings_TrimPrefix Tryz.lays101 s p w
def Tryz.lays146_ren:Go.Shelf.Ren:=⟨fun|146=>22|221=>62|268=>100|138=>101|143=>102|195=>146|197=>147|218=>148|219=>149|260=>190|217=>191|225=>192|224=>193|267=>194|266=>228|314=>229|n=>n,fun|9=>9|31=>34|3=>3|4=>4|0=>0|105=>207|21=>21|5=>5|46=>149|119=>277|139=>280|138=>279|146=>281|51=>191|n=>n,fun|1=>0|3=>1|4=>2|n=>n⟩
theorem Tryz.lays146:Go.Proofs.Lays.n146 Tryz.prog Tryz.lays146_ren:=by
 repeat' first|kernel_rfl|exact fun _=>rfl|constructor
open Go.RowKit Go.Lib in
theorem Tryz.strings_Split (s sep:ByteArray) (m:Int) (w:World) (hs:s.size<4294967281) (hm:w.cell? ⟨0,0,none⟩=some (.int .i64 m)) (h1:1<=sep.size):
  Calls Tryz.prog 22 #[.string s,.string sep] w fun e w'=>
   e=.returned (.slice (some ⟨w.heap.size,0,none⟩) (Lib.countB s sep+1) (Lib.countB s sep+1))/\w'=w.alloc (.cells ((Lib.splitB sep 0 (Lib.countB s sep) s).map Value.string).toArray 9):=Any.strings_Split Tryz.lays146 (by kernel_rfl) s sep m w hs hm h1
def Tryz.lays155_ren:Go.Shelf.Ren:=⟨fun|155=>71|154=>112|138=>101|165=>64|143=>102|166=>65|197=>147|169=>66|195=>146|218=>148|240=>104|241=>105|219=>149|260=>190|276=>151|277=>152|217=>191|225=>192|224=>193|267=>194|266=>228|314=>229|n=>n,fun|9=>9|3=>3|4=>4|72=>126|0=>0|76=>130|105=>207|21=>21|5=>5|70=>123|20=>20|37=>124|75=>129|127=>167|164=>210|46=>149|119=>277|139=>280|138=>279|146=>281|51=>191|80=>132|n=>n,fun|1=>0|3=>1|4=>2|n=>n⟩
theorem Tryz.lays155:Go.Proofs.Lays.n155 Tryz.prog Tryz.lays155_ren:=by
 repeat' first|kernel_rfl|exact fun _=>rfl|constructor
theorem Tryz.ahd:Builder.Extra Tryz.prog Tryz.lays155_ren:={
 sizeBuilder:=by kernel_rfl
 liesBuilder:=by kernel_rfl
 t5:=Tryz.underlying5
 a5:=Tryz.isAgg5
 z5:=Tryz.sizeOf5
 v5:=Tryz.zeroValue5
 infoByte:=by kernel_rfl
 cellsByte:=by kernel_rfl
 sizeByte:=by kernel_rfl
 neB5:=by decide}
open Go.RowKit Go.Lib in
theorem Tryz.strings_ReplaceAll (s old new:ByteArray) (m:Int) (w:World) (hs:s.size<4294967281) (hm:w.cell? ⟨0,0,none⟩=some (.int .i64 m)) (h1:1<=old.size) (hlen:s.size+Lib.countB s old*new.size<=140737488355328):
  Calls Tryz.prog 71 #[.string s,.string old,.string new] w fun e w'=>
   e=.returned (.string ⟨(Lib.replaceAll s.data.toList old.data.toList new.data.toList).toArray⟩)/\Below w.heap.size w w':=Any.strings_ReplaceAll Tryz.lays155 Tryz.ahd s old new m w hs hm h1 hlen
def Tryz.lays152_ren:Go.Shelf.Ren:=⟨fun|152=>159|137=>163|119=>205|224=>193|225=>192|217=>191|266=>228|n=>n,fun|9=>9|21=>21|3=>3|4=>4|5=>5|0=>0|46=>149|n=>n,fun|n=>n⟩
theorem Tryz.lays152:Go.Proofs.Lays.n152 Tryz.prog Tryz.lays152_ren:=by
 repeat' first|kernel_rfl|exact fun _=>rfl|constructor
open Go.RowKit Go.Lib in
theorem Tryz.strings_IndexRune_ascii (s:ByteArray) (r:Int) (w:World) (h0:0<=r) (h1:r<128):
  Calls Tryz.prog 159 #[.string s,.int .i32 r] w fun e w'=>e=.returned (.int .i64 (Lib.indexByte s.data.toList r.toNat.toUInt8))/\w'=w:=Any.strings_IndexRune_ascii Tryz.lays152 s r w h0 h1
def Tryz.ahe:Go.Shelf.Ren:=⟨fun|226=>160|n=>n,fun|3=>3|4=>4|n=>n,fun|n=>n⟩
theorem Tryz.lays226:Go.Proofs.Lays.n226 Tryz.prog Tryz.ahe:=by
 repeat' first|kernel_rfl|exact fun _=>rfl|constructor
open Go.RowKit Go.Lib in
theorem Tryz.strings_shouldUseASCIISet (n:Int) (w:World):
  Calls Tryz.prog 160 #[.int .i64 n] w fun e w'=>e=.returned (.bool (decide (8<n)))/\w'=w:=Any.strings_shouldUseASCIISet Tryz.lays226 n w
def Tryz.lays153_ren:Go.Shelf.Ren:=⟨fun|153=>111|152=>159|226=>160|227=>161|228=>162|137=>163|119=>205|224=>193|225=>192|217=>191|266=>228|n=>n,fun|9=>9|3=>3|4=>4|5=>5|21=>21|117=>220|116=>219|0=>0|46=>149|124=>258|n=>n,fun|n=>n⟩
theorem Tryz.lays153:Go.Proofs.Lays.n153 Tryz.prog Tryz.lays153_ren:=by
 repeat' first|kernel_rfl|exact fun _=>rfl|constructor
open Go.RowKit Go.Lib in
theorem Tryz.strings_IndexAny_long (hv116: ∀w,(zeroValue 219).run Tryz.prog w=.ok (.agg (Array.replicate 256 (.bool false))) w) (s chars:ByteArray) (w:World) (h2:2<=chars.size) (h8:8<s.size) (hs:s.size<4294967281) (hcs:chars.size<4294967281) (hascii: ∀(j:Nat) b,chars.data.toList[j]?=some b->b.toNat<128):
  Calls Tryz.prog 111 #[.string s,.string chars] w fun e w'=>e=.returned (.int .i64 (Lib.indexAny s.data.toList chars.data.toList))/\w'=((w.alloc (.cells (Lib.setCells chars.data.toList) 219)).alloc (.cells (Lib.setCells chars.data.toList) 219)):=Any.strings_IndexAny_long Tryz.lays153 hv116 (by kernel_rfl) s chars w h2 h8 hs hcs hascii
def Tryz.lays110_ren:Go.Shelf.Ren:=⟨fun|110=>76|109=>119|n=>n,fun|31=>34|9=>9|4=>4|3=>3|0=>0|n=>n,fun|n=>n⟩
theorem Tryz.lays110:Go.Proofs.Lays.n110 Tryz.prog Tryz.lays110_ren:=by
 repeat' first|kernel_rfl|exact fun _=>rfl|constructor
open Go.Lib in
theorem Tryz.slices_Contains_string (b off n c:Nat) (zs:List ByteArray) (x:ByteArray) (w:World) (hz:n<=zs.length) (hbig:n<=9223372036854775807) (hc: ∀j,j<zs.length->w.cell? ⟨b,off+j,none⟩=some (.string (zs.getD j ByteArray.empty))):
  Calls Tryz.prog 76 #[.slice (some ⟨b,off,none⟩) n c,.string x] w fun e w'=>e=.returned (.bool (Lib.containsS (zs.take n) x))/\w'=w:=Any.slices_Contains_string Tryz.lays110 b off n c zs x w hz hbig hc
open Go.Lib in
theorem Tryz.slices_Contains_string_empty (a:Option Addr) (c:Nat) (x:ByteArray) (w:World):
  Calls Tryz.prog 76 #[.slice a 0 c,.string x] w fun e w'=>e=.returned (.bool false)/\w'=w:=Any.slices_Contains_string_empty Tryz.lays110 a c x w
def Tryz.lays193_ren:Go.Shelf.Ren:=⟨fun|193=>74|n=>n,fun|31=>34|9=>9|4=>4|3=>3|0=>0|n=>n,fun|n=>n⟩
theorem Tryz.lays193:Go.Proofs.Lays.n193 Tryz.prog Tryz.lays193_ren:=by
 repeat' first|kernel_rfl|exact fun _=>rfl|constructor
open Go.RowKit Go.Lib in
theorem Tryz.slices_Equal_string (b1 o1 n c b2 o2 m d:Nat) (xs ys:List ByteArray) (w:World) (hx:n<=xs.length) (hy:m<=ys.length) (hbig:n<=9223372036854775807) (hbig2:m<=9223372036854775807) (hc1: ∀j,j<xs.length->w.cell? ⟨b1,o1+j,none⟩=some (.string (xs.getD j ByteArray.empty))) (hc2: ∀j,j<ys.length->w.cell? ⟨b2,o2+j,none⟩=some (.string (ys.getD j ByteArray.empty))):
  Calls Tryz.prog 74 #[.slice (some ⟨b1,o1,none⟩) n c,.slice (some ⟨b2,o2,none⟩) m d] w fun e w'=>e=.returned (.bool (decide (xs.take n=ys.take m)))/\ ∃q,w'=w.drewN q:=Any.slices_Equal_string Tryz.lays193 b1 o1 n c b2 o2 m d xs ys w hx hy hbig hbig2 hc1 hc2
open Go.RowKit Go.Sort in
theorem Tryz.slices_Sort_string_none (p:Option Addr) (cap:Nat) (w:World):
  Calls Tryz.prog 36 #[.slice p 0 cap] w fun e w'=>e=.returned (.tuple #[])/\w'=w:=Any.slices_Sort_string_none Tryz.lays190 p cap w
end Go.Proofs
namespace Go.Proofs.YtkdakckjafomhaaGreatDoor
open Go.RowKit
structure Laid (W:World):Prop where
 pow:Lib.TabIs Tryz.prog W "internal/strconv.uint64pow10" .u64 Lib.pow10Tab
 bru: ∃cs,W.var? Tryz.prog "math/bits.deBruijn64tab" =some cs/\ ∀j,j<64->cs[j]?=some (.int .u8 (Lib.deBruijn64tab.getD j 0))
 syn: ∃tp p,W.var? Tryz.prog "strconv.ErrSyntax" =some #[.iface tp p]
 rng: ∃tp p,W.var? Tryz.prog "strconv.ErrRange" =some #[.iface tp p]
 max: ∃m,W.cell? ⟨0,0,none⟩=some (.int .i64 m)
theorem Td:Tryz.prog.globalNamed "math/bits.deBruijn64tab" =some 6:=by kernel_rfl
theorem Y5:Tryz.prog.globalNamed "internal/strconv.uint64pow10" =some 3:=by kernel_rfl
theorem Y6:Tryz.prog.globalNamed "strconv.ErrSyntax" =some 4:=by kernel_rfl
theorem Y7:Tryz.prog.globalNamed "strconv.ErrRange" =some 5:=by kernel_rfl
theorem Tf {w:World} {a:Addr} {v:Value} (h:w.cell? a=some v):a.block<w.heap.size:=by
 rcases am5 a.block w.heap.size with h0|h0
 ·exact h0
 unfold World.cell? at h;simp[aog h0]at h
theorem Laid.below {W W':World} (h:Laid W) (hb:Below W.heap.size W W'):Laid W':=by
 obtain⟨cs,h1,h2⟩:=h.bru;obtain⟨t1,p1,e1⟩:=h.syn;obtain⟨t2,p2,e2⟩:=h.rng
 obtain⟨m,hm⟩:=h.max
 exact⟨Joins.tab_stays Y5 h.pow hb (ac4 _),⟨cs,Joins.var_stays Td h1 hb (ac4 _),h2⟩,⟨t1,p1,Joins.var_stays Y6 e1 hb (ac4 _)⟩,⟨t2,p2,Joins.var_stays Y7 e2 hb (ac4 _)⟩,⟨m,(hb.cell (Tf hm)).trans hm⟩⟩
theorem below_grow {W:World} (k:Nat) (os:Array Obj):Below W.heap.size W (Sort.grow (W.drewN k) os):=by
 refine⟨rfl,rfl,rfl, ?_,fun j hj=> ?_⟩
 ·simp[Sort.grow,World.drewN]
 simp[Sort.grow,World.drewN,aoA hj]
theorem gq (l:List UInt8):(⟨l.toArray⟩:ByteArray).size=l.length:=by simp[ByteArray.size]
theorem ahf (n:Int) (w:World) (h0: -9223372036854775808<=n) (h1:n<=9223372036854775807) (hL:Laid w):
  Calls Tryz.prog 103 #[.int .i64 n,.int .i64 10] w fun e w'=>e=.returned (.string ⟨(Lib.itoa n).toArray⟩)/\Below w.heap.size w w':=
 (Tryz.strconv_FormatInt_10 n h0 h1 w hL.pow).mono fun e w' ⟨he,k,os,hw⟩=>⟨he,by rw[hw];exact below_grow k os⟩
theorem uT (n:Int) (w:World) (h0: -9223372036854775808<=n) (h1:n<=9223372036854775807) (hL:Laid w):
  Calls Tryz.prog 204 #[.int .i64 n] w fun e w'=>e=.returned (.string ⟨(Lib.itoa n).toArray⟩)/\Below w.heap.size w w':=
 (Tryz.strconv_Itoa n h0 h1 w hL.pow).mono fun e w' ⟨he,k,os,hw⟩=>⟨he,by rw[hw];exact below_grow k os⟩
theorem below_bytesWorld {w w':World} {T:TypeId} (h:w'=w\/ ∃t,w'=Lib.bytesWorld w T t):Below w.heap.size w w':=by
 rcases h with rfl|⟨t,rfl⟩
 ·exact Below.refl _ _
 exact Lib.bytesWorld_below _ _ _
end Go.Proofs.YtkdakckjafomhaaGreatDoor
