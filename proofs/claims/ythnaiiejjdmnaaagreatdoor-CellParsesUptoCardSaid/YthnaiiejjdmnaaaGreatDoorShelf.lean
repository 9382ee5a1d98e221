/-
  DERIVED: THE SHELF's CONTRACTS AT THIS DUMP, IN PLAIN WORDS (tools/lay-plain.mjs out of 'TryzShelf.lean', which tools/lay-shelf.mjs wrote): THE SAME DECLARATIONS UNDER THE SAME NAMES: 'import', 'namespace', 'open', 'def', 'theorem' AND NOTHING ELSE: no command of the shelf's: FOR A HAND-IN. Each laying: the table of numbers ('.._ren') and one theorem, a field a fact of the dump's own or the kernel's comparison; each contract: ONE APPLICATION.
-/
import Derived.Shelf.Strings.Builder1
import Derived.Shelf.Strings.Builder2
import Derived.Shelf.Strings.Trim
import Derived.Shelf.Small.Utf8
import Derived.Shelf.Small.Bits
import Derived.Shelf.Small.Strs
import Derived.Shelf.Small.Wraps
import Derived.Shelf.Strings.BuilderF
import Derived.Shelf.Strings.BuilderK
import Derived.Shelf.Strconv.Atoi
import Derived.Shelf.Strconv.Itoa0
import Derived.Shelf.Strconv.Itoa1
import Derived.Shelf.LaysM
import Derived.Shelf.Strconv.Itoa2
import Derived.Shelf.Strconv.Itoa3
import Derived.Shelf.Strconv.Itoa4
import Derived.Shelf.Strconv.AtoiErrFast
import Derived.Shelf.Strconv.ParseIntEmpty
import Derived.Shelf.Strconv.AtoiFail
import Derived.Shelf.Strconv.Clone
import Derived.Shelf.Strconv.SyntaxError
import Derived.Shelf.LaysC
import Derived.Shelf.Strconv.ToError
import Derived.Shelf.Strconv.Lower
import Derived.Shelf.Strconv.ParseUint10
import Derived.Shelf.Strconv.ParseUint10Empty
import Derived.Shelf.Strconv.ParseUint10Any
import Derived.Shelf.Strconv.ParseInt10
import Derived.Shelf.Strconv.AtoiLong
import Derived.Shelf.Strconv.AtoiInnerAll
import Derived.Shelf.Strconv.RangeError
import Derived.Shelf.Strconv.ToErrorRange
import Derived.Shelf.Strconv.AtoiAll
import Derived.Shelf.Strconv.ErrVarAll
import Derived.Shelf.Strconv.ParseUintEmpty
import Derived.Shelf.Strconv.ParseUint10b64
import Derived.Shelf.Strconv.ParseUint10b32
import Derived.Shelf.Strconv.ParseUint10b16
import Derived.Shelf.Strconv.ParseUint10b8
import Derived.Shelf.Strconv.ParseUint10At
import Derived.Shelf.Strconv.ParseInt10At64
import Derived.Shelf.Strconv.ParseInt10At32
import Derived.Shelf.Strconv.ParseInt10At16
import Derived.Shelf.Strconv.ParseInt10At8
import Derived.Shelf.Strconv.ParseInt10All
import Derived.Shelf.Strconv.ParseIntPublic10
import Derived.Shelf.Strconv.ErrVarParseInt
import Derived.Shelf.Strings.Search1
import Derived.Shelf.Strings.Search2
import Derived.Shelf.Strings.Search3
import Derived.Shelf.Strings.Cut
import Derived.Shelf.Strings.Count
import Derived.Shelf.Strings.Shaped
import Derived.Shelf.Strings.Prefix
import Derived.Shelf.Strings.Split
import Derived.Shelf.Strings.Replace
import Derived.Shelf.Strings.SplitShaped
import Derived.Shelf.Unicode.Decode
import Derived.Shelf.Strings.Runes
import Derived.Shelf.Strings.IndexAny
import Derived.Shelf.Strings.AsciiSet
import Derived.Shelf.Strings.IndexAnyAll
import Derived.Shelf.Unicode.DecodeSlow
import Derived.Test.YthnaiiejjdmnaaaGreatDoorProg
namespace Go.Proofs
open Go.Shelf
def Tryz.lays162_ren : Go.Shelf.Ren := ⟨fun | 162 => 82 | 232 => 107 | 227 => 108 | 234 => 109 | 236 => 110 | 228 => 121 | 271 => 128 | 151 => 129 | 120 => 148 | 197 => 114 | 152 => 119 | 260 => 133 | 137 => 56 | 119 => 142 | 224 => 135 | 225 => 134 | 217 => 87 | 266 => 115 | n => n, fun | 9 => 9 | 4 => 4 | 3 => 3 | 5 => 5 | 117 => 134 | 116 => 133 | 0 => 0 | 124 => 137 | 21 => 21 | 105 => 139 | 46 => 79 | 119 => 164 | 139 => 167 | 138 => 166 | n => n, fun | 3 => 3 | 4 => 4 | n => n⟩
theorem Tryz.lays162 : Go.Proofs.Lays.n162 Tryz.prog Tryz.lays162_ren := {
  mixed := by kernel_rfl
  f119 := Tryz.func142.trans (congrArg some (by kernel_rfl))
  f120 := Tryz.func148.trans (congrArg some (by kernel_rfl))
  f137 := Tryz.func56.trans (congrArg some (by kernel_rfl))
  f151 := Tryz.func129.trans (congrArg some (by kernel_rfl))
  f152 := Tryz.func119.trans (congrArg some (by kernel_rfl))
  f162 := Tryz.func82.trans (congrArg some (by kernel_rfl))
  f197 := Tryz.func114.trans (congrArg some (by kernel_rfl))
  f217 := Tryz.func87.trans (congrArg some (by kernel_rfl))
  f224 := Tryz.func135.trans (congrArg some (by kernel_rfl))
  f225 := Tryz.func134.trans (congrArg some (by kernel_rfl))
  f227 := Tryz.func108.trans (congrArg some (by kernel_rfl))
  f228 := Tryz.func121.trans (congrArg some (by kernel_rfl))
  f232 := Tryz.func107.trans (congrArg some (by kernel_rfl))
  f234 := Tryz.func109.trans (congrArg some (by kernel_rfl))
  f236 := Tryz.func110.trans (congrArg some (by kernel_rfl))
  f260 := Tryz.func133.trans (congrArg some (by kernel_rfl))
  f266 := Tryz.func115.trans (congrArg some (by kernel_rfl))
  f271 := Tryz.func128.trans (congrArg some (by kernel_rfl))
  t0 := Tryz.underlying0
  a0 := Tryz.isAgg0
  z0 := Tryz.sizeOf0
  v0 := Tryz.zeroValue0
  t3 := Tryz.underlying3
  a3 := Tryz.isAgg3
  z3 := Tryz.sizeOf3
  v3 := Tryz.zeroValue3
  t4 := Tryz.underlying4
  a4 := Tryz.isAgg4
  z4 := Tryz.sizeOf4
  v4 := Tryz.zeroValue4
  t5 := Tryz.underlying5
  a5 := Tryz.isAgg5
  z5 := Tryz.sizeOf5
  v5 := Tryz.zeroValue5
  t9 := Tryz.underlying9
  a9 := Tryz.isAgg9
  z9 := Tryz.sizeOf9
  v9 := Tryz.zeroValue9
  t21 := Tryz.underlying21
  a21 := Tryz.isAgg21
  z21 := Tryz.sizeOf21
  v21 := Tryz.zeroValue21
  t46 := Tryz.underlying79
  a46 := Tryz.isAgg79
  z46 := Tryz.sizeOf79
  v46 := Tryz.zeroValue79
  t105 := Tryz.underlying139
  a105 := Tryz.isAgg139
  z105 := Tryz.sizeOf139
  v105 := Tryz.zeroValue139
  t116 := Tryz.underlying133
  a116 := Tryz.isAgg133
  z116 := Tryz.sizeOf133
  t117 := Tryz.underlying134
  a117 := Tryz.isAgg134
  z117 := Tryz.sizeOf134
  v117 := Tryz.zeroValue134
  t119 := Tryz.underlying164
  a119 := Tryz.isAgg164
  z119 := Tryz.sizeOf164
  t124 := Tryz.underlying137
  a124 := Tryz.isAgg137
  z124 := Tryz.sizeOf137
  v124 := Tryz.zeroValue137
  t138 := Tryz.underlying166
  a138 := Tryz.isAgg166
  z138 := Tryz.sizeOf166
  v138 := Tryz.zeroValue166
  t139 := Tryz.underlying167
  a139 := Tryz.isAgg167
  z139 := Tryz.sizeOf167
  v139 := Tryz.zeroValue167
  g3 := by kernel_rfl
  g4 := by kernel_rfl }
open Go.RowKit in
/-- strings.TrimRight: "TrimRight returns a slice of the string s, with all trailing Unicode code points contained in cutset removed.": AT A cutset OF ONE ASCII BYTE. The world is as it was. (LAID: no walk: one application.) -/
theorem Tryz.strings_TrimRight_one (s : ByteArray) (c : UInt8) (hc : c.toNat < 128) (w : World) (hs : s.size ≤ 9223372036854775807) :
    Calls Tryz.prog 82 #[.string s, .string ⟨#[c]⟩] w fun e w' => e = .returned (.string ⟨(Lib.trimRightB s.data.toList c).toArray⟩) ∧ w' = w := Any.strings_TrimRight_one Tryz.lays162 s c hc w hs
def Tryz.lays119_ren : Go.Shelf.Ren := ⟨fun | 119 => 142 | n => n, fun | 21 => 21 | 4 => 4 | n => n, fun | n => n⟩
theorem Tryz.lays119 : Go.Proofs.Lays.n119 Tryz.prog Tryz.lays119_ren := {
  mixed := by kernel_rfl
  f119 := Tryz.func142.trans (congrArg some (by kernel_rfl))
  t4 := Tryz.underlying4
  a4 := Tryz.isAgg4
  z4 := Tryz.sizeOf4
  v4 := Tryz.zeroValue4
  t21 := Tryz.underlying21
  a21 := Tryz.isAgg21
  z21 := Tryz.sizeOf21
  v21 := Tryz.zeroValue21 }
/-- utf8.ValidRune: "ValidRune reports whether r can be legally encoded as UTF-8. Code points that are out of range or a surrogate half are illegal.": IT RETURNS 'Lib.validRune r'; the world is as it was. (LAID: no walk: one application.) -/
theorem Tryz.utf8_ValidRune (r : Int) (w : World) :
    Calls Tryz.prog 142 #[.int .i32 r] w fun e w' => e = .returned (.bool (Lib.validRune r)) ∧ w' = w := Any.utf8_ValidRune Tryz.lays119 r w
def Tryz.lays134_ren : Go.Shelf.Ren := ⟨fun | 134 => 80 | 129 => 105 | n => n, fun | 53 => 90 | 3 => 3 | 4 => 4 | 46 => 79 | 5 => 5 | 9 => 9 | n => n, fun | n => n⟩
theorem Tryz.lays134 : Go.Proofs.Lays.n134 Tryz.prog Tryz.lays134_ren := {
  mixed := by kernel_rfl
  f129 := Tryz.func105.trans (congrArg some (by kernel_rfl))
  f134 := Tryz.func80.trans (congrArg some (by kernel_rfl))
  t3 := Tryz.underlying3
  a3 := Tryz.isAgg3
  z3 := Tryz.sizeOf3
  v3 := Tryz.zeroValue3
  t4 := Tryz.underlying4
  a4 := Tryz.isAgg4
  z4 := Tryz.sizeOf4
  v4 := Tryz.zeroValue4
  t5 := Tryz.underlying5
  a5 := Tryz.isAgg5
  z5 := Tryz.sizeOf5
  v5 := Tryz.zeroValue5
  t9 := Tryz.underlying9
  a9 := Tryz.isAgg9
  z9 := Tryz.sizeOf9
  v9 := Tryz.zeroValue9
  t46 := Tryz.underlying79
  a46 := Tryz.isAgg79
  z46 := Tryz.sizeOf79
  v46 := Tryz.zeroValue79
  t53 := Tryz.underlying90
  a53 := Tryz.isAgg90
  z53 := Tryz.sizeOf90
  v53 := Tryz.zeroValue90 }
/-- bits.LeadingZeros64: "LeadingZeros64 returns the number of leading zero bits in x; the result is 64 for x == 0.": IT RETURNS '64 - Lib.bitLen x'; the world is as it was. ITS CALLEE bits.Len64 IS MET BY ITS OWN CONTRACT OFF THE SHELF (lay that first): entered in place it sends the kernel out of memory. (LAID: no walk: one application.) -/
theorem Tryz.bits_LeadingZeros64 (x : Int) (w : World) (h0 : 0 ≤ x) (h1 : x ≤ 18446744073709551615) :
    Calls Tryz.prog 80 #[.int .u64 x] w fun e w' => e = .returned (.int .i64 (64 - (Lib.bitLen x.toNat : Int))) ∧ w' = w := Any.bits_LeadingZeros64 Tryz.lays134 x w h0 h1
def Tryz.lays137_ren : Go.Shelf.Ren := ⟨fun | 137 => 56 | 217 => 87 | 266 => 115 | n => n, fun | 9 => 9 | 5 => 5 | 3 => 3 | n => n, fun | n => n⟩
theorem Tryz.lays137 : Go.Proofs.Lays.n137 Tryz.prog Tryz.lays137_ren := {
  mixed := by kernel_rfl
  f137 := Tryz.func56.trans (congrArg some (by kernel_rfl))
  f217 := Tryz.func87.trans (congrArg some (by kernel_rfl))
  f266 := Tryz.func115.trans (congrArg some (by kernel_rfl))
  t3 := Tryz.underlying3
  a3 := Tryz.isAgg3
  z3 := Tryz.sizeOf3
  v3 := Tryz.zeroValue3
  t5 := Tryz.underlying5
  a5 := Tryz.isAgg5
  z5 := Tryz.sizeOf5
  v5 := Tryz.zeroValue5
  t9 := Tryz.underlying9
  a9 := Tryz.isAgg9
  z9 := Tryz.sizeOf9
  v9 := Tryz.zeroValue9 }
open Go.RowKit in
/-- strings.IndexByte: "IndexByte returns the index of the first instance of c in s, or -1 if c is not present in s.": IT RETURNS 'Lib.indexByte s c'; the world is as it was. (LAID: no walk: one application.) -/
theorem Tryz.strings_IndexByte (s : ByteArray) (c : Int) (w : World) :
    Calls Tryz.prog 56 #[.string s, .int .u8 c] w fun e w' => e = .returned (.int .i64 (Lib.indexByte s.data.toList c.toNat.toUInt8)) ∧ w' = w := Any.strings_IndexByte Tryz.lays137 s c w
def Tryz.lays103_ren : Go.Shelf.Ren := ⟨fun | 103 => 57 | 210 => 88 | 206 => 97 | n => n, fun | 9 => 9 | 4 => 4 | 24 => 94 | 3 => 3 | n => n, fun | n => n⟩
theorem Tryz.lays103 : Go.Proofs.Lays.n103 Tryz.prog Tryz.lays103_ren := {
  mixed := by kernel_rfl
  f103 := Tryz.func57.trans (congrArg some (by kernel_rfl))
  f206 := Tryz.func97.trans (congrArg some (by kernel_rfl))
  f210 := Tryz.func88.trans (congrArg some (by kernel_rfl))
  t3 := Tryz.underlying3
  a3 := Tryz.isAgg3
  z3 := Tryz.sizeOf3
  v3 := Tryz.zeroValue3
  t4 := Tryz.underlying4
  a4 := Tryz.isAgg4
  z4 := Tryz.sizeOf4
  v4 := Tryz.zeroValue4
  t9 := Tryz.underlying9
  a9 := Tryz.isAgg9
  z9 := Tryz.sizeOf9
  v9 := Tryz.zeroValue9
  t24 := Tryz.underlying94
  a24 := Tryz.isAgg94
  z24 := Tryz.sizeOf94
  v24 := Tryz.zeroValue94 }
open Go.RowKit in
/-- strings.CutPrefix: "CutPrefix returns s without the provided leading prefix string and reports whether it found the prefix. If s doesn't start with prefix, CutPrefix returns s, false. If prefix is the empty string, CutPrefix returns s, true.": IT RETURNS '(Lib.trimPrefix s p, Lib.hasPrefix s p)'; the world is as it was. (LAID: no walk: one application.) -/
theorem Tryz.strings_CutPrefix (s p : ByteArray) (w : World) :
    Calls Tryz.prog 57 #[.string s, .string p] w fun e w' => e = .returned (.tuple #[.string ⟨(Lib.trimPrefix s.data.toList p.data.toList).toArray⟩, .bool (Lib.hasPrefix s.data.toList p.data.toList)]) ∧ w' = w := Any.strings_CutPrefix Tryz.lays103 s p w
def Tryz.laysM171_ren : Go.Shelf.Ren := ⟨fun | 171 => 83 | 243 => 111 | 246 => 104 | 283 => 124 | 284 => 125 | 285 => 126 | 286 => 127 | 129 => 105 | 317 => 144 | 318 => 145 | 319 => 146 | 320 => 147 | 337 => 155 | 338 => 95 | n => n, fun | 3 => 3 | 9 => 9 | 2 => 2 | 4 => 4 | 171 => 145 | 0 => 0 | 53 => 90 | 37 => 59 | 5 => 5 | 173 => 147 | 212 => 159 | 51 => 160 | 20 => 20 | 213 => 161 | 46 => 79 | 232 => 178 | 233 => 144 | n => n, fun | 17 => 2 | 18 => 7 | 19 => 0 | n => n⟩
theorem Tryz.laysM171 : Go.Proofs.LaysM.n171 Tryz.prog Tryz.laysM171_ren := {
  mixed := by kernel_rfl
  f129 := Tryz.func105.trans (congrArg some (by kernel_rfl))
  f171 := Tryz.func83.trans (congrArg some (by kernel_rfl))
  f243 := Tryz.func111.trans (congrArg some (by kernel_rfl))
  f246 := Tryz.func104.trans (congrArg some (by kernel_rfl))
  f283 := Tryz.func124.trans (congrArg some (by kernel_rfl))
  f284 := Tryz.func125.trans (congrArg some (by kernel_rfl))
  f285 := Tryz.func126.trans (congrArg some (by kernel_rfl))
  f286 := Tryz.func127.trans (congrArg some (by kernel_rfl))
  f317 := Tryz.func144.trans (congrArg some (by kernel_rfl))
  f318 := Tryz.func145.trans (congrArg some (by kernel_rfl))
  f319 := Tryz.func146.trans (congrArg some (by kernel_rfl))
  f320 := Tryz.func147.trans (congrArg some (by kernel_rfl))
  f337 := Tryz.func155.trans (congrArg some (by kernel_rfl))
  f338 := Tryz.func95.trans (congrArg some (by kernel_rfl))
  t0 := Tryz.underlying0
  a0 := Tryz.isAgg0
  z0 := Tryz.sizeOf0
  v0 := Tryz.zeroValue0
  t2 := Tryz.underlying2
  a2 := Tryz.isAgg2
  z2 := Tryz.sizeOf2
  v2 := Tryz.zeroValue2
  t3 := Tryz.underlying3
  a3 := Tryz.isAgg3
  z3 := Tryz.sizeOf3
  v3 := Tryz.zeroValue3
  t4 := Tryz.underlying4
  a4 := Tryz.isAgg4
  z4 := Tryz.sizeOf4
  v4 := Tryz.zeroValue4
  t5 := Tryz.underlying5
  a5 := Tryz.isAgg5
  z5 := Tryz.sizeOf5
  v5 := Tryz.zeroValue5
  t9 := Tryz.underlying9
  a9 := Tryz.isAgg9
  z9 := Tryz.sizeOf9
  v9 := Tryz.zeroValue9
  t20 := Tryz.underlying20
  a20 := Tryz.isAgg20
  z20 := Tryz.sizeOf20
  v20 := Tryz.zeroValue20
  t37 := Tryz.underlying59
  a37 := Tryz.isAgg59
  z37 := Tryz.sizeOf59
  v37 := Tryz.zeroValue59
  t46 := Tryz.underlying79
  a46 := Tryz.isAgg79
  z46 := Tryz.sizeOf79
  v46 := Tryz.zeroValue79
  t51 := Tryz.underlying160
  a51 := Tryz.isAgg160
  z51 := Tryz.sizeOf160
  v51 := Tryz.zeroValue160
  t53 := Tryz.underlying90
  a53 := Tryz.isAgg90
  z53 := Tryz.sizeOf90
  v53 := Tryz.zeroValue90
  t171 := Tryz.underlying145
  a171 := Tryz.isAgg145
  z171 := Tryz.sizeOf145
  v171 := Tryz.zeroValue145
  t173 := Tryz.underlying147
  a173 := Tryz.isAgg147
  z173 := Tryz.sizeOf147
  v173 := Tryz.zeroValue147
  t212 := Tryz.underlying159
  a212 := Tryz.isAgg159
  z212 := Tryz.sizeOf159
  v212 := Tryz.zeroValue159
  t213 := Tryz.underlying161
  a213 := Tryz.isAgg161
  z213 := Tryz.sizeOf161
  t232 := Tryz.underlying178
  a232 := Tryz.isAgg178
  z232 := Tryz.sizeOf178
  v232 := Tryz.zeroValue178
  t233 := Tryz.underlying144
  a233 := Tryz.isAgg144
  z233 := Tryz.sizeOf144
  v233 := Tryz.zeroValue144
  g17 := by kernel_rfl
  g18 := by kernel_rfl
  g19 := by kernel_rfl
  i0 := by kernel_rfl
  i2 := by kernel_rfl
  i3 := by kernel_rfl
  i4 := by kernel_rfl
  i5 := by kernel_rfl
  i9 := by kernel_rfl
  i20 := by kernel_rfl
  i37 := by kernel_rfl
  i46 := by kernel_rfl
  i51 := by kernel_rfl
  i53 := by kernel_rfl
  i171 := by kernel_rfl
  i173 := by kernel_rfl
  i212 := by kernel_rfl
  i232 := by kernel_rfl
  i233 := by kernel_rfl
  m17 := by kernel_rfl
  m18 := by kernel_rfl
  m19 := by kernel_rfl }
open Go.RowKit Go.Sort Go.Lib in
/-- strconv.Itoa: "Itoa is equivalent to FormatInt(int64(i), 10).": i's DECIMAL NUMERAL ('Lib.itoa': a '-' where i is negative, then the digits), FOR EVERY int. The world behind the call: the world before it, new blocks behind the heap (the library's 'var a [24]byte'), draws. (LAID: no walk: one application.) -/
theorem Tryz.strconv_Itoa (n : Int) (h0 : -9223372036854775808 ≤ n) (h1 : n ≤ 9223372036854775807) (w : World) (htab : Lib.TabIs Tryz.prog w "internal/strconv.uint64pow10" .u64 Lib.pow10Tab) :
    Calls Tryz.prog 83 #[.int .i64 n] w fun e w' => e = .returned (.string ⟨(Lib.itoa n).toArray⟩) ∧ ∃ k os, w' = grow (w.drewN k) os := Any.strconv_Itoa Tryz.laysM171 n h0 h1 w htab
def Tryz.laysM173_ren : Go.Shelf.Ren := ⟨fun | 173 => 79 | 246 => 104 | 283 => 124 | 284 => 125 | 285 => 126 | 286 => 127 | 129 => 105 | 317 => 144 | 318 => 145 | 319 => 146 | 320 => 147 | 337 => 155 | 338 => 95 | n => n, fun | 2 => 2 | 3 => 3 | 9 => 9 | 4 => 4 | 171 => 145 | 0 => 0 | 53 => 90 | 37 => 59 | 5 => 5 | 173 => 147 | 212 => 159 | 51 => 160 | 20 => 20 | 213 => 161 | 46 => 79 | 232 => 178 | 233 => 144 | n => n, fun | 17 => 2 | 18 => 7 | 19 => 0 | n => n⟩
theorem Tryz.laysM173 : Go.Proofs.LaysM.n173 Tryz.prog Tryz.laysM173_ren := {
  mixed := by kernel_rfl
  f129 := Tryz.func105.trans (congrArg some (by kernel_rfl))
  f173 := Tryz.func79.trans (congrArg some (by kernel_rfl))
  f246 := Tryz.func104.trans (congrArg some (by kernel_rfl))
  f283 := Tryz.func124.trans (congrArg some (by kernel_rfl))
  f284 := Tryz.func125.trans (congrArg some (by kernel_rfl))
  f285 := Tryz.func126.trans (congrArg some (by kernel_rfl))
  f286 := Tryz.func127.trans (congrArg some (by kernel_rfl))
  f317 := Tryz.func144.trans (congrArg some (by kernel_rfl))
  f318 := Tryz.func145.trans (congrArg some (by kernel_rfl))
  f319 := Tryz.func146.trans (congrArg some (by kernel_rfl))
  f320 := Tryz.func147.trans (congrArg some (by kernel_rfl))
  f337 := Tryz.func155.trans (congrArg some (by kernel_rfl))
  f338 := Tryz.func95.trans (congrArg some (by kernel_rfl))
  t0 := Tryz.underlying0
  a0 := Tryz.isAgg0
  z0 := Tryz.sizeOf0
  v0 := Tryz.zeroValue0
  t2 := Tryz.underlying2
  a2 := Tryz.isAgg2
  z2 := Tryz.sizeOf2
  v2 := Tryz.zeroValue2
  t3 := Tryz.underlying3
  a3 := Tryz.isAgg3
  z3 := Tryz.sizeOf3
  v3 := Tryz.zeroValue3
  t4 := Tryz.underlying4
  a4 := Tryz.isAgg4
  z4 := Tryz.sizeOf4
  v4 := Tryz.zeroValue4
  t5 := Tryz.underlying5
  a5 := Tryz.isAgg5
  z5 := Tryz.sizeOf5
  v5 := Tryz.zeroValue5
  t9 := Tryz.underlying9
  a9 := Tryz.isAgg9
  z9 := Tryz.sizeOf9
  v9 := Tryz.zeroValue9
  t20 := Tryz.underlying20
  a20 := Tryz.isAgg20
  z20 := Tryz.sizeOf20
  v20 := Tryz.zeroValue20
  t37 := Tryz.underlying59
  a37 := Tryz.isAgg59
  z37 := Tryz.sizeOf59
  v37 := Tryz.zeroValue59
  t46 := Tryz.underlying79
  a46 := Tryz.isAgg79
  z46 := Tryz.sizeOf79
  v46 := Tryz.zeroValue79
  t51 := Tryz.underlying160
  a51 := Tryz.isAgg160
  z51 := Tryz.sizeOf160
  v51 := Tryz.zeroValue160
  t53 := Tryz.underlying90
  a53 := Tryz.isAgg90
  z53 := Tryz.sizeOf90
  v53 := Tryz.zeroValue90
  t171 := Tryz.underlying145
  a171 := Tryz.isAgg145
  z171 := Tryz.sizeOf145
  v171 := Tryz.zeroValue145
  t173 := Tryz.underlying147
  a173 := Tryz.isAgg147
  z173 := Tryz.sizeOf147
  v173 := Tryz.zeroValue147
  t212 := Tryz.underlying159
  a212 := Tryz.isAgg159
  z212 := Tryz.sizeOf159
  v212 := Tryz.zeroValue159
  t213 := Tryz.underlying161
  a213 := Tryz.isAgg161
  z213 := Tryz.sizeOf161
  t232 := Tryz.underlying178
  a232 := Tryz.isAgg178
  z232 := Tryz.sizeOf178
  v232 := Tryz.zeroValue178
  t233 := Tryz.underlying144
  a233 := Tryz.isAgg144
  z233 := Tryz.sizeOf144
  v233 := Tryz.zeroValue144
  g17 := by kernel_rfl
  g18 := by kernel_rfl
  g19 := by kernel_rfl
  i0 := by kernel_rfl
  i2 := by kernel_rfl
  i3 := by kernel_rfl
  i4 := by kernel_rfl
  i5 := by kernel_rfl
  i9 := by kernel_rfl
  i20 := by kernel_rfl
  i37 := by kernel_rfl
  i46 := by kernel_rfl
  i51 := by kernel_rfl
  i53 := by kernel_rfl
  i171 := by kernel_rfl
  i173 := by kernel_rfl
  i212 := by kernel_rfl
  i232 := by kernel_rfl
  i233 := by kernel_rfl
  m17 := by kernel_rfl
  m18 := by kernel_rfl
  m19 := by kernel_rfl }
open Go.RowKit Go.Sort Go.Lib in
/-- strconv.FormatInt: "FormatInt returns the string representation of i in the given base": AT BASE 10: i's decimal numeral, for every int64. (LAID: no walk: one application.) -/
theorem Tryz.strconv_FormatInt_10 (n : Int) (h0 : -9223372036854775808 ≤ n) (h1 : n ≤ 9223372036854775807) (w : World) (htab : Lib.TabIs Tryz.prog w "internal/strconv.uint64pow10" .u64 Lib.pow10Tab) :
    Calls Tryz.prog 79 #[.int .i64 n, .int .i64 10] w fun e w' => e = .returned (.string ⟨(Lib.itoa n).toArray⟩) ∧ ∃ k os, w' = grow (w.drewN k) os := Any.strconv_FormatInt_10 Tryz.laysM173 n h0 h1 w htab
def Tryz.laysC172_ren : Go.Shelf.Ren := ⟨fun | 172 => 122 | 244 => 143 | 245 => 118 | 247 => 117 | 279 => 138 | 280 => 139 | 281 => 140 | 282 => 141 | 287 => 137 | 316 => 153 | 171 => 83 | 205 => 154 | 321 => 151 | 322 => 152 | 243 => 111 | 246 => 104 | 283 => 124 | 284 => 125 | 285 => 126 | 286 => 127 | 129 => 105 | 317 => 144 | 318 => 145 | 319 => 146 | 320 => 147 | 337 => 155 | 338 => 95 | n => n, fun | 9 => 9 | 3 => 3 | 75 => 63 | 76 => 65 | 4 => 4 | 5 => 5 | 167 => 151 | 37 => 59 | 0 => 0 | 85 => 120 | 2 => 2 | 168 => 154 | 53 => 90 | 175 => 152 | 46 => 79 | 210 => 172 | 127 => 92 | 145 => 177 | 143 => 175 | 21 => 21 | 171 => 145 | 173 => 147 | 212 => 159 | 51 => 160 | 20 => 20 | 213 => 161 | 232 => 178 | 233 => 144 | 80 => 68 | n => n, fun | 15 => 5 | 16 => 6 | 17 => 2 | 18 => 7 | 19 => 0 | n => n⟩
theorem Tryz.laysC172 : Go.Proofs.LaysC.n172 Tryz.prog Tryz.laysC172_ren := {
  mixed := by kernel_rfl
  f129 := Tryz.func105.trans (congrArg some (by kernel_rfl))
  f171 := Tryz.func83.trans (congrArg some (by kernel_rfl))
  f172 := Tryz.func122.trans (congrArg some (by kernel_rfl))
  f205 := Tryz.func154.trans (congrArg some (by kernel_rfl))
  f243 := Tryz.func111.trans (congrArg some (by kernel_rfl))
  f244 := Tryz.func143.trans (congrArg some (by kernel_rfl))
  f245 := Tryz.func118.trans (congrArg some (by kernel_rfl))
  f246 := Tryz.func104.trans (congrArg some (by kernel_rfl))
  f247 := Tryz.func117.trans (congrArg some (by kernel_rfl))
  f279 := Tryz.func138.trans (congrArg some (by kernel_rfl))
  f280 := Tryz.func139.trans (congrArg some (by kernel_rfl))
  f281 := Tryz.func140.trans (congrArg some (by kernel_rfl))
  f282 := Tryz.func141.trans (congrArg some (by kernel_rfl))
  f283 := Tryz.func124.trans (congrArg some (by kernel_rfl))
  f284 := Tryz.func125.trans (congrArg some (by kernel_rfl))
  f285 := Tryz.func126.trans (congrArg some (by kernel_rfl))
  f286 := Tryz.func127.trans (congrArg some (by kernel_rfl))
  f287 := Tryz.func137.trans (congrArg some (by kernel_rfl))
  f316 := Tryz.func153.trans (congrArg some (by kernel_rfl))
  f317 := Tryz.func144.trans (congrArg some (by kernel_rfl))
  f318 := Tryz.func145.trans (congrArg some (by kernel_rfl))
  f319 := Tryz.func146.trans (congrArg some (by kernel_rfl))
  f320 := Tryz.func147.trans (congrArg some (by kernel_rfl))
  f321 := Tryz.func151.trans (congrArg some (by kernel_rfl))
  f322 := Tryz.func152.trans (congrArg some (by kernel_rfl))
  f337 := Tryz.func155.trans (congrArg some (by kernel_rfl))
  f338 := Tryz.func95.trans (congrArg some (by kernel_rfl))
  t0 := Tryz.underlying0
  a0 := Tryz.isAgg0
  z0 := Tryz.sizeOf0
  v0 := Tryz.zeroValue0
  t2 := Tryz.underlying2
  a2 := Tryz.isAgg2
  z2 := Tryz.sizeOf2
  v2 := Tryz.zeroValue2
  t3 := Tryz.underlying3
  a3 := Tryz.isAgg3
  z3 := Tryz.sizeOf3
  v3 := Tryz.zeroValue3
  t4 := Tryz.underlying4
  a4 := Tryz.isAgg4
  z4 := Tryz.sizeOf4
  v4 := Tryz.zeroValue4
  t5 := Tryz.underlying5
  a5 := Tryz.isAgg5
  z5 := Tryz.sizeOf5
  v5 := Tryz.zeroValue5
  t9 := Tryz.underlying9
  a9 := Tryz.isAgg9
  z9 := Tryz.sizeOf9
  v9 := Tryz.zeroValue9
  t20 := Tryz.underlying20
  a20 := Tryz.isAgg20
  z20 := Tryz.sizeOf20
  v20 := Tryz.zeroValue20
  t21 := Tryz.underlying21
  a21 := Tryz.isAgg21
  z21 := Tryz.sizeOf21
  v21 := Tryz.zeroValue21
  t37 := Tryz.underlying59
  a37 := Tryz.isAgg59
  z37 := Tryz.sizeOf59
  v37 := Tryz.zeroValue59
  t46 := Tryz.underlying79
  a46 := Tryz.isAgg79
  z46 := Tryz.sizeOf79
  v46 := Tryz.zeroValue79
  t51 := Tryz.underlying160
  a51 := Tryz.isAgg160
  z51 := Tryz.sizeOf160
  v51 := Tryz.zeroValue160
  t53 := Tryz.underlying90
  a53 := Tryz.isAgg90
  z53 := Tryz.sizeOf90
  v53 := Tryz.zeroValue90
  t75 := Tryz.underlying63
  a75 := Tryz.isAgg63
  z75 := Tryz.sizeOf63
  v75 := Tryz.zeroValue63
  t76 := Tryz.underlying65
  a76 := Tryz.isAgg65
  z76 := Tryz.sizeOf65
  v76 := Tryz.zeroValue65
  t85 := Tryz.underlying120
  a85 := Tryz.isAgg120
  z85 := Tryz.sizeOf120
  v85 := Tryz.zeroValue120
  t127 := Tryz.underlying92
  a127 := Tryz.isAgg92
  z127 := Tryz.sizeOf92
  v127 := Tryz.zeroValue92
  t143 := Tryz.underlying175
  a143 := Tryz.isAgg175
  z143 := Tryz.sizeOf175
  v143 := Tryz.zeroValue175
  t145 := Tryz.underlying177
  a145 := Tryz.isAgg177
  z145 := Tryz.sizeOf177
  v145 := Tryz.zeroValue177
  t167 := Tryz.underlying151
  a167 := Tryz.isAgg151
  z167 := Tryz.sizeOf151
  v167 := Tryz.zeroValue151
  t168 := Tryz.underlying154
  a168 := Tryz.isAgg154
  z168 := Tryz.sizeOf154
  v168 := Tryz.zeroValue154
  t171 := Tryz.underlying145
  a171 := Tryz.isAgg145
  z171 := Tryz.sizeOf145
  v171 := Tryz.zeroValue145
  t173 := Tryz.underlying147
  a173 := Tryz.isAgg147
  z173 := Tryz.sizeOf147
  v173 := Tryz.zeroValue147
  t175 := Tryz.underlying152
  a175 := Tryz.isAgg152
  z175 := Tryz.sizeOf152
  v175 := Tryz.zeroValue152
  t210 := Tryz.underlying172
  a210 := Tryz.isAgg172
  z210 := Tryz.sizeOf172
  v210 := Tryz.zeroValue172
  t212 := Tryz.underlying159
  a212 := Tryz.isAgg159
  z212 := Tryz.sizeOf159
  v212 := Tryz.zeroValue159
  t213 := Tryz.underlying161
  a213 := Tryz.isAgg161
  z213 := Tryz.sizeOf161
  t232 := Tryz.underlying178
  a232 := Tryz.isAgg178
  z232 := Tryz.sizeOf178
  v232 := Tryz.zeroValue178
  t233 := Tryz.underlying144
  a233 := Tryz.isAgg144
  z233 := Tryz.sizeOf144
  v233 := Tryz.zeroValue144
  g15 := by kernel_rfl
  g16 := by kernel_rfl
  g17 := by kernel_rfl
  g18 := by kernel_rfl
  g19 := by kernel_rfl
  t80 := Tryz.underlying68
  a80 := Tryz.isAgg68
  z80 := Tryz.sizeOf68
  v80 := Tryz.zeroValue68
  i0 := by kernel_rfl
  i2 := by kernel_rfl
  i3 := by kernel_rfl
  i4 := by kernel_rfl
  i5 := by kernel_rfl
  i9 := by kernel_rfl
  i20 := by kernel_rfl
  i21 := by kernel_rfl
  i37 := by kernel_rfl
  i46 := by kernel_rfl
  i51 := by kernel_rfl
  i53 := by kernel_rfl
  i75 := by kernel_rfl
  i76 := by kernel_rfl
  i80 := by kernel_rfl
  i85 := by kernel_rfl
  i127 := by kernel_rfl
  i143 := by kernel_rfl
  i145 := by kernel_rfl
  i167 := by kernel_rfl
  i168 := by kernel_rfl
  i171 := by kernel_rfl
  i173 := by kernel_rfl
  i175 := by kernel_rfl
  i210 := by kernel_rfl
  i212 := by kernel_rfl
  i232 := by kernel_rfl
  i233 := by kernel_rfl
  m15 := by kernel_rfl
  m16 := by kernel_rfl
  m17 := by kernel_rfl
  m18 := by kernel_rfl
  m19 := by kernel_rfl
  c0 := by kernel_rfl
  c2 := by kernel_rfl
  c3 := by kernel_rfl
  c4 := by kernel_rfl
  c5 := by kernel_rfl
  c9 := by kernel_rfl
  c20 := by kernel_rfl
  c21 := by kernel_rfl
  c37 := by kernel_rfl
  c46 := by kernel_rfl
  c51 := by kernel_rfl
  c53 := by kernel_rfl
  c75 := by kernel_rfl
  c76 := by kernel_rfl
  c80 := by kernel_rfl
  c85 := by kernel_rfl
  c127 := by kernel_rfl
  c143 := by kernel_rfl
  c145 := by kernel_rfl
  c167 := by kernel_rfl
  c168 := by kernel_rfl
  c171 := by kernel_rfl
  c173 := by kernel_rfl
  c175 := by kernel_rfl
  c210 := by kernel_rfl
  c212 := by kernel_rfl
  c213 := by kernel_rfl
  c232 := by kernel_rfl
  c233 := by kernel_rfl }
open Go.RowKit in
/-- strconv.Atoi, AT EVERY STRING THAT SPELLS AN int ('Lib.atoiAll .. = .ok v'; of whatever length: leading zeros count): v, AND NO ERROR. The world: as it was, or with the one new row that '[]byte(..)' lays. (LAID: no walk: one application.) -/
theorem Tryz.strconv_Atoi_ok (s : ByteArray) (hmax : s.size ≤ 9223372036854775806) (v : Int) (h : Lib.atoiAll s.data.toList = .ok v) (w : World) :
    Calls Tryz.prog 122 #[.string s] w fun e w' => e = .returned (.tuple #[.int .i64 v, .nilIface]) ∧ (w' = w ∨ ∃ t, w' = Lib.bytesWorld w 5 t) := Any.strconv_Atoi_ok Tryz.laysC172 s hmax v h w
def Tryz.laysC174_ren : Go.Shelf.Ren := ⟨fun | 174 => 91 | 247 => 117 | 245 => 118 | 287 => 137 | 279 => 138 | 280 => 139 | 281 => 140 | 282 => 141 | 321 => 151 | 322 => 152 | 316 => 153 | 171 => 83 | 205 => 154 | 243 => 111 | 246 => 104 | 283 => 124 | 284 => 125 | 285 => 126 | 286 => 127 | 129 => 105 | 317 => 144 | 318 => 145 | 319 => 146 | 320 => 147 | 337 => 155 | 338 => 95 | n => n, fun | 9 => 9 | 3 => 3 | 2 => 2 | 75 => 63 | 85 => 120 | 4 => 4 | 167 => 151 | 5 => 5 | 53 => 90 | 175 => 152 | 46 => 79 | 168 => 154 | 37 => 59 | 0 => 0 | 210 => 172 | 21 => 21 | 127 => 92 | 145 => 177 | 143 => 175 | 171 => 145 | 173 => 147 | 212 => 159 | 51 => 160 | 20 => 20 | 213 => 161 | 232 => 178 | 233 => 144 | 80 => 68 | n => n, fun | 15 => 5 | 16 => 6 | 17 => 2 | 18 => 7 | 19 => 0 | n => n⟩
theorem Tryz.laysC174 : Go.Proofs.LaysC.n174 Tryz.prog Tryz.laysC174_ren := {
  mixed := by kernel_rfl
  f129 := Tryz.func105.trans (congrArg some (by kernel_rfl))
  f171 := Tryz.func83.trans (congrArg some (by kernel_rfl))
  f174 := Tryz.func91.trans (congrArg some (by kernel_rfl))
  f205 := Tryz.func154.trans (congrArg some (by kernel_rfl))
  f243 := Tryz.func111.trans (congrArg some (by kernel_rfl))
  f245 := Tryz.func118.trans (congrArg some (by kernel_rfl))
  f246 := Tryz.func104.trans (congrArg some (by kernel_rfl))
  f247 := Tryz.func117.trans (congrArg some (by kernel_rfl))
  f279 := Tryz.func138.trans (congrArg some (by kernel_rfl))
  f280 := Tryz.func139.trans (congrArg some (by kernel_rfl))
  f281 := Tryz.func140.trans (congrArg some (by kernel_rfl))
  f282 := Tryz.func141.trans (congrArg some (by kernel_rfl))
  f283 := Tryz.func124.trans (congrArg some (by kernel_rfl))
  f284 := Tryz.func125.trans (congrArg some (by kernel_rfl))
  f285 := Tryz.func126.trans (congrArg some (by kernel_rfl))
  f286 := Tryz.func127.trans (congrArg some (by kernel_rfl))
  f287 := Tryz.func137.trans (congrArg some (by kernel_rfl))
  f316 := Tryz.func153.trans (congrArg some (by kernel_rfl))
  f317 := Tryz.func144.trans (congrArg some (by kernel_rfl))
  f318 := Tryz.func145.trans (congrArg some (by kernel_rfl))
  f319 := Tryz.func146.trans (congrArg some (by kernel_rfl))
  f320 := Tryz.func147.trans (congrArg some (by kernel_rfl))
  f321 := Tryz.func151.trans (congrArg some (by kernel_rfl))
  f322 := Tryz.func152.trans (congrArg some (by kernel_rfl))
  f337 := Tryz.func155.trans (congrArg some (by kernel_rfl))
  f338 := Tryz.func95.trans (congrArg some (by kernel_rfl))
  t0 := Tryz.underlying0
  a0 := Tryz.isAgg0
  z0 := Tryz.sizeOf0
  v0 := Tryz.zeroValue0
  t2 := Tryz.underlying2
  a2 := Tryz.isAgg2
  z2 := Tryz.sizeOf2
  v2 := Tryz.zeroValue2
  t3 := Tryz.underlying3
  a3 := Tryz.isAgg3
  z3 := Tryz.sizeOf3
  v3 := Tryz.zeroValue3
  t4 := Tryz.underlying4
  a4 := Tryz.isAgg4
  z4 := Tryz.sizeOf4
  v4 := Tryz.zeroValue4
  t5 := Tryz.underlying5
  a5 := Tryz.isAgg5
  z5 := Tryz.sizeOf5
  v5 := Tryz.zeroValue5
  t9 := Tryz.underlying9
  a9 := Tryz.isAgg9
  z9 := Tryz.sizeOf9
  v9 := Tryz.zeroValue9
  t20 := Tryz.underlying20
  a20 := Tryz.isAgg20
  z20 := Tryz.sizeOf20
  v20 := Tryz.zeroValue20
  t21 := Tryz.underlying21
  a21 := Tryz.isAgg21
  z21 := Tryz.sizeOf21
  v21 := Tryz.zeroValue21
  t37 := Tryz.underlying59
  a37 := Tryz.isAgg59
  z37 := Tryz.sizeOf59
  v37 := Tryz.zeroValue59
  t46 := Tryz.underlying79
  a46 := Tryz.isAgg79
  z46 := Tryz.sizeOf79
  v46 := Tryz.zeroValue79
  t51 := Tryz.underlying160
  a51 := Tryz.isAgg160
  z51 := Tryz.sizeOf160
  v51 := Tryz.zeroValue160
  t53 := Tryz.underlying90
  a53 := Tryz.isAgg90
  z53 := Tryz.sizeOf90
  v53 := Tryz.zeroValue90
  t75 := Tryz.underlying63
  a75 := Tryz.isAgg63
  z75 := Tryz.sizeOf63
  v75 := Tryz.zeroValue63
  t85 := Tryz.underlying120
  a85 := Tryz.isAgg120
  z85 := Tryz.sizeOf120
  v85 := Tryz.zeroValue120
  t127 := Tryz.underlying92
  a127 := Tryz.isAgg92
  z127 := Tryz.sizeOf92
  v127 := Tryz.zeroValue92
  t143 := Tryz.underlying175
  a143 := Tryz.isAgg175
  z143 := Tryz.sizeOf175
  v143 := Tryz.zeroValue175
  t145 := Tryz.underlying177
  a145 := Tryz.isAgg177
  z145 := Tryz.sizeOf177
  v145 := Tryz.zeroValue177
  t167 := Tryz.underlying151
  a167 := Tryz.isAgg151
  z167 := Tryz.sizeOf151
  v167 := Tryz.zeroValue151
  t168 := Tryz.underlying154
  a168 := Tryz.isAgg154
  z168 := Tryz.sizeOf154
  v168 := Tryz.zeroValue154
  t171 := Tryz.underlying145
  a171 := Tryz.isAgg145
  z171 := Tryz.sizeOf145
  v171 := Tryz.zeroValue145
  t173 := Tryz.underlying147
  a173 := Tryz.isAgg147
  z173 := Tryz.sizeOf147
  v173 := Tryz.zeroValue147
  t175 := Tryz.underlying152
  a175 := Tryz.isAgg152
  z175 := Tryz.sizeOf152
  v175 := Tryz.zeroValue152
  t210 := Tryz.underlying172
  a210 := Tryz.isAgg172
  z210 := Tryz.sizeOf172
  v210 := Tryz.zeroValue172
  t212 := Tryz.underlying159
  a212 := Tryz.isAgg159
  z212 := Tryz.sizeOf159
  v212 := Tryz.zeroValue159
  t213 := Tryz.underlying161
  a213 := Tryz.isAgg161
  z213 := Tryz.sizeOf161
  t232 := Tryz.underlying178
  a232 := Tryz.isAgg178
  z232 := Tryz.sizeOf178
  v232 := Tryz.zeroValue178
  t233 := Tryz.underlying144
  a233 := Tryz.isAgg144
  z233 := Tryz.sizeOf144
  v233 := Tryz.zeroValue144
  g15 := by kernel_rfl
  g16 := by kernel_rfl
  g17 := by kernel_rfl
  g18 := by kernel_rfl
  g19 := by kernel_rfl
  t80 := Tryz.underlying68
  a80 := Tryz.isAgg68
  z80 := Tryz.sizeOf68
  v80 := Tryz.zeroValue68
  i0 := by kernel_rfl
  i2 := by kernel_rfl
  i3 := by kernel_rfl
  i4 := by kernel_rfl
  i5 := by kernel_rfl
  i9 := by kernel_rfl
  i20 := by kernel_rfl
  i21 := by kernel_rfl
  i37 := by kernel_rfl
  i46 := by kernel_rfl
  i51 := by kernel_rfl
  i53 := by kernel_rfl
  i75 := by kernel_rfl
  i80 := by kernel_rfl
  i85 := by kernel_rfl
  i127 := by kernel_rfl
  i143 := by kernel_rfl
  i145 := by kernel_rfl
  i167 := by kernel_rfl
  i168 := by kernel_rfl
  i171 := by kernel_rfl
  i173 := by kernel_rfl
  i175 := by kernel_rfl
  i210 := by kernel_rfl
  i212 := by kernel_rfl
  i232 := by kernel_rfl
  i233 := by kernel_rfl
  m15 := by kernel_rfl
  m16 := by kernel_rfl
  m17 := by kernel_rfl
  m18 := by kernel_rfl
  m19 := by kernel_rfl
  c0 := by kernel_rfl
  c2 := by kernel_rfl
  c3 := by kernel_rfl
  c4 := by kernel_rfl
  c5 := by kernel_rfl
  c9 := by kernel_rfl
  c20 := by kernel_rfl
  c21 := by kernel_rfl
  c37 := by kernel_rfl
  c46 := by kernel_rfl
  c51 := by kernel_rfl
  c53 := by kernel_rfl
  c75 := by kernel_rfl
  c80 := by kernel_rfl
  c85 := by kernel_rfl
  c127 := by kernel_rfl
  c143 := by kernel_rfl
  c145 := by kernel_rfl
  c167 := by kernel_rfl
  c168 := by kernel_rfl
  c171 := by kernel_rfl
  c173 := by kernel_rfl
  c175 := by kernel_rfl
  c210 := by kernel_rfl
  c212 := by kernel_rfl
  c213 := by kernel_rfl
  c232 := by kernel_rfl
  c233 := by kernel_rfl }
open Go.RowKit in
/-- strconv.ParseInt(s, 10, 64), AT EVERY STRING THAT SPELLS AN int64 ('Lib.parseIntB 64 s.data.toList = .ok v'): v, AND NO ERROR. (LAID: no walk: one application.) -/
theorem Tryz.strconv_ParseInt_10_at64_ok (s : ByteArray) (hmax : s.size ≤ 9223372036854775806) (v : Int) (h : Lib.parseIntB 64 s.data.toList = .ok v) (w : World) :
    Calls Tryz.prog 91 #[.string s, .int .i64 10, .int .i64 64] w fun e w' => e = .returned (.tuple #[.int .i64 v, .nilIface]) ∧ (w' = w ∨ ∃ t, w' = Lib.bytesWorld w 5 t) := Any.strconv_ParseInt_10_at64_ok Tryz.laysC174 s hmax v h w
open Go.RowKit in
theorem Tryz.strconv_ParseInt_10_at64_range_var (s : ByteArray) (hlim : s.size ≤ 281474976710656) (h : Lib.parseIntB 64 s.data.toList = .range) (tp : TypeId) (p : Value) (w : World) (hvar : w.var? Tryz.prog "strconv.ErrRange" = some #[.iface tp p]) :
    Calls Tryz.prog 91 #[.string s, .int .i64 10, .int .i64 64] w fun e w' => ∃ N, e = .returned (.tuple #[.int .i64 (Lib.intSat 64 s.data.toList), .iface 154 (.pointer (some ⟨N, 0, none⟩))]) ∧ w.heap.size ≤ N ∧ w'.heap[N]? = some (.cells #[.string ⟨#[80, 97, 114, 115, 101, 73, 110, 116]⟩, .string s, .iface tp p] 172 (0, 0)) ∧ Below w.heap.size w w' := Any.strconv_ParseInt_10_at64_range_var Tryz.laysC174 s hlim h tp p w hvar
def Tryz.lays144_ren : Go.Shelf.Ren := ⟨fun | 144 => 73 | 143 => 102 | 219 => 116 | 217 => 87 | 225 => 134 | 224 => 135 | 267 => 136 | 266 => 115 | 314 => 150 | n => n, fun | 9 => 9 | 4 => 4 | 3 => 3 | 5 => 5 | 46 => 79 | 146 => 168 | 51 => 160 | n => n, fun | 1 => 1 | n => n⟩
theorem Tryz.lays144 : Go.Proofs.Lays.n144 Tryz.prog Tryz.lays144_ren := {
  mixed := by kernel_rfl
  f143 := Tryz.func102.trans (congrArg some (by kernel_rfl))
  f144 := Tryz.func73.trans (congrArg some (by kernel_rfl))
  f217 := Tryz.func87.trans (congrArg some (by kernel_rfl))
  f219 := Tryz.func116.trans (congrArg some (by kernel_rfl))
  f224 := Tryz.func135.trans (congrArg some (by kernel_rfl))
  f225 := Tryz.func134.trans (congrArg some (by kernel_rfl))
  f266 := Tryz.func115.trans (congrArg some (by kernel_rfl))
  f267 := Tryz.func136.trans (congrArg some (by kernel_rfl))
  f314 := Tryz.func150.trans (congrArg some (by kernel_rfl))
  t3 := Tryz.underlying3
  a3 := Tryz.isAgg3
  z3 := Tryz.sizeOf3
  v3 := Tryz.zeroValue3
  t4 := Tryz.underlying4
  a4 := Tryz.isAgg4
  z4 := Tryz.sizeOf4
  v4 := Tryz.zeroValue4
  t5 := Tryz.underlying5
  a5 := Tryz.isAgg5
  z5 := Tryz.sizeOf5
  v5 := Tryz.zeroValue5
  t9 := Tryz.underlying9
  a9 := Tryz.isAgg9
  z9 := Tryz.sizeOf9
  v9 := Tryz.zeroValue9
  t46 := Tryz.underlying79
  a46 := Tryz.isAgg79
  z46 := Tryz.sizeOf79
  v46 := Tryz.zeroValue79
  t51 := Tryz.underlying160
  a51 := Tryz.isAgg160
  z51 := Tryz.sizeOf160
  v51 := Tryz.zeroValue160
  t146 := Tryz.underlying168
  a146 := Tryz.isAgg168
  z146 := Tryz.sizeOf168
  v146 := Tryz.zeroValue168
  g1 := by kernel_rfl }
open Go.RowKit Go.Lib in
/-- strings.Contains: "Contains reports whether substr is within s.": IT RETURNS 'Lib.contains s substr'; the world is as it was. (LAID: no walk: one application.) -/
theorem Tryz.strings_Contains (s sub : ByteArray) (m : Int) (w : World) (hs : s.size < 4294967281) (hm : w.cell? ⟨1, 0, none⟩ = some (.int .i64 m)) :
    Calls Tryz.prog 73 #[.string s, .string sub] w fun e w' => e = .returned (.bool (Lib.contains s.data.toList sub.data.toList)) ∧ w' = w := Any.strings_Contains Tryz.lays144 s sub m w hs hm
def Tryz.lays145_ren : Go.Shelf.Ren := ⟨fun | 145 => 59 | 220 => 89 | 219 => 116 | 217 => 87 | 225 => 134 | 224 => 135 | 267 => 136 | 266 => 115 | 314 => 150 | n => n, fun | 9 => 9 | 4 => 4 | 59 => 98 | 3 => 3 | 5 => 5 | 46 => 79 | 146 => 168 | 51 => 160 | n => n, fun | 1 => 1 | n => n⟩
theorem Tryz.lays145 : Go.Proofs.Lays.n145 Tryz.prog Tryz.lays145_ren := {
  mixed := by kernel_rfl
  f145 := Tryz.func59.trans (congrArg some (by kernel_rfl))
  f217 := Tryz.func87.trans (congrArg some (by kernel_rfl))
  f219 := Tryz.func116.trans (congrArg some (by kernel_rfl))
  f220 := Tryz.func89.trans (congrArg some (by kernel_rfl))
  f224 := Tryz.func135.trans (congrArg some (by kernel_rfl))
  f225 := Tryz.func134.trans (congrArg some (by kernel_rfl))
  f266 := Tryz.func115.trans (congrArg some (by kernel_rfl))
  f267 := Tryz.func136.trans (congrArg some (by kernel_rfl))
  f314 := Tryz.func150.trans (congrArg some (by kernel_rfl))
  t3 := Tryz.underlying3
  a3 := Tryz.isAgg3
  z3 := Tryz.sizeOf3
  v3 := Tryz.zeroValue3
  t4 := Tryz.underlying4
  a4 := Tryz.isAgg4
  z4 := Tryz.sizeOf4
  v4 := Tryz.zeroValue4
  t5 := Tryz.underlying5
  a5 := Tryz.isAgg5
  z5 := Tryz.sizeOf5
  v5 := Tryz.zeroValue5
  t9 := Tryz.underlying9
  a9 := Tryz.isAgg9
  z9 := Tryz.sizeOf9
  v9 := Tryz.zeroValue9
  t46 := Tryz.underlying79
  a46 := Tryz.isAgg79
  z46 := Tryz.sizeOf79
  v46 := Tryz.zeroValue79
  t51 := Tryz.underlying160
  a51 := Tryz.isAgg160
  z51 := Tryz.sizeOf160
  v51 := Tryz.zeroValue160
  t59 := Tryz.underlying98
  a59 := Tryz.isAgg98
  z59 := Tryz.sizeOf98
  v59 := Tryz.zeroValue98
  t146 := Tryz.underlying168
  a146 := Tryz.isAgg168
  z146 := Tryz.sizeOf168
  v146 := Tryz.zeroValue168
  g1 := by kernel_rfl }
open Go.RowKit Go.Lib in
/-- strings.Cut: "Cut slices s around the first instance of sep, returning the text before and after sep. The found result reports whether sep appears in s. If sep does not appear in s, cut returns s, "", false.": IT RETURNS 'Lib.cut s sep'; the world is as it was but for the count of draws. (LAID: no walk: one application.) -/
theorem Tryz.strings_Cut (s sep : ByteArray) (m : Int) (w : World) (hs : s.size < 4294967281) (hm : w.cell? ⟨1, 0, none⟩ = some (.int .i64 m)) :
    Calls Tryz.prog 59 #[.string s, .string sep] w fun e w' => e = .returned (.tuple #[.string ⟨(Lib.cut s.data.toList sep.data.toList).1.toArray⟩, .string ⟨(Lib.cut s.data.toList sep.data.toList).2.1.toArray⟩, .bool (Lib.cut s.data.toList sep.data.toList).2.2]) ∧ ∃ n, w' = w.drewN n := Any.strings_Cut Tryz.lays145 s sep m w hs hm
def Tryz.lays99_ren : Go.Shelf.Ren := ⟨fun | 99 => 66 | 206 => 97 | n => n, fun | 9 => 9 | 4 => 4 | 3 => 3 | n => n, fun | n => n⟩
theorem Tryz.lays99 : Go.Proofs.Lays.n99 Tryz.prog Tryz.lays99_ren := {
  mixed := by kernel_rfl
  f99 := Tryz.func66.trans (congrArg some (by kernel_rfl))
  f206 := Tryz.func97.trans (congrArg some (by kernel_rfl))
  t3 := Tryz.underlying3
  a3 := Tryz.isAgg3
  z3 := Tryz.sizeOf3
  v3 := Tryz.zeroValue3
  t4 := Tryz.underlying4
  a4 := Tryz.isAgg4
  z4 := Tryz.sizeOf4
  v4 := Tryz.zeroValue4
  t9 := Tryz.underlying9
  a9 := Tryz.isAgg9
  z9 := Tryz.sizeOf9
  v9 := Tryz.zeroValue9 }
open Go.RowKit Go.Lib in
/-- strings.HasPrefix: "HasPrefix reports whether the string s begins with prefix.": IT RETURNS 'Lib.hasPrefix s prefix'; the world is as it was. (LAID: no walk: one application.) -/
theorem Tryz.strings_HasPrefix (s p : ByteArray) (w : World) :
    Calls Tryz.prog 66 #[.string s, .string p] w fun e w' => e = .returned (.bool (Lib.hasPrefix s.data.toList p.data.toList)) ∧ w' = w := Any.strings_HasPrefix Tryz.lays99 s p w
def Tryz.lays101_ren : Go.Shelf.Ren := ⟨fun | 101 => 100 | 208 => 123 | 206 => 97 | n => n, fun | 9 => 9 | 4 => 4 | 3 => 3 | n => n, fun | n => n⟩
theorem Tryz.lays101 : Go.Proofs.Lays.n101 Tryz.prog Tryz.lays101_ren := {
  mixed := by kernel_rfl
  f101 := Tryz.func100.trans (congrArg some (by kernel_rfl))
  f206 := Tryz.func97.trans (congrArg some (by kernel_rfl))
  f208 := Tryz.func123.trans (congrArg some (by kernel_rfl))
  t3 := Tryz.underlying3
  a3 := Tryz.isAgg3
  z3 := Tryz.sizeOf3
  v3 := Tryz.zeroValue3
  t4 := Tryz.underlying4
  a4 := Tryz.isAgg4
  z4 := Tryz.sizeOf4
  v4 := Tryz.zeroValue4
  t9 := Tryz.underlying9
  a9 := Tryz.isAgg9
  z9 := Tryz.sizeOf9
  v9 := Tryz.zeroValue9 }
open Go.RowKit Go.Lib in
/-- strings.TrimPrefix: "TrimPrefix returns s without the provided leading prefix string. If s doesn't start with prefix, s is returned unchanged.": IT RETURNS 'Lib.trimPrefix s prefix'; the world is as it was. (LAID: no walk: one application.) -/
theorem Tryz.strings_TrimPrefix (s p : ByteArray) (w : World) :
    Calls Tryz.prog 100 #[.string s, .string p] w fun e w' => e = .returned (.string ⟨(Lib.trimPrefix s.data.toList p.data.toList).toArray⟩) ∧ w' = w := Any.strings_TrimPrefix Tryz.lays101 s p w
def Tryz.lays155_ren : Go.Shelf.Ren := ⟨fun | 155 => 53 | 154 => 84 | 138 => 112 | 165 => 113 | 143 => 102 | 166 => 28 | 197 => 114 | 169 => 31 | 195 => 130 | 218 => 131 | 240 => 50 | 241 => 132 | 219 => 116 | 260 => 133 | 276 => 78 | 277 => 149 | 217 => 87 | 225 => 134 | 224 => 135 | 267 => 136 | 266 => 115 | 314 => 150 | n => n, fun | 9 => 9 | 3 => 3 | 4 => 4 | 72 => 61 | 0 => 0 | 76 => 65 | 105 => 139 | 21 => 21 | 5 => 5 | 70 => 58 | 20 => 20 | 37 => 59 | 75 => 63 | 127 => 92 | 164 => 113 | 46 => 79 | 119 => 164 | 139 => 167 | 138 => 166 | 146 => 168 | 51 => 160 | 80 => 68 | n => n, fun | 1 => 1 | 3 => 3 | 4 => 4 | n => n⟩
theorem Tryz.lays155 : Go.Proofs.Lays.n155 Tryz.prog Tryz.lays155_ren := {
  mixed := by kernel_rfl
  f138 := Tryz.func112.trans (congrArg some (by kernel_rfl))
  f143 := Tryz.func102.trans (congrArg some (by kernel_rfl))
  f154 := Tryz.func84.trans (congrArg some (by kernel_rfl))
  f155 := Tryz.func53.trans (congrArg some (by kernel_rfl))
  f165 := Tryz.func113.trans (congrArg some (by kernel_rfl))
  f166 := Tryz.func28.trans (congrArg some (by kernel_rfl))
  f169 := Tryz.func31.trans (congrArg some (by kernel_rfl))
  f195 := Tryz.func130.trans (congrArg some (by kernel_rfl))
  f197 := Tryz.func114.trans (congrArg some (by kernel_rfl))
  f217 := Tryz.func87.trans (congrArg some (by kernel_rfl))
  f218 := Tryz.func131.trans (congrArg some (by kernel_rfl))
  f219 := Tryz.func116.trans (congrArg some (by kernel_rfl))
  f224 := Tryz.func135.trans (congrArg some (by kernel_rfl))
  f225 := Tryz.func134.trans (congrArg some (by kernel_rfl))
  f240 := Tryz.func50.trans (congrArg some (by kernel_rfl))
  f241 := Tryz.func132.trans (congrArg some (by kernel_rfl))
  f260 := Tryz.func133.trans (congrArg some (by kernel_rfl))
  f266 := Tryz.func115.trans (congrArg some (by kernel_rfl))
  f267 := Tryz.func136.trans (congrArg some (by kernel_rfl))
  f276 := Tryz.func78.trans (congrArg some (by kernel_rfl))
  f277 := Tryz.func149.trans (congrArg some (by kernel_rfl))
  f314 := Tryz.func150.trans (congrArg some (by kernel_rfl))
  t0 := Tryz.underlying0
  a0 := Tryz.isAgg0
  z0 := Tryz.sizeOf0
  v0 := Tryz.zeroValue0
  t3 := Tryz.underlying3
  a3 := Tryz.isAgg3
  z3 := Tryz.sizeOf3
  v3 := Tryz.zeroValue3
  t4 := Tryz.underlying4
  a4 := Tryz.isAgg4
  z4 := Tryz.sizeOf4
  v4 := Tryz.zeroValue4
  t5 := Tryz.underlying5
  a5 := Tryz.isAgg5
  z5 := Tryz.sizeOf5
  v5 := Tryz.zeroValue5
  t9 := Tryz.underlying9
  a9 := Tryz.isAgg9
  z9 := Tryz.sizeOf9
  v9 := Tryz.zeroValue9
  t20 := Tryz.underlying20
  a20 := Tryz.isAgg20
  z20 := Tryz.sizeOf20
  v20 := Tryz.zeroValue20
  t21 := Tryz.underlying21
  a21 := Tryz.isAgg21
  z21 := Tryz.sizeOf21
  v21 := Tryz.zeroValue21
  t37 := Tryz.underlying59
  a37 := Tryz.isAgg59
  z37 := Tryz.sizeOf59
  v37 := Tryz.zeroValue59
  t46 := Tryz.underlying79
  a46 := Tryz.isAgg79
  z46 := Tryz.sizeOf79
  v46 := Tryz.zeroValue79
  t51 := Tryz.underlying160
  a51 := Tryz.isAgg160
  z51 := Tryz.sizeOf160
  v51 := Tryz.zeroValue160
  t70 := Tryz.underlying58
  a70 := Tryz.isAgg58
  z70 := Tryz.sizeOf58
  v70 := Tryz.zeroValue58
  t72 := Tryz.underlying61
  a72 := Tryz.isAgg61
  z72 := Tryz.sizeOf61
  v72 := Tryz.zeroValue61
  t75 := Tryz.underlying63
  a75 := Tryz.isAgg63
  z75 := Tryz.sizeOf63
  v75 := Tryz.zeroValue63
  t76 := Tryz.underlying65
  a76 := Tryz.isAgg65
  z76 := Tryz.sizeOf65
  v76 := Tryz.zeroValue65
  t105 := Tryz.underlying139
  a105 := Tryz.isAgg139
  z105 := Tryz.sizeOf139
  v105 := Tryz.zeroValue139
  t119 := Tryz.underlying164
  a119 := Tryz.isAgg164
  z119 := Tryz.sizeOf164
  t127 := Tryz.underlying92
  a127 := Tryz.isAgg92
  z127 := Tryz.sizeOf92
  v127 := Tryz.zeroValue92
  t138 := Tryz.underlying166
  a138 := Tryz.isAgg166
  z138 := Tryz.sizeOf166
  v138 := Tryz.zeroValue166
  t139 := Tryz.underlying167
  a139 := Tryz.isAgg167
  z139 := Tryz.sizeOf167
  v139 := Tryz.zeroValue167
  t146 := Tryz.underlying168
  a146 := Tryz.isAgg168
  z146 := Tryz.sizeOf168
  v146 := Tryz.zeroValue168
  t164 := Tryz.underlying113
  a164 := Tryz.isAgg113
  z164 := Tryz.sizeOf113
  v164 := Tryz.zeroValue113
  g1 := by kernel_rfl
  g3 := by kernel_rfl
  g4 := by kernel_rfl }
theorem Tryz.Builder_Extra_155 : Builder.Extra Tryz.prog Tryz.lays155_ren := {
  sizeBuilder := by kernel_rfl
  liesBuilder := by kernel_rfl
  t5 := Tryz.underlying5
  a5 := Tryz.isAgg5
  z5 := Tryz.sizeOf5
  v5 := Tryz.zeroValue5
  infoByte := by kernel_rfl
  cellsByte := by kernel_rfl
  sizeByte := by kernel_rfl
  neB5 := by decide }
open Go.RowKit Go.Lib in
/-- strings.ReplaceAll: "ReplaceAll returns a copy of the string s with all non-overlapping instances of old replaced by new.": AT AN old THAT IS NOT EMPTY: 'Lib.replaceAll s old new'. (LAID: no walk: one application.) -/
theorem Tryz.strings_ReplaceAll (s old new : ByteArray) (m : Int) (w : World) (hs : s.size < 4294967281) (hm : w.cell? ⟨1, 0, none⟩ = some (.int .i64 m)) (h1 : 1 ≤ old.size) (hlen : s.size + Lib.countB s old * new.size ≤ 140737488355328) :
    Calls Tryz.prog 53 #[.string s, .string old, .string new] w fun e w' =>
      e = .returned (.string ⟨(Lib.replaceAll s.data.toList old.data.toList new.data.toList).toArray⟩) ∧ Below w.heap.size w w' := Any.strings_ReplaceAll Tryz.lays155 Tryz.Builder_Extra_155 s old new m w hs hm h1 hlen
def Tryz.lays152_ren : Go.Shelf.Ren := ⟨fun | 152 => 119 | 137 => 56 | 119 => 142 | 224 => 135 | 225 => 134 | 217 => 87 | 266 => 115 | n => n, fun | 9 => 9 | 21 => 21 | 3 => 3 | 4 => 4 | 5 => 5 | 0 => 0 | 46 => 79 | n => n, fun | n => n⟩
theorem Tryz.lays152 : Go.Proofs.Lays.n152 Tryz.prog Tryz.lays152_ren := {
  mixed := by kernel_rfl
  f119 := Tryz.func142.trans (congrArg some (by kernel_rfl))
  f137 := Tryz.func56.trans (congrArg some (by kernel_rfl))
  f152 := Tryz.func119.trans (congrArg some (by kernel_rfl))
  f217 := Tryz.func87.trans (congrArg some (by kernel_rfl))
  f224 := Tryz.func135.trans (congrArg some (by kernel_rfl))
  f225 := Tryz.func134.trans (congrArg some (by kernel_rfl))
  f266 := Tryz.func115.trans (congrArg some (by kernel_rfl))
  t0 := Tryz.underlying0
  a0 := Tryz.isAgg0
  z0 := Tryz.sizeOf0
  v0 := Tryz.zeroValue0
  t3 := Tryz.underlying3
  a3 := Tryz.isAgg3
  z3 := Tryz.sizeOf3
  v3 := Tryz.zeroValue3
  t4 := Tryz.underlying4
  a4 := Tryz.isAgg4
  z4 := Tryz.sizeOf4
  v4 := Tryz.zeroValue4
  t5 := Tryz.underlying5
  a5 := Tryz.isAgg5
  z5 := Tryz.sizeOf5
  v5 := Tryz.zeroValue5
  t9 := Tryz.underlying9
  a9 := Tryz.isAgg9
  z9 := Tryz.sizeOf9
  v9 := Tryz.zeroValue9
  t21 := Tryz.underlying21
  a21 := Tryz.isAgg21
  z21 := Tryz.sizeOf21
  v21 := Tryz.zeroValue21
  t46 := Tryz.underlying79
  a46 := Tryz.isAgg79
  z46 := Tryz.sizeOf79
  v46 := Tryz.zeroValue79 }
open Go.RowKit Go.Lib in
theorem Tryz.strings_IndexRune_ascii (s : ByteArray) (r : Int) (w : World) (h0 : 0 ≤ r) (h1 : r < 128) :
    Calls Tryz.prog 119 #[.string s, .int .i32 r] w fun e w' => e = .returned (.int .i64 (Lib.indexByte s.data.toList r.toNat.toUInt8)) ∧ w' = w := Any.strings_IndexRune_ascii Tryz.lays152 s r w h0 h1
def Tryz.lays226_ren : Go.Shelf.Ren := ⟨fun | 226 => 120 | n => n, fun | 3 => 3 | 4 => 4 | n => n, fun | n => n⟩
theorem Tryz.lays226 : Go.Proofs.Lays.n226 Tryz.prog Tryz.lays226_ren := {
  mixed := by kernel_rfl
  f226 := Tryz.func120.trans (congrArg some (by kernel_rfl))
  t3 := Tryz.underlying3
  a3 := Tryz.isAgg3
  z3 := Tryz.sizeOf3
  v3 := Tryz.zeroValue3
  t4 := Tryz.underlying4
  a4 := Tryz.isAgg4
  z4 := Tryz.sizeOf4
  v4 := Tryz.zeroValue4 }
open Go.RowKit Go.Lib in
theorem Tryz.strings_shouldUseASCIISet (n : Int) (w : World) :
    Calls Tryz.prog 120 #[.int .i64 n] w fun e w' => e = .returned (.bool (decide (8 < n))) ∧ w' = w := Any.strings_shouldUseASCIISet Tryz.lays226 n w
def Tryz.lays153_ren : Go.Shelf.Ren := ⟨fun | 153 => 92 | 152 => 119 | 226 => 120 | 227 => 108 | 228 => 121 | 137 => 56 | 119 => 142 | 224 => 135 | 225 => 134 | 217 => 87 | 266 => 115 | n => n, fun | 9 => 9 | 3 => 3 | 4 => 4 | 5 => 5 | 21 => 21 | 117 => 134 | 116 => 133 | 0 => 0 | 46 => 79 | 124 => 137 | n => n, fun | n => n⟩
theorem Tryz.lays153 : Go.Proofs.Lays.n153 Tryz.prog Tryz.lays153_ren := {
  mixed := by kernel_rfl
  f119 := Tryz.func142.trans (congrArg some (by kernel_rfl))
  f137 := Tryz.func56.trans (congrArg some (by kernel_rfl))
  f152 := Tryz.func119.trans (congrArg some (by kernel_rfl))
  f153 := Tryz.func92.trans (congrArg some (by kernel_rfl))
  f217 := Tryz.func87.trans (congrArg some (by kernel_rfl))
  f224 := Tryz.func135.trans (congrArg some (by kernel_rfl))
  f225 := Tryz.func134.trans (congrArg some (by kernel_rfl))
  f226 := Tryz.func120.trans (congrArg some (by kernel_rfl))
  f227 := Tryz.func108.trans (congrArg some (by kernel_rfl))
  f228 := Tryz.func121.trans (congrArg some (by kernel_rfl))
  f266 := Tryz.func115.trans (congrArg some (by kernel_rfl))
  t0 := Tryz.underlying0
  a0 := Tryz.isAgg0
  z0 := Tryz.sizeOf0
  v0 := Tryz.zeroValue0
  t3 := Tryz.underlying3
  a3 := Tryz.isAgg3
  z3 := Tryz.sizeOf3
  v3 := Tryz.zeroValue3
  t4 := Tryz.underlying4
  a4 := Tryz.isAgg4
  z4 := Tryz.sizeOf4
  v4 := Tryz.zeroValue4
  t5 := Tryz.underlying5
  a5 := Tryz.isAgg5
  z5 := Tryz.sizeOf5
  v5 := Tryz.zeroValue5
  t9 := Tryz.underlying9
  a9 := Tryz.isAgg9
  z9 := Tryz.sizeOf9
  v9 := Tryz.zeroValue9
  t21 := Tryz.underlying21
  a21 := Tryz.isAgg21
  z21 := Tryz.sizeOf21
  v21 := Tryz.zeroValue21
  t46 := Tryz.underlying79
  a46 := Tryz.isAgg79
  z46 := Tryz.sizeOf79
  v46 := Tryz.zeroValue79
  t116 := Tryz.underlying133
  a116 := Tryz.isAgg133
  z116 := Tryz.sizeOf133
  t117 := Tryz.underlying134
  a117 := Tryz.isAgg134
  z117 := Tryz.sizeOf134
  v117 := Tryz.zeroValue134
  t124 := Tryz.underlying137
  a124 := Tryz.isAgg137
  z124 := Tryz.sizeOf137
  v124 := Tryz.zeroValue137 }
open Go.RowKit Go.Lib in
theorem Tryz.strings_IndexAny_long (hv116 : ∀ w, (zeroValue 133).run Tryz.prog w = .ok (.agg (Array.replicate 256 (.bool false))) w) (s chars : ByteArray) (w : World) (h2 : 2 ≤ chars.size) (h8 : 8 < s.size) (hs : s.size < 4294967281) (hcs : chars.size < 4294967281) (hascii : ∀ (j : Nat) b, chars.data.toList[j]? = some b → b.toNat < 128) :
    Calls Tryz.prog 92 #[.string s, .string chars] w fun e w' => e = .returned (.int .i64 (Lib.indexAny s.data.toList chars.data.toList)) ∧ w' = ((w.alloc (.cells (Lib.setCells chars.data.toList) 133)).alloc (.cells (Lib.setCells chars.data.toList) 133)) := Any.strings_IndexAny_long Tryz.lays153 hv116 (by kernel_rfl) s chars w h2 h8 hs hcs hascii
end Go.Proofs
