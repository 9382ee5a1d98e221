/- strings.IndexRune at a rune that is not ASCII, strings.IndexAny and ContainsAny at an ASCII set: for every text. -/
import Derived.Test.YtoofbflplhbpbaaGreatDoorWords
import Derived.Test.YtoofbflplhbpbaaGreatDoorShelf
namespace Go.Proofs.YtoofbflplhbpbaaGreatDoor
open Go.RowKit Go.Lib

set_option maxHeartbeats 4000000 in
set_option maxRecDepth 100000 in
/-- RuneError is in no ASCII text -/
theorem indexRune_error (s : ByteArray) (w : World) (_hs : s.size ≤ 1048576) (hascii : ∀ (j : Nat) b, s.data.toList[j]? = some b → b.toNat < 128) :
    Calls Tryz.prog 233 #[.string s, .int .i32 65533] w fun e w' => e = .returned (.int .i64 (-1)) ∧ ∃ pos, w' = w.iter s pos := by
  have HA := Lib.hid hascii
  clear hascii
  go_enter Tryz.func233, Tryz.ntmps233
  go_wp2
  go_loopg [5, 6] s.size (fun g _ _ wx => ∃ i : Nat, i + g = s.size ∧ wx = w.iter s i)
  case atStart => exact ⟨0, by omega, rfl⟩
  case round =>
    obtain ⟨i, hig, rfl⟩ := hrel
    cases gk with
    | zero =>
      obtain rfl : i = s.size := by omega
      have hnx := run_next_end (P := Tryz.prog) w s s.size
      go_wp2
      go_ret
      exact ⟨rfl, _, rfl⟩
    | succ g =>
      have hi : i < s.size := by omega
      obtain ⟨x, hx⟩ : ∃ x : UInt8, s[i]'hi = x := ⟨_, rfl⟩
      have hx128 : x.toNat < 128 := HA.out i x (by rw [← hx]; exact Lib.data_getElem? s i hi)
      have hnx := fun ty => run_next_ascii (P := Tryz.prog) w s i ty hi (by rw [hx]; exact hx128)
      rw [hx] at hnx
      have hne : ((x.toNat : Int) == 65533) = false := by simp; omega
      clear hx
      go_wp2
      go_roundg g
      case measure => omega
      case rel => exact ⟨i + 1, by omega, rfl⟩

theorem no_byte (s : ByteArray) (hascii : ∀ (j : Nat) b, s.data.toList[j]? = some b → b.toNat < 128) (k : Nat) (_hk : k ≤ s.size) (c : UInt8) (hc : 128 ≤ c.toNat) : Lib.indexByte ((s.extract k s.size).data.toList) c = -1 := by
  have hno : ∀ (l : List UInt8), (∀ b ∈ l, b.toNat < 128) → Lib.indexByte l c = -1 := by
    intro l
    induction l with
    | nil => intro _; rfl
    | cons b l ih =>
      intro h
      have hb : b ≠ c := fun e => by subst e; have := h b (by simp); omega
      rw [Lib.indexByte, ih (fun x hx => h x (by simp [hx]))]
      simp [hb]
  refine hno _ fun b hb => ?_
  rw [Lib.extract_data] at hb
  obtain ⟨j, hj⟩ := List.mem_iff_getElem?.1 hb
  have := List.mem_of_mem_drop (List.mem_of_mem_take hb)
  obtain ⟨j, hj⟩ := List.mem_iff_getElem?.1 this
  exact hascii j b hj

set_option maxHeartbeats 4000000 in
set_option maxRecDepth 100000 in
/-- a valid rune that is not ASCII is in no ASCII text -/
theorem indexRune_high (s : ByteArray) (r : Nat) (w : World) (_hs : s.size ≤ 1048576) (hascii : ∀ (j : Nat) b, s.data.toList[j]? = some b → b.toNat < 128)
    (hr : 128 ≤ r) (hr' : r ≤ 1114111) (hne : r ≠ 65533) (hv : Utf8.valid (r : Int) = true) :
    Calls Tryz.prog 233 #[.string s, .int .i32 r] w fun e w' => e = .returned (.int .i64 (-1)) ∧ ∃ n, w' = w.drewN n := by
  obtain ⟨e2, e4, elast⟩ := encode_high r hr
  have h1 : ((r : Int) == 65533) = false := by simp; omega
  have h128 : ¬ ((r : Int) < 128) := by omega
  have hvr : Lib.validRune r = true := by
    simp only [Utf8.valid, Bool.or_eq_true, Bool.and_eq_true, decide_eq_true_eq] at hv
    simp [Lib.validRune]
    omega
  have hcv : ∀ wx : World, Calls Tryz.prog 281 #[.int .i32 r] wx fun e w' => e = .returned (.bool true) ∧ wx = w' := fun wx =>
    (Tryz.utf8_ValidRune _ wx).mono fun e w' ⟨he, hw⟩ => ⟨by rw [he, hvr], hw.symm⟩
  go_enter Tryz.func233, Tryz.ntmps233
  go_wp2_with (go_at_call 281; refine (hcv _).mono ?_; rintro e w' ⟨rfl, rfl⟩)
  clear hcv hvr
  obtain ⟨m, hm⟩ : ∃ m, (Utf8.encode (r : Int)).size = m + 1 := ⟨(Utf8.encode (r : Int)).size - 1, by omega⟩
  go_step3
  go_wp2
  obtain ⟨rs, hrs⟩ : ∃ rs, Utf8.encode (r : Int) = rs := ⟨_, rfl⟩
  rw [hrs] at e2 e4 elast hm ⊢
  have EL := Lib.hid elast
  have HA := Lib.hid hascii
  clear hrs elast hascii hv hne h1
  refine wp_loop_rounds 1 ?_
  rw [rounds_succ]
  by_cases hlt : m < s.size
  · have HL : (s[m]'hlt).toNat < 128 := HA.out m _ (Lib.data_getElem? s _ hlt)
    have HR : 128 ≤ (rs[m]'(by omega)).toNat := by rw [← get_at]; have := EL.out; rwa [hm] at this
    have hh : decide (m < s.size) = true := by simp; omega
    go_wp2
    go_step3
    go_wp2
    have hmi : (m : Int) < m + 1 := by omega
    have hne : ((s[m]'hlt).toNat : Int) ≠ ((rs[m]'(by omega)).toNat : Int) := by omega
    have hneb : (((s[m]'hlt).toNat : Int) == ((rs[m]'(by omega)).toNat : Int)) = false := by simp; omega
    have hib : ∀ wx : World, Calls Tryz.prog 117 #[.string (s.extract (m + 1) s.size), .int .u8 ((rs[m]'(by omega)).toNat : Int)] wx fun e w' => e = .returned (.int .i64 (-1)) ∧ w' = wx := fun wx =>
      (Tryz.strings_IndexByte _ _ wx).mono fun e w' ⟨he, hw⟩ => ⟨by rw [he, no_byte s HA.out (m + 1) (by omega) _ (by simpa using HR)], hw⟩
    go_quiet (fail)
    go_wp2
    go_quiet ((go_at_call 117; exact quiet_add_same (hib _)))
    go_wp2
    simp only [Exit.noGoto_ret, Exit.inBlock, Exit.then]
    go_ret
    exact ⟨rfl, _, rfl⟩
  · have hh : decide (m < s.size) = false := by simp; omega
    go_wp2
    rw [Exit.noGoto_ret]
    go_ret
    exact ⟨rfl, 0, rfl⟩

theorem zero_set : ∀ w, (zeroValue 235).run Tryz.prog w = .ok (.agg (Array.replicate 256 (.bool false))) w :=
  (zero_of_info (n := 256) (show (Tryz.prog.info? 235).map (fun i => (i.zero, i.size)) = some (some (.agg (Array.replicate 256 (.bool false))), 256) by kernel_rfl)).1

theorem not_ascii {cs : ByteArray} (hascii : ∀ (j : Nat) b, cs.data.toList[j]? = some b → b.toNat < 128) (b : UInt8) (hb : 128 ≤ b.toNat) : cs.data.toList.contains b = false := by
  cases h : cs.data.toList.contains b with
  | false => rfl
  | true =>
    obtain ⟨j, hj⟩ := List.mem_iff_getElem?.1 (List.contains_iff_mem.1 h)
    have := hascii j b hj
    omega
/-- the bytes of a rune that is not ASCII are none of the set's -/
theorem noAny_rune {s cs : ByteArray} {i n : Nat} (hascii : ∀ (j : Nat) b, cs.data.toList[j]? = some b → b.toNat < 128) (h : Lib.NoAny s.data.toList cs.data.toList i)
    (hn : i + n ≤ s.size) (hb : ∀ j, i ≤ j → j < i + n → 128 ≤ (s.get! j).toNat) : Lib.NoAny s.data.toList cs.data.toList (i + n) := fun j b hj hx => by
  by_cases e : j < i
  · exact h j b e hx
  · have := hb j (by omega) hj
    rw [get_at s j (by omega)] at this
    rw [get_list s j (by omega)] at hx
    cases hx
    exact not_ascii hascii _ this

/-- strings.IndexRune at whatever rune a text gives, in an ASCII set -/
theorem indexRune_set (cs : ByteArray) (c : Nat) (w : World) (hc : cs.size ≤ 1048576) (hascii : ∀ (j : Nat) b, cs.data.toList[j]? = some b → b.toNat < 128) (h : 128 ≤ c → c ≤ 1114111 ∧ Utf8.valid (c : Int) = true) :
    Calls Tryz.prog 233 #[.string cs, .int .i32 c] w fun e w' => e = .returned (.int .i64 (if c < 128 then Lib.indexByte cs.data.toList c.toUInt8 else -1)) ∧ Below w.heap.size w w' := by
  by_cases hlt : c < 128
  · refine (Tryz.strings_IndexRune_ascii cs c w (by omega) (by omega)).mono fun e w' ⟨h, h'⟩ => ⟨by rw [h, if_pos hlt]; rfl, by rw [h']; exact Below.refl _ _⟩
  · obtain ⟨h1, h2⟩ := h (by omega)
    by_cases he : c = 65533
    · subst he
      refine (indexRune_error cs w hc hascii).mono fun e w' ⟨h, pos, h'⟩ => ⟨by rw [h, if_neg hlt], by rw [h']; exact (Below.refl _ _).alloc (Nat.le_refl _) _⟩
    · refine (indexRune_high cs c w hc hascii (by omega) h1 he h2).mono fun e w' ⟨h, n, h'⟩ => ⟨by rw [h, if_neg hlt], by rw [h']; exact below_drewN (Below.refl _ _) n⟩

theorem below_iterAt {B : Nat} {w : World} {k : Nat} {s : ByteArray} {p : Nat} (_h : B ≤ w.heap.size) (hk : B ≤ k) : Below B w (w.iterAt k s p) :=
  ⟨rfl, rfl, rfl, by simp [World.iterAt], fun j hj => by
    simp only [World.iterAt]
    rw [Array.getElem?_setIfInBounds, if_neg (by omega)]⟩

set_option maxHeartbeats 4000000 in
set_option maxRecDepth 100000 in
/-- strings.IndexAny at an ASCII set of two bytes or more: every text -/
theorem indexAny_any (s cs : ByteArray) (w : World) (hs : s.size < 4294967281) (h2 : 2 ≤ cs.size) (hc : cs.size ≤ 1048576) (hascii : ∀ (j : Nat) b, cs.data.toList[j]? = some b → b.toNat < 128) :
    Calls Tryz.prog 171 #[.string s, .string cs] w fun e w' => e = .returned (.int .i64 (Lib.indexAny s.data.toList cs.data.toList)) ∧ Below w.heap.size w w' := by
  by_cases h8 : 8 < s.size
  · refine (Tryz.strings_IndexAny_long zero_set s cs w h2 h8 hs (by omega) hascii).mono fun e w' ⟨h, h'⟩ => ⟨h, ?_⟩
    subst h'
    exact ((Below.refl _ _).alloc (Nat.le_refl _) _).alloc (by simp) _
  · have HA := Lib.hid hascii
    clear hascii
    have hemp : cs.toList.isEmpty = false := by
      rw [Lib.toList_data]
      cases h : cs.data.toList with
      | nil => have := Lib.size_eq cs; rw [h, List.length_nil] at this; omega
      | cons _ _ => rfl
    have hn1 : ((cs.size : Int) == 1) = false := beq_eq_false_iff_ne.2 (by omega)
    have h8z : decide ((8 : Int) < (s.size : Int)) = false := decide_eq_false (by omega)
    have hsu : ∀ wx : World, Calls Tryz.prog 234 #[.int .i64 s.size] wx fun e w' => e = .returned (.bool false) ∧ wx = w' := fun wx =>
      (Tryz.strings_shouldUseASCIISet _ wx).mono fun e w' ⟨he, hw⟩ => ⟨by rw [he, h8z], hw.symm⟩
    go_enter Tryz.func171, Tryz.ntmps171
    go_wp2_with (go_at_call 234; refine (hsu _).mono ?_; rintro e w' ⟨rfl, rfl⟩)
    go_loopg [9, 10] s.size (fun g _ _ wx => ∃ i : Nat, i + g = s.size ∧ wx.heap[w.heap.size]? = some (.stringIter s i) ∧ Below w.heap.size w wx ∧ Lib.NoAny s.data.toList cs.data.toList i)
    case atStart => exact ⟨0, by omega, World.iter_heap _ _ _, (Below.refl _ _).alloc (Nat.le_refl _) _, Lib.NoAny.zero _ _⟩
    case round =>
      obtain ⟨i, hig, hit, hb, hno⟩ := hrel
      have HN := Lib.hid hno
      have HI := Lib.hid hit
      clear hno
      cases gk with
      | zero =>
        obtain rfl : i = s.size := by omega
        have hnx := fun ty => Lib.run_next_end_at (P := Tryz.prog) wr w.heap.size s s.size ty HI.out (by omega)
        clear hit
        go_wp2
        go_ret
        exact ⟨by rw [Lib.indexAny_none (by rw [← Lib.size_eq]; exact HN.out)]; rfl, hb⟩
      | succ g =>
        have hi : i < s.size := by omega
        have hnx := fun ty => Lib.run_next_any_at (P := Tryz.prog) wr w.heap.size s i ty HI.out hi
        clear hit
        obtain ⟨d, hd⟩ : ∃ d, Utf8.decode s i = d := ⟨_, rfl⟩
        rw [hd] at hnx
        have hrune := fun wx => indexRune_set cs d.1 wx hc HA.out (fun h128 => by
          by_cases h1 : (s[i]'hi).toNat < 128
          · rw [decode_ascii s i hi h1] at hd; subst hd; omega
          · obtain ⟨_, a2, a3, _⟩ := decode_high s i hi (by omega)
            rw [hd] at a2 a3
            exact ⟨a2, a3⟩)
        have HD := Lib.hid hd
        clear hd
        obtain ⟨R, hR⟩ : ∃ R : Int, (if d.1 < 128 then Lib.indexByte cs.data.toList d.1.toUInt8 else -1) = R := ⟨_, rfl⟩
        rw [hR] at hrune
        have HR := Lib.hid hR
        clear hR
        by_cases h0 : 0 ≤ R
        · have h1 : d.1 < 128 := by
            have := HR.out
            split at this
            · assumption
            · omega
          go_wp2_with (go_at_call 233; refine (hrune _).mono ?_; rintro e w' ⟨rfl, hb'⟩)
          go_ret
          have hs1 : (s[i]'hi).toNat < 128 := by
            rcases Nat.lt_or_ge (s[i]'hi).toNat 128 with h | h
            · exact h
            · have := (decode_high s i hi h).1
              rw [HD.out] at this
              omega
          have hd2 := decode_ascii s i hi hs1
          rw [HD.out] at hd2
          subst hd2
          refine ⟨?_, ?_⟩
          · rw [Lib.indexAny_hit HN.out (get_list s i hi)]
            · rfl
            · rw [Lib.contains_iff_indexByte]
              have := HR.out
              simp only [hs1, if_true] at this
              simp at this
              rw [this]
              simpa using h0
          · exact (hb.trans (below_iterAt hb.size (Nat.le_refl _))).trans (hb'.mono (by simpa [World.iterAt] using hb.size))
        · go_wp2_with (go_at_call 233; refine (hrune _).mono ?_; rintro e w' ⟨rfl, hb'⟩)
          have hb2 := (hb.trans (below_iterAt (s := s) (p := i + d.2) hb.size (Nat.le_refl _))).trans (hb'.mono (by simpa [World.iterAt] using hb.size))
          have hlt : w.heap.size < wr.heap.size := (Array.getElem?_eq_some_iff.1 HI.out).1
          have hcase : 1 ≤ d.2 ∧ i + d.2 ≤ s.size ∧ Lib.NoAny s.data.toList cs.data.toList (i + d.2) := by
            by_cases h1 : (s[i]'hi).toNat < 128
            · have hd2 := decode_ascii s i hi h1
              rw [HD.out] at hd2
              subst hd2
              refine ⟨by simp, by simp; omega, HN.out.succ (get_list s i hi) ?_⟩
              have := HR.out
              simp only [h1, if_true] at this
              simp at this
              rw [Lib.contains_iff_indexByte, this]
              simpa using h0
            · obtain ⟨_, _, _, a4, a5, a6⟩ := decode_high s i hi (by omega)
              rw [HD.out] at a4 a5 a6
              exact ⟨a4, a5, noAny_rune HA.out HN.out a5 a6⟩
          obtain ⟨a4, a5, a6⟩ := hcase
          go_roundg (s.size - (i + d.2))
          case measure => omega
          case rel => exact ⟨i + d.2, by omega, (hb'.block _ (by simpa [World.iterAt] using hlt)).trans (by simp [World.iterAt, hlt]), hb2, a6⟩
end Go.Proofs.YtoofbflplhbpbaaGreatDoor
