/- Layer 24 (lexer): a text between quotes. -/
import Derived.Test.YthnaiiejjdmnaaaDoorLexEsc
import Derived.Test.YthnaiiejjdmnaaaDoorLexTok
namespace Go.Proofs.YthnaiiejjdmnaaaDoor
open Go.RowKit

theorem drop_extract (s : ByteArray) (k : Nat) : (s.extract k s.size).data.toList = s.data.toList.drop k := by
  rw [Lib.extract_data, List.take_of_length_le]
  rw [List.length_drop, ← Lib.size_eq]
  omega
/-- the call of fail and the return behind it -/
theorem zero_tok (i o e : Nat) : tokV (.err o e) i = .agg #[.int .i64 0, .string ⟨#[]⟩, .int .i64 0, .int .i64 ((i + o : Nat) : Int), .int .i64 0, .int .i64 (e : Int)] := rfl
namespace Lex
def stepE (g : Nat) (r : L) (o : Nat) (acc : L) : Option (UInt8 × Nat) → Res
  | none => .err o 242
  | some (y, n) => textR (g + 1) (r.drop n) (o + 1 + n) (acc ++ [y])
theorem textR_92 (g : Nat) (r : L) (o : Nat) (acc : L) : textR (g + 1 + 1) (92 :: r) o acc = stepE g r o acc (esc r) := by
  simp only [textR]
  rw [if_neg (by decide), if_neg (by decide), if_true]
  cases esc r with
  | none => rfl
  | some x => rfl
end Lex
def tok0 : Array Value := #[.int .i64 0, .string ⟨#[]⟩, .int .i64 0, .int .i64 0, .int .i64 0, .int .i64 0]
/-- what the loop of quoted keeps -/
structure QuoRel (s : ByteArray) (i : Nat) (R : Lex.Res) (w : World) (g k o : Nat) (acc : List UInt8) (wx : World) : Prop where
  off : i + o = k
  meas : s.size - k ≤ g
  len : acc.length ≤ k
  le : k ≤ s.size
  text : Lex.textR (g + 1) (s.data.toList.drop k) o acc = R
  bel : Below w.heap.size w wx
  blk : Blk wx w.heap.size 40 #[.int .i64 0, .string ⟨#[]⟩, .int .i64 0, .int .i64 0, .int .i64 0, .int .i64 0]
  bld : Bld (w.heap.size + 1) (w.heap.size + 1) acc wx
  big : w.heap.size + 1 ≤ wx.heap.size

set_option maxHeartbeats 8000000 in
set_option maxRecDepth 100000 in
theorem quoted_any (s : ByteArray) (i : Nat) (w : World) (hs : s.size ≤ 1073741823) (hi : i < s.size) :
    Calls Tryd.prog 30 #[.string s, .int .i64 i] w (TokRes (Lex.textR (s.size - i) (s.data.toList.drop (i + 1)) 1 []) i w) := by
  obtain ⟨R, hR⟩ : ∃ R, Lex.textR (s.size - i) (s.data.toList.drop (i + 1)) 1 [] = R := ⟨_, rfl⟩
  rw [hR]
  have HR := Lib.hid hR
  clear hR
  have hii : (i : Int) < s.size := by omega
  go_enter Tryd.func30, Tryd.ntmps30
  go_wp2
  go_loopg [6] (s.size - (i + 1)) (fun g x wx => ∃ (k o : Nat) (acc : List UInt8), x = .int .i64 k ∧ QuoRel s i R w g k o acc wx)
  case atStart =>
    refine ⟨i + 1, 1, [], int_eq' (by omega), ⟨by omega, by omega, by simp, by omega, ?_, ?_, ?_, ?_, ?_⟩⟩
    · rw [show s.size - (i + 1) + 1 = s.size - i by omega]; exact HR.out
    · exact ((Below.refl _ w).alloc (Nat.le_refl _) _).alloc (by simp) _
    · exact (Blk.new _ _ _).alloc _
    · have := Bld.fresh (w.alloc (.cells #[.int .i64 0, .string ⟨#[]⟩, .int .i64 0, .int .i64 0, .int .i64 0, .int .i64 0] 40)); simpa using this
    · simp
  case round =>
    obtain ⟨k, o, acc, rfl, hrel⟩ := hrel
    have HQ := Lib.hid hrel
    have hsz := hrel.big
    have hkle := hrel.le
    have hki : (k : Int) ≤ 1073741823 := by omega
    clear hrel
    by_cases hlt : k < s.size
    · have hlti : (k : Int) < s.size := by omega
      have t1 : decide (k < s.size) = true := decide_eq_true hlt
      cases gk with
      | zero => have := HQ.out.meas; omega
      | succ g =>
        have hst := HQ.out.text
        rw [drop_at' hlt] at hst
        obtain ⟨c, hc⟩ : ∃ c, s[k]'hlt = c := ⟨_, rfl⟩
        rw [hc] at hst
        have hb := byte_le c
        by_cases h39 : c = 39
        · subst h39
          have hR2 : R = .tok 4 acc 0 (o + 1) := hst.symm
          have hend : ((i + (o + 1) : Nat) : Int) = (k : Int) + 1 := by have := HQ.out.off; omega
          have ht : tokV R i = .agg #[.int .i64 4, .string ⟨acc.toArray⟩, .int .i64 0, .int .i64 i, .int .i64 ((k : Int) + 1), .int .i64 0] := by
            rw [hR2]
            simp only [tokV]
            rw [hend]
            rfl
          have HT := Lib.hid ht
          clear hst hR2 hend ht
          go_wp2_with fail
          refine (bld_string (w.heap.size + 1) (w.heap.size + 1) acc wr HQ.out.bld hsz).mono ?_
          rintro e w2 ⟨rfl, hbld2, hbel2, -⟩
          have hz2 := hbel2.size
          have HK2 := Lib.hid (HQ.out.blk.below hbel2 (by omega))
          obtain ⟨g0, g1, g2, g3, g4, g5, f0, f1, f2, f3, f4, f5⟩ := tok_cells HK2.out
          have HB2 := Lib.hid (HQ.out.bel.trans (hbel2.mono (B' := w.heap.size) (by omega)))
          clear hbel2 hbld2
          go_wp2
          exact ret_store Tryd.results30 rfl HK2.out HB2.out HT.out
        have t39 : (((c.toNat : Nat) : Int) == 39) = false := bq (k := 39) rfl (beq_eq_false_iff_ne.2 h39)
        by_cases h92 : c = 92
        · subst h92
          obtain ⟨z, hz⟩ : ∃ z, s.extract (k + 1) s.size = z := ⟨_, rfl⟩
          have hzd : z.data.toList = s.data.toList.drop (k + 1) := by rw [← hz, drop_extract]
          have hzl : z.data.toList.length = s.size - (k + 1) := by rw [hzd, List.length_drop, ← Lib.size_eq]
          have hzs : z.size ≤ 1073741824 := by rw [Lib.size_eq, hzl]; omega
          have hesc := fun (W : World) => escape_any z W hzs
          obtain ⟨x, hx⟩ : ∃ x, Lex.esc z.data.toList = x := ⟨_, rfl⟩
          rw [hx] at hesc
          have hst2 := Lex.textR_92 g (s.data.toList.drop (k + 1)) o acc
          rw [← hzd, hx, hzd] at hst2
          rw [hst] at hst2
          have HE := Lib.hid hesc
          have HX := Lib.hid hx
          have HZL := Lib.hid hzl
          have hk1i : (k : Int) + 1 ≤ s.size := by omega
          have HKX := Lib.hid HQ.out.blk
          have HBX := Lib.hid HQ.out.bel
          clear hst hzd hzl hzs hesc hx t39
          cases x with
          | none =>
            have hR2 : R = .err o 242 := hst2
            have hoff : ((i + o : Nat) : Int) = k := by have := HQ.out.off; omega
            have ht : tokV R i = .agg #[.int .i64 0, .string ⟨#[]⟩, .int .i64 0, .int .i64 k, .int .i64 0, .int .i64 242] := by
              rw [hR2, zero_tok, hoff]
              rfl
            have HT := Lib.hid ht
            clear hst2 hR2 hoff ht
            go_wp2_with fail
            refine (HE.out _).mono ?_
            rintro e w1 ⟨hb1, c1, n1, rfl⟩
            have hz1 := hb1.size
            have HKY := Lib.hid (HKX.out.below hb1 (by omega))
            have HBY := Lib.hid (HBX.out.trans (hb1.mono HBX.out.size))
            clear hb1
            go_wp2_with fail
            refine (fail_any (k : Int) 242 _).mono ?_
            rintro e w2 ⟨rfl, hb2⟩
            have hz2 := hb2.size
            have HK2 := Lib.hid (Blk.below HKY.out hb2 (by omega))
            obtain ⟨g0, g1, g2, g3, g4, g5, f0, f1, f2, f3, f4, f5⟩ := tok_cells HK2.out
            have HB2 := Lib.hid (Below.trans HBY.out (hb2.mono HBY.out.size))
            clear hb2
            go_wp2
            exact ret_store Tryd.results30 rfl HK2.out HB2.out HT.out
          | some x =>
            obtain ⟨y, n⟩ := x
            have hn := Lex.esc_le HX.out
            rw [HZL.out] at hn
            have hst3 : R = Lex.textR (g + 1) ((s.data.toList.drop (k + 1)).drop n) (o + 1 + n) (acc ++ [y]) := hst2
            have HS := Lib.hid hst3
            have hyb := byte_le y
            have hLX := HQ.out.bld
            have HLX := Lib.hid hLX
            have hal := HQ.out.len
            have hkn : (k : Int) + n ≤ s.size := by omega
            clear hst2 hst3 hLX
            go_wp2_with fail
            refine (HE.out _).mono ?_
            rintro e w1 ⟨hb1, rfl⟩
            have hz1 := hb1.size
            have HKY := Lib.hid (HKX.out.below hb1 (by omega))
            have HBY := Lib.hid (HBX.out.trans (hb1.mono HBX.out.size))
            have HLY := Lib.hid (HLX.out.below hb1)
            clear hb1
            go_wp2_with fail
            refine (bld_byte (w.heap.size + 1) (w.heap.size + 1) acc (y.toNat : Int) _ HLY.out (by omega) (by omega) (by omega) (by omega)).mono ?_
            rintro e w2 ⟨rfl, hbld2, hbel2, -⟩
            have hz2 := hbel2.size
            have HK2 := Lib.hid (HKY.out.below hbel2 (by omega))
            have HB2 := Lib.hid (HBY.out.trans (hbel2.mono (B' := w.heap.size) (by omega)))
            have HL2 := Lib.hid hbld2
            clear hbel2 hbld2
            go_wp2
            go_roundg g
            case measure => omega
            case rel =>
              refine ⟨k + 1 + n, o + 1 + n, acc ++ [(y.toNat : Int).toNat.toUInt8], int_eq' (by omega), ⟨by have := HQ.out.off; omega, by have := HQ.out.meas; omega, by rw [List.length_append, List.length_singleton]; omega, by omega, ?_, HB2.out, HK2.out, HL2.out, by omega⟩⟩
              rw [byte_back, HS.out, List.drop_drop]
        have t92 : (((c.toNat : Nat) : Int) == 92) = false := bq (k := 92) rfl (beq_eq_false_iff_ne.2 h92)
        have hu := undef_no
        by_cases ho : Lex.odd c = true
        · have hR2 : R = .err o 240 := by
            rw [← hst]
            simp only [Lex.textR]
            rw [if_neg h39, if_pos ho]
          have hoff : ((i + o : Nat) : Int) = k := by have := HQ.out.off; omega
          have ht : tokV R i = .agg #[.int .i64 0, .string ⟨#[]⟩, .int .i64 0, .int .i64 k, .int .i64 0, .int .i64 240] := by
            rw [hR2, zero_tok, hoff]
            rfl
          have HT := Lib.hid ht
          have HKX := Lib.hid HQ.out.blk
          have HBX := Lib.hid HQ.out.bel
          clear hst hR2 hoff ht h39 h92
          by_cases h32 : c.toNat < 32
          · have d1 : decide ((c.toNat : Int) < 32) = true := decide_eq_true (by omega)
            clear ho
            go_wp2_with fail
            refine (fail_any (k : Int) 240 _).mono ?_
            rintro e w2 ⟨rfl, hb2⟩
            have hz2 := hb2.size
            have HK2 := Lib.hid (Blk.below HKX.out hb2 (by omega))
            obtain ⟨g0, g1, g2, g3, g4, g5, f0, f1, f2, f3, f4, f5⟩ := tok_cells HK2.out
            have HB2 := Lib.hid (Below.trans HBX.out (hb2.mono HBX.out.size))
            clear hb2
            go_wp2
            exact ret_store Tryd.results30 rfl HK2.out HB2.out HT.out
          · have d1 : decide ((c.toNat : Int) < 32) = false := decide_eq_false (by omega)
            have d2 : decide (126 < (c.toNat : Int)) = true := by
              simp only [Lex.odd] at ho
              rw [decide_eq_false h32, Bool.false_or] at ho
              have := of_decide_eq_true ho
              exact decide_eq_true (by omega)
            clear ho
            go_wp2_with fail
            refine (fail_any (k : Int) 240 _).mono ?_
            rintro e w2 ⟨rfl, hb2⟩
            have hz2 := hb2.size
            have HK2 := Lib.hid (Blk.below HKX.out hb2 (by omega))
            obtain ⟨g0, g1, g2, g3, g4, g5, f0, f1, f2, f3, f4, f5⟩ := tok_cells HK2.out
            have HB2 := Lib.hid (Below.trans HBX.out (hb2.mono HBX.out.size))
            clear hb2
            go_wp2
            exact ret_store Tryd.results30 rfl HK2.out HB2.out HT.out
        have hodd : Lex.odd c = false := by
          cases h : Lex.odd c with
          | false => rfl
          | true => exact absurd h ho
        have d1 : decide ((c.toNat : Int) < 32) = false := by
          simp only [Lex.odd, Bool.or_eq_false_iff] at hodd
          have := of_decide_eq_false hodd.1
          exact decide_eq_false (by omega)
        have d2 : decide (126 < (c.toNat : Int)) = false := by
          simp only [Lex.odd, Bool.or_eq_false_iff] at hodd
          have := of_decide_eq_false hodd.2
          exact decide_eq_false (by omega)
        have hst2 : Lex.textR (g + 1) (s.data.toList.drop (k + 1)) (o + 1) (acc ++ [c]) = R := by
          rw [← hst]
          exact (Lex.textR_plain h39 hodd h92).symm
        have HS := Lib.hid hst2
        have HKX := Lib.hid HQ.out.blk
        have HBX := Lib.hid HQ.out.bel
        have HLX := Lib.hid HQ.out.bld
        have hal := HQ.out.len
        clear hst hst2 ho hodd h39 h92
        go_wp2_with fail
        refine (bld_byte (w.heap.size + 1) (w.heap.size + 1) acc (c.toNat : Int) _ HLX.out (by omega) (by omega) (by omega) (by omega)).mono ?_
        rintro e w2 ⟨rfl, hbld2, hbel2, -⟩
        have hz2 := hbel2.size
        have HK2 := Lib.hid (HKX.out.below hbel2 (by omega))
        have HB2 := Lib.hid (HBX.out.trans (hbel2.mono (B' := w.heap.size) (by omega)))
        have HL2 := Lib.hid hbld2
        clear hbel2 hbld2
        go_wp2
        go_roundg g
        case measure => omega
        case rel =>
          refine ⟨k + 1, o + 1, acc ++ [(c.toNat : Int).toNat.toUInt8], int_eq' (by omega), ⟨by have := HQ.out.off; omega, by have := HQ.out.meas; omega, by rw [List.length_append, List.length_singleton]; omega, by omega, ?_, HB2.out, HK2.out, HL2.out, by omega⟩⟩
          rw [byte_back, HS.out]
    · have t1 : decide (k < s.size) = false := decide_eq_false hlt
      have hR2 : R = .err 0 241 := by
        have := HQ.out.text
        rw [drop_end' (by omega)] at this
        exact this.symm
      have ht : tokV R i = .agg #[.int .i64 0, .string ⟨#[]⟩, .int .i64 0, .int .i64 i, .int .i64 0, .int .i64 241] := by
        rw [hR2, zero_tok, Nat.add_zero]
        rfl
      have HT := Lib.hid ht
      have HKX := Lib.hid HQ.out.blk
      have HBX := Lib.hid HQ.out.bel
      clear hR2 ht
      go_wp2_with fail
      refine (fail_any (i : Int) 241 _).mono ?_
      rintro e w2 ⟨rfl, hb2⟩
      have hz2 := hb2.size
      have HK2 := Lib.hid (Blk.below HKX.out hb2 (by omega))
      obtain ⟨g0, g1, g2, g3, g4, g5, f0, f1, f2, f3, f4, f5⟩ := tok_cells HK2.out
      have HB2 := Lib.hid (Below.trans HBX.out (hb2.mono HBX.out.size))
      clear hb2
      go_wp2
      exact ret_store Tryd.results30 rfl HK2.out HB2.out HT.out
end Go.Proofs.YthnaiiejjdmnaaaDoor
