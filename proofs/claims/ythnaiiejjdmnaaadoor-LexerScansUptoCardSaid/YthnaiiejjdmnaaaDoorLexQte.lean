/- Layer 24 (lexer): Quote. -/
import Derived.Test.YthnaiiejjdmnaaaDoorLexEsc
namespace Go.Proofs.YthnaiiejjdmnaaaDoor
open Go.RowKit

namespace Lex
theorem q1_esc {c : UInt8} (h : c = 92 ∨ c = 39) : q1 c = [92] ++ [c] := by
  rcases h with rfl | rfl <;> decide
theorem q1_plain {c : UInt8} (h1 : c ≠ 92) (h2 : c ≠ 39) (h3 : odd c = false) : q1 c = [c] := by
  unfold q1
  have n10 : c ≠ 10 := by rintro rfl; exact absurd h3 (by decide)
  have n13 : c ≠ 13 := by rintro rfl; exact absurd h3 (by decide)
  have n9 : c ≠ 9 := by rintro rfl; exact absurd h3 (by decide)
  rw [if_neg n10, if_neg n13, if_neg n9, if_neg (by rw [h3]; decide), if_neg (fun h => h.elim h2 h1)]
theorem q1_odd {c : UInt8} (h1 : c ≠ 10) (h2 : c ≠ 13) (h3 : c ≠ 9) (h : odd c = true) : q1 c = [92, 120] ++ [Num.hexd (c.toNat / 16)] ++ [Num.hexd (c.toNat % 16)] := by
  unfold q1
  rw [if_neg h1, if_neg h2, if_neg h3, if_pos h]
  rfl
end Lex
theorem and15_fin : ∀ c : Fin 256, bits BinOp.and IntKind.u8 ((UInt8.ofNat c.val).toNat : Int) 15 = (((UInt8.ofNat c.val).toNat % 16 : Nat) : Int) := by decide +kernel
theorem and15 (c : UInt8) : bits BinOp.and IntKind.u8 (c.toNat : Int) 15 = ((c.toNat % 16 : Nat) : Int) := by
  have := and15_fin ⟨c.toNat, UInt8.toNat_lt c⟩
  simp only [UInt8.ofNat_toNat] at this
  exact this
theorem dig16_fin : ∀ d : Fin 16, (({ data := #[48, 49, 50, 51, 52, 53, 54, 55, 56, 57, 97, 98, 99, 100, 101, 102] } : ByteArray).data.toList)[d.val]? = some (Num.hexd d.val) := by decide +kernel
theorem dig16 (d : Nat) (h : d < 16) (h' : d < ({ data := #[48, 49, 50, 51, 52, 53, 54, 55, 56, 57, 97, 98, 99, 100, 101, 102] } : ByteArray).size) : ({ data := #[48, 49, 50, 51, 52, 53, 54, 55, 56, 57, 97, 98, 99, 100, 101, 102] } : ByteArray)[d]'h' = Num.hexd d := by
  have e := dig16_fin ⟨d, h⟩
  have e2 := at_extract (s := { data := #[48, 49, 50, 51, 52, 53, 54, 55, 56, 57, 97, 98, 99, 100, 101, 102] }) h'
  rw [e2] at e
  exact Option.some.inj e
theorem hexd_lt (d : Nat) : ((Num.hexd d).toNat : Int) < 256 := by have := UInt8.toNat_lt (Num.hexd d); omega

structure QteRel (s : ByteArray) (w : World) (k : Nat) (acc : List UInt8) (wx : World) : Prop where
  text : acc = 39 :: (s.data.toList.take k).flatMap Lex.q1
  len : acc.length ≤ 4 * k + 1
  bel : Below w.heap.size w wx
  bld : Bld w.heap.size w.heap.size acc wx
theorem QteRel.next {s : ByteArray} {w : World} {k : Nat} {acc acc' : List UInt8} {wx wy : World} (h : QteRel s w k acc wx) (hk : k < s.size) (ha : acc' = acc ++ Lex.q1 (s[k]'hk)) (hb : Below w.heap.size wx wy) (hl : Bld w.heap.size w.heap.size acc' wy) : QteRel s w (k + 1) acc' wy := by
  have h1 : k < s.data.toList.length := by rw [← Lib.size_eq]; exact hk
  have hq := (Lex.q1_len (s[k]'hk)).2
  have hlen := h.len
  refine ⟨?_, by rw [ha, List.length_append]; omega, h.bel.trans hb, hl⟩
  rw [ha, h.text, List.take_succ_eq_append_getElem h1, List.flatMap_append]
  simp only [List.cons_append, List.flatMap_cons, List.flatMap_nil, List.append_nil]
  rfl

set_option maxHeartbeats 8000000 in
set_option maxRecDepth 100000 in
theorem quote_any (s : ByteArray) (w : World) (hs : s.size ≤ 67108864) :
    Calls Tryd.prog 11 #[.string s] w fun e w' => e = .returned (.string ⟨(Lex.quote s.data.toList).toArray⟩) ∧ Below w.heap.size w w' := by
  go_enter Tryd.func11, Tryd.ntmps11
  go_wp2_with fail
  refine (bld_byte w.heap.size w.heap.size [] 39 _ (Bld.fresh w) (by omega) (by omega) (by simp) (by simp)).mono ?_
  rintro e w1 ⟨rfl, hbld1, hbel1, -⟩
  have hB1 := Lib.hid (show Below w.heap.size w w1 from ((Below.refl _ w).alloc (Nat.le_refl _) _).trans hbel1)
  have hL1 := Lib.hid hbld1
  clear hbel1 hbld1
  go_wp2_with fail
  go_loopg [9] s.size (fun g x wx => ∃ (k : Nat) (acc : List UInt8), k + g = s.size ∧ x = .int .i64 k ∧ QteRel s w k acc wx)
  case atStart => exact ⟨0, [39], by omega, rfl, ⟨by simp, by simp, hB1.out, hL1.out⟩⟩
  case round =>
    obtain ⟨k, acc, hk, rfl, hrel⟩ := hrel
    have hlen := hrel.len
    have hsz := hrel.bel.size
    have HQ := Lib.hid hrel
    clear hrel
    cases gk with
    | zero =>
      obtain rfl : k = s.size := by omega
      have ht : acc ++ [39] = Lex.quote s.data.toList := by
        rw [HQ.out.text, List.take_of_length_le (by rw [← Lib.size_eq]; omega)]
        rfl
      have HT := Lib.hid ht
      clear ht
      go_wp2_with fail
      refine (bld_byte w.heap.size w.heap.size acc 39 _ HQ.out.bld (by omega) (by omega) (by omega) hsz).mono ?_
      rintro e w2 ⟨rfl, hbld2, hbel2, -⟩
      have hsz2 := hbel2.size
      have HB2 := Lib.hid (HQ.out.bel.trans hbel2)
      go_wp2_with fail
      refine (bld_string w.heap.size w.heap.size _ w2 hbld2 (by omega)).mono ?_
      rintro e w3 ⟨rfl, hbld3, hbel3, -⟩
      go_wp2
      go_ret
      exact ⟨by rw [← HT.out]; rfl, HB2.out.trans hbel3⟩
    | succ g =>
      have hlt : k < s.size := by omega
      have hlti : (k : Int) < s.size := by omega
      have t1 : decide (k < s.size) = true := decide_eq_true hlt
      have hnext := fun (acc' : List UInt8) (wy : World) (ha : acc' = acc ++ Lex.q1 (s[k]'hlt)) (hb : Below w.heap.size wr wy) (hl : Bld w.heap.size w.heap.size acc' wy) => HQ.out.next hlt ha hb hl
      have HN := Lib.hid hnext
      have hbld := HQ.out.bld
      have HBL := Lib.hid hbld
      have HKG := Lib.hid hk
      have hk4 : k ≤ 67108864 := by omega
      obtain ⟨c, hc⟩ : ∃ c, s[k]'hlt = c := ⟨_, rfl⟩
      rw [hc] at HN
      clear hbld hnext HQ hk hs
      by_cases h10 : c = 10
      · subst h10
        go_wp2_with fail
        refine (bld_str w.heap.size w.heap.size acc _ _ HBL.out (by decide) (by omega) hsz).mono ?_
        rintro e w2 ⟨rfl, hbld2, hbel2, -⟩
        have HR := Lib.hid (HN.out _ _ rfl hbel2 hbld2)
        clear hbld2 hbel2
        go_wp2
        go_roundg g
        case measure => omega
        case rel => exact ⟨k + 1, _, by have := HKG.out; omega, int_eq' (by omega), HR.out⟩
      by_cases h13 : c = 13
      · subst h13
        go_wp2_with fail
        refine (bld_str w.heap.size w.heap.size acc _ _ HBL.out (by decide) (by omega) hsz).mono ?_
        rintro e w2 ⟨rfl, hbld2, hbel2, -⟩
        have HR := Lib.hid (HN.out _ _ rfl hbel2 hbld2)
        clear hbld2 hbel2
        go_wp2
        go_roundg g
        case measure => omega
        case rel => exact ⟨k + 1, _, by have := HKG.out; omega, int_eq' (by omega), HR.out⟩
      by_cases h9 : c = 9
      · subst h9
        go_wp2_with fail
        refine (bld_str w.heap.size w.heap.size acc _ _ HBL.out (by decide) (by omega) hsz).mono ?_
        rintro e w2 ⟨rfl, hbld2, hbel2, -⟩
        have HR := Lib.hid (HN.out _ _ rfl hbel2 hbld2)
        clear hbld2 hbel2
        go_wp2
        go_roundg g
        case measure => omega
        case rel => exact ⟨k + 1, _, by have := HKG.out; omega, int_eq' (by omega), HR.out⟩
      by_cases h92 : c = 92
      · subst h92
        go_wp2_with fail
        refine (bld_byte w.heap.size w.heap.size acc 92 _ HBL.out (by omega) (by omega) (by omega) hsz).mono ?_
        rintro e w2 ⟨rfl, hbld2, hbel2, -⟩
        have hsz2 := Nat.le_trans hsz hbel2.size
        have hl2 : (acc ++ [(Int.toNat 92).toUInt8]).length < 1073741824 := by rw [List.length_append, List.length_singleton]; omega
        have HB2 := Lib.hid hbel2
        have HL2 := Lib.hid hbld2
        clear hbel2 hbld2
        go_wp2_with fail
        refine (bld_byte w.heap.size w.heap.size _ 92 _ HL2.out (by omega) (by omega) hl2 hsz2).mono ?_
        rintro e w3 ⟨rfl, hbld3, hbel3, -⟩
        have HR := Lib.hid (HN.out _ _ (by rw [Lex.q1_esc (by decide), List.append_assoc]; rfl) (HB2.out.trans hbel3) hbld3)
        clear hbld3 hbel3 hl2
        go_wp2
        go_roundg g
        case measure => omega
        case rel => exact ⟨k + 1, _, by have := HKG.out; omega, int_eq' (by omega), HR.out⟩
      by_cases h39 : c = 39
      · subst h39
        go_wp2_with fail
        refine (bld_byte w.heap.size w.heap.size acc 92 _ HBL.out (by omega) (by omega) (by omega) hsz).mono ?_
        rintro e w2 ⟨rfl, hbld2, hbel2, -⟩
        have hsz2 := Nat.le_trans hsz hbel2.size
        have hl2 : (acc ++ [(Int.toNat 92).toUInt8]).length < 1073741824 := by rw [List.length_append, List.length_singleton]; omega
        have HB2 := Lib.hid hbel2
        have HL2 := Lib.hid hbld2
        clear hbel2 hbld2
        go_wp2_with fail
        refine (bld_byte w.heap.size w.heap.size _ 39 _ HL2.out (by omega) (by omega) hl2 hsz2).mono ?_
        rintro e w3 ⟨rfl, hbld3, hbel3, -⟩
        have HR := Lib.hid (HN.out _ _ (by rw [Lex.q1_esc (by decide), List.append_assoc]; rfl) (HB2.out.trans hbel3) hbld3)
        clear hbld3 hbel3 hl2
        go_wp2
        go_roundg g
        case measure => omega
        case rel => exact ⟨k + 1, _, by have := HKG.out; omega, int_eq' (by omega), HR.out⟩
      have t10 : (((c.toNat : Nat) : Int) == 10) = false := bq (k := 10) rfl (beq_eq_false_iff_ne.2 h10)
      have t13 : (((c.toNat : Nat) : Int) == 13) = false := bq (k := 13) rfl (beq_eq_false_iff_ne.2 h13)
      have t9 : (((c.toNat : Nat) : Int) == 9) = false := bq (k := 9) rfl (beq_eq_false_iff_ne.2 h9)
      have t92 : (((c.toNat : Nat) : Int) == 92) = false := bq (k := 92) rfl (beq_eq_false_iff_ne.2 h92)
      have t39 : (((c.toNat : Nat) : Int) == 39) = false := bq (k := 39) rfl (beq_eq_false_iff_ne.2 h39)
      have hcb := byte_le c
      have hu := undef_no
      by_cases h32 : c.toNat < 32
      · have ho : Lex.odd c = true := by simp only [Lex.odd]; rw [decide_eq_true h32]; rfl
        have HO := Lib.hid (Lex.q1_odd h10 h13 h9 ho)
        have d1 : decide (32 ≤ (c.toNat : Int)) = false := decide_eq_false (by omega)
        have hq1 : c.toNat / 16 < 16 := by have := UInt8.toNat_lt c; omega
        have hq2 : c.toNat % 16 < 16 := by omega
        have i1 : ((c.toNat : Int) / 16) < 16 := by omega
        have i2 : ((c.toNat : Int) % 16) < 16 := by omega
        have hand : bits BinOp.and IntKind.u8 (c.toNat : Int) 15 = ((c.toNat % 16 : Nat) : Int) := and15 c
        have hd1 := fun h => dig16 (c.toNat / 16) hq1 h
        have hd2 := fun h => dig16 (c.toNat % 16) hq2 h
        obtain ⟨x1, hx1⟩ : ∃ x, Num.hexd (c.toNat / 16) = x := ⟨_, rfl⟩
        obtain ⟨x2, hx2⟩ : ∃ x, Num.hexd (c.toNat % 16) = x := ⟨_, rfl⟩
        rw [hx1, hx2] at HO
        rw [hx1] at hd1
        rw [hx2] at hd2
        clear hx1 hx2 h10 h13 h9 h92 h39 ho
        have hb1 := byte_le x1
        have hb2 := byte_le x2
        go_wp2_with fail
        refine (bld_str w.heap.size w.heap.size acc _ _ HBL.out (by decide) (by omega) hsz).mono ?_
        rintro e w2 ⟨rfl, hbld2, hbel2, -⟩
        have hsz2 := Nat.le_trans hsz hbel2.size
        have HB2 := Lib.hid hbel2
        have HL2 := Lib.hid hbld2
        clear hbel2 hbld2
        go_wp2_with fail
        refine (bld_byte w.heap.size w.heap.size _ (x1.toNat : Int) _ HL2.out (by omega) (by omega) (by rw [List.length_append]; show acc.length + 2 < _; omega) hsz2).mono ?_
        rintro e w3 ⟨rfl, hbld3, hbel3, -⟩
        have hsz3 := Nat.le_trans hsz2 hbel3.size
        have HB3 := Lib.hid (HB2.out.trans hbel3)
        have HL3 := Lib.hid hbld3
        clear hbel3 hbld3 HL2 HB2
        go_wp2_with fail
        refine (bld_byte w.heap.size w.heap.size _ (x2.toNat : Int) _ HL3.out (by omega) (by omega) (by rw [List.length_append, List.length_append]; show acc.length + 2 + 1 < _; omega) hsz3).mono ?_
        rintro e w4 ⟨rfl, hbld4, hbel4, -⟩
        have HR := Lib.hid (HN.out _ _ (by rw [HO.out, byte_back, byte_back, ← List.append_assoc, ← List.append_assoc]) (HB3.out.trans hbel4) hbld4)
        clear hbld4 hbel4
        go_wp2
        go_roundg g
        case measure => omega
        case rel => exact ⟨k + 1, _, by have := HKG.out; omega, int_eq' (by omega), HR.out⟩
      by_cases h126 : 126 < c.toNat
      · have ho : Lex.odd c = true := by simp only [Lex.odd]; rw [decide_eq_true h126, Bool.or_true]
        have HO := Lib.hid (Lex.q1_odd h10 h13 h9 ho)
        have d1 : decide (32 ≤ (c.toNat : Int)) = true := decide_eq_true (by omega)
        have d2 : decide ((c.toNat : Int) ≤ 126) = false := decide_eq_false (by omega)
        have hq1 : c.toNat / 16 < 16 := by have := UInt8.toNat_lt c; omega
        have hq2 : c.toNat % 16 < 16 := by omega
        have i1 : ((c.toNat : Int) / 16) < 16 := by omega
        have i2 : ((c.toNat : Int) % 16) < 16 := by omega
        have hand : bits BinOp.and IntKind.u8 (c.toNat : Int) 15 = ((c.toNat % 16 : Nat) : Int) := and15 c
        have hd1 := fun h => dig16 (c.toNat / 16) hq1 h
        have hd2 := fun h => dig16 (c.toNat % 16) hq2 h
        obtain ⟨x1, hx1⟩ : ∃ x, Num.hexd (c.toNat / 16) = x := ⟨_, rfl⟩
        obtain ⟨x2, hx2⟩ : ∃ x, Num.hexd (c.toNat % 16) = x := ⟨_, rfl⟩
        rw [hx1, hx2] at HO
        rw [hx1] at hd1
        rw [hx2] at hd2
        clear hx1 hx2 h10 h13 h9 h92 h39 ho
        have hb1 := byte_le x1
        have hb2 := byte_le x2
        go_wp2_with fail
        refine (bld_str w.heap.size w.heap.size acc _ _ HBL.out (by decide) (by omega) hsz).mono ?_
        rintro e w2 ⟨rfl, hbld2, hbel2, -⟩
        have hsz2 := Nat.le_trans hsz hbel2.size
        have HB2 := Lib.hid hbel2
        have HL2 := Lib.hid hbld2
        clear hbel2 hbld2
        go_wp2_with fail
        refine (bld_byte w.heap.size w.heap.size _ (x1.toNat : Int) _ HL2.out (by omega) (by omega) (by rw [List.length_append]; show acc.length + 2 < _; omega) hsz2).mono ?_
        rintro e w3 ⟨rfl, hbld3, hbel3, -⟩
        have hsz3 := Nat.le_trans hsz2 hbel3.size
        have HB3 := Lib.hid (HB2.out.trans hbel3)
        have HL3 := Lib.hid hbld3
        clear hbel3 hbld3 HL2 HB2
        go_wp2_with fail
        refine (bld_byte w.heap.size w.heap.size _ (x2.toNat : Int) _ HL3.out (by omega) (by omega) (by rw [List.length_append, List.length_append]; show acc.length + 2 + 1 < _; omega) hsz3).mono ?_
        rintro e w4 ⟨rfl, hbld4, hbel4, -⟩
        have HR := Lib.hid (HN.out _ _ (by rw [HO.out, byte_back, byte_back, ← List.append_assoc, ← List.append_assoc]) (HB3.out.trans hbel4) hbld4)
        clear hbld4 hbel4
        go_wp2
        go_roundg g
        case measure => omega
        case rel => exact ⟨k + 1, _, by have := HKG.out; omega, int_eq' (by omega), HR.out⟩
      have ho : Lex.odd c = false := by simp only [Lex.odd]; rw [decide_eq_false h32, decide_eq_false h126]; rfl
      have HO := Lib.hid (Lex.q1_plain h92 h39 ho)
      have d1 : decide (32 ≤ (c.toNat : Int)) = true := decide_eq_true (by omega)
      have d2 : decide ((c.toNat : Int) ≤ 126) = true := decide_eq_true (by omega)
      clear h10 h13 h9 h92 h39 ho
      go_wp2_with fail
      refine (bld_byte w.heap.size w.heap.size acc (c.toNat : Int) _ HBL.out (by omega) (by omega) (by omega) hsz).mono ?_
      rintro e w2 ⟨rfl, hbld2, hbel2, -⟩
      have HR := Lib.hid (HN.out _ _ (by rw [HO.out, byte_back]) hbel2 hbld2)
      clear hbld2 hbel2
      go_wp2
      go_roundg g
      case measure => omega
      case rel => exact ⟨k + 1, _, by have := HKG.out; omega, int_eq' (by omega), HR.out⟩
end Go.Proofs.YthnaiiejjdmnaaaDoor
