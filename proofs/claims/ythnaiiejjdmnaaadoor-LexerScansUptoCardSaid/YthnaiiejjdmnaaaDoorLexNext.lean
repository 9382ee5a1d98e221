/- Layer 24 (lexer): the token at a place. -/
import Derived.Test.YthnaiiejjdmnaaaDoorLexQuo
import Derived.Test.YthnaiiejjdmnaaaDoorLexNum
namespace Go.Proofs.YthnaiiejjdmnaaaDoor
open Go.RowKit

theorem tokV_form (R : Lex.Res) (i : Nat) : ∃ (v0 : Int) (v1 : ByteArray) (v2 v3 v4 v5 : Int), tokV R i = .agg #[.int .i64 v0, .string v1, .int .i64 v2, .int .i64 v3, .int .i64 v4, .int .i64 v5] := by
  cases R <;> exact ⟨_, _, _, _, _, _, rfl⟩
theorem marks_fin : ∀ c : Fin 256, Lib.contains [40, 41, 123, 125, 91, 93, 58, 44, 59, 45] (Utf8.encode (wrap32 (c.val : Int))).data.toList = decide (UInt8.ofNat c.val ∈ Lex.MARKS) := by decide +kernel
theorem marks_contains (c : UInt8) : Lib.contains [40, 41, 123, 125, 91, 93, 58, 44, 59, 45] (Utf8.encode (wrap32 (c.toNat : Int))).data.toList = decide (c ∈ Lex.MARKS) := by
  have := marks_fin ⟨c.toNat, UInt8.toNat_lt c⟩
  simp only [UInt8.ofNat_toNat] at this
  exact this
theorem contains_any (c : UInt8) (w : World) (hL : Laid w) :
    Calls Tryd.prog 31 #[.string ⟨#[40, 41, 123, 125, 91, 93, 58, 44, 59, 45]⟩, .string (Utf8.encode (wrap32 (c.toNat : Int)))] w fun e w' => e = .returned (.bool (decide (c ∈ Lex.MARKS))) ∧ w = w' := by
  obtain ⟨m, hm⟩ := hL.max
  refine (Tryd.strings_Contains _ _ m w (by decide) hm).mono fun e w' ⟨he, hw⟩ => ⟨?_, hw.symm⟩
  rw [he, ← marks_contains c]
namespace Lex
/-- the byte behind, or 0 -/
def behind (r : List UInt8) : UInt8 := r.head?.getD 0
theorem any_behind (r : List UInt8) : r.head?.any Num.isDig = Num.isDig (behind r) := by
  cases r with
  | nil => decide
  | cons a r => rfl
theorem head_behind (r : List UInt8) : r.head? = some 62 ↔ behind r = 62 := by
  cases r with
  | nil => simp [behind]
  | cons a r => simp [behind]
theorem dig_not {c : UInt8} (h : Num.isDig c = true) : c ≠ 39 ∧ isLet c = false ∧ c ≠ 45 := by
  have : ∀ c : Fin 256, Num.isDig (UInt8.ofNat c.val) = true → UInt8.ofNat c.val ≠ 39 ∧ isLet (UInt8.ofNat c.val) = false ∧ UInt8.ofNat c.val ≠ 45 := by decide +kernel
  have := this ⟨c.toNat, UInt8.toNat_lt c⟩
  simp only [UInt8.ofNat_toNat] at this
  exact this h
theorem let_not {c : UInt8} (h : isLet c = true) : c ≠ 39 := by
  rintro rfl
  exact absurd h (by decide)
theorem tok1_let {c : UInt8} (r : List UInt8) (h : isLet c = true) : tok1 (c :: r) = .tok 1 ((c :: r).take (run inWord (c :: r))) 0 (run inWord (c :: r)) := by
  simp only [tok1]
  rw [if_neg (let_not h), if_pos h]
theorem tok1_dig {c : UInt8} (r : List UInt8) (h : Num.isDig c = true) : tok1 (c :: r) = numTok ((c :: r).take (1 + run inNum r)) := by
  simp only [tok1]
  rw [if_neg (dig_not h).1, if_neg (by rw [(dig_not h).2.1]; decide), if_pos (.inl h)]
theorem tok1_neg (r : List UInt8) (h : Num.isDig (behind r) = true) : tok1 (45 :: r) = numTok ((45 :: r).take (1 + run inNum r)) := by
  simp only [tok1]
  rw [if_neg (by decide), if_neg (by decide), if_pos (.inr ⟨trivial, by rw [any_behind]; exact h⟩)]
theorem tok1_quo (r : List UInt8) : tok1 (39 :: r) = textR (r.length + 1) r 1 [] := by
  simp only [tok1, if_true]
theorem tok1_arrow (r : List UInt8) (h : behind r = 62) : tok1 (45 :: r) = .tok 5 [45, 62] 0 2 := by
  simp only [tok1]
  have hd : Num.isDig (behind r) = false := by rw [h]; decide
  rw [if_neg (by decide), if_neg (by decide), if_neg, if_pos ⟨trivial, (head_behind r).2 h⟩]
  rintro (h1 | ⟨_, h1⟩)
  · exact absurd h1 (by decide)
  · rw [any_behind, hd] at h1; cases h1
theorem tok1_dash (r : List UInt8) (h1 : Num.isDig (behind r) = false) (h2 : behind r ≠ 62) : tok1 (45 :: r) = .tok 5 [45] 0 1 := by
  simp only [tok1]
  rw [if_neg (by decide), if_neg (by decide), if_neg, if_neg, if_pos (by decide)]
  · rintro ⟨_, h⟩; exact h2 ((head_behind r).1 h)
  · rintro (h | ⟨_, h⟩)
    · exact absurd h (by decide)
    · rw [any_behind, h1] at h; cases h
theorem tok1_mark {c : UInt8} (r : List UInt8) (h1 : isLet c = false) (h2 : Num.isDig c = false) (h3 : c ≠ 39) (h4 : c ≠ 45) : tok1 (c :: r) = if c ∈ MARKS then .tok 5 [c] 0 1 else .err 0 240 := by
  simp only [tok1]
  rw [if_neg h3, if_neg (by rw [h1]; decide), if_neg, if_neg (fun h => h4 h.1)]
  rintro (h | h)
  · rw [h2] at h; cases h
  · exact h4 h.1
end Lex

set_option maxHeartbeats 8000000 in
set_option maxRecDepth 100000 in
theorem next_any (s : ByteArray) (i : Nat) (w : World) (hs : s.size ≤ 1073741823) (hi : i < s.size) (hL : Laid w) :
    Calls Tryd.prog 16 #[.string s, .int .i64 i] w (TokRes (Lex.tok1 (s.data.toList.drop i)) i w) := by
  have hlen := Lib.size_eq s
  have hdrop := drop_at' hi
  obtain ⟨c, hc⟩ : ∃ c, s[i]'hi = c := ⟨_, rfl⟩
  obtain ⟨r, hr⟩ : ∃ r, s.data.toList.drop (i + 1) = r := ⟨_, rfl⟩
  rw [hc, hr] at hdrop
  have hrl : r.length = s.size - (i + 1) := by rw [← hr, List.length_drop, hlen]
  obtain ⟨bh, hbh⟩ : ∃ b, Lex.behind r = b := ⟨_, rfl⟩
  have hii : (i : Int) < s.size := by omega
  have h1i : (i : Int) ≤ 1073741823 := by omega
  obtain ⟨R, hR⟩ : ∃ R, Lex.tok1 (s.data.toList.drop i) = R := ⟨_, rfl⟩
  obtain ⟨v0, v1, v2, v3, v4, v5, hv⟩ := tokV_form R i
  have hword := fun (W : World) => word_any s i W (by omega) (by omega)
  have hnum := fun (W : World) (hb : Below w.heap.size w W) => num_any s i W (by omega) hi (hL.below hb)
  have hquo := fun (W : World) => quoted_any s i W hs hi
  rw [hdrop] at hword hnum hR
  rw [hr] at hnum hquo
  have hcon := fun (W : World) (hb : Below w.heap.size w W) => contains_any c W (hL.below hb)
  have HCON := Lib.hid hcon
  have hlt := fun (W : World) => isLetter_any c W
  have hdg := fun (W : World) => isDigit_any c W
  have hdb := fun (W : World) => isDigit_any bh W
  have HWORD := Lib.hid hword
  have HNUM := Lib.hid hnum
  have HQUO := Lib.hid hquo
  have HLT := Lib.hid hlt
  have HDG := Lib.hid hdg
  have HDB := Lib.hid hdb
  have HR := Lib.hid hR
  have HV := Lib.hid hv
  have HDR := Lib.hid hdrop
  have HRL := Lib.hid hrl
  have HBH := Lib.hid hbh
  have HRR := Lib.hid hr
  rw [show Lex.tok1 (s.data.toList.drop i) = R by rw [hdrop]; exact hR]
  clear hcon hword hnum hquo hlt hdg hdb hR hv hdrop hrl hlen hL
  go_enter Tryd.func16, Tryd.ntmps16
  go_upto_if 15 with (fail)
  go_cut [6] (fun v wx => v = .int .u8 (bh.toNat : Int) ∧ w.alloc (.cells #[.int .i64 0, .string ⟨#[]⟩, .int .i64 0, .int .i64 0, .int .i64 0, .int .i64 0] 40) = wx)
  case first =>
    by_cases h1 : i + 1 < s.size
    · have h1i' : (i : Int) + 1 < s.size := by omega
      have t1 : decide (i + 1 < s.size) = true := decide_eq_true h1
      have t1' : decide ((i : Int) + 1 < s.size) = true := decide_eq_true h1i'
      have hb1 : s[i + 1]'h1 = bh := by
        have := HRR.out
        rw [drop_at' h1] at this
        rw [← HBH.out, ← this]
        rfl
      go_wp2
      go_meet
      exact ⟨rfl, rfl⟩
    · have t1 : decide (i + 1 < s.size) = false := decide_eq_false h1
      have t1' : decide ((i : Int) + 1 < s.size) = false := decide_eq_false (by omega)
      have hb0 : bh = 0 := by
        have := HRR.out
        rw [drop_end' (by omega)] at this
        rw [← HBH.out, ← this]
        rfl
      go_wp2
      go_meet
      exact ⟨by rw [hb0]; rfl, rfl⟩
  case rest =>
    obtain ⟨rfl, rfl⟩ := hcut
    clear hr hbh
    have hu := undef_no
    by_cases ha : Lex.isLet c = true
    · have hl := HLT.out
      rw [ha] at hl
      have HL1 := Lib.hid hl
      have hR1 := HR.out
      rw [Lex.tok1_let r ha] at hR1
      have hw := HWORD.out
      rw [hR1] at hw
      unfold TokRes at hw
      rw [HV.out] at hw
      have HW := Lib.hid hw
      clear hl hR1 hw ha HLT HDG HDB HNUM HQUO HWORD
      go_wp2_with fail
      refine (HL1.out _).mono ?_
      rintro e w' ⟨rfl, rfl⟩
      go_wp2_with fail
      refine (HW.out _).mono ?_
      rintro e w2 ⟨rfl, hb⟩
      have hz2 := hb.size
      have HK2 := Lib.hid ((Blk.new w 40 #[.int .i64 0, .string ⟨#[]⟩, .int .i64 0, .int .i64 0, .int .i64 0, .int .i64 0]).below hb (by simp))
      obtain ⟨g0, g1, g2, g3, g4, g5, f0, f1, f2, f3, f4, f5⟩ := tok_cells HK2.out
      have HB2 := Lib.hid (((Below.refl _ w).alloc (Nat.le_refl _) (.cells #[.int .i64 0, .string ⟨#[]⟩, .int .i64 0, .int .i64 0, .int .i64 0, .int .i64 0] 40)).trans (hb.mono (by simp)))
      clear hb
      go_wp2
      exact ret_store Tryd.results16 rfl HK2.out HB2.out HV.out
    have hl : ∀ W : World, Calls Tryd.prog 26 #[.int .u8 c.toNat] W fun e w' => e = .returned (.bool false) ∧ W = w' := by
      have := HLT.out
      rwa [show Lex.isLet c = false from eq_false_of_ne_true ha] at this
    have HL1 := Lib.hid hl
    clear hl
    by_cases hd : Num.isDig c = true
    · have hdc := HDG.out
      rw [hd] at hdc
      have HD1 := Lib.hid hdc
      have hR1 := HR.out
      rw [Lex.tok1_dig r hd] at hR1
      have hw := HNUM.out
      rw [hR1] at hw
      unfold TokRes at hw
      rw [HV.out] at hw
      have HW := Lib.hid hw
      clear hdc hR1 hw ha hd HLT HDG HDB HNUM HQUO HWORD
      go_wp2_with fail
      refine (HL1.out _).mono ?_
      rintro e w' ⟨rfl, rfl⟩
      go_wp2_with fail
      refine (HD1.out _).mono ?_
      rintro e w' ⟨rfl, rfl⟩
      go_wp2_with fail
      refine (HW.out _ ((Below.refl _ w).alloc (Nat.le_refl _) _)).mono ?_
      rintro e w2 ⟨rfl, hb⟩
      have hz2 := hb.size
      have HK2 := Lib.hid ((Blk.new w 40 #[.int .i64 0, .string ⟨#[]⟩, .int .i64 0, .int .i64 0, .int .i64 0, .int .i64 0]).below hb (by simp))
      obtain ⟨g0, g1, g2, g3, g4, g5, f0, f1, f2, f3, f4, f5⟩ := tok_cells HK2.out
      have HB2 := Lib.hid (((Below.refl _ w).alloc (Nat.le_refl _) (.cells #[.int .i64 0, .string ⟨#[]⟩, .int .i64 0, .int .i64 0, .int .i64 0, .int .i64 0] 40)).trans (hb.mono (by simp)))
      clear hb
      go_wp2
      exact ret_store Tryd.results16 rfl HK2.out HB2.out HV.out
    have hdc : ∀ W : World, Calls Tryd.prog 28 #[.int .u8 c.toNat] W fun e w' => e = .returned (.bool false) ∧ W = w' := by
      have := HDG.out
      rwa [show Num.isDig c = false from eq_false_of_ne_true hd] at this
    have HD1 := Lib.hid hdc
    clear hdc
    by_cases h39 : c = 39
    · subst h39
      have hR1 := HR.out
      rw [Lex.tok1_quo r, HRL.out, show s.size - (i + 1) + 1 = s.size - i by omega] at hR1
      have hw := HQUO.out
      rw [hR1] at hw
      unfold TokRes at hw
      rw [HV.out] at hw
      have HW := Lib.hid hw
      clear hR1 hw ha hd HLT HDG HDB HNUM HQUO HWORD
      go_wp2_with fail
      refine (HL1.out _).mono ?_
      rintro e w' ⟨rfl, rfl⟩
      go_wp2_with fail
      refine (HD1.out _).mono ?_
      rintro e w' ⟨rfl, rfl⟩
      go_wp2_with fail
      refine (HW.out _).mono ?_
      rintro e w2 ⟨rfl, hb⟩
      have hz2 := hb.size
      have HK2 := Lib.hid ((Blk.new w 40 #[.int .i64 0, .string ⟨#[]⟩, .int .i64 0, .int .i64 0, .int .i64 0, .int .i64 0]).below hb (by simp))
      obtain ⟨g0, g1, g2, g3, g4, g5, f0, f1, f2, f3, f4, f5⟩ := tok_cells HK2.out
      have HB2 := Lib.hid (((Below.refl _ w).alloc (Nat.le_refl _) (.cells #[.int .i64 0, .string ⟨#[]⟩, .int .i64 0, .int .i64 0, .int .i64 0, .int .i64 0] 40)).trans (hb.mono (by simp)))
      clear hb
      go_wp2
      exact ret_store Tryd.results16 rfl HK2.out HB2.out HV.out
    have t39 : (((c.toNat : Nat) : Int) == 39) = false := bq (k := 39) rfl (beq_eq_false_iff_ne.2 h39)
    by_cases h45 : c = 45
    · subst h45
      by_cases hbd : Num.isDig bh = true
      · have hdb := HDB.out
        rw [hbd] at hdb
        have HD2 := Lib.hid hdb
        have hR1 := HR.out
        rw [Lex.tok1_neg r (by rw [HBH.out]; exact hbd)] at hR1
        have hw := HNUM.out
        rw [hR1] at hw
        unfold TokRes at hw
        rw [HV.out] at hw
        have HW := Lib.hid hw
        clear hdb hR1 hw ha hd hbd HLT HDG HDB HNUM HQUO HWORD
        go_wp2_with fail
        refine (HL1.out _).mono ?_
        rintro e w' ⟨rfl, rfl⟩
        go_wp2_with fail
        refine (HD1.out _).mono ?_
        rintro e w' ⟨rfl, rfl⟩
        go_wp2_with fail
        refine (HD2.out _).mono ?_
        rintro e w' ⟨rfl, rfl⟩
        go_wp2_with fail
        refine (HW.out _ ((Below.refl _ w).alloc (Nat.le_refl _) _)).mono ?_
        rintro e w2 ⟨rfl, hb⟩
        have hz2 := hb.size
        have HK2 := Lib.hid ((Blk.new w 40 #[.int .i64 0, .string ⟨#[]⟩, .int .i64 0, .int .i64 0, .int .i64 0, .int .i64 0]).below hb (by simp))
        obtain ⟨g0, g1, g2, g3, g4, g5, f0, f1, f2, f3, f4, f5⟩ := tok_cells HK2.out
        have HB2 := Lib.hid (((Below.refl _ w).alloc (Nat.le_refl _) (.cells #[.int .i64 0, .string ⟨#[]⟩, .int .i64 0, .int .i64 0, .int .i64 0, .int .i64 0] 40)).trans (hb.mono (by simp)))
        clear hb
        go_wp2
        exact ret_store Tryd.results16 rfl HK2.out HB2.out HV.out
      have hdb : ∀ W : World, Calls Tryd.prog 28 #[.int .u8 bh.toNat] W fun e w' => e = .returned (.bool false) ∧ W = w' := by
        have := HDB.out
        rwa [show Num.isDig bh = false from eq_false_of_ne_true hbd] at this
      have HD2 := Lib.hid hdb
      clear hdb
      by_cases h62 : bh = 62
      · subst h62
        have h2 : i + 2 ≤ s.size := by
          have h1 := HRL.out
          cases r with
          | nil => have := HBH.out; simp [Lex.behind] at this
          | cons a r => rw [List.length_cons] at h1; omega
        have h2i : (i : Int) + 2 ≤ s.size := by omega
        have h2j : (0 : Int) ≤ (i : Int) + 2 := by omega
        have hR1 := HR.out
        rw [Lex.tok1_arrow r HBH.out] at hR1
        have ht : tokV R i = .agg #[.int .i64 5, .string ⟨#[45, 62]⟩, .int .i64 0, .int .i64 i, .int .i64 ((i : Int) + 2), .int .i64 0] := by
          rw [← hR1]
          rfl
        have HT := Lib.hid ht
        have hzz : s.extract i (i + 2) = ⟨#[45, 62]⟩ := by
          apply ByteArray.ext
          apply Array.ext'
          rw [extract_take, HDR.out]
          cases r with
          | nil => have := HBH.out; simp [Lex.behind] at this
          | cons a r =>
            have : a = 62 := HBH.out
            rw [this]
            rfl
        clear hR1 ht ha hd hbd
        go_wp2_with fail
        refine (HL1.out _).mono ?_
        rintro e w' ⟨rfl, rfl⟩
        go_wp2_with fail
        refine (HD1.out _).mono ?_
        rintro e w' ⟨rfl, rfl⟩
        go_wp2_with fail
        refine (HD2.out _).mono ?_
        rintro e w' ⟨rfl, rfl⟩
        go_wp2
        exact ret_tok Tryd.results16 rfl (Blk.new _ _ _) ⟨by rw [HT.out], (Below.refl _ w).alloc (Nat.le_refl _) _⟩
      have t62 : (((bh.toNat : Nat) : Int) == 62) = false := bq (k := 62) rfl (beq_eq_false_iff_ne.2 h62)
      have hR1 := HR.out
      rw [Lex.tok1_dash r (by rw [HBH.out]; exact eq_false_of_ne_true hbd) (by rw [HBH.out]; exact h62)] at hR1
      have ht : tokV R i = .agg #[.int .i64 5, .string ⟨#[45]⟩, .int .i64 0, .int .i64 i, .int .i64 ((i : Int) + 1), .int .i64 0] := by
        rw [← hR1]
        rfl
      have HT := Lib.hid ht
      have hcon := HCON.out
      rw [show decide ((45 : UInt8) ∈ Lex.MARKS) = true by decide, show wrap32 (((45 : UInt8).toNat : Nat) : Int) = 45 by decide +kernel] at hcon
      have HC := Lib.hid hcon
      have h1i' : (i : Int) + 1 ≤ s.size := by omega
      have hzz : s.extract i (i + 1) = ⟨#[45]⟩ := by
        apply ByteArray.ext
        apply Array.ext'
        rw [extract_take, HDR.out]
        rfl
      clear hR1 ht ha hd hbd hcon
      go_wp2_with fail
      refine (HL1.out _).mono ?_
      rintro e w' ⟨rfl, rfl⟩
      go_wp2_with fail
      refine (HD1.out _).mono ?_
      rintro e w' ⟨rfl, rfl⟩
      go_wp2_with fail
      refine (HD2.out _).mono ?_
      rintro e w' ⟨rfl, rfl⟩
      go_wp2_with fail
      refine (HC.out _ ((Below.refl _ w).alloc (Nat.le_refl _) _)).mono ?_
      rintro e w' ⟨rfl, rfl⟩
      go_wp2
      exact ret_tok Tryd.results16 rfl (Blk.new _ _ _) ⟨by rw [HT.out], (Below.refl _ w).alloc (Nat.le_refl _) _⟩
    have t45 : (((c.toNat : Nat) : Int) == 45) = false := bq (k := 45) rfl (beq_eq_false_iff_ne.2 h45)
    by_cases hm : c ∈ Lex.MARKS
    · have hR1 := HR.out
      rw [Lex.tok1_mark r (eq_false_of_ne_true ha) (eq_false_of_ne_true hd) h39 h45, if_pos hm] at hR1
      have hcon := HCON.out
      rw [decide_eq_true hm] at hcon
      have HC := Lib.hid hcon
      have ht : tokV R i = .agg #[.int .i64 5, .string ⟨#[c]⟩, .int .i64 0, .int .i64 i, .int .i64 ((i : Int) + 1), .int .i64 0] := by
        rw [← hR1]
        rfl
      have HT := Lib.hid ht
      have h1i' : (i : Int) + 1 ≤ s.size := by omega
      have hzz : s.extract i (i + 1) = ⟨#[c]⟩ := by
        apply ByteArray.ext
        apply Array.ext'
        rw [extract_take, HDR.out]
        rfl
      clear hR1 ht ha hd hm hcon h39 h45
      go_wp2_with fail
      refine (HL1.out _).mono ?_
      rintro e w' ⟨rfl, rfl⟩
      go_wp2_with fail
      refine (HD1.out _).mono ?_
      rintro e w' ⟨rfl, rfl⟩
      go_wp2_with fail
      refine (HC.out _ ((Below.refl _ w).alloc (Nat.le_refl _) _)).mono ?_
      rintro e w' ⟨rfl, rfl⟩
      go_wp2
      exact ret_tok Tryd.results16 rfl (Blk.new _ _ _) ⟨by rw [HT.out], (Below.refl _ w).alloc (Nat.le_refl _) _⟩
    · have hR1 := HR.out
      rw [Lex.tok1_mark r (eq_false_of_ne_true ha) (eq_false_of_ne_true hd) h39 h45, if_neg hm] at hR1
      have hcon := HCON.out
      rw [decide_eq_false hm] at hcon
      have HC := Lib.hid hcon
      have ht : tokV R i = .agg #[.int .i64 0, .string ⟨#[]⟩, .int .i64 0, .int .i64 i, .int .i64 0, .int .i64 240] := by
        rw [← hR1, zero_tok, Nat.add_zero]
        rfl
      have HT := Lib.hid ht
      clear hR1 ht ha hd hm hcon h39 h45
      go_wp2_with fail
      refine (HL1.out _).mono ?_
      rintro e w' ⟨rfl, rfl⟩
      go_wp2_with fail
      refine (HD1.out _).mono ?_
      rintro e w' ⟨rfl, rfl⟩
      go_wp2_with fail
      refine (HC.out _ ((Below.refl _ w).alloc (Nat.le_refl _) _)).mono ?_
      rintro e w' ⟨rfl, rfl⟩
      go_wp2_with fail
      refine (fail_any (i : Int) 240 _).mono ?_
      rintro e w2 ⟨rfl, hb⟩
      have hz2 := hb.size
      have HK2 := Lib.hid ((Blk.new w 40 #[.int .i64 0, .string ⟨#[]⟩, .int .i64 0, .int .i64 0, .int .i64 0, .int .i64 0]).below hb (by simp))
      obtain ⟨g0, g1, g2, g3, g4, g5, f0, f1, f2, f3, f4, f5⟩ := tok_cells HK2.out
      have HB2 := Lib.hid (((Below.refl _ w).alloc (Nat.le_refl _) (.cells #[.int .i64 0, .string ⟨#[]⟩, .int .i64 0, .int .i64 0, .int .i64 0, .int .i64 0] 40)).trans (hb.mono (by simp)))
      clear hb
      go_wp2
      exact ret_store Tryd.results16 rfl HK2.out HB2.out HT.out
end Go.Proofs.YthnaiiejjdmnaaaDoor
