/- Layer 24 (lexer): the document's hex, gap, escape, text. -/
import Derived.Test.YthnaiiejjdmnaaaDoorLexQuo
import Derived.Test.YthnaiiejjdmnaaaDoorBytes
namespace Go.Proofs.YthnaiiejjdmnaaaDoor
open Go.RowKit

theorem bn {c : UInt8} {k : UInt8} {n : Int} (hn : (k.toNat : Int) = n) (h : c ≠ k) : ((c.toNat : Int) != n) = true := by
  rw [bne_iff_ne, ← hn]
  intro e
  exact h (UInt8.toNat_inj.1 (by omega))
theorem bn' {c : UInt8} {k : UInt8} {n : Int} (hn : (k.toNat : Int) = n) {b : Bool} (h : (c != k) = b) : ((c.toNat : Int) != n) = b := by
  rw [← h]
  by_cases e : c = k
  · rw [e, hn]; simp
  · rw [bn hn e]; exact (bne_iff_ne.2 e).symm

set_option maxHeartbeats 1000000 in
theorem refDigit_any (c : UInt8) (w : World) :
    Calls Tryd.prog 35 #[.int .u8 c.toNat] w fun e w' => e = .returned (.bool (Num.isDig c)) ∧ w = w' := by
  have hb := byte_le c
  obtain ⟨n, hn⟩ : ∃ n, c.toNat = n := ⟨_, rfl⟩
  obtain ⟨v, hv⟩ : ∃ v, Num.isDig c = v := ⟨_, rfl⟩
  rw [hv, hn]
  rw [hn] at hb
  by_cases h47 : n ≤ 47
  · have hr : v = false := by
      rw [← hv]; simp [Num.isDig, hn]; try omega
    subst hr
    have t0 : decide (48 ≤ (n : Int)) = false := decide_eq_false (by omega)
    have t1 : decide ((n : Int) ≤ 57) = true := decide_eq_true (by omega)
    clear hn hv h47
    go_enter Tryd.func35, Tryd.ntmps35
    go_wp2
    go_ret
    exact ⟨rfl, rfl⟩
  by_cases h57 : n ≤ 57
  · have hr : v = true := by
      rw [← hv]; simp [Num.isDig, hn]; try omega
    subst hr
    have t0 : decide (48 ≤ (n : Int)) = true := decide_eq_true (by omega)
    have t1 : decide ((n : Int) ≤ 57) = true := decide_eq_true (by omega)
    clear hn hv h47 h57
    go_enter Tryd.func35, Tryd.ntmps35
    go_wp2
    go_ret
    exact ⟨rfl, rfl⟩
  have hr : v = false := by
    rw [← hv]; simp [Num.isDig, hn]; try omega
  subst hr
  have t0 : decide (48 ≤ (n : Int)) = true := decide_eq_true (by omega)
  have t1 : decide ((n : Int) ≤ 57) = false := decide_eq_false (by omega)
  clear hn hv h47 h57
  go_enter Tryd.func35, Tryd.ntmps35
  go_wp2
  go_ret
  exact ⟨rfl, rfl⟩

set_option maxHeartbeats 1000000 in
theorem refLetter_any (c : UInt8) (w : World) :
    Calls Tryd.prog 34 #[.int .u8 c.toNat] w fun e w' => e = .returned (.bool (Lex.isLet c)) ∧ w = w' := by
  have hb := byte_le c
  obtain ⟨n, hn⟩ : ∃ n, c.toNat = n := ⟨_, rfl⟩
  obtain ⟨v, hv⟩ : ∃ v, Lex.isLet c = v := ⟨_, rfl⟩
  rw [hv, hn]
  rw [hn] at hb
  by_cases h64 : n ≤ 64
  · have hr : v = false := by
      rw [← hv]; simp [Lex.isLet, hn]; try omega
    subst hr
    have t0 : decide (97 ≤ (n : Int)) = false := decide_eq_false (by omega)
    have t1 : decide ((n : Int) ≤ 122) = true := decide_eq_true (by omega)
    have t2 : decide (65 ≤ (n : Int)) = false := decide_eq_false (by omega)
    have t3 : decide ((n : Int) ≤ 90) = true := decide_eq_true (by omega)
    have t4 : ((n : Int) == 95) = false := by rw [beq_eq_false_iff_ne]; omega
    clear hn hv h64
    go_enter Tryd.func34, Tryd.ntmps34
    go_wp2
    go_ret
    exact ⟨rfl, rfl⟩
  by_cases h90 : n ≤ 90
  · have hr : v = true := by
      rw [← hv]; simp [Lex.isLet, hn]; try omega
    subst hr
    have t0 : decide (97 ≤ (n : Int)) = false := decide_eq_false (by omega)
    have t1 : decide ((n : Int) ≤ 122) = true := decide_eq_true (by omega)
    have t2 : decide (65 ≤ (n : Int)) = true := decide_eq_true (by omega)
    have t3 : decide ((n : Int) ≤ 90) = true := decide_eq_true (by omega)
    have t4 : ((n : Int) == 95) = false := by rw [beq_eq_false_iff_ne]; omega
    clear hn hv h64 h90
    go_enter Tryd.func34, Tryd.ntmps34
    go_wp2
    go_ret
    exact ⟨rfl, rfl⟩
  by_cases h94 : n ≤ 94
  · have hr : v = false := by
      rw [← hv]; simp [Lex.isLet, hn]; try omega
    subst hr
    have t0 : decide (97 ≤ (n : Int)) = false := decide_eq_false (by omega)
    have t1 : decide ((n : Int) ≤ 122) = true := decide_eq_true (by omega)
    have t2 : decide (65 ≤ (n : Int)) = true := decide_eq_true (by omega)
    have t3 : decide ((n : Int) ≤ 90) = false := decide_eq_false (by omega)
    have t4 : ((n : Int) == 95) = false := by rw [beq_eq_false_iff_ne]; omega
    clear hn hv h64 h90 h94
    go_enter Tryd.func34, Tryd.ntmps34
    go_wp2
    go_ret
    exact ⟨rfl, rfl⟩
  by_cases h95 : n ≤ 95
  · have hr : v = true := by
      rw [← hv]; simp [Lex.isLet, hn]; try omega
    subst hr
    have t0 : decide (97 ≤ (n : Int)) = false := decide_eq_false (by omega)
    have t1 : decide ((n : Int) ≤ 122) = true := decide_eq_true (by omega)
    have t2 : decide (65 ≤ (n : Int)) = true := decide_eq_true (by omega)
    have t3 : decide ((n : Int) ≤ 90) = false := decide_eq_false (by omega)
    have t4 : ((n : Int) == 95) = true := by rw [show (n : Int) = 95 by omega]; rfl
    clear hn hv h64 h90 h94 h95
    go_enter Tryd.func34, Tryd.ntmps34
    go_wp2
    go_ret
    exact ⟨rfl, rfl⟩
  by_cases h96 : n ≤ 96
  · have hr : v = false := by
      rw [← hv]; simp [Lex.isLet, hn]; try omega
    subst hr
    have t0 : decide (97 ≤ (n : Int)) = false := decide_eq_false (by omega)
    have t1 : decide ((n : Int) ≤ 122) = true := decide_eq_true (by omega)
    have t2 : decide (65 ≤ (n : Int)) = true := decide_eq_true (by omega)
    have t3 : decide ((n : Int) ≤ 90) = false := decide_eq_false (by omega)
    have t4 : ((n : Int) == 95) = false := by rw [beq_eq_false_iff_ne]; omega
    clear hn hv h64 h90 h94 h95 h96
    go_enter Tryd.func34, Tryd.ntmps34
    go_wp2
    go_ret
    exact ⟨rfl, rfl⟩
  by_cases h122 : n ≤ 122
  · have hr : v = true := by
      rw [← hv]; simp [Lex.isLet, hn]; try omega
    subst hr
    have t0 : decide (97 ≤ (n : Int)) = true := decide_eq_true (by omega)
    have t1 : decide ((n : Int) ≤ 122) = true := decide_eq_true (by omega)
    have t2 : decide (65 ≤ (n : Int)) = true := decide_eq_true (by omega)
    have t3 : decide ((n : Int) ≤ 90) = false := decide_eq_false (by omega)
    have t4 : ((n : Int) == 95) = false := by rw [beq_eq_false_iff_ne]; omega
    clear hn hv h64 h90 h94 h95 h96 h122
    go_enter Tryd.func34, Tryd.ntmps34
    go_wp2
    go_ret
    exact ⟨rfl, rfl⟩
  have hr : v = false := by
    rw [← hv]; simp [Lex.isLet, hn]; try omega
  subst hr
  have t0 : decide (97 ≤ (n : Int)) = true := decide_eq_true (by omega)
  have t1 : decide ((n : Int) ≤ 122) = false := decide_eq_false (by omega)
  have t2 : decide (65 ≤ (n : Int)) = true := decide_eq_true (by omega)
  have t3 : decide ((n : Int) ≤ 90) = false := decide_eq_false (by omega)
  have t4 : ((n : Int) == 95) = false := by rw [beq_eq_false_iff_ne]; omega
  clear hn hv h64 h90 h94 h95 h96 h122
  go_enter Tryd.func34, Tryd.ntmps34
  go_wp2
  go_ret
  exact ⟨rfl, rfl⟩

set_option maxHeartbeats 1000000 in
theorem refHex_any (c : UInt8) (w : World) :
    Calls Tryd.prog 60 #[.int .u8 c.toNat] w fun e w' => e = .returned (.int .i64 (hexO (Num.hexv c))) ∧ w = w' := by
  have hb := byte_le c
  have hd := fun (W : World) => refDigit_any c W
  obtain ⟨n, hn⟩ : ∃ n, c.toNat = n := ⟨_, rfl⟩
  obtain ⟨v, hv⟩ : ∃ v, hexO (Num.hexv c) = v := ⟨_, rfl⟩
  obtain ⟨d, hdv⟩ : ∃ d, Num.isDig c = d := ⟨_, rfl⟩
  rw [hdv] at hd
  rw [hn] at hd hb ⊢
  rw [hv]
  unfold Num.hexv at hv
  unfold Num.isDig at hdv
  rw [hn] at hv hdv
  have HD := Lib.hid hd
  clear hd hn
  by_cases h1 : 48 ≤ n ∧ n ≤ 57
  · obtain ⟨a1, a2⟩ := h1
    rw [if_pos ⟨a1, a2⟩] at hv
    have e1 : d = true := by rw [← hdv]; simp [a1, a2]
    subst e1
    have e2 : (48 : Int) ≤ n := by omega
    have e3 : (n : Int) ≤ 57 := by omega
    have HV : Hid (v = (n : Int) - 48) := by rw [← hv]; refine Lib.hid ?_; show ((n - 48 : Nat) : Int) = _; omega
    clear hv hdv a1 a2
    go_enter Tryd.func60, Tryd.ntmps60
    go_wp2_with fail
    refine (HD.out _).mono ?_
    rintro e w' ⟨rfl, rfl⟩
    go_wp2
    go_ret
    exact ⟨by rw [HV.out]; rfl, rfl⟩
  · rw [if_neg h1] at hv
    have e1 : d = false := by rw [← hdv, Bool.eq_false_iff]; intro h; simp at h; exact h1 h
    subst e1
    by_cases h2 : 97 ≤ n ∧ n ≤ 102
    · obtain ⟨a1, a2⟩ := h2
      rw [if_pos ⟨a1, a2⟩] at hv
      have e2 : (97 : Int) ≤ n := by omega
      have e3 : (n : Int) ≤ 102 := by omega
      have t1 : decide (97 ≤ (n : Int)) = true := decide_eq_true e2
      have t2 : decide ((n : Int) ≤ 102) = true := decide_eq_true e3
      have HV : Hid (v = (n : Int) - 97 + 10) := by rw [← hv]; refine Lib.hid ?_; show ((n - 87 : Nat) : Int) = _; omega
      clear hv hdv a1 a2 h1
      go_enter Tryd.func60, Tryd.ntmps60
      go_wp2_with fail
      refine (HD.out _).mono ?_
      rintro e w' ⟨rfl, rfl⟩
      go_wp2
      go_ret
      exact ⟨by rw [HV.out]; rfl, rfl⟩
    · rw [if_neg h2] at hv
      have HV : Hid (v = -1) := by rw [← hv]; exact Lib.hid rfl
      by_cases h3 : n < 97
      · have t1 : decide (97 ≤ (n : Int)) = false := decide_eq_false (by omega)
        clear hv hdv h1 h2 h3
        go_enter Tryd.func60, Tryd.ntmps60
        go_wp2_with fail
        refine (HD.out _).mono ?_
        rintro e w' ⟨rfl, rfl⟩
        go_wp2
        go_ret
        exact ⟨by rw [HV.out]; rfl, rfl⟩
      · have t1 : decide (97 ≤ (n : Int)) = true := decide_eq_true (by omega)
        have t2 : decide ((n : Int) ≤ 102) = false := decide_eq_false (by omega)
        clear hv hdv h1 h2 h3
        go_enter Tryd.func60, Tryd.ntmps60
        go_wp2_with fail
        refine (HD.out _).mono ?_
        rintro e w' ⟨rfl, rfl⟩
        go_wp2
        go_ret
        exact ⟨by rw [HV.out]; rfl, rfl⟩

set_option maxHeartbeats 8000000 in
set_option maxRecDepth 100000 in
theorem refGap_any (s : ByteArray) (i : Nat) (w : World) (hs : s.size ≤ 1073741824) (hi : i ≤ s.size) :
    Calls Tryd.prog 17 #[.string s, .int .i64 i] w fun e w' => e = .returned (.int .i64 ((i + Lex.gap false (s.data.toList.drop i) : Nat) : Int)) ∧ w = w' := by
  obtain ⟨R, hR⟩ : ∃ R, i + Lex.gap false (s.data.toList.drop i) = R := ⟨_, rfl⟩
  rw [hR]
  have HR := Lib.hid hR
  clear hR
  go_enter Tryd.func17, Tryd.ntmps17
  go_wp2_with fail
  go_loopg [1, 5] (s.size - i) (fun g x st wx => ∃ (k : Nat) (b : Bool), k + g = s.size ∧ x = .int .i64 k ∧ st = .bool b ∧ k + Lex.gap b (s.data.toList.drop k) = R ∧ w = wx)
  case atStart => exact ⟨i, false, by omega, rfl, rfl, HR.out, rfl⟩
  case round =>
    obtain ⟨k, b, hk, rfl, rfl, hg, rfl⟩ := hrel
    have HG := Lib.hid hg
    have HK := Lib.hid hk
    have hkb : (k : Int) ≤ 1073741824 := by omega
    clear hg HR
    cases gk with
    | zero =>
      obtain rfl : k = s.size := by omega
      have hr : s.size = R := by have := HG.out; rw [drop_end' (Nat.le_refl _)] at this; cases b <;> simpa [Lex.gap] using this
      have HRR := Lib.hid hr
      clear hr hk
      go_wp2
      go_ret
      exact ⟨by rw [← HRR.out]; rfl, rfl⟩
    | succ g =>
      have hlt : k < s.size := by omega
      have hlti : (k : Int) < s.size := by omega
      have hd := drop_at' hlt
      obtain ⟨c, hc⟩ : ∃ c, s[k]'hlt = c := ⟨_, rfl⟩
      rw [hc] at hd
      have hg := HG.out
      rw [hd] at hg
      clear hk
      cases b with
      | true =>
        obtain ⟨b', hb'⟩ : ∃ b', (c != 10) = b' := ⟨_, rfl⟩
        have t1 : (((s[k]'hlt).toNat : Int) != 10) = b' := by rw [hc]; exact bn' (k := 10) rfl hb'
        have hn : k + 1 + Lex.gap b' (s.data.toList.drop (k + 1)) = R := by
          simp only [Lex.gap, hb'] at hg
          omega
        have HN := Lib.hid hn
        clear hn hg hd hc hb' HG
        go_wp2
        go_roundg g
        case measure => omega
        case rel => exact ⟨k + 1, b', by have := HK.out; omega, int_eq' (by omega), rfl, HN.out, rfl⟩
      | false =>
        by_cases h47 : c = 47
        · subst h47
          have te47 : (((s[k]'hlt).toNat : Int) == 47) = true := by rw [hc]; rfl
          have tn32 : (((s[k]'hlt).toNat : Int) != 32) = true := by rw [hc]; rfl
          have tn9 : (((s[k]'hlt).toNat : Int) != 9) = true := by rw [hc]; rfl
          have tn10 : (((s[k]'hlt).toNat : Int) != 10) = true := by rw [hc]; rfl
          have tn13 : (((s[k]'hlt).toNat : Int) != 13) = true := by rw [hc]; rfl
          by_cases hl2 : k + 1 < s.size
          · have hl2i : (k : Int) + 1 < s.size := by omega
            have u1 : decide ((k : Int) + 1 < s.size) = true := decide_eq_true hl2i
            have hd2 := drop_at' hl2
            obtain ⟨d, hdd⟩ : ∃ d, s[k + 1]'hl2 = d := ⟨_, rfl⟩
            rw [hdd] at hd2
            by_cases h472 : d = 47
            · subst h472
              have u2 : (((s[k + 1]'hl2).toNat : Int) == 47) = true := by rw [hdd]; rfl
              have hn : k + 1 + Lex.gap true (s.data.toList.drop (k + 1)) = R := by
                simp only [Lex.gap] at hg
                rw [if_pos ⟨trivial, by rw [hd2]; rfl⟩] at hg
                omega
              have HN := Lib.hid hn
              clear hn hg hd hc HG hd2 hdd
              go_wp2
              go_roundg g
              case measure => omega
              case rel => exact ⟨k + 1, true, by have := HK.out; omega, int_eq' (by omega), rfl, HN.out, rfl⟩
            · have u2 : (((s[k + 1]'hl2).toNat : Int) == 47) = false := by rw [hdd]; exact bq (k := 47) rfl (beq_eq_false_iff_ne.2 h472)
              have hr : k = R := by
                simp only [Lex.gap] at hg
                rw [if_neg (fun h => h472 (by have := h.2; rw [hd2] at this; simpa using this)), if_neg (by decide)] at hg
                omega
              have HRR := Lib.hid hr
              clear hr hg hd hc HG hd2 hdd h472
              go_wp2
              go_ret
              exact ⟨by rw [← HRR.out]; rfl, rfl⟩
          · have u1 : decide ((k : Int) + 1 < s.size) = false := decide_eq_false (by omega)
            have hr : k = R := by
              simp only [Lex.gap] at hg
              rw [if_neg (fun h => by have := h.2; rw [drop_end' (by omega)] at this; cases this), if_neg (by decide)] at hg
              omega
            have HRR := Lib.hid hr
            clear hr hg hd hc HG hl2
            go_wp2
            go_ret
            exact ⟨by rw [← HRR.out]; rfl, rfl⟩
        have te47 : (((s[k]'hlt).toNat : Int) == 47) = false := by rw [hc]; exact bq (k := 47) rfl (beq_eq_false_iff_ne.2 h47)
        by_cases h32 : c = 32
        · subst h32
          have tn32 : (((s[k]'hlt).toNat : Int) != 32) = false := by rw [hc]; rfl
          have tn9 : (((s[k]'hlt).toNat : Int) != 9) = true := by rw [hc]; rfl
          have tn10 : (((s[k]'hlt).toNat : Int) != 10) = true := by rw [hc]; rfl
          have tn13 : (((s[k]'hlt).toNat : Int) != 13) = true := by rw [hc]; rfl
          have hn : k + 1 + Lex.gap false (s.data.toList.drop (k + 1)) = R := by
            simp only [Lex.gap] at hg
            rw [if_neg (fun h => h47 h.1), if_pos (by decide)] at hg
            omega
          have HN := Lib.hid hn
          clear hn hg hd hc HG h47 
          go_wp2
          go_roundg g
          case measure => omega
          case rel => exact ⟨k + 1, false, by have := HK.out; omega, int_eq' (by omega), rfl, HN.out, rfl⟩
        by_cases h9 : c = 9
        · subst h9
          have tn32 : (((s[k]'hlt).toNat : Int) != 32) = true := by rw [hc]; rfl
          have tn9 : (((s[k]'hlt).toNat : Int) != 9) = false := by rw [hc]; rfl
          have tn10 : (((s[k]'hlt).toNat : Int) != 10) = true := by rw [hc]; rfl
          have tn13 : (((s[k]'hlt).toNat : Int) != 13) = true := by rw [hc]; rfl
          have hn : k + 1 + Lex.gap false (s.data.toList.drop (k + 1)) = R := by
            simp only [Lex.gap] at hg
            rw [if_neg (fun h => h47 h.1), if_pos (by decide)] at hg
            omega
          have HN := Lib.hid hn
          clear hn hg hd hc HG h47 h32
          go_wp2
          go_roundg g
          case measure => omega
          case rel => exact ⟨k + 1, false, by have := HK.out; omega, int_eq' (by omega), rfl, HN.out, rfl⟩
        by_cases h10 : c = 10
        · subst h10
          have tn32 : (((s[k]'hlt).toNat : Int) != 32) = true := by rw [hc]; rfl
          have tn9 : (((s[k]'hlt).toNat : Int) != 9) = true := by rw [hc]; rfl
          have tn10 : (((s[k]'hlt).toNat : Int) != 10) = false := by rw [hc]; rfl
          have tn13 : (((s[k]'hlt).toNat : Int) != 13) = true := by rw [hc]; rfl
          have hn : k + 1 + Lex.gap false (s.data.toList.drop (k + 1)) = R := by
            simp only [Lex.gap] at hg
            rw [if_neg (fun h => h47 h.1), if_pos (by decide)] at hg
            omega
          have HN := Lib.hid hn
          clear hn hg hd hc HG h47 h32 h9
          go_wp2
          go_roundg g
          case measure => omega
          case rel => exact ⟨k + 1, false, by have := HK.out; omega, int_eq' (by omega), rfl, HN.out, rfl⟩
        by_cases h13 : c = 13
        · subst h13
          have tn32 : (((s[k]'hlt).toNat : Int) != 32) = true := by rw [hc]; rfl
          have tn9 : (((s[k]'hlt).toNat : Int) != 9) = true := by rw [hc]; rfl
          have tn10 : (((s[k]'hlt).toNat : Int) != 10) = true := by rw [hc]; rfl
          have tn13 : (((s[k]'hlt).toNat : Int) != 13) = false := by rw [hc]; rfl
          have hn : k + 1 + Lex.gap false (s.data.toList.drop (k + 1)) = R := by
            simp only [Lex.gap] at hg
            rw [if_neg (fun h => h47 h.1), if_pos (by decide)] at hg
            omega
          have HN := Lib.hid hn
          clear hn hg hd hc HG h47 h32 h9 h10
          go_wp2
          go_roundg g
          case measure => omega
          case rel => exact ⟨k + 1, false, by have := HK.out; omega, int_eq' (by omega), rfl, HN.out, rfl⟩
        have tn32 : (((s[k]'hlt).toNat : Int) != 32) = true := by rw [hc]; exact bn (k := 32) rfl h32
        have tn9 : (((s[k]'hlt).toNat : Int) != 9) = true := by rw [hc]; exact bn (k := 9) rfl h9
        have tn10 : (((s[k]'hlt).toNat : Int) != 10) = true := by rw [hc]; exact bn (k := 10) rfl h10
        have tn13 : (((s[k]'hlt).toNat : Int) != 13) = true := by rw [hc]; exact bn (k := 13) rfl h13
        have hr : k = R := by
          simp only [Lex.gap] at hg
          rw [if_neg (fun h => h47 h.1), if_neg (by simp [Lex.blank, h32, h9, h10, h13])] at hg
          omega
        have HRR := Lib.hid hr
        clear hr hg hd hc HG h47 h32 h9 h10 h13
        go_wp2
        go_ret
        exact ⟨by rw [← HRR.out]; rfl, rfl⟩
/-- what the document's escape tells -/
def refEsc (r : Option (UInt8 × Nat)) : Value :=
  match r with
  | some (x, n) => .tuple #[.int .u8 (x.toNat : Int), .int .i64 (n : Int)]
  | none => .tuple #[.int .u8 0, .int .i64 0]

theorem ret2t {P : Program} {fn : Func} {R : Ending → World → Prop} {tmps : Array Value} {W : World} {a b : Tmp} (h : fn.results = #[.tmp a, .tmp b]) (hR : R (.returned (.tuple #[tmps.getD a undef, tmps.getD b undef])) W) :
    bodyPost P fn R .ret { tmps := tmps, defers := [] } W :=
  bodyPost_ret (v := .tuple #[tmps.getD a undef, tmps.getD b undef]) (by simp [results, h, go_sem]) rfl hR
theorem hexO_some {c : UInt8} {d : Nat} (h : Num.hexv c = some d) : hexO (Num.hexv c) = (d : Int) := by rw [h]; rfl
theorem hexO_none {c : UInt8} (h : Num.hexv c = none) : hexO (Num.hexv c) = -1 := by rw [h]; rfl

set_option maxHeartbeats 8000000 in
set_option maxRecDepth 100000 in
theorem refEsc_any (s : ByteArray) (k : Nat) (w : World) (hs : s.size ≤ 1073741824) (hk : k ≤ s.size) :
    Calls Tryd.prog 46 #[.string s, .int .i64 k] w fun e w' => e = .returned (refEsc (Lex.esc (s.data.toList.drop k))) ∧ Below w.heap.size w w' := by
  obtain ⟨R, hR⟩ : ∃ R, Lex.esc (s.data.toList.drop k) = R := ⟨_, rfl⟩
  rw [hR]
  have hki : (k : Int) ≤ 1073741824 := by omega
  by_cases hlt : k < s.size
  case neg =>
    have hle : (s.size : Int) ≤ k := by omega
    rw [drop_end' (by omega)] at hR
    have hr : refEsc R = .tuple #[.int .u8 0, .int .i64 0] := by rw [← hR]; rfl
    have HH := Lib.hid hr
    clear hR hr hlt
    go_enter Tryd.func46, Tryd.ntmps46
    go_wp2
    refine ret2t rfl ?_
    exact ⟨by rw [HH.out]; rfl, Below.refl _ _⟩
  case pos =>
  have hlti : (k : Int) < s.size := by omega
  rw [drop_at' hlt] at hR
  obtain ⟨c, hc⟩ : ∃ c, s[k]'hlt = c := ⟨_, rfl⟩
  rw [hc] at hR
  unfold Lex.esc at hR
  simp only at hR
  by_cases h92 : c = 92
  · subst h92
    have te92 : (((s[k]'hlt).toNat : Int) == 92) = true := by rw [hc]; rfl
    have te39 : (((s[k]'hlt).toNat : Int) == 39) = false := by rw [hc]; rfl
    have te110 : (((s[k]'hlt).toNat : Int) == 110) = false := by rw [hc]; rfl
    have te114 : (((s[k]'hlt).toNat : Int) == 114) = false := by rw [hc]; rfl
    have te116 : (((s[k]'hlt).toNat : Int) == 116) = false := by rw [hc]; rfl
    have te120 : (((s[k]'hlt).toNat : Int) == 120) = false := by rw [hc]; rfl
    have hr : refEsc R = .tuple #[.int .u8 ((s[k]'hlt).toNat : Int), .int .i64 1] := by rw [← hR, hc]; rfl
    have HH := Lib.hid hr
    clear hR hr hc 
    go_enter Tryd.func46, Tryd.ntmps46
    go_wp2
    refine ret2t rfl ?_
    exact ⟨by rw [HH.out]; rfl, Below.refl _ _⟩
  by_cases h39 : c = 39
  · subst h39
    have te92 : (((s[k]'hlt).toNat : Int) == 92) = false := by rw [hc]; rfl
    have te39 : (((s[k]'hlt).toNat : Int) == 39) = true := by rw [hc]; rfl
    have te110 : (((s[k]'hlt).toNat : Int) == 110) = false := by rw [hc]; rfl
    have te114 : (((s[k]'hlt).toNat : Int) == 114) = false := by rw [hc]; rfl
    have te116 : (((s[k]'hlt).toNat : Int) == 116) = false := by rw [hc]; rfl
    have te120 : (((s[k]'hlt).toNat : Int) == 120) = false := by rw [hc]; rfl
    have hr : refEsc R = .tuple #[.int .u8 ((s[k]'hlt).toNat : Int), .int .i64 1] := by rw [← hR, hc]; rfl
    have HH := Lib.hid hr
    clear hR hr hc h92
    go_enter Tryd.func46, Tryd.ntmps46
    go_wp2
    refine ret2t rfl ?_
    exact ⟨by rw [HH.out]; rfl, Below.refl _ _⟩
  by_cases h110 : c = 110
  · subst h110
    have te92 : (((s[k]'hlt).toNat : Int) == 92) = false := by rw [hc]; rfl
    have te39 : (((s[k]'hlt).toNat : Int) == 39) = false := by rw [hc]; rfl
    have te110 : (((s[k]'hlt).toNat : Int) == 110) = true := by rw [hc]; rfl
    have te114 : (((s[k]'hlt).toNat : Int) == 114) = false := by rw [hc]; rfl
    have te116 : (((s[k]'hlt).toNat : Int) == 116) = false := by rw [hc]; rfl
    have te120 : (((s[k]'hlt).toNat : Int) == 120) = false := by rw [hc]; rfl
    have hr : refEsc R = .tuple #[.int .u8 10, .int .i64 1] := by rw [← hR]; rfl
    have HH := Lib.hid hr
    clear hR hr hc h92 h39
    go_enter Tryd.func46, Tryd.ntmps46
    go_wp2
    refine ret2t rfl ?_
    exact ⟨by rw [HH.out]; rfl, Below.refl _ _⟩
  by_cases h114 : c = 114
  · subst h114
    have te92 : (((s[k]'hlt).toNat : Int) == 92) = false := by rw [hc]; rfl
    have te39 : (((s[k]'hlt).toNat : Int) == 39) = false := by rw [hc]; rfl
    have te110 : (((s[k]'hlt).toNat : Int) == 110) = false := by rw [hc]; rfl
    have te114 : (((s[k]'hlt).toNat : Int) == 114) = true := by rw [hc]; rfl
    have te116 : (((s[k]'hlt).toNat : Int) == 116) = false := by rw [hc]; rfl
    have te120 : (((s[k]'hlt).toNat : Int) == 120) = false := by rw [hc]; rfl
    have hr : refEsc R = .tuple #[.int .u8 13, .int .i64 1] := by rw [← hR]; rfl
    have HH := Lib.hid hr
    clear hR hr hc h92 h39 h110
    go_enter Tryd.func46, Tryd.ntmps46
    go_wp2
    refine ret2t rfl ?_
    exact ⟨by rw [HH.out]; rfl, Below.refl _ _⟩
  by_cases h116 : c = 116
  · subst h116
    have te92 : (((s[k]'hlt).toNat : Int) == 92) = false := by rw [hc]; rfl
    have te39 : (((s[k]'hlt).toNat : Int) == 39) = false := by rw [hc]; rfl
    have te110 : (((s[k]'hlt).toNat : Int) == 110) = false := by rw [hc]; rfl
    have te114 : (((s[k]'hlt).toNat : Int) == 114) = false := by rw [hc]; rfl
    have te116 : (((s[k]'hlt).toNat : Int) == 116) = true := by rw [hc]; rfl
    have te120 : (((s[k]'hlt).toNat : Int) == 120) = false := by rw [hc]; rfl
    have hr : refEsc R = .tuple #[.int .u8 9, .int .i64 1] := by rw [← hR]; rfl
    have HH := Lib.hid hr
    clear hR hr hc h92 h39 h110 h114
    go_enter Tryd.func46, Tryd.ntmps46
    go_wp2
    refine ret2t rfl ?_
    exact ⟨by rw [HH.out]; rfl, Below.refl _ _⟩
  rw [if_neg (by rintro (h | h); exact h92 h; exact h39 h), if_neg h110, if_neg h114, if_neg h116] at hR
  by_cases h120 : c = 120
  case neg =>
    have te92 : (((s[k]'hlt).toNat : Int) == 92) = false := by rw [hc]; exact bq (k := 92) rfl (beq_eq_false_iff_ne.2 h92)
    have te39 : (((s[k]'hlt).toNat : Int) == 39) = false := by rw [hc]; exact bq (k := 39) rfl (beq_eq_false_iff_ne.2 h39)
    have te110 : (((s[k]'hlt).toNat : Int) == 110) = false := by rw [hc]; exact bq (k := 110) rfl (beq_eq_false_iff_ne.2 h110)
    have te114 : (((s[k]'hlt).toNat : Int) == 114) = false := by rw [hc]; exact bq (k := 114) rfl (beq_eq_false_iff_ne.2 h114)
    have te116 : (((s[k]'hlt).toNat : Int) == 116) = false := by rw [hc]; exact bq (k := 116) rfl (beq_eq_false_iff_ne.2 h116)
    have te120 : (((s[k]'hlt).toNat : Int) == 120) = false := by rw [hc]; exact bq (k := 120) rfl (beq_eq_false_iff_ne.2 h120)
    rw [if_neg h120] at hR
    have hr : refEsc R = .tuple #[.int .u8 0, .int .i64 0] := by rw [← hR]; rfl
    have HH := Lib.hid hr
    clear hR hr hc h92 h39 h110 h114 h116 h120
    go_enter Tryd.func46, Tryd.ntmps46
    go_wp2
    refine ret2t rfl ?_
    exact ⟨by rw [HH.out]; rfl, Below.refl _ _⟩
  case pos =>
  subst h120
  have te92 : (((s[k]'hlt).toNat : Int) == 92) = false := by rw [hc]; rfl
  have te39 : (((s[k]'hlt).toNat : Int) == 39) = false := by rw [hc]; rfl
  have te110 : (((s[k]'hlt).toNat : Int) == 110) = false := by rw [hc]; rfl
  have te114 : (((s[k]'hlt).toNat : Int) == 114) = false := by rw [hc]; rfl
  have te116 : (((s[k]'hlt).toNat : Int) == 116) = false := by rw [hc]; rfl
  have te120 : (((s[k]'hlt).toNat : Int) == 120) = true := by rw [hc]; rfl
  rw [if_pos rfl] at hR
  clear h92 h39 h110 h114 h116
  by_cases h2 : k + 2 < s.size
  case neg =>
    have u1 : decide ((k : Int) + 2 < s.size) = false := decide_eq_false (by omega)
    have hr : refEsc R = .tuple #[.int .u8 0, .int .i64 0] := by
      rw [← hR]
      have hlen : (s.data.toList.drop (k + 1)).length ≤ 1 := by rw [List.length_drop, ← Lib.size_eq]; omega
      match hm : s.data.toList.drop (k + 1), hlen with
      | [], _ => rfl
      | [a], _ => rfl
      | a :: b :: r, h => simp at h
    have HH := Lib.hid hr
    clear hR hr hc h2
    go_enter Tryd.func46, Tryd.ntmps46
    go_wp2
    refine ret2t rfl ?_
    exact ⟨by rw [HH.out]; rfl, Below.refl _ _⟩
  case pos =>
  have h2i : (k : Int) + 2 < s.size := by omega
  have h1 : k + 1 < s.size := by omega
  have h1i : (k : Int) + 1 < s.size := by omega
  have u1 : decide ((k : Int) + 2 < s.size) = true := decide_eq_true h2i
  rw [drop_at' h1, drop_at' h2] at hR
  simp only at hR
  obtain ⟨p, hp⟩ : ∃ p, s[k + 1]'h1 = p := ⟨_, rfl⟩
  obtain ⟨q, hq0⟩ : ∃ q, s[k + 1 + 1]'h2 = q := ⟨_, rfl⟩
  rw [hp, hq0] at hR
  have hq : s[k + 2]'h2 = q := hq0
  clear hq0
  have hA := fun (W : World) => refHex_any p W
  have hB := fun (W : World) => refHex_any q W
  obtain ⟨x, hx⟩ : ∃ x, Num.hexv p = x := ⟨_, rfl⟩
  obtain ⟨y, hy⟩ : ∃ y, Num.hexv q = y := ⟨_, rfl⟩
  rw [hx] at hA hR
  rw [hy] at hB hR
  have hxl := fun d (e : x = some d) => Num.hexv_lt (hx.trans e)
  have hyl := fun d (e : y = some d) => Num.hexv_lt (hy.trans e)
  have HA := Lib.hid hA
  have HB := Lib.hid (show ∀ W : World, Calls Tryd.prog 60 #[.int .u8 (q.toNat : Int)] W fun e w' => e = .returned (.int .i64 (hexO y)) ∧ W = w' from hB)
  clear hA hB hx hy hc
  cases x with
  | none =>
    have hr : refEsc R = .tuple #[.int .u8 0, .int .i64 0] := by rw [← hR]; rfl
    have HH := Lib.hid hr
    have HA2 := Lib.hid (show ∀ W : World, Calls Tryd.prog 60 #[.int .u8 (p.toNat : Int)] W fun e w' => e = .returned (.int .i64 (-1)) ∧ W = w' from HA.out)
    clear hR hr hxl hyl HA
    go_enter Tryd.func46, Tryd.ntmps46
    go_wp2_with fail
    refine (HA2.out _).mono ?_
    rintro e w' ⟨rfl, rfl⟩
    go_wp2
    refine ret2t rfl ?_
    exact ⟨by rw [HH.out]; rfl, Below.refl _ _⟩
  | some x =>
    have hx16 := hxl x rfl
    have hx0 : (0 : Int) ≤ x := by omega
    have hx15 : (x : Int) ≤ 15 := by omega
    have HA2 := Lib.hid (show ∀ W : World, Calls Tryd.prog 60 #[.int .u8 (p.toNat : Int)] W fun e w' => e = .returned (.int .i64 (x : Int)) ∧ W = w' from HA.out)
    clear HA hxl
    cases y with
    | none =>
      have hr : refEsc R = .tuple #[.int .u8 0, .int .i64 0] := by rw [← hR]; rfl
      have HH := Lib.hid hr
      have HB2 := Lib.hid (show ∀ W : World, Calls Tryd.prog 60 #[.int .u8 (q.toNat : Int)] W fun e w' => e = .returned (.int .i64 (-1)) ∧ W = w' from HB.out)
      clear hR hr hyl HB
      go_enter Tryd.func46, Tryd.ntmps46
      go_wp2_with fail
      refine (HA2.out _).mono ?_
      rintro e w' ⟨rfl, rfl⟩
      go_wp2_with fail
      refine (HB2.out _).mono ?_
      rintro e w' ⟨rfl, rfl⟩
      go_wp2
      refine ret2t rfl ?_
      exact ⟨by rw [HH.out]; rfl, Below.refl _ _⟩
    | some y =>
      have hy16 := hyl y rfl
      have hy0 : (0 : Int) ≤ y := by omega
      have hy15 : (y : Int) ≤ 15 := by omega
      have HB2 := Lib.hid (show ∀ W : World, Calls Tryd.prog 60 #[.int .u8 (q.toNat : Int)] W fun e w' => e = .returned (.int .i64 (y : Int)) ∧ W = w' from HB.out)
      have hr : refEsc R = .tuple #[.int .u8 ((x : Int) * 16 + y), .int .i64 3] := by
        rw [← hR]
        have : ((UInt8.ofNat (x * 16 + y)).toNat : Int) = (x : Int) * 16 + y := by
          rw [UInt8.toNat_ofNat', Nat.mod_eq_of_lt (by omega)]
          omega
        show Value.tuple #[.int .u8 ((UInt8.ofNat (x * 16 + y)).toNat : Int), .int .i64 ((3 : Nat) : Int)] = _
        rw [this]
        rfl
      have HH := Lib.hid hr
      clear hR hr hyl HB
      go_enter Tryd.func46, Tryd.ntmps46
      go_wp2_with fail
      refine (HA2.out _).mono ?_
      rintro e w' ⟨rfl, rfl⟩
      go_wp2_with fail
      refine (HB2.out _).mono ?_
      rintro e w' ⟨rfl, rfl⟩
      go_wp2_with fail
      have HA3 := Lib.hid (fun W : World => (HA2.out W).mono fun e w' (h : _ ∧ W = w') => (⟨h.1, h.2.symm⟩ : e = .returned (.int .i64 (x : Int)) ∧ w' = W))
      have HB3 := Lib.hid (fun W : World => (HB2.out W).mono fun e w' (h : _ ∧ W = w') => (⟨h.1, h.2.symm⟩ : e = .returned (.int .i64 (y : Int)) ∧ w' = W))
      have r1 : IntKind.i64.wrap ((k : Int) + 1) = (k : Int) + 1 := IntWalk.i64_in _ (by omega)
      have r2 : IntKind.i64.wrap ((k : Int) + 2) = (k : Int) + 2 := IntWalk.i64_in _ (by omega)
      have r3 : IntKind.i64.wrap ((x : Int) * 16) = (x : Int) * 16 := IntWalk.i64_in _ (by omega)
      have r4 : IntKind.i64.wrap ((x : Int) * 16 + y) = (x : Int) * 16 + y := IntWalk.i64_in _ (by omega)
      have r5 : IntKind.u8.wrap ((x : Int) * 16 + y) = (x : Int) * 16 + y := IntWalk.u8_in _ (by omega)
      have s1 : ((k : Int) + 1).toNat = k + 1 := by omega
      have s2 : ((k : Int) + 2).toNat = k + 2 := by omega
      have p1 : (0 : Int) ≤ (k : Int) + 1 := by omega
      have p2 : (0 : Int) ≤ (k : Int) + 2 := by omega
      refine wp_region_quiet_lit (by kernel_rfl) (by kernel_rfl) ?_
      iterate 5 (quiet_step (exact Calls.quiet_of_same (HA3.out _)))
      iterate 10 (quiet_step (exact Calls.quiet_of_same (HB3.out _)))
      refine wpQuiet_nil ?_
      intro _ hw'
      obtain ⟨nq, hw''⟩ := hw'
      subst hw''
      go_wp2
      refine ret2t rfl ?_
      exact ⟨by rw [HH.out]; rfl, below_drewN (Below.refl _ _) _⟩
/-- a token, its end and an error's number, as the document tells them -/
def refTokV : Lex.Res → Nat → Value
  | .tok kd tx nm n, i => .tuple #[.agg #[.int .i64 (kd : Int), .string ⟨tx.toArray⟩, .int .i64 nm, .int .i64 (i : Int)], .int .i64 ((i + n : Nat) : Int), .int .i64 0]
  | .err o e, i => .tuple #[.agg #[.int .i64 0, .string ⟨#[]⟩, .int .i64 0, .int .i64 ((i + o : Nat) : Int)], .int .i64 0, .int .i64 (e : Int)]
def RefTokRes (r : Lex.Res) (i : Nat) (w : World) (e : Ending) (w' : World) : Prop := e = .returned (refTokV r i) ∧ Below w.heap.size w w'

set_option maxHeartbeats 1000000 in
theorem ret_ref {fn : Func} {r : Lex.Res} {i : Nat} {w W : World} {tmps : Array Value} {p a b : Tmp} {u0 u1 u2 u3 v0 v1 v2 v3 v4 v5 : Value} (hfn : fn.results = #[.cell p 30, .tmp a, .tmp b])
    (ht : tmps.getD p undef = .pointer (some ⟨w.heap.size, 0, none⟩)) (ha : tmps.getD a undef = v4) (hb' : tmps.getD b undef = v5) (hB : Blk W w.heap.size 30 #[u0, u1, u2, u3]) (hb : Below w.heap.size w W)
    (hv : refTokV r i = .tuple #[.agg #[v0, v1, v2, v3], v4, v5]) :
    bodyPost Tryd.prog fn (RefTokRes r i w) .ret { tmps := tmps, defers := [] } ((((W.setCell ⟨w.heap.size, 0, none⟩ v0).setCell ⟨w.heap.size, 1, none⟩ v1).setCell ⟨w.heap.size, 2, none⟩ v2).setCell ⟨w.heap.size, 3, none⟩ v3) := by
  have hb0 : Below w.heap.size w (W.setCell ⟨w.heap.size, 0, none⟩ v0) := hb.setCell (Nat.le_refl _) _
  have hb1 := hb0.setCell (p := ⟨w.heap.size, 1, none⟩) (Nat.le_refl _) v1
  have hb2 := hb1.setCell (p := ⟨w.heap.size, 2, none⟩) (Nat.le_refl _) v2
  have hb3 := hb2.setCell (p := ⟨w.heap.size, 3, none⟩) (Nat.le_refl _) v3
  have hB' : Blk ((((W.setCell ⟨w.heap.size, 0, none⟩ v0).setCell ⟨w.heap.size, 1, none⟩ v1).setCell ⟨w.heap.size, 2, none⟩ v2).setCell ⟨w.heap.size, 3, none⟩ v3) w.heap.size 30 #[v0, v1, v2, v3] :=
    Blk.cast ((((hB.set_ 0 v0).set_ 1 v1).set_ 2 v2).set_ 3 v3) (by simp)
  obtain ⟨WW, hWW⟩ : ∃ WW, ((((W.setCell ⟨w.heap.size, 0, none⟩ v0).setCell ⟨w.heap.size, 1, none⟩ v1).setCell ⟨w.heap.size, 2, none⟩ v2).setCell ⟨w.heap.size, 3, none⟩ v3) = WW := ⟨_, rfl⟩
  rw [hWW] at hB' hb3 ⊢
  have c0 := hB'.cell 0
  have c1 := hB'.cell 1
  have c2 := hB'.cell 2
  have c3 := hB'.cell 3
  simp at c0 c1 c2 c3
  refine bodyPost_ret (v := .tuple #[.agg #[v0, v1, v2, v3], v4, v5]) ?_ rfl ⟨by rw [hv], hb3⟩
  subst ha hb'
  simp at ht
  simp [results, hfn, go_sem, ht, c0, c1, c2, c3]

/-- what the loop of the document's text keeps -/
structure RTxRel (s : ByteArray) (i : Nat) (R : Lex.Res) (w : World) (g k o : Nat) (acc : List UInt8) (v : Value) (wx : World) : Prop where
  off : i + o = k
  meas : s.size - k ≤ g
  len : acc.length ≤ k
  le : k ≤ s.size
  text : Lex.textR (g + 1) (s.data.toList.drop k) o acc = R
  bel : Below w.heap.size w wx
  blk : Blk wx w.heap.size 30 #[.int .i64 0, .string ⟨#[]⟩, .int .i64 0, .int .i64 0]
  own : OwnB (w.heap.size + 1) v acc wx
  big : w.heap.size + 1 ≤ wx.heap.size
/-- the token's cells -/
theorem rtok_cells {W : World} {b : Nat} {v0 v1 v2 v3 : Value} (h : Blk W b 30 #[v0, v1, v2, v3]) :
    W.cell? ⟨b, 0, none⟩ = some v0 ∧ W.cell? ⟨b, 1, none⟩ = some v1 ∧ W.cell? ⟨b, 2, none⟩ = some v2 ∧ W.cell? ⟨b, 3, none⟩ = some v3 ∧
    W.frozen? ⟨b, 0, none⟩ = false ∧ W.frozen? ⟨b, 1, none⟩ = false ∧ W.frozen? ⟨b, 2, none⟩ = false ∧ W.frozen? ⟨b, 3, none⟩ = false :=
  ⟨h.cell 0, h.cell 1, h.cell 2, h.cell 3, h.frozen 0, h.frozen 1, h.frozen 2, h.frozen 3⟩
theorem RTxRel.below {s : ByteArray} {i : Nat} {R : Lex.Res} {w : World} {g k o : Nat} {acc : List UInt8} {v : Value} {wx wy : World} (h : RTxRel s i R w g k o acc v wx) (hb : Below wx.heap.size wx wy) : RTxRel s i R w g k o acc v wy :=
  ⟨h.off, h.meas, h.len, h.le, h.text, h.bel.trans (hb.mono (by have := h.big; omega)), h.blk.below hb h.blk.lt, own_kept_ty h.own (only_of_below hb none) (fun g c t fz hr => by cases hr), Nat.le_trans h.big hb.size⟩
theorem RTxRel.next {s : ByteArray} {i : Nat} {R : Lex.Res} {w : World} {g g' k k' o o' : Nat} {acc : List UInt8} {x : UInt8} {v v' : Value} {wx wy : World} (h : RTxRel s i R w g k o acc v wx)
    (e1 : i + o' = k') (e2 : s.size - k' ≤ g') (e3 : k < k') (e4 : k' ≤ s.size) (e5 : Lex.textR (g' + 1) (s.data.toList.drop k') o' (acc ++ [x]) = R)
    (hown : OwnB (w.heap.size + 1) v' (acc ++ [x]) wy) (hg : wx.grownBy wy v.ownBlock) (hb : Below (w.heap.size + 1) wx wy) : RTxRel s i R w g' k' o' (acc ++ [x]) v' wy := by
  have hlen := h.len
  refine ⟨e1, e2, by rw [List.length_append, List.length_singleton]; omega, e4, e5, h.bel.trans (hb.mono (Nat.le_succ _)), h.blk.below hb (Nat.lt_succ_self _), hown, Nat.le_trans h.big hb.size⟩

set_option maxHeartbeats 8000000 in
set_option maxRecDepth 100000 in
theorem refText_any (s : ByteArray) (i : Nat) (w : World) (hs : s.size ≤ 1073741823) (hi : i < s.size) :
    Calls Tryd.prog 33 #[.string s, .int .i64 i] w (RefTokRes (Lex.textR (s.size - i) (s.data.toList.drop (i + 1)) 1 []) i w) := by
  obtain ⟨R, hR⟩ : ∃ R, Lex.textR (s.size - i) (s.data.toList.drop (i + 1)) 1 [] = R := ⟨_, rfl⟩
  rw [hR]
  have HR := Lib.hid hR
  clear hR
  have hii : (i : Int) < s.size := by omega
  go_enter Tryd.func33, Tryd.ntmps33
  go_wp2
  go_loopg [7, 8] (s.size - (i + 1)) (fun g v x wx => ∃ (k o : Nat) (acc : List UInt8), x = .int .i64 k ∧ RTxRel s i R w g k o acc v wx)
  case atStart =>
    refine ⟨i + 1, 1, [], int_eq' (by omega), ⟨by omega, by omega, by simp, by omega, ?_, ?_, ?_, ?_, ?_⟩⟩
    · rw [show s.size - (i + 1) + 1 = s.size - i by omega]; exact HR.out
    · exact ((Below.refl _ w).alloc (Nat.le_refl _) _).alloc (by simp) _
    · exact (Blk.new _ _ _).alloc _
    · have := own_empty (w.alloc (.cells #[.int .i64 0, .string ⟨#[]⟩, .int .i64 0, .int .i64 0] 30)) (w.heap.size + 1) 5 0 #[] (by simp) rfl
      simpa [OwnB, Lib.byteCells] using this
    · simp
  case round =>
    obtain ⟨k, o, acc, rfl, hrel⟩ := hrel
    have HQ := Lib.hid hrel
    have hsz := hrel.big
    have hkle := hrel.le
    have hki : (k : Int) ≤ 1073741823 := by omega
    have hal : acc.length < 1073741824 := by have := hrel.len; omega
    obtain ⟨b0, b1, b2, b3, f0, f1, f2, f3⟩ := rtok_cells hrel.blk
    obtain ⟨A7, c7, rfl⟩ := own_form hrel.own
    have hcv := hrel.own.conv
    clear hrel HR
    by_cases hlt : k < s.size
    case neg =>
      obtain rfl : k = s.size := by omega
      have hr : R = .err 0 241 := by
        have := HQ.out.text
        rw [drop_end' (Nat.le_refl _)] at this
        exact this.symm
      have HRR : Hid (refTokV R i = .tuple #[.agg #[.int .i64 0, .string ⟨#[]⟩, .int .i64 0, .int .i64 i], .int .i64 0, .int .i64 241]) := by rw [hr]; exact Lib.hid rfl
      clear hr hlt hcv
      go_wp2
      exact ret_ref Tryd.results33 rfl rfl rfl HQ.out.blk HQ.out.bel HRR.out
    case pos =>
    have hlti : (k : Int) < s.size := by omega
    cases gk with
    | zero => have := HQ.out.meas; omega
    | succ g =>
    have hst := HQ.out.text
    rw [drop_at' hlt] at hst
    obtain ⟨c, hc⟩ : ∃ c, s[k]'hlt = c := ⟨_, rfl⟩
    rw [hc] at hst
    by_cases h39 : c = 39
    · subst h39
      have te39 : (((s[k]'hlt).toNat : Int) == 39) = true := by rw [hc]; rfl
      have HRR : Hid (refTokV R i = .tuple #[.agg #[.int .i64 4, .string ⟨acc.toArray⟩, .int .i64 0, .int .i64 i], .int .i64 ((k : Int) + 1), .int .i64 0]) := by
        refine Lib.hid ?_
        rw [← hst]
        simp only [Lex.textR, if_true, refTokV]
        rw [show ((i + (o + 1) : Nat) : Int) = (k : Int) + 1 by have := HQ.out.off; omega]
        rfl
      clear hst hc
      go_wp2
      exact ret_ref Tryd.results33 rfl rfl rfl HQ.out.blk HQ.out.bel HRR.out
    have te39 : (((s[k]'hlt).toNat : Int) == 39) = false := by rw [hc]; exact bq (k := 39) rfl (beq_eq_false_iff_ne.2 h39)
    have hcn : (s[k]'hlt).toNat = c.toNat := by rw [hc]
    by_cases hodd : Lex.odd c = true
    · have HRR : Hid (refTokV R i = .tuple #[.agg #[.int .i64 0, .string ⟨#[]⟩, .int .i64 0, .int .i64 (k : Int)], .int .i64 0, .int .i64 240]) := by
        refine Lib.hid ?_
        rw [← hst]
        simp only [Lex.textR]
        rw [if_neg h39, if_pos hodd]
        simp only [refTokV, HQ.out.off]
        rfl
      by_cases h32 : c.toNat < 32
      · have u1 : decide (((s[k]'hlt).toNat : Int) < 32) = true := decide_eq_true (by omega)
        clear hst hc hodd h39 h32 hcn hcv
        go_wp2
        exact ret_ref Tryd.results33 rfl rfl rfl HQ.out.blk HQ.out.bel HRR.out
      · have u1 : decide (((s[k]'hlt).toNat : Int) < 32) = false := decide_eq_false (by omega)
        have u2 : decide (126 < ((s[k]'hlt).toNat : Int)) = true := decide_eq_true (by
          unfold Lex.odd at hodd
          rw [decide_eq_false h32, Bool.false_or, decide_eq_true_eq] at hodd
          omega)
        clear hst hc hodd h39 h32 hcn hcv
        go_wp2
        exact ret_ref Tryd.results33 rfl rfl rfl HQ.out.blk HQ.out.bel HRR.out
    have u1 : decide (((s[k]'hlt).toNat : Int) < 32) = false := decide_eq_false (by
      intro h
      apply hodd
      unfold Lex.odd
      rw [decide_eq_true (show c.toNat < 32 by omega)]
      rfl)
    have u2 : decide (126 < ((s[k]'hlt).toNat : Int)) = false := decide_eq_false (by
      intro h
      apply hodd
      unfold Lex.odd
      rw [decide_eq_true (show 126 < c.toNat by omega), Bool.or_true])
    by_cases h92 : c = 92
    case neg =>
      have te92 : (((s[k]'hlt).toNat : Int) == 92) = false := by rw [hc]; exact bq (k := 92) rfl (beq_eq_false_iff_ne.2 h92)
      have hn : Lex.textR (g + 1) (s.data.toList.drop (k + 1)) (o + 1) (acc ++ [c]) = R := by rw [← hst, Lex.textR_plain h39 (Bool.eq_false_iff.2 hodd) h92]
      have HN := Lib.hid hn
      have HC := Lib.hid hc
      clear hst hn hc hodd h39 h92 hcn hcv
      go_wp2_with (at_builtin; refine wpList_append_bytes rfl (.tmp 57) (.tmp 59) rfl (w.heap.size + 1) (.slice A7 acc.length c7) acc wr rfl HQ.out.own [s[k]'hlt] [.int .u8 ((s[k]'hlt).toNat : Int)] (byteCells_one _).symm 1 rfl rfl hal (by decide) hsz ?_)
      intro v1 w1 hown1 hgr1 hbel1
      have HO := Lib.hid hown1
      have HG := Lib.hid hgr1
      have HB := Lib.hid hbel1
      clear hown1 hgr1 hbel1
      go_wp2
      go_roundg g
      case measure => omega
      case rel => exact ⟨k + 1, o + 1, _, int_eq' (by omega), HQ.out.next (by have := HQ.out.off; omega) (by have := HQ.out.meas; omega) (by omega) (by omega) (by rw [HC.out]; exact HN.out) HO.out HG.out HB.out⟩
    case pos =>
      subst h92
      have te92 : (((s[k]'hlt).toNat : Int) == 92) = true := by rw [hc]; rfl
      rw [Lex.textR_92] at hst
      have hcall := fun (W : World) => refEsc_any s (k + 1) W (by omega) (by omega)
      obtain ⟨x, hx⟩ : ∃ x, Lex.esc (s.data.toList.drop (k + 1)) = x := ⟨_, rfl⟩
      rw [hx] at hcall hst
      have HX := Lib.hid hx
      clear hodd h39 hcn hc hx
      cases x with
      | none =>
        have HC := Lib.hid (show ∀ W : World, Calls Tryd.prog 46 #[.string s, .int .i64 ((k : Int) + 1)] W fun e w' => e = .returned (.tuple #[.int .u8 0, .int .i64 0]) ∧ Below W.heap.size W w' from fun W => hcall W)
        have HRR : Hid (refTokV R i = .tuple #[.agg #[.int .i64 0, .string ⟨#[]⟩, .int .i64 0, .int .i64 (k : Int)], .int .i64 0, .int .i64 242]) := by
          refine Lib.hid ?_
          rw [← hst]
          simp only [Lex.stepE, refTokV, HQ.out.off]
          rfl
        clear hst hcall hcv
        clear b0 b1 b2 b3 f0 f1 f2 f3
        go_wp2_with fail
        refine (HC.out _).mono ?_
        rintro e w' ⟨rfl, hbl⟩
        have HQ2 := Lib.hid (HQ.out.below hbl)
        clear hbl
        obtain ⟨b0, b1, b2, b3, f0, f1, f2, f3⟩ := rtok_cells HQ2.out.blk
        go_wp2
        exact ret_ref Tryd.results33 rfl rfl rfl HQ2.out.blk HQ2.out.bel HRR.out
      | some x =>
        obtain ⟨y, n⟩ := x
        have hnl := Lex.esc_le HX.out
        rw [List.length_drop, ← Lib.size_eq] at hnl
        have HC := Lib.hid (show ∀ W : World, Calls Tryd.prog 46 #[.string s, .int .i64 ((k : Int) + 1)] W fun e w' => e = .returned (.tuple #[.int .u8 (y.toNat : Int), .int .i64 (n : Int)]) ∧ Below W.heap.size W w' from fun W => hcall W)
        have hn0 : ((n : Int) == 0) = false := by rw [beq_eq_false_iff_ne]; omega
        have hn1 : (n : Int) ≤ 1073741823 := by omega
        have hn : Lex.textR (g + 1) (s.data.toList.drop (k + 1 + n)) (o + 1 + n) (acc ++ [y]) = R := by rw [← hst]; simp only [Lex.stepE, List.drop_drop]
        have HN := Lib.hid hn
        have HNL := Lib.hid hnl
        clear hst hcall hcv hn hnl
        clear b0 b1 b2 b3 f0 f1 f2 f3
        go_wp2_with fail
        refine (HC.out _).mono ?_
        rintro e w' ⟨rfl, hbl⟩
        have HQ2 := Lib.hid (HQ.out.below hbl)
        have hsz2 := HQ2.out.big
        clear hbl hsz
        go_wp2_with (at_builtin; refine wpList_append_bytes rfl (.tmp 57) (.tmp 59) rfl (w.heap.size + 1) (.slice A7 acc.length c7) acc w' rfl HQ2.out.own [y] [.int .u8 (y.toNat : Int)] (byteCells_one _).symm 1 rfl rfl hal (by decide) hsz2 ?_)
        intro v1 w1 hown1 hgr1 hbel1
        have HO := Lib.hid hown1
        have HG := Lib.hid hgr1
        have HB := Lib.hid hbel1
        clear hown1 hgr1 hbel1
        go_wp2
        go_roundg g
        case measure => omega
        case rel => exact ⟨k + 1 + n, o + 1 + n, _, int_eq' (by omega), HQ2.out.next (by have := HQ2.out.off; omega) (by have := HQ2.out.meas; have := HNL.out; omega) (by omega) (by have := HNL.out; omega) HN.out HO.out HG.out HB.out⟩
    end Go.Proofs.YthnaiiejjdmnaaaDoor
