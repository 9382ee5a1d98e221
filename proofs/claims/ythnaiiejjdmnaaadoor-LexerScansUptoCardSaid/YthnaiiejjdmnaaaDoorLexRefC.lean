/- Layer 24 (lexer): the document's token. -/
import Derived.Test.YthnaiiejjdmnaaaDoorLexRefB
namespace Go.Proofs.YthnaiiejjdmnaaaDoor
open Go.RowKit

namespace Lex
theorem tok1_ref {c : UInt8} {r : L} {m d a : Bool} (h39 : c ≠ 39) (hlet : isLet c = false) (hm : (decide (c = 45) && !r.isEmpty) = m) (hd : (Num.isDig c || (m && Num.isDig (behind r))) = d) (ha : (m && (behind r == 62)) = a) :
    tok1 (c :: r) = if d = true then numTok ((c :: r).take (1 + run inNum r)) else if a = true then .tok 5 [45, 62] 0 2 else if c ∈ MARKS then .tok 5 [c] 0 1 else .err 0 240 := by
  simp only [tok1]
  rw [if_neg h39, if_neg (by rw [hlet]; decide)]
  cases r with
  | nil =>
    simp at hm
    subst hm
    simp at hd ha
    subst hd ha
    simp
  | cons b t =>
    simp at hm
    subst hm
    have hb : behind (b :: t) = b := rfl
    rw [hb] at hd ha
    subst hd ha
    by_cases h1 : Num.isDig c = true
    · simp [h1]
    · by_cases h2 : c = 45
      · subst h2
        simp at h1
        by_cases h3 : Num.isDig b = true
        · simp [h3]
        · simp [h3]
      · simp [h1, h2]
def mk (j : Nat) : UInt8 := MARKS.getD j 0
end Lex
theorem mk_fin : ∀ j : Fin 10, (({ data := #[40, 41, 123, 125, 91, 93, 58, 44, 59, 45] } : ByteArray).data.toList)[j.val]? = some (Lex.mk j.val) := by decide +kernel
theorem mk_at (j : Nat) (h : j < 10) (h' : j < ({ data := #[40, 41, 123, 125, 91, 93, 58, 44, 59, 45] } : ByteArray).size) : ({ data := #[40, 41, 123, 125, 91, 93, 58, 44, 59, 45] } : ByteArray)[j]'h' = Lex.mk j := by
  have e := mk_fin ⟨j, h⟩
  have e2 := at_extract (s := { data := #[40, 41, 123, 125, 91, 93, 58, 44, 59, 45] }) h'
  rw [e2] at e
  exact Option.some.inj e
theorem mk_ext_fin : ∀ j : Fin 10, (({ data := #[40, 41, 123, 125, 91, 93, 58, 44, 59, 45] } : ByteArray).extract j.val (j.val + 1)).data.toList = [Lex.mk j.val] := by decide +kernel
theorem mk_ext (j : Nat) (h : j < 10) : ({ data := #[40, 41, 123, 125, 91, 93, 58, 44, 59, 45] } : ByteArray).extract j (j + 1) = ⟨#[Lex.mk j]⟩ := by
  have e := mk_ext_fin ⟨j, h⟩
  simp only at e
  have := congrArg List.toArray e
  simp only [Array.toArray_toList] at this
  apply ByteArray.ext
  exact this
theorem mk_mem {c : UInt8} (h : c ∈ Lex.MARKS) : ∃ j, j < 10 ∧ Lex.mk j = c := by
  obtain ⟨j, hj, e⟩ := List.getElem_of_mem h
  refine ⟨j, hj, ?_⟩
  rw [← e]
  unfold Lex.mk
  rw [List.getD_eq_getElem?_getD, List.getElem?_eq_getElem hj]
  rfl
theorem mk_in {j : Nat} (h : j < 10) : Lex.mk j ∈ Lex.MARKS := by
  have : ∀ j : Fin 10, Lex.mk j.val ∈ Lex.MARKS := by decide
  exact this ⟨j, h⟩
theorem refTokV_form (R : Lex.Res) (i : Nat) : ∃ (v0 : Int) (v1 : ByteArray) (v2 v3 v4 v5 : Int), refTokV R i = .tuple #[.agg #[.int .i64 v0, .string v1, .int .i64 v2, .int .i64 v3], .int .i64 v4, .int .i64 v5] := by
  cases R <;> exact ⟨_, _, _, _, _, _, rfl⟩
theorem isEmpty_drop {s : ByteArray} (k : Nat) : (!(s.data.toList.drop k).isEmpty) = decide (k < s.size) := by
  by_cases h : k < s.size
  · rw [drop_at' h, decide_eq_true h]; rfl
  · rw [drop_end' (by omega), decide_eq_false h]; rfl
theorem behind_at {s : ByteArray} {k : Nat} (h : k < s.size) : Lex.behind (s.data.toList.drop k) = s[k]'h := by rw [drop_at' h]; rfl

set_option maxHeartbeats 16000000 in
set_option maxRecDepth 100000 in
theorem refToken_any (s : ByteArray) (i : Nat) (w : World) (hs : s.size ≤ 1073741823) (hi : i < s.size) :
    Calls Tryd.prog 18 #[.string s, .int .i64 i] w (RefTokRes (Lex.tok1 (s.data.toList.drop i)) i w) := by
  obtain ⟨R, hR⟩ : ∃ R, Lex.tok1 (s.data.toList.drop i) = R := ⟨_, rfl⟩
  rw [hR]
  have hR0 := hR
  rw [drop_at' hi] at hR
  obtain ⟨c, hc⟩ : ∃ c, s[i]'hi = c := ⟨_, rfl⟩
  rw [hc] at hR
  have hii : (i : Int) < s.size := by omega
  have hsi : (s.size : Int) ≤ 1073741823 := by omega
  obtain ⟨W1, hW1⟩ : ∃ W1, w.alloc (.cells #[.int .i64 0, .string ⟨#[]⟩, .int .i64 0, .int .i64 0] 30) = W1 := ⟨_, rfl⟩
  have hbase : Below w.heap.size w W1 := by rw [← hW1]; exact (Below.refl _ _).alloc (Nat.le_refl _) _
  have hblk : Blk W1 w.heap.size 30 #[.int .i64 0, .string ⟨#[]⟩, .int .i64 0, .int .i64 0] := by rw [← hW1]; exact rtok_new w
  have HBASE := Lib.hid hbase
  have HBLK := Lib.hid hblk
  have HW1 := Lib.hid hW1
  have HR := Lib.hid hR
  have hlet := fun (x : UInt8) (W : World) => refLetter_any x W
  have hdig := fun (x : UInt8) (W : World) => refDigit_any x W
  have HLET := Lib.hid hlet
  have HDIG := Lib.hid hdig
  have hrun := Lex.run_le Lex.inWord (s.data.toList.drop i)
  rw [List.length_drop, ← Lib.size_eq] at hrun
  have HRUN := Lib.hid hrun
  clear hR0 hR hbase hblk hW1 hlet hdig hrun
  go_enter Tryd.func18, Tryd.ntmps18
  by_cases h39 : c = 39
  · subst h39
    have t1 : (((39 : UInt8).toNat : Int) == 39) = true := by rfl
    have hcall := fun (W : World) => refText_any s i W hs hi
    have hr := HR.out
    rw [Lex.tok1_quo, List.length_drop, ← Lib.size_eq, show s.size - (i + 1) + 1 = s.size - i by omega] at hr
    rw [hr] at hcall
    obtain ⟨v0, v1, v2, v3, v4, v5, hv⟩ := refTokV_form R i
    unfold RefTokRes at hcall
    rw [hv] at hcall
    have HC := Lib.hid hcall
    have HV := Lib.hid hv
    clear hcall hr hv HR HRUN HLET HDIG
    go_wp2_with fail
    rw [HW1.out]
    refine (HC.out _).mono ?_
    rintro e w1 ⟨rfl, hb⟩
    have HB := Lib.hid (HBASE.out.trans (hb.mono HBASE.out.size))
    have HK := Lib.hid (HBLK.out.below hb HBLK.out.lt)
    obtain ⟨b0, b1, b2, b3, f0, f1, f2, f3⟩ := rtok_cells HK.out
    clear hb
    go_wp2
    exact ret_ref Tryd.results18 rfl rfl rfl HK.out HB.out HV.out
  have t1 : ((c.toNat : Int) == 39) = false := bq (k := 39) rfl (beq_eq_false_iff_ne.2 h39)
  obtain ⟨lt, hlt⟩ : ∃ b, Lex.isLet c = b := ⟨_, rfl⟩
  have hl0 := fun (W : World) => HLET.out c W
  rw [hlt] at hl0
  have HL0 := Lib.hid hl0
  clear hl0
  cases lt with
  | true =>
    obtain ⟨n, hn⟩ : ∃ n, Lex.run Lex.inWord (s.data.toList.drop i) = n := ⟨_, rfl⟩
    have hr := HR.out
    rw [Lex.tok1_let _ hlt, ← hc, ← drop_at' hi, hn] at hr
    have hnl := HRUN.out
    rw [hn] at hnl
    obtain ⟨z, hz⟩ : ∃ z, s.extract i (i + n) = z := ⟨_, rfl⟩
    have hzl : (⟨((s.data.toList.drop i).take n).toArray⟩ : ByteArray) = z := by rw [← hz, ← extract_take]
    obtain ⟨j, hj⟩ : ∃ j, i + n = j := ⟨_, rfl⟩
    have ht : refTokV R i = .tuple #[.agg #[.int .i64 1, .string z, .int .i64 0, .int .i64 i], .int .i64 j, .int .i64 0] := by
      rw [← hr]
      simp only [refTokV]
      rw [hzl, hj]
      rfl
    rw [hj] at hz
    have hrn : i + Lex.run Lex.inWord (s.data.toList.drop i) = j := by rw [hn, hj]
    have hij : i ≤ j := by omega
    have hjs : j ≤ s.size := by omega
    have hjI : (j : Int) ≤ s.size := by omega
    have hijI : (i : Int) ≤ j := by omega
    have HT := Lib.hid ht
    have HRN := Lib.hid hrn
    clear hr hn hnl hzl hj ht hrn h39 hlt HR HRUN
    go_wp2_with fail
    refine (HL0.out _).mono ?_
    rintro e w' ⟨rfl, rfl⟩
    rw [HW1.out]
    clear HW1 HL0
    have hc0 := hc
    have HC0 := Lib.hid hc0
    clear hc hc0 t1
    go_wp2_with fail
    go_loopg [8] (s.size - i) (fun g x wx => ∃ k : Nat, x = .int .i64 k ∧ i ≤ k ∧ k ≤ s.size ∧ s.size - k ≤ g ∧ k + Lex.run Lex.inWord (s.data.toList.drop k) = j ∧ W1 = wx)
    case atStart => exact ⟨i, rfl, Nat.le_refl _, by omega, by omega, HRN.out, rfl⟩
    case round =>
      obtain ⟨k, rfl, hik, hks, hm, hrk, rfl⟩ := hrel
      have HRK := Lib.hid hrk
      obtain ⟨b0, b1, b2, b3, f0, f1, f2, f3⟩ := rtok_cells HBLK.out
      have hkI : (k : Int) ≤ s.size := by omega
      clear hrk HRN
      by_cases hkl : k < s.size
      · have hklI : (k : Int) < s.size := by omega
        have u1 : decide (k < s.size) = true := decide_eq_true hkl
        obtain ⟨x, hx⟩ : ∃ x, s[k]'hkl = x := ⟨_, rfl⟩
        have hlx := fun (W : World) => HLET.out x W
        have hdx := fun (W : World) => HDIG.out x W
        have hrk := HRK.out
        rw [drop_at' hkl, hx, Lex.run_step] at hrk
        simp only at hrk
        unfold Lex.inWord at hrk
        cases hb1 : Lex.isLet x with
        | true =>
          rw [hb1] at hlx hrk
          rw [Bool.true_or, if_pos rfl] at hrk
          have HLX := Lib.hid hlx
          have HN := Lib.hid (show k + 1 + Lex.run Lex.inWord (s.data.toList.drop (k + 1)) = j by unfold Lex.inWord; omega)
          clear hlx hdx hrk hb1 b0 b1 b2 b3 f0 f1 f2 f3
          cases gk with
          | zero => omega
          | succ g =>
            go_wp2_with fail
            refine (HLX.out _).mono ?_
            rintro e w' ⟨rfl, rfl⟩
            go_wp2
            go_roundg g
            case measure => omega
            case rel => exact ⟨k + 1, int_eq' (by omega), by omega, by omega, by omega, HN.out, rfl⟩
        | false =>
          rw [hb1] at hlx hrk
          rw [Bool.false_or] at hrk
          cases hb2 : Num.isDig x with
          | true =>
            rw [hb2] at hdx hrk
            rw [if_pos rfl] at hrk
            have HLX := Lib.hid hlx
            have HDX := Lib.hid hdx
            have HN := Lib.hid (show k + 1 + Lex.run Lex.inWord (s.data.toList.drop (k + 1)) = j by unfold Lex.inWord; omega)
            clear hlx hdx hrk hb1 hb2 b0 b1 b2 b3 f0 f1 f2 f3
            cases gk with
            | zero => omega
            | succ g =>
              go_wp2_with fail
              refine (HLX.out _).mono ?_
              rintro e w' ⟨rfl, rfl⟩
              go_wp2_with fail
              refine (HDX.out _).mono ?_
              rintro e w' ⟨rfl, rfl⟩
              go_wp2
              go_roundg g
              case measure => omega
              case rel => exact ⟨k + 1, int_eq' (by omega), by omega, by omega, by omega, HN.out, rfl⟩
          | false =>
            rw [hb2] at hdx hrk
            rw [if_neg (by decide)] at hrk
            have HLX := Lib.hid hlx
            have HDX := Lib.hid hdx
            obtain rfl : k = j := by omega
            clear hlx hdx hrk hb1 hb2
            go_wp2_with fail
            refine (HLX.out _).mono ?_
            rintro e w' ⟨rfl, rfl⟩
            go_wp2_with fail
            refine (HDX.out _).mono ?_
            rintro e w' ⟨rfl, rfl⟩
            go_wp2
            exact ret_ref Tryd.results18 rfl rfl rfl HBLK.out HBASE.out HT.out
      · have u1 : decide (k < s.size) = false := decide_eq_false hkl
        have hke : k = s.size := by omega
        have hrk := HRK.out
        rw [drop_end' (by omega)] at hrk
        obtain rfl : k = j := hrk
        subst hke
        go_wp2
        exact ret_ref Tryd.results18 rfl rfl rfl HBLK.out HBASE.out HT.out
  | false =>
    obtain ⟨m, hm⟩ : ∃ m, (decide (c = 45) && !(s.data.toList.drop (i + 1)).isEmpty) = m := ⟨_, rfl⟩
    obtain ⟨bh, hbh⟩ : ∃ b, Lex.behind (s.data.toList.drop (i + 1)) = b := ⟨_, rfl⟩
    obtain ⟨d, hd⟩ : ∃ d, (Num.isDig c || (m && Num.isDig (Lex.behind (s.data.toList.drop (i + 1))))) = d := ⟨_, rfl⟩
    obtain ⟨a, ha⟩ : ∃ a, (m && (Lex.behind (s.data.toList.drop (i + 1)) == 62)) = a := ⟨_, rfl⟩
    have hr := HR.out
    rw [Lex.tok1_ref h39 hlt hm hd ha] at hr
    rw [isEmpty_drop] at hm
    rw [hbh] at hd ha
    have HR2 := Lib.hid hr
    have HM := Lib.hid hm
    have HBH := Lib.hid hbh
    have HD := Lib.hid hd
    have HA := Lib.hid ha
    clear hr hm hbh hd ha hlt h39 HR HRUN
    go_wp2_with fail
    refine (HL0.out _).mono ?_
    rintro e w' ⟨rfl, rfl⟩
    rw [HW1.out]
    clear HW1 HL0 t1
    go_upto_region 9 with fail
    go_cut [9] (fun s9 wx => s9 = .bool m ∧ W1 = wx)
    case first =>
      have hm := HM.out
      by_cases h45 : c = 45
      · have t2 : ((c.toNat : Int) == 45) = true := by rw [h45]; rfl
        rw [decide_eq_true h45, Bool.true_and] at hm
        have u1 : decide ((i : Int) + 1 < s.size) = m := by rw [← hm]; exact decide_eq_decide.2 (by omega)
        have HC0 := Lib.hid hc
        clear hm h45 hc HM
        go_wp2_with fail
        go_meet
        exact ⟨rfl, rfl⟩
      · have t2 : ((c.toNat : Int) == 45) = false := bq (k := 45) rfl (beq_eq_false_iff_ne.2 h45)
        rw [decide_eq_false h45, Bool.false_and] at hm
        subst hm
        have HC0 := Lib.hid hc
        clear h45 hc HM
        go_wp2_with fail
        go_meet
        exact ⟨rfl, rfl⟩
    case rest =>
      obtain ⟨rfl, rfl⟩ := hcut
      go_upto_region 10 with fail
      go_cut [72] (fun s72 wx => s72 = .bool d ∧ W1 = wx)
      case first =>
        have hdc := fun (W : World) => HDIG.out c W
        have hd := HD.out
        cases h1 : Num.isDig c with
        | true =>
          rw [h1] at hdc hd
          rw [Bool.true_or] at hd
          subst hd
          have HDC := Lib.hid hdc
          clear hdc h1 HD
          go_wp2_with fail
          refine (HDC.out _).mono ?_
          rintro e w' ⟨rfl, rfl⟩
          go_wp2_with fail
          go_meet
          exact ⟨rfl, rfl⟩
        | false =>
          rw [h1] at hdc hd
          rw [Bool.false_or] at hd
          have HDC := Lib.hid hdc
          clear hdc h1 HD
          cases m with
          | false =>
            rw [Bool.false_and] at hd
            subst hd
            go_wp2_with fail
            refine (HDC.out _).mono ?_
            rintro e w' ⟨rfl, rfl⟩
            go_wp2_with fail
            go_meet
            exact ⟨rfl, rfl⟩
          | true =>
            rw [Bool.true_and] at hd
            have hm := HM.out
            rw [Bool.and_eq_true, decide_eq_true_eq, decide_eq_true_eq] at hm
            have hi1 := hm.2
            have hi1I : (i : Int) + 1 < s.size := by omega
            have hbb : s[i + 1]'hi1 = bh := by rw [← HBH.out, behind_at hi1]
            have hdb := fun (W : World) => HDIG.out bh W
            rw [hd] at hdb
            have HDB := Lib.hid hdb
            clear hd hm hdb
            go_wp2_with fail
            refine (HDC.out _).mono ?_
            rintro e w' ⟨rfl, rfl⟩
            go_wp2_with fail
            refine (HDB.out _).mono ?_
            rintro e w' ⟨rfl, rfl⟩
            go_wp2_with fail
            go_meet
            exact ⟨rfl, rfl⟩
      case rest =>
        obtain ⟨rfl, rfl⟩ := hcut
        clear HD
        cases d with
        | true =>
          have hr := HR2.out
          rw [if_pos rfl, ← hc, ← drop_at' hi] at hr
          obtain ⟨n, hn⟩ : ∃ n, Lex.run Lex.inNum (s.data.toList.drop (i + 1)) = n := ⟨_, rfl⟩
          rw [hn] at hr
          have hnl := Lex.run_le Lex.inNum (s.data.toList.drop (i + 1))
          rw [hn, List.length_drop, ← Lib.size_eq] at hnl
          have hcall := fun (W : World) => refNumber_any s i n W (by omega) (by omega)
          rw [hr] at hcall
          obtain ⟨v0, v1, v2, v3, v4, v5, hv⟩ := refTokV_form R i
          unfold RefTokRes at hcall
          rw [hv] at hcall
          obtain ⟨j, hj⟩ : ∃ j, i + (1 + n) = j := ⟨_, rfl⟩
          rw [hj] at hcall
          have hrn : i + 1 + Lex.run Lex.inNum (s.data.toList.drop (i + 1)) = j := by omega
          have hjs : j ≤ s.size := by omega
          have HC := Lib.hid hcall
          have HV := Lib.hid hv
          have HRN := Lib.hid hrn
          have HC0 := Lib.hid hc
          clear hcall hr hv hn hnl hj hrn hc HR2 HM HBH HA
          go_wp2_with fail
          go_loopg [10] (s.size - (i + 1)) (fun g x wx => ∃ k : Nat, x = .int .i64 k ∧ i + 1 ≤ k ∧ k ≤ s.size ∧ s.size - k ≤ g ∧ k + Lex.run Lex.inNum (s.data.toList.drop k) = j ∧ W1 = wx)
          case atStart => exact ⟨i + 1, int_eq' (by omega), Nat.le_refl _, by omega, by omega, HRN.out, rfl⟩
          case round =>
            obtain ⟨k, rfl, hik, hks, hm, hrk, rfl⟩ := hrel
            have HRK := Lib.hid hrk
            have hkI : (k : Int) ≤ s.size := by omega
            clear hrk HRN
            by_cases hkl : k < s.size
            · have hklI : (k : Int) < s.size := by omega
              have u1 : decide (k < s.size) = true := decide_eq_true hkl
              obtain ⟨x, hx⟩ : ∃ x, s[k]'hkl = x := ⟨_, rfl⟩
              have hlx := fun (W : World) => HLET.out x W
              have hdx := fun (W : World) => HDIG.out x W
              have hrk := HRK.out
              rw [drop_at' hkl, hx, Lex.run_step] at hrk
              simp only at hrk
              unfold Lex.inNum Lex.inWord at hrk
              cases hb1 : Lex.isLet x with
              | true =>
                rw [hb1] at hlx hrk
                rw [Bool.true_or, Bool.true_or, if_pos rfl] at hrk
                have HLX := Lib.hid hlx
                have HN := Lib.hid (show k + 1 + Lex.run Lex.inNum (s.data.toList.drop (k + 1)) = j by unfold Lex.inNum Lex.inWord; omega)
                clear hlx hdx hrk hb1
                cases gk with
                | zero => omega
                | succ g =>
                  go_wp2_with fail
                  refine (HLX.out _).mono ?_
                  rintro e w' ⟨rfl, rfl⟩
                  go_wp2
                  go_roundg g
                  case measure => omega
                  case rel => exact ⟨k + 1, int_eq' (by omega), by omega, by omega, by omega, HN.out, rfl⟩
              | false =>
                rw [hb1] at hlx hrk
                rw [Bool.false_or] at hrk
                cases hb2 : Num.isDig x with
                | true =>
                  rw [hb2] at hdx hrk
                  rw [Bool.true_or, if_pos rfl] at hrk
                  have HLX := Lib.hid hlx
                  have HDX := Lib.hid hdx
                  have HN := Lib.hid (show k + 1 + Lex.run Lex.inNum (s.data.toList.drop (k + 1)) = j by unfold Lex.inNum Lex.inWord; omega)
                  clear hlx hdx hrk hb1 hb2
                  cases gk with
                  | zero => omega
                  | succ g =>
                    go_wp2_with fail
                    refine (HLX.out _).mono ?_
                    rintro e w' ⟨rfl, rfl⟩
                    go_wp2_with fail
                    refine (HDX.out _).mono ?_
                    rintro e w' ⟨rfl, rfl⟩
                    go_wp2
                    go_roundg g
                    case measure => omega
                    case rel => exact ⟨k + 1, int_eq' (by omega), by omega, by omega, by omega, HN.out, rfl⟩
                | false =>
                  rw [hb2] at hdx hrk
                  rw [Bool.false_or] at hrk
                  have HLX := Lib.hid hlx
                  have HDX := Lib.hid hdx
                  by_cases h46 : x = 46
                  · have t3 : ((x.toNat : Int) == 46) = true := by rw [h46]; rfl
                    rw [if_pos (by rw [h46]; rfl)] at hrk
                    have HN := Lib.hid (show k + 1 + Lex.run Lex.inNum (s.data.toList.drop (k + 1)) = j by unfold Lex.inNum Lex.inWord; omega)
                    clear hlx hdx hrk hb1 hb2 h46
                    cases gk with
                    | zero => omega
                    | succ g =>
                      go_wp2_with fail
                      refine (HLX.out _).mono ?_
                      rintro e w' ⟨rfl, rfl⟩
                      go_wp2_with fail
                      refine (HDX.out _).mono ?_
                      rintro e w' ⟨rfl, rfl⟩
                      go_wp2
                      go_roundg g
                      case measure => omega
                      case rel => exact ⟨k + 1, int_eq' (by omega), by omega, by omega, by omega, HN.out, rfl⟩
                  · have t3 : ((x.toNat : Int) == 46) = false := bq (k := 46) rfl (beq_eq_false_iff_ne.2 h46)
                    rw [if_neg (by simpa using h46)] at hrk
                    obtain rfl : k = j := by omega
                    clear hlx hdx hrk hb1 hb2 h46
                    go_wp2_with fail
                    refine (HLX.out _).mono ?_
                    rintro e w' ⟨rfl, rfl⟩
                    go_wp2_with fail
                    refine (HDX.out _).mono ?_
                    rintro e w' ⟨rfl, rfl⟩
                    go_wp2_with fail
                    refine (HC.out _).mono ?_
                    rintro e w1 ⟨rfl, hb⟩
                    have HB := Lib.hid (HBASE.out.trans (hb.mono HBASE.out.size))
                    have HK := Lib.hid (HBLK.out.below hb HBLK.out.lt)
                    obtain ⟨b0, b1, b2, b3, f0, f1, f2, f3⟩ := rtok_cells HK.out
                    clear hb
                    go_wp2
                    exact ret_ref Tryd.results18 rfl rfl rfl HK.out HB.out HV.out
            · have u1 : decide (k < s.size) = false := decide_eq_false hkl
              have hrk := HRK.out
              rw [drop_end' (by omega)] at hrk
              obtain rfl : k = j := hrk
              have hke : k = s.size := by omega
              subst hke
              go_wp2_with fail
              refine (HC.out _).mono ?_
              rintro e w1 ⟨rfl, hb⟩
              have HB := Lib.hid (HBASE.out.trans (hb.mono HBASE.out.size))
              have HK := Lib.hid (HBLK.out.below hb HBLK.out.lt)
              obtain ⟨b0, b1, b2, b3, f0, f1, f2, f3⟩ := rtok_cells HK.out
              clear hb
              go_wp2
              exact ret_ref Tryd.results18 rfl rfl rfl HK.out HB.out HV.out
        | false =>
          have hr := HR2.out
          rw [if_neg (by decide)] at hr
          have HR3 := Lib.hid hr
          clear hr HR2
          go_upto_region 15 with fail
          go_cut [113] (fun s113 wx => s113 = .bool a ∧ W1 = wx)
          case first =>
            have ha := HA.out
            cases m with
            | false =>
              rw [Bool.false_and] at ha
              subst ha
              clear HA HM
              go_wp2_with fail
              go_meet
              exact ⟨rfl, rfl⟩
            | true =>
              rw [Bool.true_and] at ha
              have hm := HM.out
              rw [Bool.and_eq_true, decide_eq_true_eq, decide_eq_true_eq] at hm
              have hi1 := hm.2
              have hi1I : (i : Int) + 1 < s.size := by omega
              have hbb : s[i + 1]'hi1 = bh := by rw [← HBH.out, behind_at hi1]
              have t3 : ((bh.toNat : Int) == 62) = a := bq (k := 62) rfl ha
              clear ha hm HA HM
              go_wp2_with fail
              go_meet
              exact ⟨rfl, rfl⟩
          case rest =>
            obtain ⟨rfl, rfl⟩ := hcut
            clear HA HM HBH
            obtain ⟨b0, b1, b2, b3, f0, f1, f2, f3⟩ := rtok_cells HBLK.out
            cases a with
            | true =>
              have hr := HR3.out
              rw [if_pos rfl] at hr
              have ht : refTokV R i = .tuple #[.agg #[.int .i64 5, .string ⟨#[45, 62]⟩, .int .i64 0, .int .i64 i], .int .i64 ((i : Int) + 2), .int .i64 0] := by rw [← hr]; rfl
              have HT := Lib.hid ht
              clear hr ht HR3
              go_wp2
              exact ret_ref Tryd.results18 rfl rfl rfl HBLK.out HBASE.out HT.out
            | false =>
              have hr := HR3.out
              rw [if_neg (by decide)] at hr
              have HR4 := Lib.hid hr
              clear hr HR3
              go_wp2_with fail
              go_loopg [12] 10 (fun g x wx => ∃ j : Nat, x = .int .i64 j ∧ j + g = 10 ∧ (∀ t, t < j → Lex.mk t ≠ c) ∧ W1 = wx)
              case atStart => exact ⟨0, rfl, rfl, fun t ht => by omega, rfl⟩
              case round =>
                obtain ⟨j, rfl, hjg, hno, rfl⟩ := hrel
                have HNO := Lib.hid hno
                clear hno
                cases gk with
                | zero =>
                  obtain rfl : j = 10 := by omega
                  have hr := HR4.out
                  rw [if_neg (fun h => by obtain ⟨t, ht, e⟩ := mk_mem h; exact HNO.out t ht e)] at hr
                  have ht : refTokV R i = .tuple #[.agg #[.int .i64 0, .string ⟨#[]⟩, .int .i64 0, .int .i64 i], .int .i64 0, .int .i64 240] := by rw [← hr]; rfl
                  have HT := Lib.hid ht
                  clear hr ht HR4 hjg
                  go_wp2
                  exact ret_ref Tryd.results18 rfl rfl rfl HBLK.out HBASE.out HT.out
                | succ g =>
                  have hj10 : j < 10 := by omega
                  have hj10I : (j : Int) < 10 := by omega
                  have u1 : decide (j < 10) = true := decide_eq_true hj10
                  have hmk := mk_at j hj10
                  have hext := mk_ext j hj10
                  obtain ⟨q, hq⟩ : ∃ q, Lex.mk j = q := ⟨_, rfl⟩
                  rw [hq] at hext
                  have hmk' : ∀ h' : j < ({ data := #[40, 41, 123, 125, 91, 93, 58, 44, 59, 45] } : ByteArray).size, ({ data := #[40, 41, 123, 125, 91, 93, 58, 44, 59, 45] } : ByteArray)[j]'h' = q := fun h' => (hmk h').trans hq
                  have hin := mk_in hj10
                  rw [hq] at hin
                  have HQ := Lib.hid hq
                  clear hmk hq
                  by_cases hqc : q = c
                  · subst hqc
                    have hr := HR4.out
                    rw [if_pos hin] at hr
                    have ht : refTokV R i = .tuple #[.agg #[.int .i64 5, .string ⟨#[q]⟩, .int .i64 0, .int .i64 i], .int .i64 ((i : Int) + 1), .int .i64 0] := by rw [← hr]; rfl
                    have HT := Lib.hid ht
                    have t4 : ((q.toNat : Int) == q.toNat) = true := by simp
                    clear hr ht HR4 hin
                    go_wp2
                    exact ret_ref Tryd.results18 rfl rfl rfl HBLK.out HBASE.out HT.out
                  · have t4 : ((q.toNat : Int) == c.toNat) = false := by
                      rw [beq_eq_false_iff_ne]
                      intro e
                      exact hqc (UInt8.toNat_inj.1 (by omega))
                    have HQC := Lib.hid hqc
                    clear hin hqc hext
                    go_wp2
                    go_roundg g
                    case measure => omega
                    case rel =>
                      refine ⟨j + 1, int_eq' (by omega), by omega, fun t ht => ?_, rfl⟩
                      by_cases e : t = j
                      · rw [e, HQ.out]; exact HQC.out
                      · exact HNO.out t (by omega)
end Go.Proofs.YthnaiiejjdmnaaaDoor
