/- Layer 24 (lexer): the document's number. -/
import Derived.Test.YthnaiiejjdmnaaaDoorLexRefA
import Derived.Test.YthnaiiejjdmnaaaDoorLexNext
import Derived.Test.YthnaiiejjdmnaaaDoorRefParse
namespace Go.Proofs.YthnaiiejjdmnaaaDoor
open Go.RowKit

theorem rtok_new (w : World) : Blk (w.alloc (.cells #[.int .i64 0, .string ⟨#[]⟩, .int .i64 0, .int .i64 0] 30)) w.heap.size 30 #[.int .i64 0, .string ⟨#[]⟩, .int .i64 0, .int .i64 0] := Blk.new _ _ _
theorem hasPrefix_two {l : List UInt8} (h : Lib.hasPrefix l [48, 120] = true) : 2 ≤ l.length := by
  unfold Lib.hasPrefix at h
  rw [List.isPrefixOf_iff_prefix] at h
  exact h.length_le
theorem hasPrefix_take (l : List UInt8) : Lib.hasPrefix l [48, 120] = (l.take 2 == [48, 120]) := by
  match l with
  | [] => rfl
  | [a] => simp [Lib.hasPrefix, List.isPrefixOf]
  | a :: b :: r => simp [Lib.hasPrefix, List.isPrefixOf, Bool.beq_comm]

set_option maxHeartbeats 8000000 in
set_option maxRecDepth 100000 in
theorem refNumber_any (s : ByteArray) (i n : Nat) (w : World) (hs : s.size ≤ 1073741824) (hi : i + (1 + n) ≤ s.size) :
    Calls Tryd.prog 36 #[.string s, .int .i64 i, .int .i64 ((i + (1 + n) : Nat) : Int)] w (RefTokRes (Lex.numTok ((s.data.toList.drop i).take (1 + n))) i w) := by
  obtain ⟨z, hz⟩ : ∃ z, s.extract i (i + (1 + n)) = z := ⟨_, rfl⟩
  have hzl : z.data.toList = (s.data.toList.drop i).take (1 + n) := by rw [← hz, extract_take]
  have hzlen : z.data.toList.length = 1 + n := by rw [hzl, List.length_take, List.length_drop, ← Lib.size_eq]; omega
  rw [← hzl]
  have hzsz : z.size = 1 + n := by rw [Lib.size_eq, hzlen]
  have hz0 : 0 < z.size := by omega
  obtain ⟨j, hj⟩ : ∃ j, i + (1 + n) = j := ⟨_, rfl⟩
  rw [hj] at hz ⊢
  have hjs : j ≤ s.size := by omega
  have hij : i ≤ j := by omega
  have ji : (j : Int) ≤ 1073741824 := by omega
  have ii : (i : Int) ≤ 1073741824 := by omega
  have hzs : z.size ≤ 1073741824 := by omega
  have hzj : i + z.data.toList.length = j := by omega
  have hz0i : (0 : Int) < z.size := by omega
  have hpf := fun (W : World) => refParseFloat_any z W hzs
  have hpi := fun (W : World) => refParseInt_any z W hzs
  rw [Num.refParse_eq] at hpf
  have hd0 : z.data.toList = z[0]'hz0 :: z.data.toList.drop 1 := by have := drop_at' hz0; rwa [List.drop_zero] at this
  obtain ⟨f, hf⟩ : ∃ f : Nat, (if z[0]'hz0 = 45 then 1 else 0) = f := ⟨_, rfl⟩
  have hnh : Lex.numHead z.data.toList = z.data.toList.drop f := by
    unfold Lex.numHead
    rw [← hf]
    by_cases h : z[0]'hz0 = 45
    · rw [if_pos h, if_pos (by rw [hd0, h]; rfl)]
    · rw [if_neg h, if_neg (by rw [hd0]; simpa using h), List.drop_zero]
  have hf1 : f ≤ 1 := by rw [← hf]; split <;> omega
  obtain ⟨v, hv⟩ : ∃ v, Lib.hasPrefix (Lex.numHead z.data.toList) [48, 120] = v := ⟨_, rfl⟩
  have hv2 := hv
  rw [hnh] at hv2
  obtain ⟨zn, hzn⟩ : ∃ x, z.data.toList.length = x := ⟨_, rfl⟩
  rw [hzn] at hzj
  obtain ⟨W1, hW1⟩ : ∃ W1, w.alloc (.cells #[.int .i64 0, .string ⟨#[]⟩, .int .i64 0, .int .i64 0] 30) = W1 := ⟨_, rfl⟩
  have hbase : Below w.heap.size w W1 := by rw [← hW1]; exact (Below.refl _ _).alloc (Nat.le_refl _) _
  have hblk : Blk W1 w.heap.size 30 #[.int .i64 0, .string ⟨#[]⟩, .int .i64 0, .int .i64 0] := by rw [← hW1]; exact rtok_new w
  obtain ⟨R, hR⟩ : ∃ R, Lex.numTok z.data.toList = R := ⟨_, rfl⟩
  rw [hR]
  have HRES := Lib.hid hR
  clear hR
  have HPF := Lib.hid hpf
  have HPI := Lib.hid hpi
  have HF := Lib.hid hf
  have HV2 := Lib.hid hv2
  have HZJ := Lib.hid hzj
  have HBASE := Lib.hid hbase
  have HBLK := Lib.hid hblk
  have HW1 := Lib.hid hW1
  have HV := Lib.hid hv
  have HZN := Lib.hid hzn
  clear hpf hpi hf hnh hv hv2 hzj hd0 hzlen hzl hj hbase hblk hW1 hzn
  go_enter Tryd.func36, Tryd.ntmps36
  go_upto_if 21 with fail
  go_cut [10] (fun s10 wx => s10 = .int .i64 (f : Int) ∧ W1 = wx)
  case first =>
    by_cases h45 : z[0]'hz0 = 45
    · have t1 : (((z[0]'hz0).toNat : Int) == 45) = true := by rw [h45]; rfl
      have hf0 : f = 1 := by rw [← HF.out, if_pos h45]
      subst hf0
      clear h45 HF
      go_wp2_with fail
      go_meet
      exact ⟨rfl, HW1.out.symm⟩
    · have t1 : (((z[0]'hz0).toNat : Int) == 45) = false := bq (k := 45) rfl (beq_eq_false_iff_ne.2 h45)
      have hf0 : f = 0 := by rw [← HF.out, if_neg h45]
      subst hf0
      clear h45 HF
      go_wp2_with fail
      go_meet
      exact ⟨rfl, HW1.out.symm⟩
  case rest =>
    obtain ⟨rfl, rfl⟩ := hcut
    clear HF
    go_upto_region 5 with fail
    go_cut [34] (fun s34 wx => s34 = .bool v ∧ W1 = wx)
    case first =>
      by_cases h2 : 2 + f ≤ z.size
      · have t1 : decide (2 ≤ (z.size : Int) - f) = true := decide_eq_true (by omega)
        have t2 : (2 : Int) ≤ (z.size : Int) - f := by omega
        have f2 : (f : Int) + 2 ≤ z.size := by omega
        have f1 : (f : Int) ≤ 1 := by omega
        obtain ⟨y, hy⟩ : ∃ y, z.extract f (f + 2) = y := ⟨_, rfl⟩
        have hyd : (y.toList == [48, 120]) = v := by
          rw [Lib.toList_data, ← hy, extract_take, ← hasPrefix_take]
          exact HV2.out
        clear h2 HPF HPI HV
        go_wp2_with fail
        go_meet
        exact ⟨rfl, rfl⟩
      · have t1 : decide (2 ≤ (z.size : Int) - f) = false := decide_eq_false (by omega)
        have t2 : (z.size : Int) - f < 2 := by omega
        have f1 : (f : Int) ≤ 1 := by omega
        have hv0 : v = false := by
          rw [← HV2.out, Bool.eq_false_iff]
          intro h
          have := hasPrefix_two h
          rw [List.length_drop, ← Lib.size_eq] at this
          omega
        subst hv0
        clear h2 HPF HPI HV
        go_wp2_with fail
        go_meet
        exact ⟨rfl, rfl⟩
    case rest =>
      obtain ⟨rfl, rfl⟩ := hcut
      clear HV2 HW1
      have hv := HV.out
      cases v with
      | true =>
        have hnt : Lex.numTok z.data.toList = match Num.parse z.data.toList with | some b => .tok 3 [] (Lex.int64 b) z.data.toList.length | none => .err 0 52 := by
          unfold Lex.numTok
          rw [if_pos hv]
          cases Num.parse z.data.toList <;> rfl
        have hr := HRES.out
        rw [hnt, HZN.out] at hr
        clear hv hnt HV HPI
        cases hp : Num.parse z.data.toList with
        | some b =>
          have hwr := int64_wrap b (parse_lt hp)
          have hcall := HPF.out
          rw [hp] at hcall
          have HC := Lib.hid (show ∀ W : World, Calls Tryd.prog 47 #[.string z] W fun e w' => e = .returned (.tuple #[.int .u64 (b : Nat), .int .i64 0]) ∧ Below W.heap.size W w' from hcall)
          obtain ⟨q, hq⟩ : ∃ q, Lex.int64 b = q := ⟨_, rfl⟩
          rw [hq] at hwr
          rw [hp] at hr
          have ht : refTokV R i = .tuple #[.agg #[.int .i64 3, .string ⟨#[]⟩, .int .i64 q, .int .i64 i], .int .i64 j, .int .i64 0] := by
            rw [← hr]
            simp only [refTokV, HZJ.out, hq]
            rfl
          have HT := Lib.hid ht
          clear hcall hp hq HPF ht hr
          go_wp2_with fail
          refine (HC.out _).mono ?_
          rintro e w1 ⟨rfl, hb⟩
          have HB := Lib.hid (HBASE.out.trans (hb.mono HBASE.out.size))
          have HK := Lib.hid (HBLK.out.below hb HBLK.out.lt)
          obtain ⟨b0, b1, b2, b3, f0, f1, f2, f3⟩ := rtok_cells HK.out
          clear hb
          go_wp2
          exact ret_ref Tryd.results36 rfl rfl rfl HK.out HB.out HT.out
        | none =>
          have hcall := HPF.out
          rw [hp] at hcall
          have HC := Lib.hid (show ∀ W : World, Calls Tryd.prog 47 #[.string z] W fun e w' => e = .returned (.tuple #[.int .u64 0, .int .i64 52]) ∧ Below W.heap.size W w' from hcall)
          rw [hp] at hr
          have ht : refTokV R i = .tuple #[.agg #[.int .i64 0, .string ⟨#[]⟩, .int .i64 0, .int .i64 i], .int .i64 0, .int .i64 52] := by
            rw [← hr]
            simp only [refTokV, Nat.add_zero]
            rfl
          have HT := Lib.hid ht
          clear hcall hp HPF ht hr
          go_wp2_with fail
          refine (HC.out _).mono ?_
          rintro e w1 ⟨rfl, hb⟩
          have HB := Lib.hid (HBASE.out.trans (hb.mono HBASE.out.size))
          have HK := Lib.hid (HBLK.out.below hb HBLK.out.lt)
          obtain ⟨b0, b1, b2, b3, f0, f1, f2, f3⟩ := rtok_cells HK.out
          clear hb
          go_wp2
          exact ret_ref Tryd.results36 rfl rfl rfl HK.out HB.out HT.out
      | false =>
        have hnt : Lex.numTok z.data.toList = if (Num.parseInt z.data.toList).2 = 0 then .tok 2 [] (Num.parseInt z.data.toList).1 z.data.toList.length else .err 0 (Num.parseInt z.data.toList).2 := by
          unfold Lex.numTok
          rw [if_neg (by rw [hv]; decide)]
        have hr := HRES.out
        rw [hnt, HZN.out] at hr
        clear hv hnt HV HPF
        obtain ⟨x, hx⟩ : ∃ x, Num.parseInt z.data.toList = x := ⟨_, rfl⟩
        have hcall := HPI.out
        rw [hx] at hcall hr
        obtain ⟨q, k⟩ := x
        have HC := Lib.hid (show ∀ W : World, Calls Tryd.prog 48 #[.string z] W fun e w' => e = .returned (.tuple #[.int .i64 q, .int .i64 (k : Int)]) ∧ Below W.heap.size W w' from hcall)
        by_cases hk : k = 0
        · subst hk
          have ht : refTokV R i = .tuple #[.agg #[.int .i64 2, .string ⟨#[]⟩, .int .i64 q, .int .i64 i], .int .i64 j, .int .i64 0] := by
            rw [← hr, if_pos rfl]
            simp only [refTokV, HZJ.out]
            rfl
          have HT := Lib.hid ht
          clear hcall hx HPI ht hr
          go_wp2_with fail
          refine (HC.out _).mono ?_
          rintro e w1 ⟨rfl, hb⟩
          have HB := Lib.hid (HBASE.out.trans (hb.mono HBASE.out.size))
          have HK := Lib.hid (HBLK.out.below hb HBLK.out.lt)
          obtain ⟨b0, b1, b2, b3, f0, f1, f2, f3⟩ := rtok_cells HK.out
          clear hb
          go_wp2
          exact ret_ref Tryd.results36 rfl rfl rfl HK.out HB.out HT.out
        · have hkb : ((k : Int) != 0) = true := by rw [bne_iff_ne]; omega
          have ht : refTokV R i = .tuple #[.agg #[.int .i64 0, .string ⟨#[]⟩, .int .i64 0, .int .i64 i], .int .i64 0, .int .i64 (k : Int)] := by
            rw [← hr, if_neg hk]
            simp only [refTokV, Nat.add_zero]
          have HT := Lib.hid ht
          clear hcall hx HPI ht hr hk
          go_wp2_with fail
          refine (HC.out _).mono ?_
          rintro e w1 ⟨rfl, hb⟩
          have HB := Lib.hid (HBASE.out.trans (hb.mono HBASE.out.size))
          have HK := Lib.hid (HBLK.out.below hb HBLK.out.lt)
          obtain ⟨b0, b1, b2, b3, f0, f1, f2, f3⟩ := rtok_cells HK.out
          clear hb
          go_wp2
          exact ret_ref Tryd.results36 rfl rfl rfl HK.out HB.out HT.out
end Go.Proofs.YthnaiiejjdmnaaaDoor
