/- Layer 24 (lexer): a number's token. -/
import Derived.Test.YtoofbflplhbpbaaGreatDoorLexTok
namespace Go.Proofs.YtoofbflplhbpbaaGreatDoor
open Go.RowKit

theorem numHead_trim (l : List UInt8) : Lib.trimPrefix l [45] = Lex.numHead l := trim_neg l
theorem int64_wrap (b : Nat) (h : b < 18446744073709551616) : IntKind.i64.wrap (b : Int) = Lex.int64 b := by
  rw [IntKind.wrap_i64]
  unfold Lex.int64
  split <;> omega
theorem parse_lt {l : List UInt8} {b : Nat} (h : Num.parse l = some b) : b < 18446744073709551616 := (Num.fmt_parse h).2.1

theorem tok_two {w w1 : World} (kk : Int) (i j : Nat) (hb : Below ((w.alloc (.cells #[.int .i64 0, .string ⟨#[]⟩, .int .i64 0, .int .i64 0, .int .i64 0, .int .i64 0] 207)).alloc (.cells #[.int .i64 kk, .string ⟨#[]⟩, .int .i64 0, .int .i64 i, .int .i64 j, .int .i64 0] 207)).heap.size ((w.alloc (.cells #[.int .i64 0, .string ⟨#[]⟩, .int .i64 0, .int .i64 0, .int .i64 0, .int .i64 0] 207)).alloc (.cells #[.int .i64 kk, .string ⟨#[]⟩, .int .i64 0, .int .i64 i, .int .i64 j, .int .i64 0] 207)) w1) :
    Blk w1 w.heap.size 207 #[.int .i64 0, .string ⟨#[]⟩, .int .i64 0, .int .i64 0, .int .i64 0, .int .i64 0] ∧ Blk w1 (w.heap.size + 1) 207 #[.int .i64 kk, .string ⟨#[]⟩, .int .i64 0, .int .i64 i, .int .i64 j, .int .i64 0] := by
  have h1 := (Blk.new w 207 #[.int .i64 0, .string ⟨#[]⟩, .int .i64 0, .int .i64 0, .int .i64 0, .int .i64 0]).alloc (.cells #[.int .i64 kk, .string ⟨#[]⟩, .int .i64 0, .int .i64 i, .int .i64 j, .int .i64 0] 207)
  have h2 := Blk.new (w.alloc (.cells #[.int .i64 0, .string ⟨#[]⟩, .int .i64 0, .int .i64 0, .int .i64 0, .int .i64 0] 207)) 207 #[.int .i64 kk, .string ⟨#[]⟩, .int .i64 0, .int .i64 i, .int .i64 j, .int .i64 0]
  rw [World.size_alloc] at h2
  exact ⟨h1.below hb h1.lt, h2.below hb h2.lt⟩

set_option maxHeartbeats 4000000 in
set_option maxRecDepth 100000 in
theorem num_any (s : ByteArray) (i : Nat) (w : World) (hs : s.size ≤ 1073741824) (hi : i < s.size) (hL : Laid w) :
    Calls Tryz.prog 201 #[.string s, .int .i64 i] w (TokRes (Lex.numTok ((s.data.toList.drop i).take (1 + Lex.run Lex.inNum (s.data.toList.drop (i + 1))))) i w) := by
  have hr := fun (W : World) => runNum_any s (i + 1) W hs hi
  have hl := Lex.run_le Lex.inNum (s.data.toList.drop (i + 1))
  rw [List.length_drop, ← Lib.size_eq] at hl
  obtain ⟨n, hn⟩ : ∃ n, Lex.run Lex.inNum (s.data.toList.drop (i + 1)) = n := ⟨_, rfl⟩
  rw [hn] at hr hl ⊢
  obtain ⟨z, hz⟩ : ∃ z, s.extract i (i + (1 + n)) = z := ⟨_, rfl⟩
  have hzl : z.data.toList = (s.data.toList.drop i).take (1 + n) := by rw [← hz, extract_take]
  have hzlen : z.data.toList.length = 1 + n := by rw [hzl, List.length_take, List.length_drop, ← Lib.size_eq]; omega
  rw [← hzl]
  obtain ⟨j, hj⟩ : ∃ j, i + (1 + n) = j := ⟨_, rfl⟩
  rw [hj] at hz
  rw [show i + 1 + n = j by omega, show ((i + 1 : Nat) : Int) = (i : Int) + 1 by omega] at hr
  have hjs : j ≤ s.size := by omega
  have hij : i ≤ j := by omega
  have ji : (j : Int) ≤ 1073741824 := by omega
  have ii : (i : Int) ≤ 1073741824 := by omega
  have hzs : z.size ≤ 1073741824 := by rw [Lib.size_eq, hzlen]; omega
  have hpf := fun (W : World) (hb : Below w.heap.size w W) => parseFloat_any z W hzs (hL.below hb)
  have hpi := fun (W : World) (hb : Below w.heap.size w W) => parseInt_any z W hzs (hL.below hb)
  have htr := fun (W : World) => (Tryz.strings_TrimPrefix z ⟨#[45]⟩ W).mono fun e w' (h : _ ∧ w' = W) => (⟨h.1, h.2.symm⟩ : _ ∧ W = w')
  have e45 : (⟨#[45]⟩ : ByteArray).data.toList = [45] := rfl
  rw [e45, numHead_trim] at htr
  obtain ⟨y, hy⟩ : ∃ y : ByteArray, (⟨(Lex.numHead z.data.toList).toArray⟩ : ByteArray) = y := ⟨_, rfl⟩
  have hhp := fun (W : World) => (Tryz.strings_HasPrefix y ⟨#[48, 120]⟩ W).mono fun e w' (h : _ ∧ w' = W) => (⟨h.1, h.2.symm⟩ : _ ∧ W = w')
  have e0x : (⟨#[48, 120]⟩ : ByteArray).data.toList = [48, 120] := rfl
  have hyd : y.data.toList = Lex.numHead z.data.toList := by rw [← hy]
  rw [e0x, hyd] at hhp
  rw [hy] at htr
  obtain ⟨v, hv⟩ : ∃ v, Lib.hasPrefix (Lex.numHead z.data.toList) [48, 120] = v := ⟨_, rfl⟩
  rw [hv] at hhp
  obtain ⟨zn, hzn⟩ : ∃ x, z.data.toList.length = x := ⟨_, rfl⟩
  have hzj : i + zn = j := by omega
  have hbase := fun (kk : Int) => (show Below w.heap.size w ((w.alloc (.cells #[.int .i64 0, .string ⟨#[]⟩, .int .i64 0, .int .i64 0, .int .i64 0, .int .i64 0] 207)).alloc (.cells #[.int .i64 kk, .string ⟨#[]⟩, .int .i64 0, .int .i64 i, .int .i64 j, .int .i64 0] 207)) from ((Below.refl _ _).alloc (Nat.le_refl _) _).alloc (by simp) _)
  have HR := Lib.hid hr
  have HPF := Lib.hid hpf
  have HPI := Lib.hid hpi
  have HTR := Lib.hid htr
  have HHP := Lib.hid hhp
  have HZJ := Lib.hid hzj
  have HBASE := Lib.hid hbase
  have hfl := fun (a b : Int) (W : World) => fail_any a b W
  have HFL := Lib.hid hfl
  clear hr hpf hpi htr hhp hy hyd e45 e0x hzlen hzl hj hn hL hzj hbase hl hfl
  cases v with
  | true =>
    have hnt : Lex.numTok z.data.toList = match Num.parse z.data.toList with | some b => .tok 3 [] (Lex.int64 b) z.data.toList.length | none => .err 0 52 := by
      unfold Lex.numTok
      rw [if_pos hv]
      cases Num.parse z.data.toList <;> rfl
    rw [hnt, hzn]
    clear hv hnt
    cases hp : Num.parse z.data.toList with
    | some b =>
      show Calls _ _ _ _ (TokRes (.tok 3 [] (Lex.int64 b) zn) i w)
      have hwr := int64_wrap b (parse_lt hp)
      have hcall := HPF.out
      rw [hp] at hcall
      have HC := Lib.hid hcall
      obtain ⟨q, hq⟩ : ∃ q, Lex.int64 b = q := ⟨_, rfl⟩
      rw [hq] at hwr ⊢
      have ht : tokV (.tok 3 [] q zn) i = .agg #[.int .i64 3, .string ⟨#[]⟩, .int .i64 q, .int .i64 i, .int .i64 j, .int .i64 0] := by
        simp only [tokV, HZJ.out]
        rfl
      have HT := Lib.hid ht
      clear hcall hp hq HPF HPI ht
      go_enter Tryz.func201, Tryz.ntmps201
      go_wp2_with fail
      refine (HR.out _).mono ?_
      rintro e w' ⟨rfl, rfl⟩
      go_wp2_with fail
      refine (HTR.out _).mono ?_
      rintro e w' ⟨rfl, rfl⟩
      go_wp2_with fail
      refine (HHP.out _).mono ?_
      rintro e w' ⟨rfl, rfl⟩
      go_wp2_with fail
      refine (HC.out _ (HBASE.out _)).mono ?_
      rintro e w1 ⟨rfl, hb⟩
      have hz : w.heap.size + 1 < w1.heap.size := by have := hb.size; simp at this; omega
      have HB := Lib.hid ((HBASE.out _).trans (hb.mono (HBASE.out _).size))
      have HK := Lib.hid (tok_two 0 i j hb).1
      have HT1 := Lib.hid (tok_two 0 i j hb).2
      obtain ⟨g0, g1, g2, g3, g4, g5, f0, f1, f2, f3, f4, f5⟩ := tok_cells HK.out
      obtain ⟨k0, k1, k2, k3, k4, k5, e0, e1, e2, e3, e4, e5⟩ := tok_cells HT1.out
      clear hb
      go_wp2
      exact ret_store Tryz.results201 rfl ((((HK.out.far (by simp) _).far (by simp) _).far (by simp) _)) (((HB.out.setCell (by simp) _).setCell (by simp) _).setCell (by simp) _) HT.out
    | none =>
      show Calls _ _ _ _ (TokRes (.err 0 52) i w)
      have hcall := HPF.out
      rw [hp] at hcall
      have HC := Lib.hid hcall
      have ht : tokV (.err 0 52) i = .agg #[.int .i64 0, .string ⟨#[]⟩, .int .i64 0, .int .i64 i, .int .i64 0, .int .i64 52] := by
        simp only [tokV, Nat.add_zero]
        rfl
      have HT := Lib.hid ht
      clear hcall hp HPF HPI ht
      go_enter Tryz.func201, Tryz.ntmps201
      go_wp2_with fail
      refine (HR.out _).mono ?_
      rintro e w' ⟨rfl, rfl⟩
      go_wp2_with fail
      refine (HTR.out _).mono ?_
      rintro e w' ⟨rfl, rfl⟩
      go_wp2_with fail
      refine (HHP.out _).mono ?_
      rintro e w' ⟨rfl, rfl⟩
      go_wp2_with fail
      refine (HC.out _ (HBASE.out _)).mono ?_
      rintro e w1 ⟨rfl, hb⟩
      have hz : w.heap.size + 1 < w1.heap.size := by have := hb.size; simp at this; omega
      have HB := Lib.hid ((HBASE.out _).trans (hb.mono (HBASE.out _).size))
      have HK := Lib.hid (tok_two 0 i j hb).1
      have HT1 := Lib.hid (tok_two 0 i j hb).2
      obtain ⟨g0, g1, g2, g3, g4, g5, f0, f1, f2, f3, f4, f5⟩ := tok_cells HK.out
      obtain ⟨k0, k1, k2, k3, k4, k5, e0, e1, e2, e3, e4, e5⟩ := tok_cells HT1.out
      clear hb
      go_wp2_with fail
      refine (HFL.out _ _ _).mono ?_
      rintro e w2 ⟨rfl, hb2⟩
      have hz2 : w.heap.size + 1 < w2.heap.size := by have := hb2.size; simp at this; omega
      have HK2 := Lib.hid (Blk.below (((HK.out.far (by simp) _).far (by simp) _).far (by simp) _) hb2 (by simp; omega))
      clear g0 g1 g2 g3 g4 g5 f0 f1 f2 f3 f4 f5 k0 k1 k2 k3 k4 k5 e0 e1 e2 e3 e4 e5
      obtain ⟨g0, g1, g2, g3, g4, g5, f0, f1, f2, f3, f4, f5⟩ := tok_cells HK2.out
      have HB2 := Lib.hid (Below.trans (((HB.out.setCell (by simp) _).setCell (by simp) _).setCell (by simp) _) (hb2.mono (by simp; omega)))
      clear hb2
      go_wp2
      exact ret_store Tryz.results201 rfl HK2.out HB2.out HT.out
  | false =>
    have hnt : Lex.numTok z.data.toList = if (Num.parseInt z.data.toList).2 = 0 then .tok 2 [] (Num.parseInt z.data.toList).1 z.data.toList.length else .err 0 (Num.parseInt z.data.toList).2 := by
      unfold Lex.numTok
      rw [if_neg (by rw [hv]; decide)]
    rw [hnt, hzn]
    clear hv hnt
    obtain ⟨x, hx⟩ : ∃ x, Num.parseInt z.data.toList = x := ⟨_, rfl⟩
    have hcall := HPI.out
    rw [hx] at hcall ⊢
    obtain ⟨q, k⟩ := x
    have HC := Lib.hid hcall
    by_cases hk : k = 0
    · subst hk
      rw [if_pos rfl]
      have ht : tokV (.tok 2 [] q zn) i = .agg #[.int .i64 2, .string ⟨#[]⟩, .int .i64 q, .int .i64 i, .int .i64 j, .int .i64 0] := by
        simp only [tokV, HZJ.out]
        rfl
      have HT := Lib.hid ht
      clear hcall hx HPF HPI ht
      go_enter Tryz.func201, Tryz.ntmps201
      go_wp2_with fail
      refine (HR.out _).mono ?_
      rintro e w' ⟨rfl, rfl⟩
      go_wp2_with fail
      refine (HTR.out _).mono ?_
      rintro e w' ⟨rfl, rfl⟩
      go_wp2_with fail
      refine (HHP.out _).mono ?_
      rintro e w' ⟨rfl, rfl⟩
      go_wp2_with fail
      refine (HC.out _ (HBASE.out _)).mono ?_
      rintro e w1 ⟨rfl, hb⟩
      have hz : w.heap.size + 1 < w1.heap.size := by have := hb.size; simp at this; omega
      have HB := Lib.hid ((HBASE.out _).trans (hb.mono (HBASE.out _).size))
      have HK := Lib.hid (tok_two 2 i j hb).1
      have HT1 := Lib.hid (tok_two 2 i j hb).2
      obtain ⟨g0, g1, g2, g3, g4, g5, f0, f1, f2, f3, f4, f5⟩ := tok_cells HK.out
      obtain ⟨k0, k1, k2, k3, k4, k5, e0, e1, e2, e3, e4, e5⟩ := tok_cells HT1.out
      clear hb
      go_wp2
      exact ret_store Tryz.results201 rfl (((HK.out.far (by simp) _).far (by simp) _)) ((HB.out.setCell (by simp) _).setCell (by simp) _) HT.out
    · rw [if_neg hk]
      have ht : tokV (.err 0 k) i = .agg #[.int .i64 0, .string ⟨#[]⟩, .int .i64 0, .int .i64 i, .int .i64 0, .int .i64 k] := by
        simp only [tokV, Nat.add_zero]
      have HT := Lib.hid ht
      have hk1 : ((k : Int) != 0) = true := by rw [bne_iff_ne]; omega
      clear hcall hx HPF HPI ht
      go_enter Tryz.func201, Tryz.ntmps201
      go_wp2_with fail
      refine (HR.out _).mono ?_
      rintro e w' ⟨rfl, rfl⟩
      go_wp2_with fail
      refine (HTR.out _).mono ?_
      rintro e w' ⟨rfl, rfl⟩
      go_wp2_with fail
      refine (HHP.out _).mono ?_
      rintro e w' ⟨rfl, rfl⟩
      go_wp2_with fail
      refine (HC.out _ (HBASE.out _)).mono ?_
      rintro e w1 ⟨rfl, hb⟩
      have hz : w.heap.size + 1 < w1.heap.size := by have := hb.size; simp at this; omega
      have HB := Lib.hid ((HBASE.out _).trans (hb.mono (HBASE.out _).size))
      have HK := Lib.hid (tok_two 2 i j hb).1
      have HT1 := Lib.hid (tok_two 2 i j hb).2
      obtain ⟨g0, g1, g2, g3, g4, g5, f0, f1, f2, f3, f4, f5⟩ := tok_cells HK.out
      obtain ⟨k0, k1, k2, k3, k4, k5, e0, e1, e2, e3, e4, e5⟩ := tok_cells HT1.out
      clear hb
      go_wp2_with fail
      refine (HFL.out _ _ _).mono ?_
      rintro e w2 ⟨rfl, hb2⟩
      have hz2 : w.heap.size + 1 < w2.heap.size := by have := hb2.size; simp at this; omega
      have HK2 := Lib.hid (Blk.below ((HK.out.far (by simp) _).far (by simp) _) hb2 (by simp; omega))
      clear g0 g1 g2 g3 g4 g5 f0 f1 f2 f3 f4 f5 k0 k1 k2 k3 k4 k5 e0 e1 e2 e3 e4 e5
      obtain ⟨g0, g1, g2, g3, g4, g5, f0, f1, f2, f3, f4, f5⟩ := tok_cells HK2.out
      have HB2 := Lib.hid (Below.trans ((HB.out.setCell (by simp) _).setCell (by simp) _) (hb2.mono (by simp; omega)))
      clear hb2
      go_wp2
      exact ret_store Tryz.results201 rfl HK2.out HB2.out HT.out
end Go.Proofs.YtoofbflplhbpbaaGreatDoor
