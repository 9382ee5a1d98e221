/- Layer 24 (lexer): Scan, its iterator's contract. -/
import Derived.Test.YthnaiiejjdmnaaaDoorLexNext
import Derived.Test.YthnaiiejjdmnaaaDoorRange
namespace Go.Proofs.YthnaiiejjdmnaaaDoor
open Go.RowKit
attribute [local go_sem] Oper.semAt_some

/-- a token, as the caller has it -/
def tokA (t : Lex.Tok) : Value := .agg #[.int .i64 (t.kind : Int), .string ⟨t.text.toArray⟩, .int .i64 t.num, .int .i64 (t.pos : Int)]
abbrev LY := Lex.Tok × Nat
def lyEnc (x : LY) : Array Value := #[tokA x.1, .int .i64 (x.2 : Int)]
namespace Lex
/-- what is handed over: the tokens, each with no error; then the error with its place -/
def items (x : List Tok × Option (Nat × Nat)) : List LY :=
  x.1.map (fun t => (t, 0)) ++ match x.2 with
    | none => []
    | some (p, e) => [(⟨0, [], 0, p⟩, e)]
theorem items_nil : items ([], none) = [] := rfl
theorem items_err (p e : Nat) : items ([], some (p, e)) = [(⟨0, [], 0, p⟩, e)] := rfl
theorem items_cons (t : Tok) (x : List Tok × Option (Nat × Nat)) : items (t :: x.1, x.2) = (t, 0) :: items x := rfl
end Lex
def LStep (l : List UInt8) (pre : List LY) (x : LY) : Prop := pre ++ [x] <+: Lex.items (Lex.read l)
def LEnd (l : List UInt8) (pre : List LY) : Prop := pre = Lex.items (Lex.read l)

set_option maxHeartbeats 8000000 in
set_option maxRecDepth 100000 in
theorem scan_iter (s : ByteArray) (hs : s.size ≤ 1073741823) (n₁ Bt : Nat) (hBt : Bt < n₁) (W1 : World) (hn : n₁ ≤ W1.heap.size) :
    IterOK Tryd.prog 40 n₁ 14 #[.pointer (some ⟨Bt, 0, none⟩)] lyEnc (fun _ _ _ => True) (LStep s.data.toList) (LEnd s.data.toList) (fun W => W.cell? ⟨Bt, 0, none⟩ = some (.string s) ∧ Laid W) W1 := by
  intro l J Fin hAux hJ hY hEnd h0
  refine callsIn_wide.2 ?_
  have HX := Lib.hid hAux
  have HJ := Lib.hid hJ
  have HY := Lib.hid hY
  have HE := Lib.hid hEnd
  have hc := (hAux _ _ h0).1
  have HJ0 := Lib.hid h0
  clear hJ hY hEnd hAux h0
  by_cases hbig : 16777216 < s.size
  · have hd : decide (16777216 < s.size) = true := decide_eq_true hbig
    have hd' : decide ((16777216 : Int) < s.size) = true := decide_eq_true (by omega)
    have hit : Lex.items (Lex.read s.data.toList) = [(⟨0, [], 0, 0⟩, 1)] := by
      unfold Lex.read
      rw [if_pos (by rw [← Lib.size_eq]; exact hbig)]
      rfl
    obtain ⟨fn, tmps, assign, body, hy, hR⟩ := HY.out [] (⟨0, [], 0, 0⟩, 1) W1 W1 HJ0.out (Same1.refl _ _ _) trivial (by unfold LStep; rw [hit]; exact List.prefix_refl _)
    have hy' : (Instr.yield l #[.agg #[.int .i64 0, .string ⟨#[]⟩, .int .i64 0, .int .i64 0], .int .i64 1]).run Tryd.prog W1 = .ok (.round l fn tmps assign body) W1 := hy
    have HRD := Lib.hid hR
    have HIT := Lib.hid hit
    clear hit hR hy
    go_enter Tryd.func14, Tryd.ntmps14
    go_upto_region 1 with (fail)
    refine (wpIn_wide (n := 8)).1 ?_
    gi_wp2
    refine HRD.out.mono ?_
    rintro e W' (⟨rfl, hj, hk⟩ | ⟨rfl, hf⟩)
    · gi_wp2
      go_wp2
      refine bodyPost_ret (results_none rfl _ _ _) rfl ?_
      exact ⟨⟨_, rfl⟩, HE.out _ _ hj HIT.out.symm⟩
    · gi_wp2
      go_wp2
      refine bodyPost_ret (results_none rfl _ _ _) rfl ?_
      exact ⟨⟨_, rfl⟩, hf⟩
  · have hd : decide (16777216 < s.size) = false := decide_eq_false hbig
    have hd' : decide ((16777216 : Int) < s.size) = false := decide_eq_false (by omega)
    have hsm : s.size ≤ 16777216 := by omega
    have hrd : Lex.read s.data.toList = Lex.scan (s.size + 1) (s.data.toList.drop (Lex.gap false s.data.toList)) (Lex.gap false s.data.toList) := by
      unfold Lex.read
      rw [if_neg (by rw [← Lib.size_eq]; exact hbig)]
      unfold Lex.body
      rw [← Lib.size_eq, Nat.zero_add]
    have hsk := fun (i : Nat) (hi : i ≤ s.size) (W : World) => skip_any s i W (by omega) hi
    have hgl := Lex.gap_le false s.data.toList
    rw [← Lib.size_eq] at hgl
    have hs0 := hsk 0 (by omega)
    rw [List.drop_zero, Nat.zero_add] at hs0
    obtain ⟨a0, ha0⟩ : ∃ a, Lex.gap false s.data.toList = a := ⟨_, rfl⟩
    rw [ha0] at hs0 hgl hrd
    have HS0 := Lib.hid (show ∀ W : World, Calls Tryd.prog 15 #[.string s, .int .i64 0] W fun e w' => e = .returned (.int .i64 (a0 : Int)) ∧ W = w' from hs0)
    have HSK := Lib.hid hsk
    have HRD0 := Lib.hid hrd
    clear hsk hs0 hrd ha0 hbig
    go_enter Tryd.func14, Tryd.ntmps14
    go_wp2_with fail
    refine (HS0.out _).mono ?_
    rintro e w' ⟨rfl, rfl⟩
    go_wp2_with fail
    go_loopg [3] s.size (fun g x wr => ∃ (k : Nat) (pre : List LY), x = .int .i64 k ∧ k ≤ s.size ∧ s.size - k ≤ g ∧ J pre wr ∧ Lex.items (Lex.read s.data.toList) = pre ++ Lex.items (Lex.scan (g + 1) (s.data.toList.drop k) k) ∧ W1.heap.size ≤ wr.heap.size)
    case atStart => exact ⟨a0, [], rfl, hgl, by omega, HJ0.out, by rw [HRD0.out]; rfl, Nat.le_refl _⟩
    case round =>
      obtain ⟨k, pre, rfl, hle, hgk, hj, hit, hsz⟩ := hrel
      obtain ⟨hcb, hlaid⟩ := HX.out _ _ hj
      have HJR := Lib.hid hj
      have HI := Lib.hid hit
      have HL := Lib.hid hlaid
      have hki : (k : Int) ≤ 16777216 := by omega
      clear hj hit hlaid hc
      by_cases hlt : k < s.size
      · have hlti : (k : Int) < s.size := by omega
        have t1 : decide (k < s.size) = true := decide_eq_true hlt
        have hnx := next_any s k wr hs hlt HL.out
        have hne : s.data.toList.drop k ≠ [] := by
          rw [drop_at' hlt]
          simp
        obtain ⟨R, hR⟩ : ∃ R, Lex.tok1 (s.data.toList.drop k) = R := ⟨_, rfl⟩
        rw [hR] at hnx
        obtain ⟨g, rfl⟩ : ∃ g, gk = g + 1 := ⟨gk - 1, by omega⟩
        have hu := undef_no
        cases R with
        | tok kd tx nm n =>
          have hbd := Lex.tok1_len hR
          rw [List.length_drop, ← Lib.size_eq] at hbd
          have hsc := Lex.scan_tok (k := g + 1) (i := k) hR rfl
          obtain ⟨m, hm⟩ : ∃ m, k + n = m := ⟨_, rfl⟩
          obtain ⟨K', hK'⟩ : ∃ K', m + Lex.gap false (s.data.toList.drop m) = K' := ⟨_, rfl⟩
          have hmle : m ≤ s.size := by omega
          have hKm : m ≤ K' := by omega
          have hKle : K' ≤ s.size := by
            have := Lex.gap_le false (s.data.toList.drop m)
            rw [List.length_drop, ← Lib.size_eq] at this
            omega
          have hit2 : Lex.items (Lex.read s.data.toList) = (pre ++ [(⟨kd, tx, nm, k⟩, 0)]) ++ Lex.items (Lex.scan (g + 1) (s.data.toList.drop K') K') := by
            rw [HI.out, hsc, Lex.items_cons, List.drop_drop, List.drop_drop, hm, show k + (n + Lex.gap false (s.data.toList.drop m)) = K' by omega, hK', List.append_assoc]
            rfl
          have hskm := HSK.out m hmle
          rw [hK'] at hskm
          have hnx' : Calls Tryd.prog 16 #[.string s, .int .i64 k] wr fun e w' => e = .returned (.agg #[.int .i64 (kd : Int), .string ⟨tx.toArray⟩, .int .i64 nm, .int .i64 (k : Int), .int .i64 (m : Int), .int .i64 0]) ∧ Below wr.heap.size wr w' := by
            rw [← hm]
            exact hnx
          have HNX := Lib.hid hnx'
          have HI2 := Lib.hid hit2
          have HSM := Lib.hid hskm
          have hm1 : k < m := by omega
          clear hnx hnx' hR hbd hsc hm hK' hit2 hskm hne
          go_wp2_with fail
          refine HNX.out.mono ?_
          rintro e w2 ⟨rfl, hb⟩
          have hbtl := cell_lt' hcb
          have hcb2 : w2.cell? ⟨Bt, 0, none⟩ = some (.string s) := (hb.cell hbtl).trans hcb
          have hz2 := hb.size
          have hsame := Lib.hid ((Same1.of_below (T := 40) (n₁ := W1.heap.size) hb).alloc (.cells #[.int .i64 kd, .string ⟨tx.toArray⟩, .int .i64 nm, .int .i64 k, .int .i64 m, .int .i64 0] 40))
          have hblk := Lib.hid (Blk.new w2 40 #[.int .i64 kd, .string ⟨tx.toArray⟩, .int .i64 nm, .int .i64 k, .int .i64 m, .int .i64 0])
          obtain ⟨fn, tmps, assign, body, hy, hR⟩ := HY.out pre (⟨kd, tx, nm, k⟩, 0) wr (w2.alloc (.cells #[.int .i64 kd, .string ⟨tx.toArray⟩, .int .i64 nm, .int .i64 k, .int .i64 m, .int .i64 0] 40)) HJR.out hsame.out trivial (by unfold LStep; rw [HI2.out]; exact List.prefix_append _ _)
          have hy' : (Instr.yield l #[.agg #[.int .i64 kd, .string ⟨tx.toArray⟩, .int .i64 nm, .int .i64 k], .int .i64 0]).run Tryd.prog (w2.alloc (.cells #[.int .i64 kd, .string ⟨tx.toArray⟩, .int .i64 nm, .int .i64 k, .int .i64 m, .int .i64 0] 40)) = .ok (.round l fn tmps assign body) (w2.alloc (.cells #[.int .i64 kd, .string ⟨tx.toArray⟩, .int .i64 nm, .int .i64 k, .int .i64 m, .int .i64 0] 40)) := hy
          have HRD := Lib.hid hR
          clear hy hR hb
          go_upto_region 5 with (fail)
          refine (wpIn_wide (n := 8)).1 ?_
          gi_wp2
          refine HRD.out.mono ?_
          rintro e W' (⟨rfl, hj, hk⟩ | ⟨rfl, hf⟩)
          · have hbk := hk.blk hblk.out
            obtain ⟨g0, g1, g2, g3, g4, g5, f0, f1, f2, f3, f4, f5⟩ := tok_cells hbk
            have hcw := (HX.out _ _ hj).1
            have HJW := Lib.hid hj
            have hzw := hk.size
            rw [World.size_alloc] at hzw
            clear hk hbk hj
            gi_wp2
            go_wp2_with fail
            refine (HSM.out _).mono ?_
            rintro e w3 ⟨rfl, rfl⟩
            go_wp2
            go_roundg g
            case measure => omega
            case rel => exact ⟨K', _, rfl, hKle, by omega, HJW.out, HI2.out, by omega⟩
          · gi_wp2
            go_wp2
            refine bodyPost_ret (results_none rfl _ _ _) rfl ?_
            exact ⟨⟨_, rfl⟩, hf⟩
        | err o e =>
          obtain ⟨he, ho⟩ := Lex.tok1_err hne hR
          have hsc := Lex.scan_err (k := g + 1) (i := k) hne hR
          obtain ⟨m, hm⟩ : ∃ m, k + o = m := ⟨_, rfl⟩
          have hit2 : Lex.items (Lex.read s.data.toList) = pre ++ [(⟨0, [], 0, m⟩, e)] := by
            rw [HI.out, hsc, hm]
            rfl
          have hnx' : Calls Tryd.prog 16 #[.string s, .int .i64 k] wr fun e' w' => e' = .returned (.agg #[.int .i64 0, .string ⟨#[]⟩, .int .i64 0, .int .i64 (m : Int), .int .i64 0, .int .i64 (e : Int)]) ∧ Below wr.heap.size wr w' := by
            rw [← hm]
            exact hnx
          have HNX := Lib.hid hnx'
          have HI2 := Lib.hid hit2
          have hen : ((e : Int) != 0) = true := by rw [bne_iff_ne]; omega
          clear hnx hnx' hR hsc hm hit2 hne ho
          go_wp2_with fail
          refine HNX.out.mono ?_
          rintro e' w2 ⟨rfl, hb⟩
          have hbtl := cell_lt' hcb
          have hcb2 : w2.cell? ⟨Bt, 0, none⟩ = some (.string s) := (hb.cell hbtl).trans hcb
          have hz2 := hb.size
          have hsame := Lib.hid ((Same1.of_below (T := 40) (n₁ := W1.heap.size) hb).alloc (.cells #[.int .i64 0, .string ⟨#[]⟩, .int .i64 0, .int .i64 m, .int .i64 0, .int .i64 e] 40))
          have hblk := Lib.hid (Blk.new w2 40 #[.int .i64 0, .string ⟨#[]⟩, .int .i64 0, .int .i64 m, .int .i64 0, .int .i64 e])
          obtain ⟨fn, tmps, assign, body, hy, hR⟩ := HY.out pre (⟨0, [], 0, m⟩, e) wr (w2.alloc (.cells #[.int .i64 0, .string ⟨#[]⟩, .int .i64 0, .int .i64 m, .int .i64 0, .int .i64 e] 40)) HJR.out hsame.out trivial (by unfold LStep; rw [HI2.out]; exact List.prefix_refl _)
          have hy' : (Instr.yield l #[.agg #[.int .i64 0, .string ⟨#[]⟩, .int .i64 0, .int .i64 m], .int .i64 e]).run Tryd.prog (w2.alloc (.cells #[.int .i64 0, .string ⟨#[]⟩, .int .i64 0, .int .i64 m, .int .i64 0, .int .i64 e] 40)) = .ok (.round l fn tmps assign body) (w2.alloc (.cells #[.int .i64 0, .string ⟨#[]⟩, .int .i64 0, .int .i64 m, .int .i64 0, .int .i64 e] 40)) := hy
          have HRD := Lib.hid hR
          clear hy hR hb
          go_upto_region 5 with (fail)
          refine (wpIn_wide (n := 8)).1 ?_
          gi_wp2
          refine HRD.out.mono ?_
          rintro e' W' (⟨rfl, hj, hk⟩ | ⟨rfl, hf⟩)
          · have hbk := hk.blk hblk.out
            obtain ⟨g0, g1, g2, g3, g4, g5, f0, f1, f2, f3, f4, f5⟩ := tok_cells hbk
            have HJW := Lib.hid hj
            clear hk hbk hj
            gi_wp2
            go_wp2
            refine bodyPost_ret (results_none rfl _ _ _) rfl ?_
            exact ⟨⟨_, rfl⟩, HE.out _ _ HJW.out HI2.out.symm⟩
          · gi_wp2
            go_wp2
            refine bodyPost_ret (results_none rfl _ _ _) rfl ?_
            exact ⟨⟨_, rfl⟩, hf⟩
      · have t1 : decide (k < s.size) = false := decide_eq_false hlt
        have hend : LEnd s.data.toList pre := by
          unfold LEnd
          rw [HI.out, drop_end' (by omega), Lex.scan_nil, Lex.items_nil, List.append_nil]
        have HEND := Lib.hid hend
        clear hend
        go_wp2
        go_end0
        exact ⟨⟨_, rfl⟩, HE.out _ _ HJR.out HEND.out⟩
end Go.Proofs.YthnaiiejjdmnaaaDoor
