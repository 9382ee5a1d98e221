/- Layer 24 (lexer): the tokens: fail, word, num, escape. -/
import Derived.Test.YtoofbflplhbpbaaGreatDoorLexRun
import Derived.Test.YtoofbflplhbpbaaGreatDoorNumLaws
import Derived.Test.YtoofbflplhbpbaaGreatDoorBuilder
import Derived.Deep.QuietTactic
import Derived.BigQuiet
namespace Go.Proofs.YtoofbflplhbpbaaGreatDoor
open Go.RowKit

/-- a token, with its end and its error, as the program has it -/
def tokV : Lex.Res → Nat → Value
  | .tok kd tx nm n, i => .agg #[.int .i64 (kd : Int), .string ⟨tx.toArray⟩, .int .i64 nm, .int .i64 (i : Int), .int .i64 ((i + n : Nat) : Int), .int .i64 0]
  | .err o e, i => .agg #[.int .i64 0, .string ⟨#[]⟩, .int .i64 0, .int .i64 ((i + o : Nat) : Int), .int .i64 0, .int .i64 (e : Int)]
def TokRes (r : Lex.Res) (i : Nat) (w : World) (e : Ending) (w' : World) : Prop := e = .returned (tokV r i) ∧ Below w.heap.size w w'

set_option maxHeartbeats 1000000 in
/-- a token is told out of its block -/
theorem ret_tok {fn : Func} {R : Ending → World → Prop} {tmps : Array Value} {W : World} {b : Nat} {v0 v1 v2 v3 v4 v5 : Value} (hfn : fn.results = #[.cell 4 207])
    (ht : tmps.getD 4 undef = .pointer (some ⟨b, 0, none⟩)) (hB : Blk W b 207 #[v0, v1, v2, v3, v4, v5]) (hR : R (.returned (.agg #[v0, v1, v2, v3, v4, v5])) W) :
    bodyPost Tryz.prog fn R .ret { tmps := tmps, defers := [] } W := by
  have c0 := hB.cell 0
  have c1 := hB.cell 1
  have c2 := hB.cell 2
  have c3 := hB.cell 3
  have c4 := hB.cell 4
  have c5 := hB.cell 5
  simp at c0 c1 c2 c3 c4 c5
  refine bodyPost_ret (v := .agg #[v0, v1, v2, v3, v4, v5]) ?_ rfl hR
  simp at ht
  simp [results, hfn, go_sem, ht, c0, c1, c2, c3, c4, c5]

theorem Blk.cast {W : World} {g : Nat} {T : TypeId} {cs cs' : Array Value} (h : Blk W g T cs) (e : cs = cs') : Blk W g T cs' := e ▸ h

set_option maxHeartbeats 1000000 in
theorem fail_any (i e0 : Int) (w : World) :
    Calls Tryz.prog 204 #[.int .i64 i, .int .i64 e0] w fun e w' => e = .returned (.agg #[.int .i64 0, .string ⟨#[]⟩, .int .i64 0, .int .i64 i, .int .i64 0, .int .i64 e0]) ∧ Below w.heap.size w w' := by
  go_enter Tryz.func204, Tryz.ntmps204
  go_wp2
  exact bodyPost_ret (v := .agg #[.int .i64 0, .string ⟨#[]⟩, .int .i64 0, .int .i64 i, .int .i64 0, .int .i64 e0]) (by simp [results, Tryz.results204, go_sem]) rfl ⟨rfl, (Below.refl _ _).alloc (Nat.le_refl _) _⟩

/-- the cells of a token's block -/
theorem tok_cells {W : World} {b : Nat} {v0 v1 v2 v3 v4 v5 : Value} (h : Blk W b 207 #[v0, v1, v2, v3, v4, v5]) :
    W.cell? ⟨b, 0, none⟩ = some v0 ∧ W.cell? ⟨b, 1, none⟩ = some v1 ∧ W.cell? ⟨b, 2, none⟩ = some v2 ∧ W.cell? ⟨b, 3, none⟩ = some v3 ∧ W.cell? ⟨b, 4, none⟩ = some v4 ∧ W.cell? ⟨b, 5, none⟩ = some v5 ∧
    W.frozen? ⟨b, 0, none⟩ = false ∧ W.frozen? ⟨b, 1, none⟩ = false ∧ W.frozen? ⟨b, 2, none⟩ = false ∧ W.frozen? ⟨b, 3, none⟩ = false ∧ W.frozen? ⟨b, 4, none⟩ = false ∧ W.frozen? ⟨b, 5, none⟩ = false :=
  ⟨h.cell 0, h.cell 1, h.cell 2, h.cell 3, h.cell 4, h.cell 5, h.frozen 0, h.frozen 1, h.frozen 2, h.frozen 3, h.frozen 4, h.frozen 5⟩
/-- a token is laid into the result's block, and told -/
theorem ret_store {fn : Func} {r : Lex.Res} {i : Nat} {w W : World} {tmps : Array Value} {u0 u1 u2 u3 u4 u5 v0 v1 v2 v3 v4 v5 : Value} (hfn : fn.results = #[.cell 4 207])
    (ht : tmps.getD 4 undef = .pointer (some ⟨w.heap.size, 0, none⟩)) (hB : Blk W w.heap.size 207 #[u0, u1, u2, u3, u4, u5]) (hb : Below w.heap.size w W) (hv : tokV r i = .agg #[v0, v1, v2, v3, v4, v5]) :
    bodyPost Tryz.prog fn (TokRes r i w) .ret { tmps := tmps, defers := [] } ((((((W.setCell ⟨w.heap.size, 0, none⟩ v0).setCell ⟨w.heap.size, 1, none⟩ v1).setCell ⟨w.heap.size, 2, none⟩ v2).setCell ⟨w.heap.size, 3, none⟩ v3).setCell ⟨w.heap.size, 4, none⟩ v4).setCell ⟨w.heap.size, 5, none⟩ v5) := by
  have hb0 : Below w.heap.size w (W.setCell ⟨w.heap.size, 0, none⟩ v0) := hb.setCell (Nat.le_refl _) _
  have hb1 := hb0.setCell (p := ⟨w.heap.size, 1, none⟩) (Nat.le_refl _) v1
  have hb2 := hb1.setCell (p := ⟨w.heap.size, 2, none⟩) (Nat.le_refl _) v2
  have hb3 := hb2.setCell (p := ⟨w.heap.size, 3, none⟩) (Nat.le_refl _) v3
  have hb4 := hb3.setCell (p := ⟨w.heap.size, 4, none⟩) (Nat.le_refl _) v4
  have hb5 := hb4.setCell (p := ⟨w.heap.size, 5, none⟩) (Nat.le_refl _) v5
  refine ret_tok (b := w.heap.size) (v0 := v0) (v1 := v1) (v2 := v2) (v3 := v3) (v4 := v4) (v5 := v5) hfn ht ?_ ⟨by rw [hv], hb5⟩
  exact Blk.cast ((((((hB.set_ 0 v0).set_ 1 v1).set_ 2 v2).set_ 3 v3).set_ 4 v4).set_ 5 v5) (by simp)
theorem extract_take (s : ByteArray) (i n : Nat) : (s.extract i (i + n)).data.toList = (s.data.toList.drop i).take n := by
  rw [Lib.extract_data, Nat.add_sub_cancel_left]
set_option maxHeartbeats 1000000 in
theorem word_any (s : ByteArray) (i : Nat) (w : World) (hs : s.size ≤ 1073741824) (hi : i ≤ s.size) :
    Calls Tryz.prog 199 #[.string s, .int .i64 i] w (TokRes (.tok 1 ((s.data.toList.drop i).take (Lex.run Lex.inWord (s.data.toList.drop i))) 0 (Lex.run Lex.inWord (s.data.toList.drop i))) i w) := by
  have hr := fun (W : World) => runWord_any s i W hs hi
  have hl := Lex.run_le Lex.inWord (s.data.toList.drop i)
  rw [List.length_drop, ← Lib.size_eq] at hl
  obtain ⟨n, hn⟩ : ∃ n, Lex.run Lex.inWord (s.data.toList.drop i) = n := ⟨_, rfl⟩
  rw [hn] at hr hl ⊢
  obtain ⟨z, hz⟩ : ∃ z, s.extract i (i + n) = z := ⟨_, rfl⟩
  have hzl : (⟨((s.data.toList.drop i).take n).toArray⟩ : ByteArray) = z := by rw [← hz, ← extract_take]
  obtain ⟨j, hj⟩ : ∃ j, i + n = j := ⟨_, rfl⟩
  rw [hj] at hr hz
  have htok : tokV (.tok 1 ((s.data.toList.drop i).take n) 0 n) i = .agg #[.int .i64 1, .string z, .int .i64 0, .int .i64 i, .int .i64 j, .int .i64 0] := by
    simp only [tokV]
    rw [hzl, hj]
    rfl
  have HT := Lib.hid htok
  have hjs : j ≤ s.size := by omega
  have hij : i ≤ j := by omega
  have ji : (j : Int) ≤ 1073741824 := by omega
  have HR := Lib.hid hr
  clear hr hj hn hl hzl htok
  go_enter Tryz.func199, Tryz.ntmps199
  go_wp2_with fail
  refine (HR.out _).mono ?_
  rintro e w' ⟨rfl, rfl⟩
  go_wp2
  exact bodyPost_ret (v := .agg #[.int .i64 1, .string z, .int .i64 0, .int .i64 i, .int .i64 j, .int .i64 0]) (by simp [results, Tryz.results199, go_sem]) rfl ⟨by rw [HT.out], (Below.refl _ _).alloc (Nat.le_refl _) _⟩
end Go.Proofs.YtoofbflplhbpbaaGreatDoor
