/- Layer 21 (csv): Rows, its iterator's contract. -/
import Derived.Test.YtjkbaihcdjbjiaaDoorCsvRow
import Derived.Test.YtjkbaihcdjbjiaaDoorRange
namespace Go.Proofs.YtjkbaihcdjbjiaaDoor
open Go.RowKit
attribute [local go_sem] Oper.semAt_some

/-- what the iterator hands over: a row's slice value and its fields; or no row and the error's number -/
structure Yld where
  v : Value
  fs : List Csv.F
  e : Nat
def Yld.enc (x : Yld) : Array Value := #[x.v, .int .i64 x.e]
def Yld.Pre (x : Yld) (W0 W : World) : Prop := if x.e = 0 then W.ownsRow W0.heap.size 9 1 x.v x.fs.length (x.fs.map S) else x.v = .slice none 0 0 ∧ x.fs = []
def Yld.Step (l : Csv.F) (pre : List Yld) (x : Yld) : Prop :=
  (∀ y ∈ pre, y.e = 0) ∧ pre.length ≤ (Csv.rowsOf l).1.length ∧ pre.map (·.fs) = (Csv.rowsOf l).1.take pre.length ∧
    (if x.e = 0 then (Csv.rowsOf l).1[pre.length]? = some x.fs else pre.length = (Csv.rowsOf l).1.length ∧ (Csv.rowsOf l).2 = x.e)
def Yld.End (l : Csv.F) (pre : List Yld) : Prop :=
  ((Csv.rowsOf l).2 = 0 ∧ (∀ y ∈ pre, y.e = 0) ∧ pre.map (·.fs) = (Csv.rowsOf l).1) ∨
  (∃ q x, pre = q ++ [x] ∧ x.e ≠ 0 ∧ (Csv.rowsOf l).2 = x.e ∧ (∀ y ∈ q, y.e = 0) ∧ q.map (·.fs) = (Csv.rowsOf l).1)

set_option maxHeartbeats 8000000 in
set_option maxRecDepth 100000 in
theorem rows_iter (s : ByteArray) (hs : s.size ≤ 16777216) (n₁ Bt : Nat) (hBt : Bt < n₁) (W1 : World) (hn : n₁ ≤ W1.heap.size) (hc : W1.cell? ⟨Bt, 0, none⟩ = some (.string s)) :
    IterOK Tryd.prog 57 n₁ 25 #[.pointer (some ⟨Bt, 0, none⟩)] Yld.enc Yld.Pre (Yld.Step s.data.toList) (Yld.End s.data.toList) (fun W => W.cell? ⟨Bt, 0, none⟩ = some (.string s)) W1 := by
  intro l J Fin hAux hJ hY hEnd h0
  refine callsIn_wide.2 ?_
  have HX := Lib.hid hAux
  clear hAux
  have HJ := Lib.hid hJ
  have HY := Lib.hid hY
  have HE := Lib.hid hEnd
  clear hJ hY hEnd
  go_enter Tryd.func25, Tryd.ntmps25
  go_wp2
  have hblk0 : Blk (W1.alloc (.cells #[.string s, .int .i64 0] 57)) W1.heap.size 57 #[.string s, .int .i64 ((0 : Nat) : Int)] := Blk.new _ _ _
  have hJ0 : J [] (W1.alloc (.cells #[.string s, .int .i64 0] 57)) := HJ.out _ _ _ h0 (.of_below ((Below.refl _ _).alloc (Nat.le_refl _) _))
  have hc0 : (W1.alloc (.cells #[.string s, .int .i64 0] 57)).cell? ⟨Bt, 0, none⟩ = some (.string s) := (World.cell?_alloc_lt W1 _ ⟨Bt, 0, none⟩ (by simp; omega)).trans hc
  have HB0 := Lib.hid hblk0
  have HC0 := Lib.hid hc0
  have HJ0 := Lib.hid hJ0
  clear hblk0 hJ0 hc0 h0
  go_loopg [4] s.size (fun g _ wr => ∃ (at' : Nat) (pre : List Yld), at' ≤ s.size ∧ s.size - at' ≤ g ∧ J pre wr ∧ Blk wr W1.heap.size 57 #[.string s, .int .i64 at'] ∧ wr.cell? ⟨Bt, 0, none⟩ = some (.string s) ∧
    (∀ y ∈ pre, y.e = 0) ∧ Csv.rowsOf s.data.toList = Csv.rowsA (g + 1) (pre.map (·.fs)) (s.data.toList.drop at') ∧ W1.heap.size ≤ wr.heap.size)
  case atStart => exact ⟨0, [], by omega, by omega, HJ0.out, HB0.out, HC0.out, by simp, by rw [List.drop_zero]; unfold Csv.rowsOf; rw [← Lib.size_eq]; rfl, by simp⟩
  case round =>
    obtain ⟨at', pre, hle, hgk, hj, hblk, hcb, hpre, hro, hsz⟩ := hrel
    have h0 := hblk.cell 0
    have h1 := hblk.cell 1
    simp at h0 h1
    have HK := Lib.hid hblk
    have HJR := Lib.hid hj
    have HR := Lib.hid hro
    have HP := Lib.hid hpre
    clear hblk hj hro hpre hc
    by_cases hlt : at' < s.size
    · have hd : decide ((at' : Int) < s.size) = true := by simp; omega
      go_wp2
      go_quiet (fail)
      have HCB : Hid ((wr.drewN nq).cell? ⟨Bt, 0, none⟩ = some (.string s)) := hcb
      have HK' : Hid (Blk (wr.drewN nq) W1.heap.size 57 #[.string s, .int .i64 at']) := HK.out
      have HJ' : Hid (J pre (wr.drewN nq)) := HJ.out _ _ _ HJR.out ((Same1.refl _ _ _).drewN nq)
      have hsz' : W1.heap.size ≤ (wr.drewN nq).heap.size := hsz
      clear hcb h0 h1 HK HJR hsz
      generalize wr.drewN nq = W0 at *
      go_wp2_with fail
      refine (row_any W1.heap.size s at' _ HK'.out hle hs).mono ?_
      rintro e W hres
      obtain ⟨hgr, hres⟩ := hres
      have HD : Hid ((s.data.toList.drop at').length = s.size - at') := by rw [List.length_drop, ← Lib.size_eq]; exact rfl
      obtain ⟨res, hres'⟩ : ∃ res, Csv.rowA (s.size - at' + 1) [] (s.data.toList.drop at') = res := ⟨_, rfl⟩
      rw [hres'] at hres
      have HA := Lib.hid hres'
      clear hres'
      obtain ⟨code, fs, r⟩ := res
      cases code with
      | zero =>
        obtain ⟨v, at2, rfl, hown, hat2, hdr2, hblk2⟩ := hres
        have HO := Lib.hid hown
        have HB2 := Lib.hid hblk2
        have HD2 := Lib.hid hdr2
        have HG := Lib.hid hgr
        have hne : s.data.toList.drop at' ≠ [] := fun e => by have := HD.out; rw [e] at this; simp at this; omega
        have hrow : Csv.rowsOf s.data.toList = Csv.rowsA gk (pre.map (·.fs) ++ [fs]) r := by
          rw [HR.out, Csv.rowsA_some hne (by rw [HD.out]; exact HA.out)]
        have hpx : pre.map (·.fs) ++ [fs] <+: (Csv.rowsOf s.data.toList).1 := by rw [hrow]; exact Csv.rowsA_prefix _ _ _
        have hstep : Yld.Step s.data.toList pre ⟨v, fs, 0⟩ := by
          have h5 := Csv.take_of_prefix ((List.prefix_append _ _).trans hpx)
          have h6 := Csv.get_of_prefix hpx
          have h7 := hpx.length_le
          simp only [List.length_map, List.length_append] at h5 h6 h7
          exact ⟨HP.out, by omega, h5.symm, by rw [if_pos rfl]; exact h6⟩
        have hsame : Same1 57 W1.heap.size W0 W := .of_grown HG.out HK'.out (Nat.le_refl _)
        obtain ⟨fn, tmps, assign, body, hy, hR⟩ := HY.out pre ⟨v, fs, 0⟩ W0 W HJ'.out hsame (by show (if 0 = 0 then _ else _); rw [if_pos rfl]; exact HO.out) hstep
        have hy' : (Instr.yield l #[v, .int .i64 0]).run Tryd.prog W = .ok (.round l fn tmps assign body) W := hy
        have HRD := Lib.hid hR
        have HROW := Lib.hid hrow
        clear hown hblk2 hdr2 hgr hne hrow hpx hstep hsame hR hy
        go_upto_region 3 with (fail)
        refine (wpIn_wide (n := 8)).1 ?_
        gi_wp2
        refine HRD.out.mono ?_
        rintro e W' (⟨rfl, hj, hk⟩ | ⟨rfl, hf⟩)
        · have hdec : r.length < (s.data.toList.drop at').length := by
            rcases (Csv.read_row (s.size - at' + 1) (s.data.toList.drop at') [] [] (by rw [HD.out]; omega) (.inr (fun e => by have := HD.out; rw [e] at this; simp at this; omega))).2 (by rw [HA.out]) with h5 | ⟨h5, _⟩
            · rw [HA.out] at h5; exact h5
            · have := HD.out; rw [h5] at this; simp at this; omega
          have hlr : r.length = s.size - at2 := by rw [← HD2.out, List.length_drop, ← Lib.size_eq]
          have hdl := HD.out
          rw [hdl, hlr] at hdec
          have hgz : ∃ g, gk = g + 1 := ⟨gk - 1, by omega⟩
          have HDEC := Lib.hid hdec
          clear hlr hdl hdec
          gi_wp2
          go_wp2
          obtain ⟨g, rfl⟩ := hgz
          go_roundg g
          case measure => omega
          case rel =>
            refine ⟨at2, pre ++ [⟨v, fs, 0⟩], hat2, by have := HDEC.out; omega, hj, hk.blk HB2.out, HX.out _ _ hj, ?_, ?_, ?_⟩
            · intro y hy
              rcases List.mem_append.1 hy with h | h
              · exact HP.out y h
              · rw [List.mem_singleton.1 h]
            · rw [HROW.out, HD2.out]; simp
            · exact Nat.le_trans (Nat.le_trans hsz' HG.out.size) hk.size
        · gi_wp2
          go_wp2
          refine bodyPost_ret (results_none rfl _ _ _) rfl ?_
          exact ⟨⟨_, rfl⟩, hf⟩
      | succ k =>
        obtain rfl := hres
        have HG := Lib.hid hgr
        clear hgr
        have hne : s.data.toList.drop at' ≠ [] := fun e => by have := HD.out; rw [e] at this; simp at this; omega
        have hrow : Csv.rowsOf s.data.toList = (pre.map (·.fs), k + 1) := by
          rw [HR.out, Csv.rowsA_err hne (by rw [HD.out]; exact HA.out)]
        have hlen : (Csv.rowsOf s.data.toList).1.length = pre.length := by rw [hrow]; simp
        have hstep : Yld.Step s.data.toList pre ⟨.slice none 0 0, [], k + 1⟩ := by
          refine ⟨HP.out, by omega, ?_, ?_⟩
          · rw [← hlen, List.take_length, hrow]
          · rw [if_neg (by simp)]
            exact ⟨hlen.symm, by rw [hrow]⟩
        have hend : Yld.End s.data.toList (pre ++ [⟨.slice none 0 0, [], k + 1⟩]) :=
          .inr ⟨pre, _, rfl, by simp, by rw [hrow], HP.out, by rw [hrow]⟩
        have hsame : Same1 57 W1.heap.size W0 W := .of_grown HG.out HK'.out (Nat.le_refl _)
        obtain ⟨fn, tmps, assign, body, hy, hR⟩ := HY.out pre ⟨.slice none 0 0, [], k + 1⟩ W0 W HJ'.out hsame (by show (if k + 1 = 0 then _ else _); rw [if_neg (by omega)]; exact ⟨rfl, rfl⟩) hstep
        have hy' : (Instr.yield l #[.slice none 0 0, .int .i64 ((k : Int) + 1)]).run Tryd.prog W = .ok (.round l fn tmps assign body) W := by
          have e : ((k + 1 : Nat) : Int) = (k : Int) + 1 := by omega
          have := hy
          simp only [Yld.enc, e] at this
          exact this
        have HRD := Lib.hid hR
        have HEND := Lib.hid hend
        have hk1 : (((k : Int) + 1) != 0) = true := by rw [bne_iff_ne]; omega
        clear hne hrow hlen hstep hsame hR hy hend
        go_upto_region 3 with (fail)
        refine (wpIn_wide (n := 8)).1 ?_
        gi_wp2
        refine HRD.out.mono ?_
        rintro e W' (⟨rfl, hj, hk⟩ | ⟨rfl, hf⟩)
        · gi_wp2
          go_wp2
          refine bodyPost_ret (results_none rfl _ _ _) rfl ?_
          exact ⟨⟨_, rfl⟩, HE.out _ _ hj HEND.out⟩
        · gi_wp2
          go_wp2
          refine bodyPost_ret (results_none rfl _ _ _) rfl ?_
          exact ⟨⟨_, rfl⟩, hf⟩
    · have hd : decide ((at' : Int) < s.size) = false := by simp; omega
      have hend : Yld.End s.data.toList pre := by
        have e : s.data.toList.drop at' = [] := List.drop_of_length_le (by have := Lib.size_eq s; omega)
        have h5 : Csv.rowsOf s.data.toList = (pre.map (·.fs), 0) := by
          rw [HR.out, e, Csv.rowsA, if_pos rfl]
        exact .inl ⟨by rw [h5], HP.out, by rw [h5]⟩
      have HEND := Lib.hid hend
      clear hend
      go_wp2
      go_quiet (fail)
      go_wp2
      go_end0
      exact ⟨⟨_, rfl⟩, HE.out _ _ (HJ.out _ _ _ HJR.out ((Same1.refl _ _ _).drewN nq)) HEND.out⟩
end Go.Proofs.YtjkbaihcdjbjiaaDoor
