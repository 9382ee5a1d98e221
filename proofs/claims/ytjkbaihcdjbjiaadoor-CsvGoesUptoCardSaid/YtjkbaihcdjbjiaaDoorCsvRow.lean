/- Layer 21 (csv): a row. -/
import Derived.Test.YtjkbaihcdjbjiaaDoorCsvQuoted
namespace Go.Proofs.YtjkbaihcdjbjiaaDoor
open Go.RowKit

/-- a text as a value -/
def S (l : List UInt8) : Value := .string ⟨l.toArray⟩

theorem info_string : (Tryd.prog.info? 9).map (fun i => (i.zero, i.size, i.bytes)) = some (some (.string ⟨#[]⟩), 1, 16) := by kernel_rfl

/-- how a row's reading ends -/
def RowRes (s : ByteArray) (b : Nat) (w : World) (res : Nat × List Csv.F × Csv.F) (e : Ending) (w' : World) : Prop :=
  w.grownBy w' (some b) ∧
  match res with
  | (0, fs, r) => ∃ (v : Value) (at' : Nat), e = .returned (.tuple #[v, .int .i64 0]) ∧ w'.ownsRow w.heap.size 9 1 v fs.length (fs.map S) ∧ at' ≤ s.size ∧ s.data.toList.drop at' = r ∧ Blk w' b 57 #[.string s, .int .i64 at']
  | (k + 1, _, _) => e = .returned (.tuple #[.slice none 0 0, .int .i64 ((k : Int) + 1)])

set_option maxHeartbeats 8000000 in
set_option maxRecDepth 100000 in
theorem row_any (b : Nat) (s : ByteArray) (at_ : Nat) (w : World) (hb : Blk w b 57 #[.string s, .int .i64 at_]) (hat : at_ ≤ s.size) (hs : s.size ≤ 16777216) :
    Calls Tryd.prog 26 #[.pointer (some ⟨b, 0, none⟩)] w (RowRes s b w (Csv.rowA (s.size - at_ + 1) [] (s.data.toList.drop at_))) := by
  obtain ⟨i0, hi, hz0, hz1, hz2⟩ := info_parts info_string
  have hblt := hb.lt
  have HB := Lib.hid hb
  clear hb
  go_enter Tryd.func26, Tryd.ntmps26
  go_wp2
  go_loopg [2, 3] (s.size - at_) (fun g v e wx => ∃ (at' : Nat) (acc : List Csv.F), at' ≤ s.size ∧ s.size - at' ≤ g ∧ acc.length ≤ at' ∧ e = .int .i64 0 ∧ w.grownBy wx (some b) ∧ Blk wx b 57 #[.string s, .int .i64 at'] ∧
    wx.ownsRow w.heap.size 9 1 v acc.length (acc.map S) ∧ Csv.rowA (s.size - at_ + 1) [] (s.data.toList.drop at_) = Csv.rowA (g + 1) acc (s.data.toList.drop at'))
  case atStart => exact ⟨at_, [], by omega, by omega, by simp, rfl, only_refl w _, HB.out, World.ownsRow_nil _ _ _ _, rfl⟩
  case round =>
    obtain ⟨at', acc, hle, hgk, hacc, rfl, hg, hblk, hown, hrow⟩ := hrel
    have h0 := hblk.cell 0
    have h1 := hblk.cell 1
    have f1 := hblk.frozen 1
    simp at h0 h1
    have HG := Lib.hid hg
    have HK := Lib.hid hblk
    have HO := Lib.hid hown
    have HR := Lib.hid hrow
    clear hg hblk hown hrow
    have hsz := Lib.size_eq s
    obtain ⟨res, hres⟩ : ∃ res, Csv.fieldP (s.data.toList.drop at') = res := ⟨_, rfl⟩
    have HF := Lib.hid hres
    clear hres
    have hquote : (∃ h : at' < s.size, s[at']'h = 34) ∨ (∃ h : at' < s.size, s[at']'h ≠ 34) ∨ s.size ≤ at' := by
      by_cases h : at' < s.size
      · by_cases h' : s[at']'h = 34
        · exact .inl ⟨h, h'⟩
        · exact .inr (.inl ⟨h, h'⟩)
      · exact .inr (.inr (by omega))
    have field : ∀ (W w2 : World) (e : Ending), w.grownBy W (some b) → W.ownsRow w.heap.size 9 1 u2 acc.length (acc.map S) → FieldRes s b W res e w2 →
        Hid (w.grownBy w2 (some b)) ∧ Hid (w2.ownsRow w.heap.size 9 1 u2 acc.length (acc.map S)) ∧ FieldRes s b W res e w2 := fun W w2 e h1 h2 h3 =>
      ⟨only_trans h1 h3.1, h2.kept h3.1 (.inr (fun e => by have := (h2.lt b e).1; omega)), h3⟩
    have FI := Lib.hid field
    clear field
    rcases hquote with ⟨hlt, h34⟩ | ⟨hlt, h34⟩ | hend
    focus
      have hdr : s.data.toList.drop at' = 34 :: s.data.toList.drop (at' + 1) := by
        rw [List.drop_eq_getElem_cons (by omega)]
        congr 1
      have HQ := Lib.hid (quoted_any b s (at' + 1))
      have HD : Hid (Csv.quotedA [] (s.data.toList.drop (at' + 1)) = res) := by rw [← HF.out, hdr]; exact rfl
      clear hdr hsz
      go_wp2_with fail
      refine (peek_yes b s _ at' _ HK.out rfl hlt (by omega)).mono ?_
      rintro e w1 ⟨rfl, n1, rfl⟩
      rw [h34]
      go_wp2_with fail
      refine (HQ.out _ (by rw [show ((at' + 1 : Nat) : Int) = (at' : Int) + 1 by omega]; exact scan_put (w := wr.drewN _) HK.out _) (by omega) (by omega)).mono ?_
      rintro e w2 hf
      rw [HD.out] at hf
      have hf' := FI.out _ _ _ (only_setCell (only_drewN HG.out n1) (p := ⟨b, 1, none⟩) (.inl rfl) _) (World.ownsRow.kept (w := wr.drewN n1) HO.out (grownBy_set _ _ _) (.inr (fun e => by have := (World.ownsRow.lt HO.out b e).1; omega))) hf
      clear HQ HD h34 hlt
    rotate_left
    focus
      have hdr : s.data.toList.drop at' = s[at']'hlt :: s.data.toList.drop (at' + 1) := by
        rw [List.drop_eq_getElem_cons (by omega)]
        congr 1
      have hcb : (((s[at']'hlt).toNat : Int) == 34) = false := beq_eq_false_iff_ne.2 fun e => h34 (UInt8.toNat_inj.1 (by simp; omega))
      have HD : Hid (Csv.plainP (s.data.toList.drop at') = res) := by
        rw [← HF.out, Csv.fieldP_other]
        · exact rfl
        · intro r e
          rw [hdr] at e
          exact h34 (List.cons.inj e).1
      clear hdr hsz h34
      go_wp2_with fail
      refine (peek_yes b s _ at' _ HK.out rfl hlt (by omega)).mono ?_
      rintro e w1 ⟨rfl, n1, rfl⟩
      go_wp2_with fail
      refine (plain_any b s at' (wr.drewN n1) HK.out hle (by omega)).mono ?_
      rintro e w2 hf
      rw [HD.out] at hf
      have hf' := FI.out _ _ _ (only_drewN HG.out n1) HO.out hf
      clear HD hcb
    rotate_left
    focus
      have HD : Hid (Csv.plainP (s.data.toList.drop at') = res) := by
        rw [← HF.out, List.drop_of_length_le (by omega)]
        exact rfl
      clear hsz
      go_wp2_with fail
      refine (peek_no b s _ at' _ HK.out rfl hend).mono ?_
      rintro e w1 ⟨rfl, n1, rfl⟩
      go_wp2_with fail
      refine (plain_any b s at' (wr.drewN n1) HK.out hle (by omega)).mono ?_
      rintro e w2 hf
      rw [HD.out] at hf
      have hf' := FI.out _ _ _ (only_drewN HG.out n1) HO.out hf
      clear HD hend
    rotate_left
    all_goals
      clear hf HG HK HO FI h0 h1 f1
      obtain ⟨HG2, HO2, _, hf2⟩ := hf'
      cases res with
      | none =>
        obtain rfl := hf2
        go_wp2
        go_ret2
        rw [HR.out, Csv.rowA_none HF.out]
        exact ⟨HG2.out, rfl⟩
      | some x =>
        obtain ⟨f, r⟩ := x
        obtain ⟨rfl, at2, hat2, hdr2, hblk2⟩ := hf2
        have HD2 := Lib.hid hdr2
        have HK2 := Lib.hid hblk2
        clear hdr2 hblk2
        go_wp2_with (at_builtin; refine wpList_append_own _ rfl _ _ 40 rfl w.heap.size 9 i0 (.string ⟨#[]⟩) 1 16 Tryd.underlying40 hi hz0 hz1 hz2 rfl (by decide) _ _ _ rfl (World.ownsRow.alloc HO2.out _) ⟨w2.heap.size, 0, none⟩ 1 1 [.string ⟨f.toArray⟩] rfl rfl ?c1 ?c2 ?c3 ?c4 ?c5 ?_)
        case c1 => exact cell_one_new _ _ _
        case c2 => simp [Value.oneCell']
        case c3 => unfold maxLen; omega
        case c4 => omega
        case c5 => have := HG2.out.size; simp; omega
        intro v' w3 hown3 hgrow _
        have hnew : ∀ i, u2.ownBlock = some i → w.heap.size ≤ i := fun i e => (World.ownsRow.lt HO2.out i e).1
        have HG3 := Lib.hid (only_new (only_alloc HG2.out (.cells #[.string ⟨f.toArray⟩] 9)) hgrow hnew)
        have hblk3 : Blk w3 b 57 #[.string s, .int .i64 at2] := Blk.grown (Blk.alloc HK2.out _) hgrow (fun e => by have := hnew b e.symm; omega)
        have HO3 : Hid (w3.ownsRow w.heap.size 9 1 v' (acc ++ [f]).length ((acc ++ [f]).map S)) := by
          have : (acc ++ [f]).map S = acc.map S ++ [.string ⟨f.toArray⟩] := by simp [S]
          rw [this, List.length_append]
          exact hown3
        have g0 := hblk3.cell 0
        have g1 := hblk3.cell 1
        have f1 := hblk3.frozen 1
        simp at g0 g1
        have HK3 := Lib.hid hblk3
        have hsz := Lib.size_eq s
        have HRA : Hid (Csv.rowA (s.size - at_ + 1) [] (s.data.toList.drop at_) = Csv.rowB gk acc f r) := by
          show _ = _
          rw [HR.out, Csv.rowA_some HF.out]
        have hlen : r.length ≤ (s.data.toList.drop at').length := (Csv.fieldP_rest HF.out).1
        have hlr : r.length = s.size - at2 := by rw [← HD2.out, List.length_drop]; omega
        have hmono : s.size - at2 ≤ s.size - at' := by rw [List.length_drop] at hlen; omega
        clear hown3 hblk3 hgrow hnew HG2 HO2 HK2 HR HF hlen
        by_cases hend : s.size ≤ at2
        · have hr0 : r = [] := List.eq_nil_of_length_eq_zero (by omega)
          subst hr0
          clear hsz hlr
          go_wp2_with fail
          refine (peek_no b s _ at2 _ HK3.out rfl hend).mono ?_
          rintro e w4 ⟨rfl, n4, rfl⟩
          go_wp2
          go_ret2
          rw [HRA.out]
          exact ⟨only_drewN HG3.out _, v', at2, rfl, HO3.out, hat2, HD2.out, HK3.out⟩
        · have hlt2 : at2 < s.size := by omega
          obtain ⟨c, hc⟩ : ∃ c, s[at2]'hlt2 = c := ⟨_, rfl⟩
          have hr1 : r = c :: s.data.toList.drop (at2 + 1) := by
            rw [← HD2.out, List.drop_eq_getElem_cons (by omega)]
            congr 1
          obtain ⟨r', hr'⟩ : ∃ r', s.data.toList.drop (at2 + 1) = r' := ⟨_, rfl⟩
          rw [hr'] at hr1
          subst hr1
          have HC := Lib.hid hc
          have HR' := Lib.hid hr'
          clear hsz hlr hc hr'
          go_wp2_with fail
          refine (peek_yes b s _ at2 _ HK3.out rfl hlt2 (by omega)).mono ?_
          rintro e w4 ⟨rfl, n4, rfl⟩
          rw [HC.out]
          by_cases h44 : c = 44
          · subst h44
            go_wp2
            cases gk with
            | zero => omega
            | succ g =>
              go_roundg g
              case measure => omega
              case rel =>
                refine ⟨at2 + 1, acc ++ [f], by omega, by omega, by simp; omega, rfl, only_setCell (only_drewN HG3.out n4) (.inl rfl) _, ?_, World.ownsRow.kept (w := w3.drewN n4) HO3.out (grownBy_set _ _ _) (.inr (fun e => by have := (World.ownsRow.lt HO3.out b e).1; omega)), ?_⟩
                · rw [show ((at2 + 1 : Nat) : Int) = (at2 : Int) + 1 by omega]
                  exact scan_put (w := w3.drewN n4) HK3.out _
                · rw [HRA.out, HR'.out]
                  rw [Csv.rowB_cons, if_pos rfl]
          · have hcb : ((c.toNat : Int) != 44) = true := by
              rw [bne_iff_ne]
              exact fun e => h44 (UInt8.toNat_inj.1 (by simp; omega))
            obtain ⟨P, hP⟩ : ∃ P, Lib.hasPrefix (c :: r') [13, 10] = P := ⟨_, rfl⟩
            have hhp : ∀ wx : World, Calls Tryd.prog 33 #[.string (s.extract at2 s.size), .string ⟨#[13, 10]⟩] wx fun e w' => e = .returned (.bool P) ∧ w' = wx := fun wx =>
              (Tryd.strings_HasPrefix _ _ wx).mono fun e w' ⟨he, hw⟩ => ⟨by rw [he, extract_drop, HD2.out]; exact ret_eq (congrArg Value.bool hP), hw⟩
            have hP' : P = decide (c = 13 ∧ r'.head? = some 10) := by
              rw [← hP]
              unfold Lib.hasPrefix
              cases r' with
              | nil => simp [List.isPrefixOf]
              | cons d r' =>
                by_cases h13 : c = 13
                · subst h13
                  by_cases h10 : d = 10
                  · subst h10; simp [List.isPrefixOf]
                  · simp [List.isPrefixOf, h10]
                    exact fun e => h10 e.symm
                · simp [List.isPrefixOf, h13]
                  intro e
                  exact absurd e.symm h13
            clear hP
            have hi2 : ((at2 : Int)) ≤ s.size := by omega
            cases P with
            | true =>
              have hcr := of_decide_eq_true hP'.symm
              clear hP'
              go_wp2
              go_quiet ((go_at_call 33; first | exact Calls.quiet_of_same (hhp _) | exact quiet_add_same (hhp _)))
              go_wp2
              go_ret2
              have hrb : Csv.rowB gk acc f (c :: r') = (0, acc ++ [f], r'.tail) := by
                rw [Csv.rowB_cons, if_neg h44, if_pos hcr]
              have hd2 : s.data.toList.drop (at2 + 2) = r'.tail := by
                rw [← HR'.out, List.tail_drop]
              have hle2 : at2 + 2 ≤ s.size := by
                have h5 := Lib.size_eq s
                have h6 := congrArg List.length HR'.out
                rw [List.length_drop] at h6
                have h7 : 0 < r'.length := by
                  cases r' with
                  | nil => simp at hcr
                  | cons a r' => simp
                omega
              rw [HRA.out, hrb]
              refine ⟨only_setCell (only_drewN HG3.out _) (.inl rfl) _, v', at2 + 2, rfl, World.ownsRow.kept (w := w3.drewN _) HO3.out (grownBy_set _ _ _) (.inr (fun e => by have := (World.ownsRow.lt HO3.out b e).1; omega)), hle2, hd2, ?_⟩
              rw [show ((at2 + 2 : Nat) : Int) = (at2 : Int) + 2 by omega]
              exact scan_put (w := w3.drewN _) HK3.out _
            | false =>
              have hcr := of_decide_eq_false hP'.symm
              clear hP'
              go_wp2
              go_quiet ((go_at_call 33; first | exact Calls.quiet_of_same (hhp _) | exact quiet_add_same (hhp _)))
              go_wp2
              go_ret2
              have hrb : Csv.rowB gk acc f (c :: r') = (211, [], []) := by
                rw [Csv.rowB_cons, if_neg h44, if_neg hcr]
              rw [HRA.out, hrb]
              exact ⟨only_drewN (only_drewN HG3.out _) _, rfl⟩
end Go.Proofs.YtjkbaihcdjbjiaaDoor
