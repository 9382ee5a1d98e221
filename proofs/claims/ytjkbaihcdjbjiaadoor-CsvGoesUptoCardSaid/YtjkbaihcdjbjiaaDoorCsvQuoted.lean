/- Layer 21 (csv): a quoted field. -/
import Derived.Test.YtjkbaihcdjbjiaaDoorCsvScan
namespace Go.Proofs.YtjkbaihcdjbjiaaDoor
open Go.RowKit

/-- what the loop of quoted keeps -/
def QRel (s : ByteArray) (b B : Nat) (w wx : World) (l0 : List UInt8) (at' : Nat) (acc : List UInt8) : Prop :=
  w.grownBy wx (some b) ∧ Blk wx b 57 #[.string s, .int .i64 at'] ∧ Bld B B acc wx ∧ Csv.quotedA [] l0 = Csv.quotedA acc (s.data.toList.drop at') ∧ acc.length ≤ at'

set_option maxHeartbeats 8000000 in
set_option maxRecDepth 100000 in
theorem quoted_any (b : Nat) (s : ByteArray) (at_ : Nat) (w : World) (hb : Blk w b 57 #[.string s, .int .i64 at_]) (hat : at_ ≤ s.size) (hs : s.size ≤ 1073741823) :
    Calls Tryd.prog 31 #[.pointer (some ⟨b, 0, none⟩)] w (FieldRes s b w (Csv.quotedA [] (s.data.toList.drop at_))) := by
  have hblt := hb.lt
  have HB := Lib.hid hb
  clear hb
  go_enter Tryd.func31, Tryd.ntmps31
  go_wp2
  go_loopg [5] (s.size - at_) (fun g _ wx => ∃ (at' : Nat) (acc : List UInt8), at' + g = s.size ∧ QRel s b w.heap.size w wx (s.data.toList.drop at_) at' acc)
  case atStart => exact ⟨at_, [], by omega, only_alloc (only_refl w _) _, (HB.out).alloc _, Bld.fresh w, rfl, by simp⟩
  case round =>
    obtain ⟨at', acc, hig, hrel⟩ := hrel
    obtain ⟨hg, hblk, hbld, hq, hacc⟩ := hrel
    have h0 := hblk.cell 0
    have h1 := hblk.cell 1
    have f1 := hblk.frozen 1
    simp at h0 h1
    have hi : ((at' : Int)) ≤ s.size := by omega
    obtain ⟨R, hR⟩ : ∃ R, Lib.indexByte (s.data.toList.drop at') 34 = R := ⟨_, rfl⟩
    have hib : ∀ wx : World, Calls Tryd.prog 43 #[.string (s.extract at' s.size), .int .u8 34] wx fun e w' => e = .returned (.int .i64 R) ∧ w' = wx := fun wx =>
      (Tryd.strings_IndexByte _ _ wx).mono fun e w' ⟨he, hw⟩ => ⟨by rw [he, extract_drop]; exact ret_eq (int_eq hR), hw⟩
    have hl : (s.data.toList.drop at').length = s.size - at' := by rw [List.length_drop, ← Lib.size_eq]
    have HG := Lib.hid hg
    have HK := Lib.hid hblk
    have HQ := Lib.hid hq
    have HL := Lib.hid hbld
    have HI := Lib.hid hig
    have hgle : gk ≤ s.size := by omega
    clear hg hblk hq hbld hig
    rcases indexByte_take (s.data.toList.drop at') 34 with ⟨k1, k2⟩ | ⟨n, r, k1, k2, k3, k4⟩
    · rw [hR] at k1
      subst k1
      have HN := Lib.hid (Csv.quotedA_none _ k2 acc)
      clear k2 hR hl
      go_wp2
      go_quiet ((go_at_call 43; first | exact Calls.quiet_of_same (hib _) | exact quiet_add_same (hib _)))
      go_wp2
      go_ret2
      have e : Csv.quotedA [] (s.data.toList.drop at_) = none := HQ.out.trans HN.out
      rw [e]
      exact ⟨only_drewN HG.out _, rfl⟩
    · rw [hR] at k1
      subst k1
      have hlt : at' + n < s.size := by omega
      have hsn : (s.data.toList.drop at').take n = (s.extract at' (at' + n)).data.toList := (extract_take s at' n (by omega)).symm
      have hdrop : s.data.toList.drop (at' + (n + 1)) = r := by
        rw [← List.drop_drop]
        have := congrArg (List.drop (n + 1)) k2
        rw [this, List.drop_append]
        have : ((s.data.toList.drop at').take n).length = n := by rw [List.length_take, hl]; omega
        rw [this, List.drop_of_length_le (by omega)]
        simp
      have HN : Hid (Csv.quotedA [] (s.data.toList.drop at_) = Csv.quotedA (acc ++ (s.extract at' (at' + n)).data.toList) (34 :: r)) := by
        show _ = _
        rw [HQ.out, k2, Csv.quotedA_chunk _ k3, hsn]
      have HD := Lib.hid hdrop
      have hn0 : decide ((n : Int) < 0) = false := decide_eq_false (by omega)
      have hin : ((at' : Int) + n) < s.size := by omega
      clear hR hl k2 k3 hsn hdrop k4
      go_wp2
      go_quiet ((go_at_call 43; first | exact Calls.quiet_of_same (hib _) | exact quiet_add_same (hib _)))
      go_wp2
      have h0' : (wr.drewN nq).cell? ⟨b, 0, none⟩ = some (.string s) := h0
      have h1' : (wr.drewN nq).cell? ⟨b, 1, none⟩ = some (.int .i64 at') := h1
      have HG' := Lib.hid (only_drewN HG.out nq)
      have HK' : Hid (Blk (wr.drewN nq) b 57 #[.string s, .int .i64 at']) := HK.out
      have HL' : Hid (Bld w.heap.size w.heap.size acc (wr.drewN nq)) := HL.out
      clear h0 h1 f1 HG HK HL hib
      generalize wr.drewN nq = W at *
      have hwr : IntKind.i64.wrap ((at' : Int) + n) = at' + n := IntWalk.i64_in _ (by omega)
      have hwn : ((at' : Int) + n).toNat = at' + n := by omega
      have hwl : ((at' : Int) + n) ≤ s.size := by omega
      have hw0 : (0 : Int) ≤ (at' : Int) + n := by omega
      have hw1 : (at' : Int) ≤ (at' : Int) + n := by omega
      go_still_tail 15, (by kernel_rfl)
      clear hwr hwn hwl hw0 hw1
      change wpList _ _ _ _ _ W.drew
      go_wp2_with fail
      refine (bld_str w.heap.size w.heap.size acc (s.extract at' (at' + n)) W.drew HL'.out (by simp; omega) (by omega) HG'.out.size).mono ?_
      rintro e w1 ⟨rfl, hbld1, hbel1, _⟩
      have hblk1 : Blk w1 b 57 #[.string s, .int .i64 at'] := Blk.below (w := W.drew) HK'.out hbel1 hblt
      have hg1 : w.grownBy w1 (some b) := only_bel (only_drew HG'.out) hbel1 (Nat.le_refl _)
      have g0 := hblk1.cell 0
      have g1 := hblk1.cell 1
      have f1 := hblk1.frozen 1
      simp at g0 g1
      have HG1 := Lib.hid hg1
      have HK1 := Lib.hid hblk1
      have HL1 := Lib.hid hbld1
      clear hg1 hblk1 hbld1 HG' HK' HL' h0' h1'
      go_wp2_with fail
      have HKW : Hid (Blk (w1.setCell ⟨b, 1, none⟩ (.int .i64 ((at' : Int) + ((n : Int) + 1)))) b 57 #[.string s, .int .i64 ((at' : Int) + ((n : Int) + 1))]) := scan_put HK1.out _
      have HGW : Hid (w.grownBy (w1.setCell ⟨b, 1, none⟩ (.int .i64 ((at' : Int) + ((n : Int) + 1)))) (some b)) := only_setCell HG1.out (.inl rfl) _
      have HLW : Hid (Bld w.heap.size w.heap.size (acc ++ (s.extract at' (at' + n)).data.toList) (w1.setCell ⟨b, 1, none⟩ (.int .i64 ((at' : Int) + ((n : Int) + 1))))) := Bld.kept_lt HL1.out (grownBy_set _ _ _) hblt
      have hsz : (s.extract at' (at' + n)).data.toList.length = n := by rw [← Lib.size_eq]; simp; omega
      have hal : (acc ++ (s.extract at' (at' + n)).data.toList).length ≤ at' + n := by rw [List.length_append, hsz]; omega
      clear g0 g1 f1 HK1 HG1 HL1 hsz
      generalize acc ++ (s.extract at' (at' + n)).data.toList = acc1 at HN HLW hal
      generalize w1.setCell ⟨b, 1, none⟩ (.int .i64 ((at' : Int) + ((n : Int) + 1))) = W2 at *
      by_cases hend : s.size ≤ at' + n + 1
      · refine (peek_no b s _ (at' + n + 1) _ HKW.out (by omega) hend).mono ?_
        rintro e w3 ⟨rfl, n3, rfl⟩
        go_wp2_with fail
        refine (bld_string w.heap.size w.heap.size _ _ (show Bld _ _ _ (W2.drewN n3) from HLW.out) HGW.out.size).mono ?_
        rintro e w4 ⟨rfl, hbld4, hbel4, _⟩
        have hr : r = [] := by
          have := HD.out
          rw [List.drop_of_length_le (by have := Lib.size_eq s; omega)] at this
          exact this.symm
        go_wp2
        go_ret2
        rw [HN.out, hr, Csv.quotedA_cons, if_pos rfl]
        exact fieldRes_some (at' + n + 1) (only_bel (only_drewN HGW.out n3) hbel4 (Nat.le_refl _)) rfl (by omega) (by rw [Nat.add_assoc, HD.out, hr]) (int_eq (by omega)) (Blk.below (w := W2.drewN n3) HKW.out hbel4 hblt)
      · have hend' : at' + n + 1 < s.size := by omega
        obtain ⟨c, hc⟩ : ∃ c, s[at' + n + 1]'hend' = c := ⟨_, rfl⟩
        obtain ⟨r', hr⟩ : ∃ r', r = c :: r' := by
          refine ⟨s.data.toList.drop (at' + (n + 1) + 1), ?_⟩
          rw [← HD.out, List.drop_eq_getElem_cons (by have := Lib.size_eq s; omega)]
          congr 1
        have HR := Lib.hid hr
        have HC := Lib.hid hc
        clear hr hc
        refine (peek_yes b s _ (at' + n + 1) _ HKW.out (by omega) hend' (by omega)).mono ?_
        rintro e w3 ⟨rfl, n3, rfl⟩
        rw [HC.out]
        by_cases h34 : c = 34
        · subst h34
          go_wp2_with fail
          refine (bld_byte w.heap.size w.heap.size _ _ _ (show Bld _ _ _ (W2.drewN n3) from HLW.out) (by omega) (by omega) (by omega) HGW.out.size).mono ?_
          rintro e w4 ⟨rfl, hbld4, hbel4, _⟩
          have hblk4 : Blk w4 b 57 #[.string s, .int .i64 ((at' : Int) + ((n : Int) + 1))] := Blk.below (w := W2.drewN n3) HKW.out hbel4 hblt
          have g0 := hblk4.cell 0
          have g1 := hblk4.cell 1
          have f1 := hblk4.frozen 1
          simp at g0 g1
          have HK4 := Lib.hid hblk4
          have HL4 := Lib.hid hbld4
          have HG4 := Lib.hid (only_bel (only_drewN HGW.out n3) hbel4 (Nat.le_refl _))
          clear hblk4 hbld4
          have hq2 : Csv.quotedA [] (s.data.toList.drop at_) = Csv.quotedA (acc1 ++ [34]) (s.data.toList.drop (at' + n + 2)) := by
            rw [HN.out, HR.out, Csv.quotedA_cons, if_pos rfl]
            dsimp only
            rw [if_pos rfl]
            congr 1
            have := congrArg (List.drop 1) HD.out
            rw [List.drop_drop, HR.out] at this
            exact this.symm
          have HQ2 := Lib.hid hq2
          clear hq2
          go_wp2
          go_roundg (s.size - (at' + n + 2))
          case measure => have := HI.out; omega
          case rel => exact ⟨at' + n + 2, acc1 ++ [34], by omega, only_setCell HG4.out (.inl rfl) _, (by have := scan_put HK4.out (.int .i64 ((at' : Int) + ((n : Int) + 1) + 1)); rw [show ((at' + n + 2 : Nat) : Int) = (at' : Int) + ((n : Int) + 1) + 1 by omega]; exact this), Bld.kept_lt HL4.out (grownBy_set _ _ _) hblt, HQ2.out, by simp; omega⟩
        · have hcb : ((c.toNat : Int) == 34) = false := by
            refine beq_eq_false_iff_ne.2 fun e => h34 (UInt8.toNat_inj.1 ?_)
            simp; omega
          by_cases h3 : c = 44 ∨ c = 13 ∨ c = 10
          · have hcl : HR.out = HR.out := rfl
            clear hcl hcb
            rcases h3 with rfl | rfl | rfl
            all_goals
              go_wp2_with fail
              refine (bld_string w.heap.size w.heap.size _ _ (show Bld _ _ _ (W2.drewN n3) from HLW.out) HGW.out.size).mono ?_
              rintro e w4 ⟨rfl, hbld4, hbel4, _⟩
              go_wp2
              go_ret2
              rw [HN.out, HR.out, Csv.quotedA_cons, if_pos rfl]
              exact fieldRes_some (at' + n + 1) (only_bel (only_drewN HGW.out n3) hbel4 (Nat.le_refl _)) rfl (by omega) (by rw [Nat.add_assoc, HD.out, HR.out]) (int_eq (by omega)) (Blk.below (w := W2.drewN n3) HKW.out hbel4 hblt)
          · simp only [not_or] at h3
            obtain ⟨h44, h13, h10⟩ := h3
            have e44 : ((c.toNat : Int) != 44) = true := by
              rw [bne_iff_ne]
              exact fun e => h44 (UInt8.toNat_inj.1 (by simp; omega))
            have e13 : ((c.toNat : Int) != 13) = true := by
              rw [bne_iff_ne]
              exact fun e => h13 (UInt8.toNat_inj.1 (by simp; omega))
            have e10 : ((c.toNat : Int) != 10) = true := by
              rw [bne_iff_ne]
              exact fun e => h10 (UInt8.toNat_inj.1 (by simp; omega))
            have HF : Hid (Csv.quotedA acc1 (34 :: c :: r') = none) := by
              show _ = _
              rw [Csv.quotedA_cons, if_pos rfl]
              dsimp only
              rw [if_neg h34, if_neg (by simp [h44, h13, h10])]
            clear h44 h13 h10 h34
            go_wp2
            go_ret2
            rw [HN.out, HR.out, HF.out]
            exact ⟨only_drewN HGW.out _, rfl⟩
end Go.Proofs.YtjkbaihcdjbjiaaDoor
