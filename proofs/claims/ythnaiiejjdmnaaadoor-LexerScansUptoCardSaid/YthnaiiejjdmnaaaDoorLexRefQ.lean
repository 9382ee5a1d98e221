/- Layer 24 (lexer): the document's Quote. -/
import Derived.Test.YthnaiiejjdmnaaaDoorLexRefA
import Derived.Test.YthnaiiejjdmnaaaDoorLexQte
import Derived.Deep.RegionLaw
import Derived.RegionTactic
namespace Go.Proofs.YthnaiiejjdmnaaaDoor
open Go.RowKit

/-- a row of bytes that is made at one stroke -/
theorem own_bytes (w : World) (B : Nat) (l : List UInt8) (cs : Array Value) (hcs : cs = (Lib.byteCells l).toArray) (hB : B ≤ w.heap.size) (hl : l.length < 1073741824) : OwnB B (.slice (some ⟨w.heap.size, 0, none⟩) l.length l.length) l (w.alloc (.cells cs 5)) := by
  subst hcs
  refine ⟨by simp [Lib.byteCells], .inr ⟨w.heap.size, l.length, (Lib.byteCells l).toArray, rfl, hB, heap_alloc_new w _, Nat.le_refl _, by unfold maxLen; omega, by simp [Lib.byteCells], by simp [Lib.byteCells, List.take_of_length_le]⟩⟩
/-- an append of bytes in a region that draws its order -/
theorem step_append_bytes {ops : Array Oper} {o : Oper} {a : Act} {K : Act → World → Prop} {Q : Exit → Act → World → Prop} {E : Prop} (hgd : o.guard = none) (s x : Operand)
    (ho : o.op = .call { callee := .builtin .append, args := #[s, x], argTypes := #[45, 45] })
    (B : Nat) (v : Value) (l : List UInt8) (W : World) (hs : a.eval s = v) (h : OwnB B v l W) (bs : List UInt8) (us : List Value) (hu : us = Lib.byteCells bs) (m : Nat) (hm : bs.length = m)
    (hx : a.eval x = .slice (some ⟨W.heap.size, 0, none⟩) m m) (hl : l.length < 1073741824) (hm2 : m < 1073741824) (hB : B ≤ W.heap.size)
    (k : ∀ v' w', OwnB B v' (l ++ bs) w' → W.grownBy w' v.ownBlock → Below B W w' → K (a.put o.dst v') w') :
    if Region.wanted o (yielded ops a.tmps) = true then Oper.wp Tryd.prog o a (W.alloc (.cells us.toArray 5)) K Q else E := by
  have hw : Region.wanted o (yielded ops a.tmps) = true := by simp [Region.wanted, hgd]
  rw [if_pos hw]
  subst hu hm
  obtain ⟨i0, hi, hz0, hz1, hz2⟩ := info_parts info_byte
  have hr := Reads.of_own (c := bs.length) (own_bytes W W.heap.size bs _ rfl (Nat.le_refl _) hm2)
  refine wp_append_any (P := Tryd.prog) _ s x _ ho B 5 i0 _ 1 1 Tryd.underlying45 hi hz0 hz1 hz2 rfl (by decide) v l.length (Lib.byteCells l) hs (World.ownsRow.alloc h _) _ _ bs.length bs.length (Lib.byteCells bs) hx hr ?_ ?_ ?_ ?_ ?_
  · intro u hu
    obtain ⟨b, _, rfl⟩ := List.mem_map.1 hu
    rfl
  · unfold maxLen; omega
  · omega
  · simp; omega
  · intro v' w' h1 h2 h3
    refine k v' w' ?_ (only_trans (only_alloc (only_refl W _) _) h2) ?_
    · unfold OwnB
      rw [byteCells_app, List.length_append]
      exact h1
    · exact ((Below.refl B W).alloc hB _).grown h2 (by simp; omega) (fun j e => (World.ownsRow.lt h j e).1)
structure RQRel (s : ByteArray) (w : World) (k : Nat) (acc : List UInt8) (v : Value) (wx : World) : Prop where
  text : acc = 39 :: (s.data.toList.take k).flatMap Lex.q1
  len : acc.length ≤ 4 * k + 1
  bel : Below w.heap.size w wx
  own : OwnB w.heap.size v acc wx
theorem RQRel.next {s : ByteArray} {w : World} {k : Nat} {acc acc' : List UInt8} {v v' : Value} {wx wy : World} (h : RQRel s w k acc v wx) (hk : k < s.size) (ha : acc' = acc ++ Lex.q1 (s[k]'hk)) (hb : Below w.heap.size wx wy) (hl : OwnB w.heap.size v' acc' wy) : RQRel s w (k + 1) acc' v' wy := by
  have h1 : k < s.data.toList.length := by rw [← Lib.size_eq]; exact hk
  have hq := (Lex.q1_len (s[k]'hk)).2
  have hlen := h.len
  refine ⟨?_, by rw [ha, List.length_append]; omega, h.bel.trans hb, hl⟩
  rw [ha, h.text, List.take_succ_eq_append_getElem h1, List.flatMap_append]
  simp only [List.cons_append, List.flatMap_cons, List.flatMap_nil, List.append_nil]
  rfl

set_option maxHeartbeats 8000000 in
set_option maxRecDepth 100000 in
theorem refQuote_any (s : ByteArray) (w : World) (hs : s.size ≤ 67108864) :
    Calls Tryd.prog 12 #[.string s] w fun e w' => e = .returned (.string ⟨(Lex.quote s.data.toList).toArray⟩) ∧ Below w.heap.size w w' := by
  go_enter Tryd.func12, Tryd.ntmps12
  go_wp2_with fail
  go_loopg [3, 4] s.size (fun g v x wx => ∃ (k : Nat) (acc : List UInt8), k + g = s.size ∧ x = .int .i64 k ∧ RQRel s w k acc v wx)
  case atStart => exact ⟨0, [39], by omega, rfl, ⟨by simp, by simp, (Below.refl _ _).alloc (Nat.le_refl _) _, own_bytes w _ [39] _ rfl (Nat.le_refl _) (by decide)⟩⟩
  case round =>
    obtain ⟨k, acc, hk, rfl, hrel⟩ := hrel
    have hlen := hrel.len
    have hsz := hrel.bel.size
    have HQ := Lib.hid hrel
    obtain ⟨A3, c3, rfl⟩ := own_form hrel.own
    clear hrel
    have hal : acc.length + 4 < 1073741824 := by omega
    cases gk with
    | zero =>
      obtain rfl : k = s.size := by omega
      have ht : acc ++ [39] = Lex.quote s.data.toList := by
        rw [HQ.out.text, List.take_of_length_le (by rw [← Lib.size_eq]; omega)]
        rfl
      have HT := Lib.hid ht
      clear ht
      go_wp2_with (at_builtin; refine wpList_append_bytes rfl (.tmp 59) (.tmp 60) rfl w.heap.size (.slice A3 acc.length c3) acc wr rfl HQ.out.own [39] [.int .u8 39] rfl 1 rfl rfl (by omega) (by decide) hsz ?_)
      intro v1 w1 hown1 hgr1 hbel1
      have hcv := hown1.conv
      have HB := Lib.hid (HQ.out.bel.trans hbel1)
      clear hown1 hgr1 hbel1
      go_wp2
      go_ret
      exact ⟨by rw [← HT.out]; rfl, HB.out⟩
    | succ g =>
      have hlt : k < s.size := by omega
      have hlti : (k : Int) < s.size := by omega
      have t1 : decide (k < s.size) = true := decide_eq_true hlt
      have hnext := fun (acc' : List UInt8) (v' : Value) (wy : World) (ha : acc' = acc ++ Lex.q1 (s[k]'hlt)) (hb : Below w.heap.size wr wy) (hl : OwnB w.heap.size v' acc' wy) => HQ.out.next hlt ha hb hl
      have HN := Lib.hid hnext
      have HO := Lib.hid HQ.out.own
      have HKG := Lib.hid hk
      have hk4 : k ≤ 67108864 := by omega
      obtain ⟨c, hc⟩ : ∃ c, s[k]'hlt = c := ⟨_, rfl⟩
      rw [hc] at HN
      clear hnext HQ hk hs
      by_cases h10 : c = 10
      · subst h10
        go_wp2_with (at_builtin; refine wpList_append_bytes rfl (.tmp 18) (.tmp 19) rfl w.heap.size (.slice A3 acc.length c3) acc wr rfl HO.out [92, 110] [.int .u8 92, .int .u8 110] rfl 2 rfl rfl (by omega) (by decide) hsz ?_)
        intro v1 w1 hown1 hgr1 hbel1
        have HR := Lib.hid (HN.out _ _ _ (rfl) hbel1 hown1)
        clear hown1 hbel1
        go_wp2
        go_roundg g
        case measure => omega
        case rel => exact ⟨k + 1, _, by have := HKG.out; omega, int_eq' (by omega), HR.out⟩
      by_cases h13 : c = 13
      · subst h13
        go_wp2_with (at_builtin; refine wpList_append_bytes rfl (.tmp 23) (.tmp 24) rfl w.heap.size (.slice A3 acc.length c3) acc wr rfl HO.out [92, 114] [.int .u8 92, .int .u8 114] rfl 2 rfl rfl (by omega) (by decide) hsz ?_)
        intro v1 w1 hown1 hgr1 hbel1
        have HR := Lib.hid (HN.out _ _ _ (rfl) hbel1 hown1)
        clear hown1 hbel1
        go_wp2
        go_roundg g
        case measure => omega
        case rel => exact ⟨k + 1, _, by have := HKG.out; omega, int_eq' (by omega), HR.out⟩
      by_cases h9 : c = 9
      · subst h9
        go_wp2_with (at_builtin; refine wpList_append_bytes rfl (.tmp 28) (.tmp 29) rfl w.heap.size (.slice A3 acc.length c3) acc wr rfl HO.out [92, 116] [.int .u8 92, .int .u8 116] rfl 2 rfl rfl (by omega) (by decide) hsz ?_)
        intro v1 w1 hown1 hgr1 hbel1
        have HR := Lib.hid (HN.out _ _ _ (rfl) hbel1 hown1)
        clear hown1 hbel1
        go_wp2
        go_roundg g
        case measure => omega
        case rel => exact ⟨k + 1, _, by have := HKG.out; omega, int_eq' (by omega), HR.out⟩
      have t10 : (((c.toNat : Nat) : Int) == 10) = false := bq (k := 10) rfl (beq_eq_false_iff_ne.2 h10)
      have t13 : (((c.toNat : Nat) : Int) == 13) = false := bq (k := 13) rfl (beq_eq_false_iff_ne.2 h13)
      have t9 : (((c.toNat : Nat) : Int) == 9) = false := bq (k := 9) rfl (beq_eq_false_iff_ne.2 h9)
      have hcb := byte_le c
      by_cases hodd : Lex.odd c = true
      · have HODD := Lib.hid (Lex.q1_odd h10 h13 h9 hodd)
        have hq1 : c.toNat / 16 < 16 := by have := UInt8.toNat_lt c; omega
        have hq2 : c.toNat % 16 < 16 := by omega
        have i1 : ((c.toNat : Int) / 16) < 16 := by omega
        have i2 : ((c.toNat : Int) % 16) < 16 := by omega
        have hd1 := fun h => dig16 (c.toNat / 16) hq1 h
        have hd2 := fun h => dig16 (c.toNat % 16) hq2 h
        obtain ⟨x1, hx1⟩ : ∃ x, Num.hexd (c.toNat / 16) = x := ⟨_, rfl⟩
        obtain ⟨x2, hx2⟩ : ∃ x, Num.hexd (c.toNat % 16) = x := ⟨_, rfl⟩
        rw [hx1, hx2] at HODD
        rw [hx1] at hd1
        rw [hx2] at hd2
        clear hx1 hx2 h10 h13 h9
        have hn1 : ((c.toNat : Int) / 16).toNat = c.toNat / 16 := by omega
        have hn2 : ((c.toNat : Int) % 16).toNat = c.toNat % 16 := by omega
        have z1 : (0 : Int) ≤ (c.toNat : Int) / 16 := by omega
        have z2 : (0 : Int) ≤ (c.toNat : Int) % 16 := by omega
        go_upto_region 12 with fail
        go_cut [36] (fun s36 wx => s36 = .bool true ∧ wr = wx)
        case first =>
          by_cases h32 : c.toNat < 32
          · have u1 : decide ((c.toNat : Int) < 32) = true := decide_eq_true (by omega)
            clear h32 hodd hn1 hn2 z1 z2 i1 i2 hd1 hd2 hq1 hq2
            go_wp2_with fail
            go_meet
            exact ⟨rfl, rfl⟩
          · have u1 : decide ((c.toNat : Int) < 32) = false := decide_eq_false (by omega)
            have u2 : decide (126 < (c.toNat : Int)) = true := decide_eq_true (by
              unfold Lex.odd at hodd
              rw [decide_eq_false h32, Bool.false_or, decide_eq_true_eq] at hodd
              omega)
            clear h32 hodd hn1 hn2 z1 z2 i1 i2 hd1 hd2 hq1 hq2
            go_wp2_with fail
            go_meet
            exact ⟨rfl, rfl⟩
        case rest =>
          obtain ⟨rfl, rfl⟩ := hcut
          clear hodd
          go_wp2_with fail
          have r1 : IntKind.u8.wrap ((c.toNat : Int) / 16) = (c.toNat : Int) / 16 := IntWalk.u8_in _ (by omega)
          have r3 : ((c.toNat : Int)).tmod 16 = (c.toNat : Int) % 16 := Int.tmod_eq_emod_of_nonneg (by omega)
          have r2 : IntKind.u8.wrap ((c.toNat : Int) % 16) = (c.toNat : Int) % 16 := IntWalk.u8_in _ (by omega)
          go_region_law (refine step_append_bytes rfl (.tmp 37) (.tmp 44) rfl w.heap.size (.slice A3 acc.length c3) acc wr.drew rfl HO.out [92, 120, x1, x2] [.int .u8 92, .int .u8 120, .int .u8 (x1.toNat : Int), .int .u8 (x2.toNat : Int)] rfl 4 rfl rfl (by omega) (by decide) hsz ?_; intro v1 w1 hown1 hgr1 hbel1)
          all_goals trace_state
          all_goals
            have HR := Lib.hid (HN.out _ _ _ (by rw [HODD.out]; simp) ((Below.refl _ _).drew.trans hbel1) hown1)
            clear hown1 hgr1 hbel1
            go_wp2
            go_roundg g
            case measure => omega
            case rel => exact ⟨k + 1, _, by have := HKG.out; omega, int_eq' (by omega), HR.out⟩
      have u1 : decide ((c.toNat : Int) < 32) = false := decide_eq_false (by
        intro h
        apply hodd
        unfold Lex.odd
        rw [decide_eq_true (show c.toNat < 32 by omega)]
        rfl)
      have u2 : decide (126 < (c.toNat : Int)) = false := decide_eq_false (by
        intro h
        apply hodd
        unfold Lex.odd
        rw [decide_eq_true (show 126 < c.toNat by omega), Bool.or_true])
      have ho : Lex.odd c = false := by simpa using hodd
      clear hodd
      by_cases h39 : c = 39
      · subst h39
        go_wp2_with (at_builtin; refine wpList_append_bytes rfl (.tmp 52) (.tmp 53) rfl w.heap.size (.slice A3 acc.length c3) acc wr rfl HO.out [92] [.int .u8 92] rfl 1 rfl rfl (by omega) (by decide) hsz ?_)
        intro v1 w1 hown1 hgr1 hbel1
        have hsz2 := Nat.le_trans hsz hbel1.size
        have HO2 := Lib.hid hown1
        have HB2 := Lib.hid hbel1
        obtain ⟨A4, c4, e4⟩ := own_form hown1
        subst e4
        obtain ⟨n4, hn4⟩ : ∃ n, (acc ++ [92]).length = n := ⟨_, rfl⟩
        rw [hn4] at HO2
        rw [hn4]
        clear hown1 hgr1 hbel1 hn4
        go_wp2_with (at_builtin; refine wpList_append_bytes rfl (.tmp 55) (.tmp 57) rfl w.heap.size (.slice A4 n4 c4) (acc ++ [92]) w1 rfl HO2.out [39] [.int .u8 39] rfl 1 rfl rfl (by rw [List.length_append]; simp; omega) (by decide) hsz2 ?_)
        intro v2 w2 hown2 hgr2 hbel2
        have HR := Lib.hid (HN.out _ _ _ (by rw [Lex.q1_esc (by decide)]; simp) (HB2.out.trans hbel2) hown2)
        clear hown2 hgr2 hbel2
        go_wp2
        go_roundg g
        case measure => omega
        case rel => exact ⟨k + 1, _, by have := HKG.out; omega, int_eq' (by omega), HR.out⟩
      by_cases h92 : c = 92
      · subst h92
        go_wp2_with (at_builtin; refine wpList_append_bytes rfl (.tmp 52) (.tmp 53) rfl w.heap.size (.slice A3 acc.length c3) acc wr rfl HO.out [92] [.int .u8 92] rfl 1 rfl rfl (by omega) (by decide) hsz ?_)
        intro v1 w1 hown1 hgr1 hbel1
        have hsz2 := Nat.le_trans hsz hbel1.size
        have HO2 := Lib.hid hown1
        have HB2 := Lib.hid hbel1
        obtain ⟨A4, c4, e4⟩ := own_form hown1
        subst e4
        obtain ⟨n4, hn4⟩ : ∃ n, (acc ++ [92]).length = n := ⟨_, rfl⟩
        rw [hn4] at HO2
        rw [hn4]
        clear hown1 hgr1 hbel1 hn4
        go_wp2_with (at_builtin; refine wpList_append_bytes rfl (.tmp 55) (.tmp 57) rfl w.heap.size (.slice A4 n4 c4) (acc ++ [92]) w1 rfl HO2.out [92] [.int .u8 92] rfl 1 rfl rfl (by rw [List.length_append]; simp; omega) (by decide) hsz2 ?_)
        intro v2 w2 hown2 hgr2 hbel2
        have HR := Lib.hid (HN.out _ _ _ (by rw [Lex.q1_esc (by decide)]; simp) (HB2.out.trans hbel2) hown2)
        clear hown2 hgr2 hbel2
        go_wp2
        go_roundg g
        case measure => omega
        case rel => exact ⟨k + 1, _, by have := HKG.out; omega, int_eq' (by omega), HR.out⟩
      have t92 : (((c.toNat : Nat) : Int) == 92) = false := bq (k := 92) rfl (beq_eq_false_iff_ne.2 h92)
      have t39 : (((c.toNat : Nat) : Int) == 39) = false := bq (k := 39) rfl (beq_eq_false_iff_ne.2 h39)
      have HP := Lib.hid (Lex.q1_plain h92 h39 ho)
      clear h10 h13 h9 h92 h39 ho
      go_wp2_with (at_builtin; refine wpList_append_bytes rfl (.tmp 55) (.tmp 57) rfl w.heap.size (.slice A3 acc.length c3) acc wr rfl HO.out [c] [.int .u8 (c.toNat : Int)] (byteCells_one _).symm 1 rfl rfl (by omega) (by decide) hsz ?_)
      intro v1 w1 hown1 hgr1 hbel1
      have HR := Lib.hid (HN.out _ _ _ (by rw [HP.out]) hbel1 hown1)
      clear hown1 hgr1 hbel1
      go_wp2
      go_roundg g
      case measure => omega
      case rel => exact ⟨k + 1, _, by have := HKG.out; omega, int_eq' (by omega), HR.out⟩
end Go.Proofs.YthnaiiejjdmnaaaDoor
