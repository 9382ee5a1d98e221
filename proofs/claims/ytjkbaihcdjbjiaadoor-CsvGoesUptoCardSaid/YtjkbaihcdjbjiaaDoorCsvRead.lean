/- Layer 21 (csv): rows of texts as they are read in memory. -/
import Derived.Test.YtjkbaihcdjbjiaaDoorCsvParse
import Derived.Test.YtjkbaihcdjbjiaaDoorAppend
namespace Go.Proofs.YtjkbaihcdjbjiaaDoor
open Go.RowKit

/-- v is a slice of the texts ss, below block B -/
def Row1 (w : World) (B : Nat) (v : Value) (ss : List Csv.F) : Prop :=
  ∃ A c, v = .slice A ss.length c ∧ ss.length ≤ c ∧ c ≤ maxLen ∧ Reads w B 1 A ss.length (ss.map S)
/-- v is a slice of rows -/
def Rows2 (w : World) (B : Nat) (v : Value) (rows : List (List Csv.F)) : Prop :=
  ∃ A c us, v = .slice A rows.length c ∧ rows.length ≤ c ∧ c ≤ maxLen ∧ us.length = rows.length ∧ Reads w B 1 A rows.length us ∧ ∀ (k : Nat) u r, us[k]? = some u → rows[k]? = some r → Row1 w B u r

section
variable {w w' : World} {B B' : Nat} {v : Value} {ss : List Csv.F} {rows : List (List Csv.F)}
theorem Row1.below (h : Row1 w B v ss) (hb : Below B w w') : Row1 w' B v ss := by
  obtain ⟨A, c, h1, h2, h3, h4⟩ := h
  exact ⟨A, c, h1, h2, h3, h4.below hb⟩
theorem Row1.more (h : Row1 w B v ss) (hB : B ≤ B') : Row1 w B' v ss := by
  obtain ⟨A, c, h1, h2, h3, h4⟩ := h
  exact ⟨A, c, h1, h2, h3, h4.more hB⟩
theorem Rows2.below (h : Rows2 w B v rows) (hb : Below B w w') : Rows2 w' B v rows := by
  obtain ⟨A, c, us, h1, h2, h3, h4, h5, h6⟩ := h
  exact ⟨A, c, us, h1, h2, h3, h4, h5.below hb, fun k u r hu hr => (h6 k u r hu hr).below hb⟩
theorem Rows2.more (h : Rows2 w B v rows) (hB : B ≤ B') : Rows2 w B' v rows := by
  obtain ⟨A, c, us, h1, h2, h3, h4, h5, h6⟩ := h
  exact ⟨A, c, us, h1, h2, h3, h4, h5.more hB, fun k u r hu hr => (h6 k u r hu hr).more hB⟩
theorem Row1.of_own {base : Nat} (h : w.ownsRow base 9 1 v ss.length (ss.map S)) : Row1 w w.heap.size v ss := by
  rcases h.2 with ⟨rfl, hn⟩ | ⟨g, cap, cur, rfl, hb, hg, h1, h2, h3⟩
  · refine ⟨none, 0, by rw [hn], by omega, by unfold maxLen; omega, ?_⟩
    have : ss = [] := List.eq_nil_of_length_eq_zero hn
    subst this
    exact Reads.none_
  · exact ⟨_, cap, rfl, h1, h2, Reads.of_own (c := cap) h⟩
theorem Rows2.of_own {base : Nat} (h : OwnRows w base v rows) : Rows2 w w.heap.size v rows := by
  obtain ⟨us, h1, h2, h3, h4⟩ := h
  rcases h2.2 with ⟨rfl, hn⟩ | ⟨g, cap, cur, rfl, hb, hg, q1, q2, q3⟩
  · have hr : rows = [] := List.eq_nil_of_length_eq_zero (by omega)
    subst hr
    have hu : us = [] := List.eq_nil_of_length_eq_zero hn
    subst hu
    exact ⟨none, 0, [], rfl, by simp, by unfold maxLen; omega, rfl, Reads.none_, fun k u r hu => by simp at hu⟩
  · refine ⟨_, cap, us, by rw [← h1], by omega, q2, h1, ?_, fun k u r hu hr => Row1.of_own (h3 k u r hu hr)⟩
    rw [← h1]
    exact Reads.of_own (c := cap) h2
end

set_option maxHeartbeats 4000000 in
theorem sameRow_any (a b : Value) (x y : List Csv.F) (w : World) (ha : Row1 w w.heap.size a x) (hb : Row1 w w.heap.size b y) (hx : x.length ≤ 1073741824) (hy : y.length ≤ 1073741824) :
    Calls Tryd.prog 19 #[a, b] w fun e w' => e = .returned (.bool (decide (x = y))) ∧ Below w.heap.size w w' := by
  obtain ⟨A, c, rfl, _, _, hA⟩ := ha
  obtain ⟨A', c', rfl, _, _, hB⟩ := hb
  by_cases hl : x.length = y.length
  · rw [← hl] at hB ⊢
    have hd : ((x.length : Int) == (x.length : Int)) = true := by simp
    have HL := Lib.hid hl
    have HA := Lib.hid hA
    have HB := Lib.hid hB
    clear hA hB hl
    obtain ⟨n, hn⟩ : ∃ n, x.length = n := ⟨_, rfl⟩
    rw [hn] at HA HB ⊢ hx
    have HN := Lib.hid hn
    clear hn hd
    go_enter Tryd.func19, Tryd.ntmps19
    go_wp2
    go_loopg [5] n (fun g i wr => ∃ k : Nat, k + g = n ∧ i = .int .i64 k ∧ Below w.heap.size w wr ∧ x.take k = y.take k)
    case atStart => exact ⟨0, by omega, rfl, Below.refl _ _, rfl⟩
    case round =>
      obtain ⟨k, hk, rfl, hbel, hpre⟩ := hrel
      have HP := Lib.hid hpre
      have HK := Lib.hid hk
      clear hpre hk
      cases gk with
      | zero =>
        obtain rfl : k = n := by have := HK.out; omega
        go_wp2
        go_ret
        refine ⟨ret_eq (congrArg Value.bool (decide_eq_true ?_).symm), hbel⟩
        have h1 := HP.out
        have h2 := HN.out
        have h3 := HL.out
        rwa [List.take_of_length_le (by omega), List.take_of_length_le (by omega)] at h1
      | succ g =>
        have hlt : k < n := by have := HK.out; omega
        obtain ⟨b1, o1, u1, rfl, hb1, hx1, hc1⟩ := (HA.out.below hbel).at_ hlt
        obtain ⟨b2, o2, u2, rfl, hb2, hx2, hc2⟩ := (HB.out.below hbel).at_ hlt
        have hkx : k < x.length := by have := HN.out; omega
        have hky : k < y.length := by have := HN.out; have := HL.out; omega
        rw [List.getElem?_map, List.getElem?_eq_getElem hkx] at hx1
        rw [List.getElem?_map, List.getElem?_eq_getElem hky] at hx2
        obtain rfl := Option.some.inj hx1
        obtain rfl := Option.some.inj hx2
        have HT : Hid (x.take (k + 1) = x.take k ++ [x[k]] ∧ y.take (k + 1) = y.take k ++ [y[k]]) := ⟨List.take_succ_eq_append_getElem hkx, List.take_succ_eq_append_getElem hky⟩
        obtain ⟨fx, hfx⟩ : ∃ f, x[k] = f := ⟨_, rfl⟩
        obtain ⟨fy, hfy⟩ : ∃ f, y[k] = f := ⟨_, rfl⟩
        rw [hfx] at hc1 HT
        rw [hfy] at hc2 HT
        have hgx : x[k]? = some fx := by rw [← hfx]; exact List.getElem?_eq_getElem hkx
        have hgy : y[k]? = some fy := by rw [← hfy]; exact List.getElem?_eq_getElem hky
        have HGX := Lib.hid hgx
        have HGY := Lib.hid hgy
        unfold S at hc1 hc2
        clear hx1 hx2 hfx hfy hgx hgy
        have hkn : ((k : Int)) < n := by omega
        by_cases he : fx = fy
        · subst he
          have hbq : (fx == fx) = true := by simp
          go_wp2
          go_quiet (fail)
          go_wp2
          go_roundg g
          case measure => omega
          case rel => exact ⟨k + 1, by have := HK.out; omega, by go_num, below_drewN hbel _, by rw [HT.out.1, HT.out.2, HP.out]⟩
        · have hbq : (fx == fy) = false := by simpa using he
          go_wp2
          go_quiet (fail)
          go_wp2
          go_ret
          refine ⟨ret_eq (congrArg Value.bool (decide_eq_false (fun e => ?_)).symm), below_drewN hbel _⟩
          have h1 := HGX.out
          have h2 := HGY.out
          rw [e, h2] at h1
          exact he (Option.some.inj h1).symm
  · have hd : ((x.length : Int) == (y.length : Int)) = false := by simp; omega
    go_enter Tryd.func19, Tryd.ntmps19
    go_wp2
    go_ret
    exact ⟨ret_eq (congrArg Value.bool (decide_eq_false (fun e => hl (by rw [e]))).symm), Below.refl _ _⟩

set_option maxHeartbeats 4000000 in
theorem same_any (a b : Value) (x y : List (List Csv.F)) (w : World) (ha : Rows2 w w.heap.size a x) (hb : Rows2 w w.heap.size b y) (hx : x.length ≤ 1073741824) (hy : y.length ≤ 1073741824) (hxr : ∀ r ∈ x, r.length ≤ 1073741824) (hyr : ∀ r ∈ y, r.length ≤ 1073741824) :
    Calls Tryd.prog 14 #[a, b] w fun e w' => e = .returned (.bool (decide (x = y))) ∧ Below w.heap.size w w' := by
  obtain ⟨A, c, us, rfl, _, _, hul, hA, hAr⟩ := ha
  obtain ⟨A', c', us', rfl, _, _, hul', hB, hBr⟩ := hb
  by_cases hl : x.length = y.length
  · rw [← hl] at hB hul' ⊢
    have HL := Lib.hid hl
    have HA := Lib.hid hA
    have HB := Lib.hid hB
    have HAR := Lib.hid hAr
    have HBR := Lib.hid hBr
    have HXR := Lib.hid hxr
    have HYR := Lib.hid hyr
    clear hA hB hl hAr hBr hxr hyr
    obtain ⟨n, hn⟩ : ∃ n, x.length = n := ⟨_, rfl⟩
    rw [hn] at HA HB hul hul' ⊢ hx
    have HN := Lib.hid hn
    have HU := Lib.hid hul
    have HU' := Lib.hid hul'
    clear hn hul hul'
    go_enter Tryd.func14, Tryd.ntmps14
    go_wp2
    go_loopg [5] n (fun g i wr => ∃ k : Nat, k + g = n ∧ i = .int .i64 k ∧ Below w.heap.size w wr ∧ x.take k = y.take k)
    case atStart => exact ⟨0, by omega, rfl, Below.refl _ _, rfl⟩
    case round =>
      obtain ⟨k, hk, rfl, hbel, hpre⟩ := hrel
      have HP := Lib.hid hpre
      have HK := Lib.hid hk
      clear hpre hk
      cases gk with
      | zero =>
        obtain rfl : k = n := by have := HK.out; omega
        go_wp2
        go_ret
        refine ⟨ret_eq (congrArg Value.bool (decide_eq_true ?_).symm), hbel⟩
        have h1 := HP.out
        have h2 := HN.out
        have h3 := HL.out
        rwa [List.take_of_length_le (by omega), List.take_of_length_le (by omega)] at h1
      | succ g =>
        have hlt : k < n := by have := HK.out; omega
        obtain ⟨b1, o1, u1, rfl, hb1, hx1, hc1⟩ := (HA.out.below hbel).at_ hlt
        obtain ⟨b2, o2, u2, rfl, hb2, hx2, hc2⟩ := (HB.out.below hbel).at_ hlt
        have hkx : k < x.length := by have := HN.out; omega
        have hky : k < y.length := by have := HN.out; have := HL.out; omega
        have HT : Hid (x.take (k + 1) = x.take k ++ [x[k]] ∧ y.take (k + 1) = y.take k ++ [y[k]]) := ⟨List.take_succ_eq_append_getElem hkx, List.take_succ_eq_append_getElem hky⟩
        have hr1 := HAR.out k u1 _ hx1 (List.getElem?_eq_getElem hkx)
        have hr2 := HBR.out k u2 _ hx2 (List.getElem?_eq_getElem hky)
        have hm1 := HXR.out _ (List.getElem_mem hkx)
        have hm2 := HYR.out _ (List.getElem_mem hky)
        obtain ⟨fx, hfx⟩ : ∃ f, x[k] = f := ⟨_, rfl⟩
        obtain ⟨fy, hfy⟩ : ∃ f, y[k] = f := ⟨_, rfl⟩
        have hgx : x[k]? = some fx := by rw [← hfx]; exact List.getElem?_eq_getElem hkx
        have hgy : y[k]? = some fy := by rw [← hfy]; exact List.getElem?_eq_getElem hky
        rw [hfx] at HT hr1 hm1
        rw [hfy] at HT hr2 hm2
        have HGX := Lib.hid hgx
        have HGY := Lib.hid hgy
        have hs1 := (hr1.below hbel).more hbel.size
        have hs2 := (hr2.below hbel).more hbel.size
        have HC := Lib.hid (fun (W : World) (hW : Below wr.heap.size wr W) => sameRow_any u1 u2 fx fy W ((hs1.below hW).more hW.size) ((hs2.below hW).more hW.size) hm1 hm2)
        obtain ⟨A1, c1, hu1, _⟩ := hr1
        obtain ⟨A2, c2, hu2, _⟩ := hr2
        subst hu1 hu2
        clear hx1 hx2 hfx hfy hgx hgy hs1 hs2
        have hkn : ((k : Int)) < n := by omega
        have HBEL := Lib.hid hbel
        clear hbel
        go_wp2
        go_still_tail 8, (by kernel_rfl)
        change wpList _ _ _ _ _ wr.drew
        go_wp2_with fail
        refine (HC.out wr.drew ((Below.refl _ _).drew)).mono ?_
        rintro e w2 ⟨rfl, hb2⟩
        obtain ⟨d, hd⟩ : ∃ d, decide (fx = fy) = d := ⟨_, rfl⟩
        rw [hd]
        have hbel2 := HBEL.out.drew.trans (hb2.mono (B' := w.heap.size) HBEL.out.size)
        have HD := Lib.hid hd
        have HB2 := Lib.hid hbel2
        clear hd hb2 hbel2
        cases d with
        | true =>
          go_wp2
          go_roundg g
          case measure => omega
          case rel => exact ⟨k + 1, by have := HK.out; omega, by go_num, HB2.out, by rw [HT.out.1, HT.out.2, HP.out, of_decide_eq_true HD.out]⟩
        | false =>
          go_wp2
          go_ret
          refine ⟨ret_eq (congrArg Value.bool (decide_eq_false (fun e => ?_)).symm), HB2.out⟩
          have h1 := HGX.out
          have h2 := HGY.out
          rw [e, h2] at h1
          exact of_decide_eq_false HD.out (Option.some.inj h1).symm
  · have hd : ((x.length : Int) == (y.length : Int)) = false := by simp; omega
    go_enter Tryd.func14, Tryd.ntmps14
    go_wp2
    go_ret
    exact ⟨ret_eq (congrArg Value.bool (decide_eq_false (fun e => hl (by rw [e]))).symm), Below.refl _ _⟩

set_option maxHeartbeats 4000000 in
set_option maxRecDepth 100000 in
theorem copy_any (a : Value) (x : List (List Csv.F)) (w : World) (ha : Rows2 w w.heap.size a x) (hx : x.length ≤ 1073741824) (hxr : ∀ r ∈ x, r.length ≤ 1073741824) :
    Calls Tryd.prog 11 #[a] w fun e w' => ∃ v, e = .returned v ∧ OwnRows w' w.heap.size v x ∧ Below w.heap.size w w' := by
  obtain ⟨A, c, us, rfl, _, _, hul, hA, hAr⟩ := ha
  obtain ⟨i0, hi, hz0, hz1, hz2⟩ := info_parts info_strings
  obtain ⟨i1, hj, hy0, hy1, hy2⟩ := info_parts info_string
  have HA := Lib.hid hA
  have HAR := Lib.hid hAr
  have HXR := Lib.hid hxr
  clear hA hAr hxr
  obtain ⟨n, hn⟩ : ∃ n, x.length = n := ⟨_, rfl⟩
  rw [hn] at HA hul hx ⊢
  have HN := Lib.hid hn
  have HU := Lib.hid hul
  clear hn hul
  go_enter Tryd.func11, Tryd.ntmps11
  go_wp2
  go_loopg [3, 4] n (fun g v i wr => ∃ k : Nat, k + g = n ∧ i = .int .i64 k ∧ Below w.heap.size w wr ∧ OwnRows wr w.heap.size v (x.take k))
  case atStart =>
    refine ⟨0, by omega, rfl, (Below.refl _ _).alloc (Nat.le_refl _) _, [], rfl, ?_, fun k u r h => by simp at h, fun i j u u' _ h => by simp at h⟩
    exact own_empty w _ _ 0 _ (Nat.le_refl _) rfl
  case round =>
    obtain ⟨k, hk, rfl, hbel, hown⟩ := hrel
    have HK := Lib.hid hk
    clear hk
    have hlen := Lib.hid (x.length_take (i := k))
    obtain ⟨us', hu1, hu2, hu3, hu4⟩ := hown
    have hu1' : us'.length = min k n := by rw [hu1, List.length_take, HN.out]
    cases gk with
    | zero =>
      obtain rfl : k = n := by have := HK.out; omega
      have HO : Hid (OwnRows wr w.heap.size u3 (x.take k)) := ⟨us', hu1, hu2, hu3, hu4⟩
      have HB := Lib.hid hbel
      clear hu1 hu2 hu3 hu4 hu1' hbel
      go_wp2
      go_ret
      refine ⟨_, rfl, ?_, HB.out⟩
      have := HO.out
      rwa [List.take_of_length_le (by have := HN.out; omega)] at this
    | succ g =>
      have hlt : k < n := by have := HK.out; omega
      have hl2 : us'.length = k := by omega
      obtain ⟨b1, o1, u1, rfl, hb1, hx1, hc1⟩ := (HA.out.below hbel).at_ hlt
      have hkx : k < x.length := by have := HN.out; omega
      have HT : Hid (x.take (k + 1) = x.take k ++ [x[k]]) := List.take_succ_eq_append_getElem hkx
      have hr1 := HAR.out k u1 _ hx1 (List.getElem?_eq_getElem hkx)
      have hm1 := HXR.out _ (List.getElem_mem hkx)
      obtain ⟨fx, hfx⟩ : ∃ f, x[k] = f := ⟨_, rfl⟩
      rw [hfx] at HT hr1 hm1
      have hs1 := (hr1.below hbel).more hbel.size
      obtain ⟨A1, c1, hu1e, _⟩ := hr1
      subst hu1e
      obtain ⟨Ao, co, rfl⟩ := own_form hu2
      have HBEL := Lib.hid hbel
      have HU1 := Lib.hid hu1
      have HU2 := Lib.hid hu2
      have HU3 := Lib.hid hu3
      have HU4 := Lib.hid hu4
      have HS1 := Lib.hid hs1
      have HL2 := Lib.hid hl2
      clear hx1 hfx hs1 hbel hu1 hu2 hu3 hu4 hu1' hl2 hlen
      have hkn : ((k : Int)) < n := by omega
      have hbw := HBEL.out.size
      have hc1' : ∀ o, (wr.alloc o).cell? ⟨b1, o1 + k, none⟩ = some (.slice A1 fx.length c1) := fun o => (World.cell?_alloc_lt wr o ⟨b1, o1 + k, none⟩ (by simp; omega)).trans hc1
      obtain ⟨A2, c2, hv2, _, _, hR2⟩ := HS1.out
      obtain ⟨rfl, _, rfl⟩ : A1 = A2 ∧ True ∧ c1 = c2 := by cases hv2; exact ⟨rfl, trivial, rfl⟩
      have HR2 := Lib.hid hR2
      clear hc1 hv2 hR2
      go_wp2_with (at_builtin; refine wpList_append_any _ rfl (.tmp 13) (.tmp 17) 40 rfl w.heap.size 9 i1 (.string ⟨#[]⟩) 1 16 Tryd.underlying40 hj hy0 hy1 hy2 rfl (by decide) (.slice (some ⟨wr.heap.size, 0, none⟩) 0 0) 0 [] rfl (own_empty wr _ _ 0 _ hbw rfl) wr.heap.size A1 fx.length c1 (fx.map S) rfl (HR2.out.keep (fun p hp => World.cell?_alloc_lt wr _ p hp)) ?c1 ?c2 ?c3 ?c4 ?_)
      case c1 => intro u hu; obtain ⟨f, _, rfl⟩ := List.mem_map.1 hu; rfl
      case c2 => unfold maxLen; omega
      case c3 => omega
      case c4 => simp; omega
      intro v2 w2 hown2 hgr2 hwhere2
      obtain ⟨A3, c3, rfl⟩ := own_form hown2
      have hold : ∀ {e n : Nat} {v : Value} {xs : List Value}, wr.ownsRow w.heap.size e 1 v n xs → w2.ownsRow w.heap.size e 1 v n xs := fun h =>
        (World.ownsRow.alloc h _).kept hgr2 (.inr (fun e => by have := (h.lt wr.heap.size (by rw [e]; rfl)).2; omega))
      have hbel2 : Below w.heap.size w w2 := (HBEL.out.alloc hbw _).grown hgr2 (by simp; omega) (fun j e => by cases e; exact hbw)
      have hvb : ∀ j, (Value.slice A3 fx.length c3).ownBlock = some j → wr.heap.size ≤ j := fun j e => by
        rcases hwhere2 with h | h
        · rw [h] at e; cases e; exact Nat.le_refl _
        · rw [h] at e; cases e; simp
      have HO2 := Lib.hid (hold HU2.out)
      have HO3 : Hid (∀ (j : Nat) u r, us'[j]? = some u → (x.take k)[j]? = some r → w2.ownsRow w.heap.size 9 1 u r.length (r.map S)) := fun j u r hu hr => hold (HU3.out j u r hu hr)
      have HOV := Lib.hid hown2
      have HB2 := Lib.hid hbel2
      have HVB := Lib.hid hvb
      have hsz2 : w.heap.size ≤ w2.heap.size := hbel2.size
      clear hold hown2 hgr2 hwhere2 hbel2 hvb HR2 HS1 hm1 hc1'
      go_wp2_with (at_builtin; refine wpList_append_own _ rfl (.tmp 12) (.tmp 19) 22 rfl w.heap.size 40 i0 (.slice none 0 0) 1 24 Tryd.underlying22 hi hz0 hz1 hz2 rfl (by decide) _ _ _ rfl (World.ownsRow.alloc HO2.out _) ⟨w2.heap.size, 0, none⟩ 1 1 [.slice A3 fx.length c3] rfl rfl ?d1 ?d2 ?d3 ?d4 ?d5 ?_)
      case d1 => exact cell_one_new _ _ _
      case d2 => simp [Value.oneCell']
      case d3 => have := HL2.out; unfold maxLen; omega
      case d4 => have := HL2.out; omega
      case d5 => simp; omega
      intro v3 w3 hown3 hgr3 _
      have hrow : ∀ {n : Nat} {v : Value} {xs : List Value}, w2.ownsRow w.heap.size 9 1 v n xs → w3.ownsRow w.heap.size 9 1 v n xs := fun h =>
        own_kept_ty (World.ownsRow.alloc h _) hgr3 (fun g c t fz e hc => by
          obtain ⟨_, c', hc'⟩ := own_blocks (World.ownsRow.alloc HO2.out (.cells #[.slice A3 fx.length c3] 40)) g e
          rw [hc'] at hc
          cases hc
          decide)
      have hown4 : OwnRows w3 w.heap.size v3 (x.take (k + 1)) := by
        rw [HT.out]
        refine OwnRows.snoc HU1.out hown3 (fun j u r hu hr => hrow (HO3.out j u r hu hr)) (hrow HOV.out) HU4.out (fun i y hy => ?_)
        cases hyb : y.ownBlock with
        | none => exact .inl rfl
        | some g =>
          refine .inr (fun e => ?_)
          have h1 := HVB.out g e.symm
          have hi' : i < us'.length := (List.getElem?_eq_some_iff.1 hy).1
          have hl' : i < (x.take k).length := by rw [← HU1.out]; exact hi'
          have h2 := ((HU3.out i y _ hy (List.getElem?_eq_getElem hl')).lt g hyb).2
          omega
      have HO4 := Lib.hid hown4
      have HB3 : Hid (Below w.heap.size w w3) := (HB2.out.alloc hsz2 _).grown hgr3 (by simp; omega) (fun j e => (World.ownsRow.lt HO2.out j e).1)
      clear hown4 hrow hown3 hgr3
      go_wp2
      go_roundg g
      case measure => omega
      case rel => exact ⟨k + 1, by have := HK.out; omega, by go_num, HB3.out, HO4.out⟩
end Go.Proofs.YtjkbaihcdjbjiaaDoor
