/- Layer 24 (lexer): the laws Names, There, Quotes, Joins, as contracts. -/
import Derived.Test.YthnaiiejjdmnaaaDoorLexAll
import Derived.Test.YthnaiiejjdmnaaaDoorLexQte
namespace Go.Proofs.YthnaiiejjdmnaaaDoor
open Go.RowKit

theorem toksC_at : ∀ (l : List Lex.Tok) (i : Nat) (t : Lex.Tok) (j : Nat), j < 4 → l[i]? = some t → (toksC l)[i * 4 + j]? = (tokC t)[j]?
  | [], i, t, j, hj, h => by simp at h
  | u :: r, 0, t, j, hj, h => by
    simp at h
    subst h
    rw [toksC, List.flatMap_cons, List.getElem?_append_left (by simp [tokC]; omega)]
    simp
  | u :: r, i + 1, t, j, hj, h => by
    rw [List.getElem?_cons_succ] at h
    have ih := toksC_at r i t j hj h
    rw [toksC, List.flatMap_cons, List.getElem?_append_right (by simp [tokC]; omega), ← toksC]
    rw [show (i + 1) * 4 + j - (tokC u).length = i * 4 + j by simp [tokC]; omega]
    exact ih
/-- where the tokens lie -/
theorem OwnToks.place {w : World} {B : Nat} {v : Value} {l : List Lex.Tok} (h : OwnToks w B v l) (hne : 0 < l.length) :
    ∃ g c, v = .slice (some ⟨g, 0, none⟩) l.length c ∧ B ≤ g ∧ ∀ (i : Nat) (t : Lex.Tok), l[i]? = some t → w.cell? ⟨g, i * 4, none⟩ = some (.int .i64 (t.kind : Int)) ∧ w.cell? ⟨g, i * 4 + 1, none⟩ = some (.string ⟨t.text.toArray⟩) ∧ w.cell? ⟨g, i * 4 + 2, none⟩ = some (.int .i64 t.num) ∧ w.cell? ⟨g, i * 4 + 3, none⟩ = some (.int .i64 (t.pos : Int)) := by
  have h0 := h
  unfold OwnToks at h
  rcases h.2 with ⟨hv, hn⟩ | ⟨g, cap, cur, rfl, hb, hg, _⟩
  · omega
  · refine ⟨g, cap, rfl, hb, fun i t ht => ?_⟩
    have hi : i < l.length := (List.getElem?_eq_some_iff.1 ht).1
    refine ⟨?_, ?_, ?_, ?_⟩
    · exact (h.cellAt (i * 4) (by omega)).trans (toksC_at l i t 0 (by omega) ht)
    · exact (h.cellAt (i * 4 + 1) (by omega)).trans (toksC_at l i t 1 (by omega) ht)
    · exact (h.cellAt (i * 4 + 2) (by omega)).trans (toksC_at l i t 2 (by omega) ht)
    · exact (h.cellAt (i * 4 + 3) (by omega)).trans (toksC_at l i t 3 (by omega) ht)

theorem speaks_read1 : Lex.read [40, 110, 48, 41, 45, 91, 114, 49, 58, 84, 93, 45, 62, 40, 110, 50, 41] = ([⟨5, [40], 0, 0⟩, ⟨1, [110, 48], 0, 1⟩, ⟨5, [41], 0, 3⟩, ⟨5, [45], 0, 4⟩, ⟨5, [91], 0, 5⟩, ⟨1, [114, 49], 0, 6⟩, ⟨5, [58], 0, 8⟩, ⟨1, [84], 0, 9⟩, ⟨5, [93], 0, 10⟩, ⟨5, [45, 62], 0, 11⟩, ⟨5, [40], 0, 13⟩, ⟨1, [110, 50], 0, 14⟩, ⟨5, [41], 0, 16⟩], none) := by kernel_rfl
theorem speaks_read2 : Lex.read [97, 47, 98] = ([⟨1, [97], 0, 0⟩], some (1, 240)) := by kernel_rfl
theorem speaks_quote : Lex.quote [97, 10, 39, 98] = [39, 97, 92, 110, 92, 39, 98, 39] := by kernel_rfl

set_option maxHeartbeats 8000000 in
set_option maxRecDepth 100000 in
theorem lexSpeaks_any (w : World) (hL : Laid w) :
    Calls Tryd.prog 8 #[] w fun e w' => e = .returned (.bool true) ∧ Below w.heap.size w w' := by
  have ha1 := fun (W : World) (hb : Below w.heap.size w W) => all_any ⟨#[40, 110, 48, 41, 45, 91, 114, 49, 58, 84, 93, 45, 62, 40, 110, 50, 41]⟩ (by decide) W (hL.below hb)
  have ha2 := fun (W : World) (hb : Below w.heap.size w W) => all_any ⟨#[97, 47, 98]⟩ (by decide) W (hL.below hb)
  have hq := fun (W : World) => quote_any ⟨#[97, 10, 39, 98]⟩ W (by decide)
  simp only [AllRes] at ha1 ha2
  rw [speaks_read1] at ha1
  rw [speaks_read2] at ha2
  rw [speaks_quote] at hq
  have HA1 := Lib.hid ha1
  have HA2 := Lib.hid ha2
  have HQ := Lib.hid hq
  have hu := undef_no
  clear ha1 ha2 hq hL
  go_enter Tryd.func8, Tryd.ntmps8
  go_wp2_with fail
  refine (HA1.out _ (Below.refl _ _)).mono ?_
  rintro e w1 ⟨hb1, v, rfl, ho⟩
  obtain ⟨g, c, rfl, -, hc⟩ := ho.place (by decide)
  obtain ⟨a0, a1, a2, a3⟩ := hc 1 _ rfl
  obtain ⟨-, b1, -, -⟩ := hc 9 _ rfl
  simp at a0 a1 a2 a3 b1
  have HB1 := Lib.hid hb1
  clear hc ho hb1
  go_wp2_with fail
  refine (HA2.out _ HB1.out).mono ?_
  rintro e w2 ⟨hb2, rfl⟩
  have HB2 := Lib.hid (HB1.out.trans (hb2.mono HB1.out.size))
  clear hb2 a0 a1 a2 a3 b1
  go_wp2_with fail
  refine (HQ.out _).mono ?_
  rintro e w3 ⟨rfl, hb3⟩
  have HB3 := Lib.hid (HB2.out.trans (hb3.mono HB2.out.size))
  clear hb3
  go_wp2
  go_ret
  exact ⟨rfl, HB3.out⟩

set_option maxHeartbeats 4000000 in
set_option maxRecDepth 100000 in
theorem lexerNames_any (w : World) (hL : Laid w) :
    Calls Tryd.prog 3 #[] w fun e w' => e = .returned (.bool true) ∧ Below w.heap.size w w' := by
  have hsp := lexSpeaks_any w hL
  have HS := Lib.hid hsp
  clear hsp hL
  go_enter Tryd.func3, Tryd.ntmps3
  go_wp2_with fail
  refine HS.out.mono ?_
  rintro e w1 ⟨rfl, hb⟩
  have HB := Lib.hid hb
  clear hb
  go_wp2
  go_ret
  exact ⟨rfl, HB.out⟩

set_option maxHeartbeats 8000000 in
set_option maxRecDepth 100000 in
theorem lexerThere_any (s : ByteArray) (w : World) (hs : s.size ≤ 67108864) (hL : Laid w) :
    Calls Tryd.prog 6 #[.string s] w fun e w' => e = .returned (.bool true) ∧ Below w.heap.size w w' := by
  have hsp := lexSpeaks_any w hL
  have hlen := Lib.size_eq s
  have hql := Lex.quote_len s.data.toList
  have hrq := @Lex.read_quote s.data.toList
  rw [← hlen] at hql
  obtain ⟨q, hq⟩ : ∃ q : ByteArray, (⟨(Lex.quote s.data.toList).toArray⟩ : ByteArray) = q := ⟨_, rfl⟩
  have hqs : q.size = (Lex.quote s.data.toList).length := by rw [← hq]; exact size_list _
  have hqd : q.data.toList = Lex.quote s.data.toList := by rw [← hq]
  have hquo := fun (W : World) => quote_any s W hs
  rw [hq] at hquo
  rw [← hqs] at hql hrq
  have hss : (⟨s.data.toList.toArray⟩ : ByteArray) = s := by simp
  have HS := Lib.hid hsp
  have HQ := Lib.hid hquo
  have hu := undef_no
  have hqle : (q.size : Int) ≤ 4 * (s.size : Int) + 2 := by omega
  have hsi : (s.size : Int) ≤ 67108864 := by omega
  by_cases hbig : 16777216 < q.size
  · have d1 : decide ((16777216 : Int) < q.size) = true := decide_eq_true (by omega)
    have d1' : decide (16777216 < q.size) = true := decide_eq_true hbig
    clear hsp hL hlen hql hrq hq hqs hqd hquo hss
    go_enter Tryd.func6, Tryd.ntmps6
    go_wp2_with fail
    refine HS.out.mono ?_
    rintro e w1 ⟨rfl, hb1⟩
    have HB1 := Lib.hid hb1
    clear hb1
    go_wp2_with fail
    refine (HQ.out _).mono ?_
    rintro e w2 ⟨rfl, hb2⟩
    have HB2 := Lib.hid (HB1.out.trans (hb2.mono HB1.out.size))
    clear hb2
    go_wp2
    go_ret
    exact ⟨rfl, HB2.out⟩
  · have d1 : decide ((16777216 : Int) < q.size) = false := decide_eq_false (by omega)
    have d1' : decide (16777216 < q.size) = false := decide_eq_false hbig
    have hr := hrq (by omega)
    have hall := fun (W : World) (hb : Below w.heap.size w W) => all_any q (by omega) W (hL.below hb)
    rw [hqd, hr] at hall
    have HA := Lib.hid hall
    have HSS := Lib.hid hss
    clear hsp hL hlen hql hrq hq hqs hqd hquo hr hall hss
    go_enter Tryd.func6, Tryd.ntmps6
    go_wp2_with fail
    refine HS.out.mono ?_
    rintro e w1 ⟨rfl, hb1⟩
    have HB1 := Lib.hid hb1
    clear hb1
    go_wp2_with fail
    refine (HQ.out _).mono ?_
    rintro e w2 ⟨rfl, hb2⟩
    have HB2 := Lib.hid (HB1.out.trans (hb2.mono HB1.out.size))
    clear hb2
    go_wp2_with fail
    refine (HA.out _ HB2.out).mono ?_
    rintro e w3 ⟨hb3, v, rfl, ho⟩
    obtain ⟨g, c, rfl, -, hc⟩ := ho.place (by simp)
    obtain ⟨a0, a1, a2, a3⟩ := hc 0 _ rfl
    simp only [HSS.out] at a1
    simp at a0 a1 a2 a3
    have HB3 := Lib.hid (HB2.out.trans (hb3.mono HB2.out.size))
    have hle : decide ((q.size : Int) ≤ 4 * (s.size : Int) + 2) = true := decide_eq_true hqle
    clear hc ho hb3
    go_wp2
    go_ret
    exact ⟨rfl, HB3.out⟩
end Go.Proofs.YthnaiiejjdmnaaaDoor
