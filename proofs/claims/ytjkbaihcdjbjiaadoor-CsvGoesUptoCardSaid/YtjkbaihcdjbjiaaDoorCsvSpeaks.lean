/- Layer 21 (csv): the laws' own look at fixed texts. -/
import Derived.Test.YtjkbaihcdjbjiaaDoorCsvPrint
namespace Go.Proofs.YtjkbaihcdjbjiaaDoor
open Go.RowKit

theorem Reads.of_blk {w : World} {B g T n : Nat} {cs : Array Value} (h : Blk w g T cs) (hg : g < B) (hn : cs.size = n) : Reads w B 1 (some ⟨g, 0, none⟩) n cs.toList := by
  refine ⟨by simp [hn], fun _ => ⟨g, 0, rfl, hg, fun j u hu => ?_⟩⟩
  rw [h.cell]
  simpa using hu

def spRows : List (List Csv.F) := [[[97], [98]], [[]], [[120, 34, 121], [49, 44, 50]]]
def spText : Csv.F := [97, 44, 98, 13, 10, 13, 10, 34, 120, 34, 34, 121, 34, 44, 34, 49, 44, 50, 34, 13, 10]
theorem sp_print : Csv.print spRows = some spText := by decide
theorem sp_parse : Csv.rowsOf spText = (spRows, 0) := by
  have h := Csv.rows_print spRows (by decide)
  have h2 := Csv.print_some (rs := spRows) (by decide)
  rw [sp_print] at h2
  rw [← Option.some.inj h2] at h
  exact h
theorem sp_bad : Csv.rowsOf [97, 34, 98] = ([], 210) := by decide

set_option maxHeartbeats 8000000 in
set_option maxRecDepth 100000 in
theorem speaks_any (w : World) (m : Int) (hm : w.cell? ⟨0, 0, none⟩ = some (.int .i64 m)) :
    Calls Tryd.prog 10 #[] w fun e w' => e = .returned (.bool true) ∧ Below w.heap.size w w' := by
  have HC := Lib.hid hm
  have hw0 : 0 < w.heap.size := by
    rcases Nat.eq_zero_or_pos w.heap.size with h | h
    · unfold World.cell? at hm
      simp [Array.getElem?_eq_none (show w.heap.size ≤ 0 by omega)] at hm
    · exact h
  clear hm
  have hpr := fun (a : Value) (wx : World) (h1 : Rows2 wx wx.heap.size a spRows) (h2 : wx.cell? ⟨0, 0, none⟩ = some (.int .i64 m)) => print_any a spRows wx m h1 h2 (by decide)
  have hpa := fun (wx : World) => parse_any ⟨spText.toArray⟩ (by decide) wx
  have hpb := fun (wx : World) => parse_any ⟨#[97, 34, 98]⟩ (by decide) wx
  rw [sp_print] at hpr
  have e1 : (⟨spText.toArray⟩ : ByteArray).data.toList = spText := rfl
  have e2 : (⟨#[97, 34, 98]⟩ : ByteArray).data.toList = [97, 34, 98] := rfl
  rw [e1] at hpa
  rw [e2] at hpb
  unfold ParseRes at hpa hpb
  rw [sp_parse] at hpa
  rw [sp_bad] at hpb
  have HPR := Lib.hid hpr
  have HPA := Lib.hid hpa
  have HPB := Lib.hid hpb
  clear hpr hpa hpb e1 e2
  go_enter Tryd.func10, Tryd.ntmps10
  go_wp2_with fail
  obtain ⟨W, hW⟩ : ∃ W, ((((w.alloc (.cells #[.string ⟨#[97]⟩, .string ⟨#[98]⟩] 9)).alloc (.cells #[.string ⟨#[]⟩] 9)).alloc (.cells #[.string ⟨#[120, 34, 121]⟩, .string ⟨#[49, 44, 50]⟩] 9)).alloc
    (.cells #[.slice (some ⟨w.heap.size, 0, none⟩) 2 2, .slice (some ⟨w.heap.size + 1, 0, none⟩) 1 1, .slice (some ⟨w.heap.size + 1 + 1, 0, none⟩) 2 2] 40)) = W := ⟨_, rfl⟩
  have hsz : W.heap.size = w.heap.size + 4 := by rw [← hW]; simp
  have b0 : Blk W w.heap.size 9 #[S [97], S [98]] := by rw [← hW]; exact (((Blk.new w _ _).alloc _).alloc _).alloc _
  have b1 : Blk W (w.heap.size + 1) 9 #[S []] := by
    rw [← hW]
    have := ((Blk.new (w.alloc (.cells #[.string ⟨#[97]⟩, .string ⟨#[98]⟩] 9)) 9 #[.string ⟨#[]⟩]).alloc (.cells #[.string ⟨#[120, 34, 121]⟩, .string ⟨#[49, 44, 50]⟩] 9)).alloc (.cells #[.slice (some ⟨w.heap.size, 0, none⟩) 2 2, .slice (some ⟨w.heap.size + 1, 0, none⟩) 1 1, .slice (some ⟨w.heap.size + 1 + 1, 0, none⟩) 2 2] 40)
    simpa [S] using this
  have b2 : Blk W (w.heap.size + 1 + 1) 9 #[S [120, 34, 121], S [49, 44, 50]] := by
    rw [← hW]
    have := (Blk.new ((w.alloc (.cells #[.string ⟨#[97]⟩, .string ⟨#[98]⟩] 9)).alloc (.cells #[.string ⟨#[]⟩] 9)) 9 #[.string ⟨#[120, 34, 121]⟩, .string ⟨#[49, 44, 50]⟩]).alloc (.cells #[.slice (some ⟨w.heap.size, 0, none⟩) 2 2, .slice (some ⟨w.heap.size + 1, 0, none⟩) 1 1, .slice (some ⟨w.heap.size + 1 + 1, 0, none⟩) 2 2] 40)
    simpa [S] using this
  have b3 : Blk W (w.heap.size + 1 + 1 + 1) 40 #[.slice (some ⟨w.heap.size, 0, none⟩) 2 2, .slice (some ⟨w.heap.size + 1, 0, none⟩) 1 1, .slice (some ⟨w.heap.size + 1 + 1, 0, none⟩) 2 2] := by
    rw [← hW]
    have := Blk.new (((w.alloc (.cells #[.string ⟨#[97]⟩, .string ⟨#[98]⟩] 9)).alloc (.cells #[.string ⟨#[]⟩] 9)).alloc (.cells #[.string ⟨#[120, 34, 121]⟩, .string ⟨#[49, 44, 50]⟩] 9)) 40 #[.slice (some ⟨w.heap.size, 0, none⟩) 2 2, .slice (some ⟨w.heap.size + 1, 0, none⟩) 1 1, .slice (some ⟨w.heap.size + 1 + 1, 0, none⟩) 2 2]
    simpa using this
  have hbW : Below w.heap.size w W := by
    rw [← hW]
    exact ((((Below.refl _ _).alloc (Nat.le_refl _) _).alloc (by simp) _).alloc (by simp; omega) _).alloc (by simp; omega) _
  have HBW := Lib.hid hbW
  have hrows : Rows2 W W.heap.size (.slice (some ⟨w.heap.size + 1 + 1 + 1, 0, none⟩) 3 3) spRows := by
    refine ⟨_, 3, [.slice (some ⟨w.heap.size, 0, none⟩) 2 2, .slice (some ⟨w.heap.size + 1, 0, none⟩) 1 1, .slice (some ⟨w.heap.size + 1 + 1, 0, none⟩) 2 2], rfl, by decide, by decide, rfl, Reads.of_blk b3 (by omega) rfl, fun k u r hu hr => ?_⟩
    match k with
    | 0 => cases hu; cases hr; exact ⟨_, 2, rfl, by decide, by decide, Reads.of_blk b0 (by omega) rfl⟩
    | 1 => cases hu; cases hr; exact ⟨_, 1, rfl, by decide, by decide, Reads.of_blk b1 (by omega) rfl⟩
    | 2 => cases hu; cases hr; exact ⟨_, 2, rfl, by decide, by decide, Reads.of_blk b2 (by omega) rfl⟩
    | k + 3 => simp at hu
  have hmW : W.cell? ⟨0, 0, none⟩ = some (.int .i64 m) := (hbW.cell hw0).trans HC.out
  rw [hW]
  clear hW b0 b1 b2 b3 hbW
  refine (HPR.out _ W hrows hmW).mono ?_
  rintro e w1 ⟨rfl, hb1⟩
  have HB1 : Hid (Below w.heap.size w w1) := HBW.out.trans (hb1.mono (by omega))
  have hs1 := HB1.out.size
  clear hrows hmW hb1 HBW hsz
  simp only [printVal, spText]
  go_wp2_with fail
  refine (HPA.out _).mono ?_
  rintro e w2 ⟨v2, rfl, hb2, ho2⟩
  have ho2 : OwnRows w2 w1.heap.size v2 spRows := by simpa using ho2
  have HB2 : Hid (Below w.heap.size w w2) := HB1.out.trans (hb2.mono hs1)
  have hr2 := Rows2.of_own ho2
  have HR2 := Lib.hid hr2
  clear hb2 ho2 hr2
  have hs2 := HB2.out.size
  go_wp2_with fail
  refine (HPB.out _).mono ?_
  rintro e w3 ⟨v3, rfl, hb3, ho3⟩
  have ho3 : v3 = .slice none 0 0 := by simpa using ho3
  subst ho3
  have HB3 : Hid (Below w.heap.size w w3) := HB2.out.trans (hb3.mono hs2)
  have hr3 := HR2.out.below hb3
  obtain ⟨A, c, us, rfl, _, _, hul, hA, hAr⟩ := hr3
  obtain ⟨g, o, u, rfl, hg, hx, hc⟩ := hA.at_ (k := 2) (by decide)
  have hrow := hAr 2 u _ hx rfl
  obtain ⟨A2, c2, rfl, _, _, hA2⟩ := hrow
  obtain ⟨g2, o2, u2, rfl, hg2, hx2, hc2⟩ := hA2.at_ (k := 0) (by decide)
  cases hx2
  have hc2 : w3.cell? ⟨g2, o2, none⟩ = some (.string ⟨#[120, 34, 121]⟩) := hc2
  clear hb3 hA hAr hA2 hx hul
  go_wp2
  go_ret
  exact ⟨rfl, HB3.out⟩
end Go.Proofs.YtjkbaihcdjbjiaaDoor
