/- Layer 21 (csv): Print. -/
import Derived.Test.YtjkbaihcdjbjiaaDoorCsvRead
import Derived.Test.YtjkbaihcdjbjiaaDoorAny
import Derived.Test.YtjkbaihcdjbjiaaDoorBuilder
import Derived.Test.YtjkbaihcdjbjiaaDoorReplace
namespace Go.Proofs.YtjkbaihcdjbjiaaDoor
open Go.RowKit

def printVal (k : Int) : Option Csv.F → Value
  | none => .tuple #[.string ⟨#[]⟩, .int .i64 k]
  | some t => .tuple #[.string ⟨t.toArray⟩, .int .i64 0]
theorem esc_repl (f : Csv.F) : Csv.esc f = repl1 34 [34, 34] f := rfl
theorem replB (f : Csv.F) : (⟨(Lib.replaceAll (⟨f.toArray⟩ : ByteArray).data.toList (⟨#[34]⟩ : ByteArray).data.toList (⟨#[34, 34]⟩ : ByteArray).data.toList).toArray⟩ : ByteArray) = ⟨(Csv.esc f).toArray⟩ := by
  rw [esc_repl, ← replaceAll_one f 34 [34, 34] (by decide)]
theorem wRows_cons (r : List Csv.F) (rs : List (List Csv.F)) : Csv.wRows (r :: rs) = Csv.wRow r + Csv.wRows rs := by simp [Csv.wRows]
theorem wRow_cons (f : Csv.F) (r : List Csv.F) : Csv.wRow (f :: r) = 2 * f.length + 3 + Csv.wRow r := by simp [Csv.wRow]; omega
theorem fieldsK_cons (k : Nat) (f : Csv.F) (r : List Csv.F) : Csv.fieldsK k (f :: r) = (if 0 < k then [44] else []) ++ Csv.printF f ++ Csv.fieldsK (k + 1) r := rfl
theorem len_le_wRow (r : List Csv.F) : r.length ≤ Csv.wRow r := by
  induction r with
  | nil => simp
  | cons f r ih => rw [wRow_cons]; simp; omega
theorem len_le_wRows (rs : List (List Csv.F)) : rs.length ≤ Csv.wRows rs := by
  induction rs with
  | nil => simp
  | cons r rs ih => rw [wRows_cons]; have : 2 ≤ Csv.wRow r := by simp [Csv.wRow]
                    simp; omega
theorem any_special (f : Csv.F) : Lib.containsAny f [34, 44, 13, 10] = f.any Csv.special := by
  unfold Lib.containsAny
  induction f with
  | nil => rfl
  | cons b f ih =>
    have hb : ([34, 44, 13, 10] : List UInt8).contains b = Csv.special b := by
      unfold Csv.special
      cases h1 : b == 34 <;> cases h2 : b == 44 <;> cases h3 : b == 13 <;> cases h4 : b == 10 <;> simp only [List.contains_cons, List.contains_nil, h1, h2, h3, h4] <;> rfl
    have hge := Lib.indexAny_ge [34, 44, 13, 10] f
    rw [Lib.indexAny, List.any_cons, ← ih, hb]
    cases Csv.special b with
    | true => simp
    | false =>
      rw [if_neg (by simp), Bool.false_or]
      split
      · rename_i h; rw [eq_of_beq h]
      · rename_i h
        have : Lib.indexAny f [34, 44, 13, 10] ≠ -1 := fun e => h (by rw [e]; rfl)
        simp only [decide_eq_decide]; omega

set_option maxHeartbeats 4000000 in
set_option maxRecDepth 100000 in
theorem print_any (a : Value) (x : List (List Csv.F)) (w : World) (m : Int) (ha : Rows2 w w.heap.size a x) (hm : w.cell? ⟨0, 0, none⟩ = some (.int .i64 m)) (hw : Csv.wRows x ≤ 268435456) :
    Calls Tryd.prog 12 #[a] w fun e w' => e = .returned (printVal 2 (Csv.print x)) ∧ Below w.heap.size w w' := by
  have hx0 := len_le_wRows x
  obtain ⟨A, c, us, rfl, _, _, hul, hA, hAr⟩ := ha
  have HA := Lib.hid hA
  have HAR := Lib.hid hAr
  clear hA hAr
  obtain ⟨n, hn⟩ : ∃ n, x.length = n := ⟨_, rfl⟩
  obtain ⟨M, hM⟩ : ∃ M, Csv.wRows x = M := ⟨_, rfl⟩
  rw [hn] at HA hul hx0 ⊢
  rw [hM] at hw hx0
  have HN := Lib.hid hn
  have HU := Lib.hid hul
  have HM := Lib.hid hM
  have HC := Lib.hid hm
  have hw0 : 0 < w.heap.size := by
    rcases Nat.eq_zero_or_pos w.heap.size with h | h
    · unfold World.cell? at hm
      simp [Array.getElem?_eq_none (show w.heap.size ≤ 0 by omega)] at hm
    · exact h
  clear hn hul hM hm
  go_enter Tryd.func12, Tryd.ntmps12
  go_wp2
  have hB0 := Bld.fresh w
  go_loopg [11] n (fun g i wr => ∃ (k : Nat) (acc : Csv.F), k + g = n ∧ i = .int .i64 k ∧ Below w.heap.size w wr ∧ Bld w.heap.size w.heap.size acc wr ∧ Csv.print x = (Csv.print (x.drop k)).map (acc ++ ·) ∧ acc.length + Csv.wRows (x.drop k) ≤ M)
  case atStart =>
    exact ⟨0, [], by omega, rfl, (Below.refl _ _).alloc (Nat.le_refl _) _, hB0, by simp, by have := HM.out; simp [this]⟩
  case round =>
    obtain ⟨k, acc, hk, rfl, hbel, hbld, hpr, hlen⟩ := hrel
    have HK := Lib.hid hk
    have HBEL := Lib.hid hbel
    have HB := Lib.hid hbld
    have HP := Lib.hid hpr
    clear hk hbel hbld hpr hB0
    have hB := HBEL.out.size
    cases gk with
    | zero =>
      obtain rfl : k = n := by have := HK.out; omega
      go_wp2_with ((go_at_call 24; refine (bld_string w.heap.size w.heap.size acc wr HB.out hB).mono ?_; rintro e w' ⟨rfl, hb2, hb3, hb4⟩))
      go_ret2
      refine ⟨ret_eq ?_, HBEL.out.trans hb3⟩
      rw [HP.out, List.drop_of_length_le (by have := HN.out; omega)]
      simp [Csv.print, printVal]
    | succ g =>
      have hlt : k < n := by have := HK.out; omega
      obtain ⟨b1, o1, u1, rfl, hb1, hx1, hc1⟩ := (HA.out.below HBEL.out).at_ hlt
      have hkx : k < x.length := by have := HN.out; omega
      have HD : Hid (x.drop k = x[k] :: x.drop (k + 1)) := List.drop_eq_getElem_cons hkx
      have hr1 := HAR.out k u1 _ hx1 (List.getElem?_eq_getElem hkx)
      obtain ⟨row, hrow⟩ : ∃ f, x[k] = f := ⟨_, rfl⟩
      rw [hrow] at HD hr1
      rw [HD.out, wRows_cons] at hlen
      obtain ⟨A1, c1, hu1e, _, _, hR⟩ := hr1
      subst hu1e
      have hl0 := len_le_wRow row
      obtain ⟨m1, hm1⟩ : ∃ m, row.length = m := ⟨_, rfl⟩
      rw [hm1] at hl0 hR hc1
      have HR := Lib.hid hR
      have HM1 := Lib.hid hm1
      clear hR hx1 hrow hm1
      have hkn : ((k : Int)) < n := by omega
      by_cases he : m1 = 0
      · subst he
        have : row = [] := List.eq_nil_of_length_eq_zero HM1.out
        subst this
        go_wp2
        go_ret2
        refine ⟨ret_eq ?_, HBEL.out⟩
        rw [HP.out, HD.out]
        rfl
      · have hne0 : ((m1 : Int) == 0) = false := by simp; omega
        go_wp2
        go_loopg [20] m1 (fun g i wx => ∃ (j : Nat) (acc' : Csv.F), j + g = m1 ∧ i = .int .i64 j ∧ Below w.heap.size w wx ∧ Bld w.heap.size w.heap.size acc' wx ∧ acc ++ Csv.fieldsK 0 row = acc' ++ Csv.fieldsK j (row.drop j) ∧ acc'.length + Csv.wRow (row.drop j) ≤ acc.length + Csv.wRow row)
        case atStart => exact ⟨0, acc, by omega, rfl, HBEL.out, HB.out, by simp, by simp⟩
        case round =>
          obtain ⟨j, acc', hj, rfl, hbel, hbld, hfl, hlen'⟩ := hrel
          have HJ := Lib.hid hj
          have HB' := Lib.hid hbld
          have HF := Lib.hid hfl
          have HBEL' := Lib.hid hbel
          have hB' := hbel.size
          clear hj hbld hfl hbel HB hB HBEL
          cases gk with
          | zero =>
            obtain rfl : j = m1 := by have := HJ.out; omega
            have HF2 : Hid (acc ++ Csv.printRow row = acc' ++ [13, 10]) := by
              refine Lib.hid ?_
              have h1 := HF.out
              rw [List.drop_of_length_le (by have := HM1.out; omega)] at h1
              unfold Csv.printRow
              rw [← List.append_assoc, h1]
              simp [Csv.fieldsK]
            have hl2 : acc'.length + 2 ≤ acc.length + Csv.wRow row := by
              have h1 := HF2.out
              have h2 := congrArg List.length h1
              have h3 := Csv.fieldsK_length row 0
              simp [Csv.printRow] at h2
              omega
            have hacc : acc'.length < 1073741824 := by omega
            go_wp2_with ((go_at_call 23; refine (bld_str w.heap.size w.heap.size acc' ⟨#[13, 10]⟩ _ HB'.out (by decide) hacc hB').mono ?_; rintro e w' ⟨rfl, hb2, hb3, hb4⟩))
            go_roundg g
            case measure => omega
            case rel =>
              refine ⟨k + 1, acc' ++ [13, 10], by have := HK.out; omega, by go_num, HBEL'.out.trans hb3, hb2, ?_, ?_⟩
              · have hrn : row ≠ [] := fun e => by rw [e] at HM1; exact he HM1.out.symm
                rw [HP.out, HD.out, Csv.print, if_neg hrn, Option.map_map]
                congr 1
                funext t
                simp only [Function.comp]
                rw [← List.append_assoc, HF2.out]
              · simp; omega
          | succ g' =>
            have hlt' : j < m1 := by have := HJ.out; omega
            obtain ⟨b2, o2, u2, rfl, hb2, hx2, hc2⟩ := (HR.out.below HBEL'.out).at_ hlt'
            have hjx : j < row.length := by have := HM1.out; omega
            have HD' : Hid (row.drop j = row[j] :: row.drop (j + 1)) := List.drop_eq_getElem_cons hjx
            rw [List.getElem?_map, List.getElem?_eq_getElem hjx] at hx2
            obtain rfl := Option.some.inj hx2
            obtain ⟨f, hf⟩ : ∃ f, row[j] = f := ⟨_, rfl⟩
            rw [hf] at HD' hc2
            rw [HD'.out, wRow_cons] at hlen'
            unfold S at hc2
            have hjn : ((j : Int)) < m1 := by omega
            clear hx2 hf
            have hcell : ∀ w2, Below w.heap.size wr w2 → w2.cell? ⟨0, 0, none⟩ = some (.int .i64 m) := fun w2 h => (HBEL'.out.trans h |>.cell hw0).trans HC.out
            have hfs : f.length < 268435456 := by omega
            have hca : ∀ wx : World, Calls Tryd.prog 21 #[.string ⟨f.toArray⟩, .string ⟨#[34, 44, 13, 10]⟩] wx fun e w' => e = .returned (.bool (f.any Csv.special)) ∧ Below wx.heap.size wx w' := fun wx =>
              (containsAny_any ⟨f.toArray⟩ ⟨#[34, 44, 13, 10]⟩ wx (by simp [ByteArray.size]; omega) (by decide) (by decide) (fun j b h => (show ∀ b ∈ ([34, 44, 13, 10] : List UInt8), b.toNat < 128 by decide) b (List.mem_of_getElem? h))).mono fun e w' ⟨h1, h2⟩ => ⟨by rw [h1, ← any_special f], h2⟩
            have hra : ∀ wx : World, wx.cell? ⟨0, 0, none⟩ = some (.int .i64 m) → Calls Tryd.prog 22 #[.string ⟨f.toArray⟩, .string ⟨#[34]⟩, .string ⟨#[34, 34]⟩] wx fun e w' => e = .returned (.string ⟨(Csv.esc f).toArray⟩) ∧ Below wx.heap.size wx w' := fun wx h =>
              (Tryd.strings_ReplaceAll ⟨f.toArray⟩ ⟨#[34]⟩ ⟨#[34, 34]⟩ m wx (by simp [ByteArray.size]; omega) h (by decide) (by
                have := Lib.countB_le (⟨#[34]⟩ : ByteArray) (by decide) (⟨f.toArray⟩ : ByteArray).size ⟨f.toArray⟩ (Nat.le_refl _)
                have h2 : (⟨f.toArray⟩ : ByteArray).size = f.length := by simp [ByteArray.size]
                have h3 : (⟨#[34, 34]⟩ : ByteArray).size = 2 := rfl
                rw [h2] at this ⊢
                rw [h3]
                omega)).mono fun e w' ⟨h1, h2⟩ => ⟨by rw [h1, replB], h2⟩
            obtain ⟨E, hE⟩ : ∃ E : ByteArray, (⟨(Csv.esc f).toArray⟩ : ByteArray) = E := ⟨_, rfl⟩
            have hEs : E.size < 1000000000 := by rw [← hE]; have := Csv.esc_length f; simp [ByteArray.size]; omega
            rw [hE] at hra
            have HE := Lib.hid hE
            clear hE
            have HCA := Lib.hid hca
            have HRA := Lib.hid hra
            have HCE := Lib.hid hcell
            have hpl := Csv.printF_length f
            clear hca hra hcell
            have hkk : ∀ (acc2 : Csv.F), acc2 = acc' ++ (if 0 < j then [44] else []) ++ Csv.printF f → acc ++ Csv.fieldsK 0 row = acc2 ++ Csv.fieldsK (j + 1) (row.drop (j + 1)) ∧ acc2.length + Csv.wRow (row.drop (j + 1)) ≤ acc.length + Csv.wRow row := fun acc2 e => by
              refine ⟨by rw [HF.out, HD'.out, fieldsK_cons, e]; simp [List.append_assoc], ?_⟩
              rw [e]
              have : (if 0 < j then [44] else ([] : Csv.F)).length ≤ 1 := by split <;> simp
              simp only [List.length_append]
              omega
            have HKK := Lib.hid hkk
            clear hkk
            obtain ⟨sep, hsep⟩ : ∃ s : Csv.F, (if 0 < j then [44] else []) = s := ⟨_, rfl⟩
            rw [hsep] at HKK
            have hsl : sep.length ≤ 1 := by rw [← hsep]; split <;> simp
            obtain ⟨pf, hpf⟩ : ∃ p : Csv.F, Csv.printF f = p := ⟨_, rfl⟩
            rw [hpf] at HKK hpl
            have HPF := Lib.hid hpf
            obtain ⟨sp, hspe⟩ : ∃ b, f.any Csv.special = b := ⟨_, rfl⟩
            rw [hspe] at HCA
            have hacc : acc'.length + 1 < 1073741824 := by omega
            clear hpf
            rcases Nat.eq_zero_or_pos j with hj0 | hj0
            · have hse : sep = [] := by rw [← hsep, if_neg (by omega)]
              have hjz : decide (0 < j) = false := by simp; omega
              subst hse
              clear hsep hj0
              have HB1 : Hid (Bld w.heap.size w.heap.size (acc' ++ []) wr) := by rw [List.append_nil]; exact HB'
              have HBE1 := HBEL'
              clear HB' HBEL' hB'
              cases sp with
              | true =>
                have HPE : Hid (((⟨#[34]⟩ : ByteArray) ++ E ++ ⟨#[34]⟩) = ⟨pf.toArray⟩) := by
                  refine Lib.hid ?_
                  rw [← HPF.out, Csv.printF, if_pos hspe, ← HE.out]
                  apply ByteArray.ext
                  simp
                clear hspe
                go_wp2_with (go_at_call 21; refine (HCA.out _).mono ?_; rintro e w2 ⟨rfl, hbc⟩)
                have HB2 := Lib.hid (HB1.out.below hbc)
                have HBE2 : Hid (Below w.heap.size w w2) := HBE1.out.trans (hbc.mono HBE1.out.size)
                have HM2 : Hid (w2.cell? ⟨0, 0, none⟩ = some (.int .i64 m)) := (HBE2.out.cell hw0).trans HC.out
                have hsz2 := HBE2.out.size
                clear hbc HB1 HBE1
                go_wp2_with (go_at_call 22; refine (HRA.out _ HM2.out).mono ?_; rintro e w3 ⟨rfl, hbc⟩)
                have HB3 := Lib.hid (HB2.out.below hbc)
                have HBE3 : Hid (Below w.heap.size w w3) := HBE2.out.trans (hbc.mono hsz2)
                clear hbc
                have HKK2 := Lib.hid (HKK.out (acc' ++ [] ++ pf) rfl)
                go_wp2_with (go_at_call 23; refine (bld_str w.heap.size w.heap.size (acc' ++ []) _ _ HB3.out (by rw [HPE.out]; simp [ByteArray.size]; omega) (by simp; omega) HBE3.out.size).mono ?_; rintro e w4 ⟨rfl, hb2, hb3, hb4⟩)
                rw [HPE.out] at hb2
                go_roundg g'
                case measure => omega
                case rel => exact ⟨j + 1, acc' ++ [] ++ pf, by have := HJ.out; omega, by go_num, HBE3.out.trans hb3, hb2, HKK2.out.1, HKK2.out.2⟩
              | false =>
                have HPE : Hid (f = pf) := by
                  refine Lib.hid ?_
                  rw [← HPF.out, Csv.printF, if_neg (by rw [hspe]; simp)]
                clear hspe
                go_wp2_with (go_at_call 21; refine (HCA.out _).mono ?_; rintro e w2 ⟨rfl, hbc⟩)
                have HB2 := Lib.hid (HB1.out.below hbc)
                have HBE2 : Hid (Below w.heap.size w w2) := HBE1.out.trans (hbc.mono HBE1.out.size)
                clear hbc HB1 HBE1
                have HKK2 := Lib.hid (HKK.out (acc' ++ [] ++ pf) rfl)
                go_wp2_with (go_at_call 23; refine (bld_str w.heap.size w.heap.size (acc' ++ []) _ _ HB2.out (by rw [HPE.out]; simp [ByteArray.size]; omega) (by simp; omega) HBE2.out.size).mono ?_; rintro e w4 ⟨rfl, hb2, hb3, hb4⟩)
                rw [HPE.out] at hb2
                go_roundg g'
                case measure => omega
                case rel => exact ⟨j + 1, acc' ++ [] ++ pf, by have := HJ.out; omega, by go_num, HBE2.out.trans hb3, hb2, HKK2.out.1, HKK2.out.2⟩
            · have hse : sep = [44] := by rw [← hsep, if_pos (by omega)]
              have hjz : decide (0 < j) = true := by simp; omega
              subst hse
              clear hsep hj0
              cases sp with
              | true =>
                have HPE : Hid (((⟨#[34]⟩ : ByteArray) ++ E ++ ⟨#[34]⟩) = ⟨pf.toArray⟩) := by
                  refine Lib.hid ?_
                  rw [← HPF.out, Csv.printF, if_pos hspe, ← HE.out]
                  apply ByteArray.ext
                  simp
                clear hspe
                go_wp2_with (go_at_call 20; refine (bld_byte w.heap.size w.heap.size acc' 44 _ HB'.out (by decide) (by decide) (by omega) hB').mono ?_; rintro e w1 ⟨rfl, hb2, hb3, hb4⟩)
                have HB1 : Hid (Bld w.heap.size w.heap.size (acc' ++ [44]) w1) := hb2
                have HBE1 : Hid (Below w.heap.size w w1) := HBEL'.out.trans hb3
                clear hb2 hb3 hb4 HBEL' hB' HB'
                go_wp2_with (go_at_call 21; refine (HCA.out _).mono ?_; rintro e w2 ⟨rfl, hbc⟩)
                have HB2 := Lib.hid (HB1.out.below hbc)
                have HBE2 : Hid (Below w.heap.size w w2) := HBE1.out.trans (hbc.mono HBE1.out.size)
                have HM2 : Hid (w2.cell? ⟨0, 0, none⟩ = some (.int .i64 m)) := (HBE2.out.cell hw0).trans HC.out
                have hsz2 := HBE2.out.size
                clear hbc HB1 HBE1
                go_wp2_with (go_at_call 22; refine (HRA.out _ HM2.out).mono ?_; rintro e w3 ⟨rfl, hbc⟩)
                have HB3 := Lib.hid (HB2.out.below hbc)
                have HBE3 : Hid (Below w.heap.size w w3) := HBE2.out.trans (hbc.mono hsz2)
                clear hbc
                have HKK2 := Lib.hid (HKK.out (acc' ++ [44] ++ pf) rfl)
                go_wp2_with (go_at_call 23; refine (bld_str w.heap.size w.heap.size (acc' ++ [44]) _ _ HB3.out (by rw [HPE.out]; simp [ByteArray.size]; omega) (by simp; omega) HBE3.out.size).mono ?_; rintro e w4 ⟨rfl, hb2, hb3, hb4⟩)
                rw [HPE.out] at hb2
                go_roundg g'
                case measure => omega
                case rel => exact ⟨j + 1, acc' ++ [44] ++ pf, by have := HJ.out; omega, by go_num, HBE3.out.trans hb3, hb2, HKK2.out.1, HKK2.out.2⟩
              | false =>
                have HPE : Hid (f = pf) := by
                  refine Lib.hid ?_
                  rw [← HPF.out, Csv.printF, if_neg (by rw [hspe]; simp)]
                clear hspe
                go_wp2_with (go_at_call 20; refine (bld_byte w.heap.size w.heap.size acc' 44 _ HB'.out (by decide) (by decide) (by omega) hB').mono ?_; rintro e w1 ⟨rfl, hb2, hb3, hb4⟩)
                have HB1 : Hid (Bld w.heap.size w.heap.size (acc' ++ [44]) w1) := hb2
                have HBE1 : Hid (Below w.heap.size w w1) := HBEL'.out.trans hb3
                clear hb2 hb3 hb4 HBEL' hB' HB'
                go_wp2_with (go_at_call 21; refine (HCA.out _).mono ?_; rintro e w2 ⟨rfl, hbc⟩)
                have HB2 := Lib.hid (HB1.out.below hbc)
                have HBE2 : Hid (Below w.heap.size w w2) := HBE1.out.trans (hbc.mono HBE1.out.size)
                clear hbc HB1 HBE1
                have HKK2 := Lib.hid (HKK.out (acc' ++ [44] ++ pf) rfl)
                go_wp2_with (go_at_call 23; refine (bld_str w.heap.size w.heap.size (acc' ++ [44]) _ _ HB2.out (by rw [HPE.out]; simp [ByteArray.size]; omega) (by simp; omega) HBE2.out.size).mono ?_; rintro e w4 ⟨rfl, hb2, hb3, hb4⟩)
                rw [HPE.out] at hb2
                go_roundg g'
                case measure => omega
                case rel => exact ⟨j + 1, acc' ++ [44] ++ pf, by have := HJ.out; omega, by go_num, HBE2.out.trans hb3, hb2, HKK2.out.1, HKK2.out.2⟩
end Go.Proofs.YtjkbaihcdjbjiaaDoor
