/- Layer 5 (number): ParseFloat at every text; the document's fixed answers; the laws NumberNames, NumberFormats, NumberParses. -/
import Derived.Test.YtoofbflplhbpbaaGreatDoorNumPf
namespace Go.Proofs.YtoofbflplhbpbaaGreatDoor
open Go.RowKit

set_option maxHeartbeats 1000000 in
theorem parseFloat_any (s : ByteArray) (w : World) (hs : s.size ≤ 1073741824) (hL : Laid w) :
    Calls Tryz.prog 122 #[.string s] w (FloatRes (Num.parse s.data.toList) w) := by
  by_cases hn : s.data.toList = Num.NANS
  · have t1 : (s.toList == [48, 120, 110, 97, 110]) = true := by rw [Lib.toList_data, hn]; rfl
    have hp : Num.parse s.data.toList = some 9221120237041090560 := by unfold Num.parse; rw [if_pos hn]
    rw [hp]
    clear hp hn hL
    go_enter Tryz.func122, Tryz.ntmps122
    go_wp2
    go_ret2
    exact ⟨rfl, Below.refl _ _⟩
  · by_cases hh : s.data.toList.head? = some 45
    · exact parseFloat1 s w hs hL hn hh
    · exact parseFloat0 s w hs hL hn hh

theorem sp_int : Num.parseInt [45, 55, 48] = (-70, 0) := by decide +kernel
theorem sp_205 : Lib.itoa 205 = [50, 48, 53] := Num.itoa_of_parse (by decide +kernel)
theorem sp_float : Num.parse [48, 120, 49, 46, 56, 112, 48] = some 4609434218613702656 := by decide +kernel
theorem sp_fmt : Num.fmt 13821547256400052224 = [45, 48, 120, 49, 109, 50] := (Num.fmt_parse (by decide +kernel : Num.parse [45, 48, 120, 49, 109, 50] = some 13821547256400052224)).1




end Go.Proofs.YtoofbflplhbpbaaGreatDoor
