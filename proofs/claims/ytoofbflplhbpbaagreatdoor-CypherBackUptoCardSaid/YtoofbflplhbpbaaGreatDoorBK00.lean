/- A fact hidden from the walk. -/
import Derived.Lib.Hide
set_option linter.all false
namespace Go.Proofs
theorem hq7 {p:Prop} (h:p):Go.RowKit.Hid p:=h
end Go.Proofs
