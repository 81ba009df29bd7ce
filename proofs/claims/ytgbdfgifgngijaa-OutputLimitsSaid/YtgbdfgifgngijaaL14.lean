import Derived.Test.YtgbdfgifgngijaaL13
import Derived.Test.YtgbdfgifgngijaaChecked

/-
  What the rows' proofs ask of the translation as a whole.
-/
namespace Go.Proofs.Ytgbdfgifgngijaa
open Go.RowKit Sy
theorem own : ownKnob Try.prog.godebug = none := by kernel_rfl
theorem laidOut : laidOutB Try.prog = true := by kernel_rfl
end Go.Proofs.Ytgbdfgifgngijaa
