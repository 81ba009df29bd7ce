/-
  What the rows' proofs ask of the translation as a whole.
-/
import Derived.Test.YtgnpjhellmfhoaaDat2
import Derived.Test.YtgnpjhellmfhoaaChecked
namespace Go.Proofs.Ytgnpjhellmfhoaa
open Go.RowKit Sy
theorem own : ownKnob Try.prog.godebug = none := by kernel_rfl
theorem laidOut : laidOutB Try.prog = true := by kernel_rfl
end Go.Proofs.Ytgnpjhellmfhoaa
