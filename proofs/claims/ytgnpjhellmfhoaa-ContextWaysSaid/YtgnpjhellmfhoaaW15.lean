import Derived.Test.YtgnpjhellmfhoaaW14
import Derived.Test.YtgnpjhellmfhoaaChecked

/-
  What the rows' proofs ask of the translation as a whole.
-/
namespace Go.Proofs.Ytgnpjhellmfhoaa
open Go.RowKit Sy
theorem own : ownKnob Try.prog.godebug = none := by kernel_rfl
theorem laidOut : laidOutB Try.prog = true := by kernel_rfl
end Go.Proofs.Ytgnpjhellmfhoaa

/-
  Context: a list of four cells.
-/
namespace Go.Proofs.Ytgnpjhellmfhoaa
open Go.RowKit Sy
theorem list_four {l : List Value} {x y z u : Value} (h : l.length = 4) (h0 : l[0]? = some x) (h1 : l[1]? = some y) (h2 : l[2]? = some z) (h3 : l[3]? = some u) : l = [x, y, z, u] := by
  match l, h with
  | [a, b, c, d], _ => simp at h0 h1 h2 h3; rw [h0, h1, h2, h3]
end Go.Proofs.Ytgnpjhellmfhoaa
