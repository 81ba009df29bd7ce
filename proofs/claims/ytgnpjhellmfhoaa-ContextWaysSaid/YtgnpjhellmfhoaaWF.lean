/-
  Whatever the input, syllabarylaw20.ContextWays returns true, and its arguments read as they did: no condition.
-/
import Derived.Test.YtgnpjhellmfhoaaRows
import Derived.Test.YtgnpjhellmfhoaaW15
namespace Go.Proofs.Ytgnpjhellmfhoaa
open Go.RowKit Sy Go.ChangeShapes Go.WideShapes Go.ChangeAt

set_option maxRecDepth 100000 in
theorem contextWays_lifted (os : Os) (started : os.Started) (H : Type) (enc : TypeId × Value → H) :
    ReturnsInHanded {} Try.checked os 8 .any (Rows.contextWaysSpec.pre6 enc Try.prog Try.f8 Rows.contextWaysRow.domain false) (Rows.contextWaysSpec.post enc Try.prog Try.f8 false true false false) := by
  refine returnsInHanded_of_change (C := Try.checked) own started (by kernel_rfl) Try.func8
    (ChangeSpec.witness6 (enc := enc) (C := Try.checked) false ⟨#[], #[.slice none 0 0, .agg #[.slice none 0 0, .slice none 0 0, .slice none 0 0, .int .u8 0], .agg #[.int .u8 0, .int .u8 0]], []⟩ 8 (by kernel_rfl) (by kernel_rfl) (by kernel_rfl) (by kernel_rfl)) ?_
  intro W base args ds gs before hval0 hW _ _
  have hval : ∀ (j : Nat) t v, Try.f8.params[j]? = some t → args[j]? = some v → Value.okWide Try.prog W .any base t v := hval0
  have hW' := hW
  obtain ⟨p, q, hA0, hV, rfl, _, _⟩ := hW
  have hA : DataW.TrodAll enc Try.prog W 0 (fun _ => true) true Try.f8.params.toList args.toList ds p := hA0
  rw [Try.params8] at hA hval
  obtain ⟨v0, v1, v2, d0, d1, d2, p0, p1, p2, rfl, rfl, rfl, h0, h1, h2⟩ := trodAll_three hA
  obtain ⟨rfl, rfl⟩ := trodVars_none hV
  obtain ⟨adl, cl, l, rfl, sl⟩ := rB4.arg Try.underlying22 (hval 0 22 v0 rfl rfl) h0
  obtain ⟨y, ly, rfl, hly, ⟨p0, q0, e0, s0⟩, ⟨p1, q1, e1, s1⟩, ⟨p2, q2, e2, s2⟩, e3⟩ := rRaw.val (by decide) h1
  obtain rfl := list_four hly e0 e1 e2 e3
  obtain ⟨x, rfl⟩ := b2Val h2
  refine (law6_c l y x adl p0 p1 p2 cl q0 q1 q2 (memOf W) W (imm_memOf W) sl s0 s1 s2).mono fun e W' ⟨he, hb⟩ => ⟨_, he, ?_⟩
  exact law_post laidOut hW' rfl (by kernel_rfl) (tb := 4) (by kernel_rfl) Try.underlying4 rfl rfl rfl hb.toBelow

theorem contextWays_holds : Rows.ContextWaysSaid :=
  OpenClaim.holds_of_wide 8 Try.f8 rfl rfl rfl rfl rfl rfl rfl ⟨rfl, rfl, rfl, rfl, rfl⟩ rfl rfl rfl rfl rfl (by kernel_rfl) Try.func8 (by kernel_rfl)
    (of_decide_eq_true (by kernel_rfl)) (by unfold Func.isWrapper; first | (rw [if_pos (by decide +kernel)]; kernel_rfl) | (rw [if_neg (by decide +kernel)]; exact ⟨rfl, rfl⟩))
    (fun os started H enc _ => contextWays_lifted os started H enc)
#print axioms contextWays_holds
end Go.Proofs.Ytgnpjhellmfhoaa

