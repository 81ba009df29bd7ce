/-
  Whatever the input, syllabarylaw22.StrokeDistance returns true, and its arguments read as they did: no condition.
-/
import Derived.Test.YthbglfjajifkoaaRows
import Derived.Test.YthbglfjajifkoaaStT3
import Derived.Test.YthbglfjajifkoaaStU
namespace Go.Proofs.Ythbglfjajifkoaa
open Go.RowKit Sy Go.ChangeShapes Go.WideShapes Go.ChangeAt

set_option maxRecDepth 100000 in
theorem law3_lifted (os : Os) (started : os.Started) (H : Type) (enc : TypeId × Value → H) :
    ReturnsInHanded {} Try.checked os 5 .any (Rows.strokeDistanceSpec.pre6 enc Try.prog Try.f5 Rows.strokeDistanceRow.domain false) (Rows.strokeDistanceSpec.post enc Try.prog Try.f5 false true false false) := by
  refine returnsInHanded_of_change (C := Try.checked) own started (by kernel_rfl) Try.func5
    (ChangeSpec.witness6 (enc := enc) (C := Try.checked) false ⟨#[], #[.agg #[.slice none 0 0, .slice none 0 0]], []⟩ 8 (by kernel_rfl) (by kernel_rfl) (by kernel_rfl) (by kernel_rfl)) ?_
  intro W base args ds gs before hval0 hW _ _
  have hval : ∀ (j : Nat) t v, Try.f5.params[j]? = some t → args[j]? = some v → Value.okWide Try.prog W .any base t v := hval0
  have hW' := hW
  obtain ⟨p, q, hA0, hV, rfl, _, _⟩ := hW
  have hA : DataW.TrodAll enc Try.prog W 0 (fun _ => true) true Try.f5.params.toList args.toList ds p := hA0
  rw [Try.params5] at hA hval
  obtain ⟨v0, d0, rfl, rfl, h0⟩ := trodAll_one hA
  obtain ⟨rfl, rfl⟩ := trodVars_none hV
  obtain ⟨ad0, ad1, c0, c1, w0, w1, rfl, s0, s1⟩ := rB2.arg2 Try.underlying23 Try.underlying24 (by kernel_rfl) (by kernel_rfl) h0
  refine (law3_c w0 w1 ad0 ad1 c0 c1 (memOf W) W (imm_memOf W) s0 s1).mono fun e W' ⟨he, hb⟩ => ⟨_, he, ?_⟩
  exact law_post laidOut hW' rfl (by kernel_rfl) (tb := 4) (by kernel_rfl) Try.underlying4 rfl rfl rfl hb.toBelow

theorem strokeDistance_holds : Rows.StrokeDistanceSaid :=
  OpenClaim.holds_of_wide 5 Try.f5 rfl rfl rfl rfl rfl rfl rfl ⟨rfl, rfl, rfl, rfl, rfl⟩ rfl rfl rfl rfl rfl (by kernel_rfl) Try.func5 (by kernel_rfl)
    (of_decide_eq_true (by kernel_rfl)) (by unfold Func.isWrapper; first | (rw [if_pos (by decide +kernel)]; kernel_rfl) | (rw [if_neg (by decide +kernel)]; exact ⟨rfl, rfl⟩))
    (fun os started H enc _ => law3_lifted os started H enc)
#print axioms strokeDistance_holds
end Go.Proofs.Ythbglfjajifkoaa
