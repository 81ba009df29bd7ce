/-
  Whatever the input, syllabarylaw22.StrokeValid returns true, and its arguments read as they did: no condition.
-/
import Derived.Test.YthbglfjajifkoaaRows
import Derived.Test.YthbglfjajifkoaaStT2
import Derived.Test.YthbglfjajifkoaaStU
namespace Go.Proofs.Ythbglfjajifkoaa
open Go.RowKit Sy Go.ChangeShapes Go.WideShapes Go.ChangeAt

set_option maxRecDepth 100000 in
theorem law2_lifted (os : Os) (started : os.Started) (H : Type) (enc : TypeId × Value → H) :
    ReturnsInHanded {} Try.checked os 4 .any (Rows.strokeValidSpec.pre6 enc Try.prog Try.f4 Rows.strokeValidRow.domain false) (Rows.strokeValidSpec.post enc Try.prog Try.f4 false true false false) := by
  refine returnsInHanded_of_change (C := Try.checked) own started (by kernel_rfl) Try.func4
    (ChangeSpec.witness6 (enc := enc) (C := Try.checked) false ⟨#[], #[.slice none 0 0, .slice none 0 0], []⟩ 8 (by kernel_rfl) (by kernel_rfl) (by kernel_rfl) (by kernel_rfl)) ?_
  intro W base args ds gs before hval0 hW _ _
  have hval : ∀ (j : Nat) t v, Try.f4.params[j]? = some t → args[j]? = some v → Value.okWide Try.prog W .any base t v := hval0
  have hW' := hW
  obtain ⟨p, q, hA0, hV, rfl, _, _⟩ := hW
  have hA : DataW.TrodAll enc Try.prog W 0 (fun _ => true) true Try.f4.params.toList args.toList ds p := hA0
  rw [Try.params4] at hA hval
  obtain ⟨v0, v1, d0, d1, p0, p1, rfl, rfl, rfl, h0, h1⟩ := trodAll_two hA
  obtain ⟨rfl, rfl⟩ := trodVars_none hV
  obtain ⟨adl, cl, l, rfl, sl⟩ := rRaw.arg Try.underlying22 (hval 0 22 v0 rfl rfl) h0
  obtain ⟨adp, cp, pts, rfl, sp⟩ := rPt.arg Try.underlying26 (hval 1 26 v1 rfl rfl) h1
  refine (law2_c l pts adl adp cl cp (memOf W) W (imm_memOf W) sl sp).mono fun e W' ⟨he, hb⟩ => ⟨_, he, ?_⟩
  exact law_post laidOut hW' rfl (by kernel_rfl) (tb := 4) (by kernel_rfl) Try.underlying4 rfl rfl rfl hb.toBelow

theorem strokeValid_holds : Rows.StrokeValidSaid :=
  OpenClaim.holds_of_wide 4 Try.f4 rfl rfl rfl rfl rfl rfl rfl ⟨rfl, rfl, rfl, rfl, rfl⟩ rfl rfl rfl rfl rfl (by kernel_rfl) Try.func4 (by kernel_rfl)
    (of_decide_eq_true (by kernel_rfl)) (by unfold Func.isWrapper; first | (rw [if_pos (by decide +kernel)]; kernel_rfl) | (rw [if_neg (by decide +kernel)]; exact ⟨rfl, rfl⟩))
    (fun os started H enc _ => law2_lifted os started H enc)
#print axioms strokeValid_holds
end Go.Proofs.Ythbglfjajifkoaa
