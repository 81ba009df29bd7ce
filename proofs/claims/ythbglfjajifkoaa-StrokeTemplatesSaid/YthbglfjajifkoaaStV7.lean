/-
  Whatever the input, syllabarylaw22.StrokeTemplates returns true, and its arguments read as they did: no condition.
-/
import Derived.Test.YthbglfjajifkoaaRows
import Derived.Test.YthbglfjajifkoaaStT8
import Derived.Test.YthbglfjajifkoaaStU
namespace Go.Proofs.Ythbglfjajifkoaa
open Go.RowKit Sy Go.ChangeShapes Go.WideShapes Go.ChangeAt

set_option maxRecDepth 100000 in
theorem law7_lifted (os : Os) (started : os.Started) (H : Type) (enc : TypeId × Value → H) :
    ReturnsInHanded {} Try.checked os 9 .any (Rows.strokeTemplatesSpec.pre6 enc Try.prog Try.f9 Rows.strokeTemplatesRow.domain false) (Rows.strokeTemplatesSpec.post enc Try.prog Try.f9 false true false false) := by
  refine returnsInHanded_of_change (C := Try.checked) own started (by kernel_rfl) Try.func9
    (ChangeSpec.witness6 (enc := enc) (C := Try.checked) false ⟨#[], #[.slice none 0 0, .agg #[.int .u8 0, .slice none 0 0], .slice none 0 0], []⟩ 8 (by kernel_rfl) (by kernel_rfl) (by kernel_rfl) (by kernel_rfl)) ?_
  intro W base args ds gs before hval0 hW _ _
  have hval : ∀ (j : Nat) t v, Try.f9.params[j]? = some t → args[j]? = some v → Value.okWide Try.prog W .any base t v := hval0
  have hW' := hW
  obtain ⟨p, q, hA0, hV, rfl, _, _⟩ := hW
  have hA : DataW.TrodAll enc Try.prog W 0 (fun _ => true) true Try.f9.params.toList args.toList ds p := hA0
  rw [Try.params9] at hA hval
  obtain ⟨v0, v1, v2, d0, d1, d2, p0, p1, p2, rfl, rfl, rfl, h0, h1, h2⟩ := trodAll_three hA
  obtain ⟨rfl, rfl⟩ := trodVars_none hV
  obtain ⟨adl, cl, l, rfl, sl⟩ := rRaw.arg Try.underlying22 (hval 0 22 v0 rfl rfl) h0
  obtain ⟨x, lx, rfl, hlx, r0x, adx, cx, r1x, sx⟩ := rRaw.val (by decide) h1
  obtain rfl := list_two hlx r0x r1x
  obtain ⟨adq0, cq0, q0, rfl, sq0⟩ := rB2.arg Try.underlying23 (hval 2 23 v2 rfl rfl) h2
  refine (law7_c l x q0 adl adx adq0 cl cx cq0 (memOf W) W (imm_memOf W) sl sx sq0).mono fun e W' ⟨he, hb⟩ => ⟨_, he, ?_⟩
  exact law_post laidOut hW' rfl (by kernel_rfl) (tb := 4) (by kernel_rfl) Try.underlying4 rfl rfl rfl hb.toBelow

theorem strokeTemplates_holds : Rows.StrokeTemplatesSaid :=
  OpenClaim.holds_of_wide 9 Try.f9 rfl rfl rfl rfl rfl rfl rfl ⟨rfl, rfl, rfl, rfl, rfl⟩ rfl rfl rfl rfl rfl (by kernel_rfl) Try.func9 (by kernel_rfl)
    (of_decide_eq_true (by kernel_rfl)) (by unfold Func.isWrapper; first | (rw [if_pos (by decide +kernel)]; kernel_rfl) | (rw [if_neg (by decide +kernel)]; exact ⟨rfl, rfl⟩))
    (fun os started H enc _ => law7_lifted os started H enc)
#print axioms strokeTemplates_holds
end Go.Proofs.Ythbglfjajifkoaa
