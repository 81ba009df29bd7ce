/-
  Whatever the input, syllabarylaw22.StrokePictures returns true, and its arguments read as they did: no condition.
-/
import Derived.Test.YthbglfjajifkoaaRows
import Derived.Test.YthbglfjajifkoaaStT4
import Derived.Test.YthbglfjajifkoaaStU
namespace Go.Proofs.Ythbglfjajifkoaa
open Go.RowKit Sy Go.ChangeShapes Go.WideShapes Go.ChangeAt

set_option maxRecDepth 100000 in
theorem law4_lifted (os : Os) (started : os.Started) (H : Type) (enc : TypeId × Value → H) :
    ReturnsInHanded {} Try.checked os 6 .any (Rows.strokePicturesSpec.pre6 enc Try.prog Try.f6 Rows.strokePicturesRow.domain false) (Rows.strokePicturesSpec.post enc Try.prog Try.f6 false true false false) := by
  refine returnsInHanded_of_change (C := Try.checked) own started (by kernel_rfl) Try.func6
    (ChangeSpec.witness6 (enc := enc) (C := Try.checked) false ⟨#[], #[.agg #[.slice none 0 0, .slice none 0 0], .int .u8 0, .agg #[.int .u8 0, .int .u8 0]], []⟩ 8 (by kernel_rfl) (by kernel_rfl) (by kernel_rfl) (by kernel_rfl)) ?_
  intro W base args ds gs before hval0 hW _ _
  have hval : ∀ (j : Nat) t v, Try.f6.params[j]? = some t → args[j]? = some v → Value.okWide Try.prog W .any base t v := hval0
  have hW' := hW
  obtain ⟨p, q, hA0, hV, rfl, _, _⟩ := hW
  have hA : DataW.TrodAll enc Try.prog W 0 (fun _ => true) true Try.f6.params.toList args.toList ds p := hA0
  rw [Try.params6] at hA hval
  obtain ⟨v0, v1, v2, d0, d1, d2, p0, p1, p2, rfl, rfl, rfl, h0, h1, h2⟩ := trodAll_three hA
  obtain ⟨rfl, rfl⟩ := trodVars_none hV
  obtain ⟨ad0, ad1, c0, c1, w0, w1, rfl, s0, s1⟩ := rB2.arg2 Try.underlying23 Try.underlying24 (by kernel_rfl) (by kernel_rfl) h0
  obtain ⟨how, rfl, rfl, rfl, wh⟩ := open_int Try.underlying5 (hval 1 5 v1 rfl rfl) h1
  obtain ⟨how, rfl⟩ := u8_of wh
  obtain ⟨by_, l2, rfl, hl2, r0, r1⟩ := rB2.val (by decide) h2
  obtain rfl := list_two hl2 r0 r1
  refine (law4_c w0 w1 how by_ ad0 ad1 c0 c1 (memOf W) W (imm_memOf W) s0 s1).mono fun e W' ⟨he, hb⟩ => ⟨_, he, ?_⟩
  exact law_post laidOut hW' rfl (by kernel_rfl) (tb := 4) (by kernel_rfl) Try.underlying4 rfl rfl rfl hb.toBelow

theorem strokePictures_holds : Rows.StrokePicturesSaid :=
  OpenClaim.holds_of_wide 6 Try.f6 rfl rfl rfl rfl rfl rfl rfl ⟨rfl, rfl, rfl, rfl, rfl⟩ rfl rfl rfl rfl rfl (by kernel_rfl) Try.func6 (by kernel_rfl)
    (of_decide_eq_true (by kernel_rfl)) (by unfold Func.isWrapper; first | (rw [if_pos (by decide +kernel)]; kernel_rfl) | (rw [if_neg (by decide +kernel)]; exact ⟨rfl, rfl⟩))
    (fun os started H enc _ => law4_lifted os started H enc)
#print axioms strokePictures_holds
end Go.Proofs.Ythbglfjajifkoaa
