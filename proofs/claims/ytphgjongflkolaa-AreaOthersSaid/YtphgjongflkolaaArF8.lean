/-
  Whatever the input, syllabarylaw21.AreaOthers returns true, and its arguments read as they did: no condition.
-/
import Derived.Test.YtphgjongflkolaaRows
import Derived.Test.YtphgjongflkolaaArV8
import Derived.Test.YtphgjongflkolaaFin
namespace Go.Proofs.Ytphgjongflkolaa
open Go.RowKit Sy Go.ChangeShapes Go.WideShapes Go.ChangeAt

set_option maxRecDepth 100000 in
theorem areaOthers_lifted (os : Os) (started : os.Started) (H : Type) (enc : TypeId × Value → H) :
    ReturnsInHanded {} Try.checked os 10 .any (Rows.areaOthersSpec.pre6 enc Try.prog Try.f10 Rows.areaOthersRow.domain false) (Rows.areaOthersSpec.post enc Try.prog Try.f10 false true false false) := by
  refine returnsInHanded_of_change (C := Try.checked) own started (by kernel_rfl) Try.func10
    (ChangeSpec.witness6 (enc := enc) (C := Try.checked) false ⟨#[], #[.slice none 0 0, .slice none 0 0, .agg #[.int .u8 0, .int .u8 0, .int .u8 0, .int .u8 0]], []⟩ 8 (by kernel_rfl) (by kernel_rfl) (by kernel_rfl) (by kernel_rfl)) ?_
  intro W base args ds gs before hval0 hW _ _
  have hval : ∀ (j : Nat) t v, Try.f10.params[j]? = some t → args[j]? = some v → Value.okWide Try.prog W .any base t v := hval0
  have hW' := hW
  obtain ⟨p, q, hA0, hV, rfl, _, _⟩ := hW
  have hA : DataW.TrodAll enc Try.prog W 0 (fun _ => true) true Try.f10.params.toList args.toList ds p := hA0
  rw [Try.params10] at hA hval
  obtain ⟨v0, v1, v2, d0, d1, d2, p0, p1, p2, rfl, rfl, rfl, h0, h1, h2⟩ := trodAll_three hA
  obtain ⟨rfl, rfl⟩ := trodVars_none hV
  obtain ⟨adl, cl, l, rfl, sl⟩ := rB2.arg Try.underlying22 (hval 0 22 v0 rfl rfl) h0
  obtain ⟨adt, ct, t, rfl, st⟩ := rI3.arg Try.underlying23 (hval 1 23 v1 rfl rfl) h1
  obtain ⟨x, rfl⟩ := b4Val h2
  refine (law8_c l t x adl adt cl ct (memOf W) W (imm_memOf W) sl st).mono fun e W' ⟨he, hb⟩ => ⟨_, he, ?_⟩
  exact law_post laidOut hW' rfl (by kernel_rfl) (tb := 4) (by kernel_rfl) Try.underlying4 rfl rfl rfl hb.toBelow

theorem areaOthers_holds : Rows.AreaOthersSaid :=
  OpenClaim.holds_of_wide 10 Try.f10 rfl rfl rfl rfl rfl rfl rfl ⟨rfl, rfl, rfl, rfl, rfl⟩ rfl rfl rfl rfl rfl (by kernel_rfl) Try.func10 (by kernel_rfl)
    (of_decide_eq_true (by kernel_rfl)) (by unfold Func.isWrapper; first | (rw [if_pos (by decide +kernel)]; kernel_rfl) | (rw [if_neg (by decide +kernel)]; exact ⟨rfl, rfl⟩))
    (fun os started H enc _ => areaOthers_lifted os started H enc)
#print axioms areaOthers_holds
end Go.Proofs.Ytphgjongflkolaa

