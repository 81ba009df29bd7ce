/-
  Whatever the input, syllabarylaw21.AreaValid returns true, and its arguments read as they did: no condition.
-/
import Derived.Test.YtphgjongflkolaaRows
import Derived.Test.YtphgjongflkolaaArV2
import Derived.Test.YtphgjongflkolaaFin
namespace Go.Proofs.Ytphgjongflkolaa
open Go.RowKit Sy Go.ChangeShapes Go.WideShapes Go.ChangeAt

theorem list_three {l : List Value} {x y z : Value} (h : l.length = 3) (h0 : l[0]? = some x) (h1 : l[1]? = some y) (h2 : l[2]? = some z) : l = [x, y, z] := by
  match l, h with
  | [a, b, c], _ => simp at h0 h1 h2; rw [h0, h1, h2]

set_option maxRecDepth 100000 in
theorem areaValid_lifted (os : Os) (started : os.Started) (H : Type) (enc : TypeId × Value → H) :
    ReturnsInHanded {} Try.checked os 4 .any (Rows.areaValidSpec.pre6 enc Try.prog Try.f4 Rows.areaValidRow.domain false) (Rows.areaValidSpec.post enc Try.prog Try.f4 false true false false) := by
  refine returnsInHanded_of_change (C := Try.checked) own started (by kernel_rfl) Try.func4
    (ChangeSpec.witness6 (enc := enc) (C := Try.checked) false ⟨#[], #[.agg #[.slice none 0 0, .slice none 0 0, .slice none 0 0], .slice none 0 0, .agg #[.int .i16 0, .int .i16 0, .int .i16 0, .int .i16 0]], []⟩ 8 (by kernel_rfl) (by kernel_rfl) (by kernel_rfl) (by kernel_rfl)) ?_
  intro W base args ds gs before hval0 hW _ _
  have hval : ∀ (j : Nat) t v, Try.f4.params[j]? = some t → args[j]? = some v → Value.okWide Try.prog W .any base t v := hval0
  have hW' := hW
  obtain ⟨p, q, hA0, hV, rfl, _, _⟩ := hW
  have hA : DataW.TrodAll enc Try.prog W 0 (fun _ => true) true Try.f4.params.toList args.toList ds p := hA0
  rw [Try.params4] at hA hval
  obtain ⟨v0, v1, v2, d0, d1, d2, p0, p1, p2, rfl, rfl, rfl, h0, h1, h2⟩ := trodAll_three hA
  obtain ⟨rfl, rfl⟩ := trodVars_none hV
  obtain ⟨b, lb, rfl, hlb, ⟨p0, q0, r0, sb0⟩, ⟨p1, q1, r1, sb1⟩, ⟨p2, q2, r2, sb2⟩⟩ := rBrd.val (by decide) h0
  obtain rfl := list_three hlb r0 r1 r2
  obtain ⟨adl, cl, l, rfl, sl⟩ := rB2.arg Try.underlying22 (hval 1 22 v1 rfl rfl) h1
  obtain ⟨x, rfl, okx⟩ := j4Val h2
  refine (law2_c b l x okx p0 p1 p2 adl q0 q1 q2 cl (memOf W) W (imm_memOf W) sb0 sb1 sb2 sl).mono fun e W' ⟨he, hb⟩ => ⟨_, he, ?_⟩
  exact law_post laidOut hW' rfl (by kernel_rfl) (tb := 4) (by kernel_rfl) Try.underlying4 rfl rfl rfl hb.toBelow

theorem areaValid_holds : Rows.AreaValidSaid :=
  OpenClaim.holds_of_wide 4 Try.f4 rfl rfl rfl rfl rfl rfl rfl ⟨rfl, rfl, rfl, rfl, rfl⟩ rfl rfl rfl rfl rfl (by kernel_rfl) Try.func4 (by kernel_rfl)
    (of_decide_eq_true (by kernel_rfl)) (by unfold Func.isWrapper; first | (rw [if_pos (by decide +kernel)]; kernel_rfl) | (rw [if_neg (by decide +kernel)]; exact ⟨rfl, rfl⟩))
    (fun os started H enc _ => areaValid_lifted os started H enc)
#print axioms areaValid_holds
end Go.Proofs.Ytphgjongflkolaa

