/-
  Areas: the walk of sanity.
-/
import Derived.Test.YtphgjongflkolaaArS
namespace Go.Proofs.Ytphgjongflkolaa
open Go.RowKit Sy Go.Sort

theorem RetV.imp {w w' : World} {μ : Mem} {Φ Ψ : Mem → Value → Prop} {e : Ending} (h : RetV w μ Φ e w') (hi : ∀ μ v, Φ μ v → Ψ μ v) : RetV w μ Ψ e w' :=
  let ⟨v, μ', a, b, c, d, k⟩ := h; ⟨v, μ', a, b, c, d, hi _ _ k⟩
def IsT2 (zs : List Ch) (e : Int) (μ : Mem) (v : Value) : Prop := ∃ ad c, v = .tuple #[.slice ad zs.length c, .int .i64 e] ∧ Sl μ ad c zs
def IsA2 (zs : List Tap) (e : Int) (μ : Mem) (v : Value) : Prop := ∃ ad c, v = .tuple #[.slice ad zs.length c, .int .i64 e] ∧ Sl μ ad c zs
theorem twoA_b : ∀ a ∈ twoA, ArB a := by
  intro a ha
  simp only [twoA, List.mem_cons, List.not_mem_nil, or_false] at ha
  rcases ha with rfl | rfl <;> exact ⟨by decide, by decide, by decide, by decide⟩
theorem twoA_k : AKeys twoA := by unfold AKeys twoA; decide
theorem touch2_c (p : Pt) (zs : List Ch) (e : Int) (h : touchR twoA [] p = (zs, e)) (v1 v2 : Value) (ada : Option Addr) (ca : Nat) (μ : Mem) (w : World) (hμ : Imm μ w) (hl : Sl μ ada ca twoA) :
    Calls Try.prog 15 #[.agg #[.slice ada 2 ca, v1, v2], .slice none 0 0, ptV p] w (RetV w μ (IsT2 zs e)) :=
  (touch_c twoA [] p v1 v2 ada none ca 0 μ w hμ hl (Sl.nil _ _ _ (by simp [maxLen])) twoA_b (fun t ht => by cases ht) List.Pairwise.nil (by decide) (by decide)).mono fun e w' hr => RetV.imp hr fun μ v hv => by
    have := touch_fun twoA_k hv
    unfold IsTR at this
    rw [h] at this; exact this
theorem adapt2_c (key : UInt8) (p : Pt) (zs : List Tap) (e : Int) (h : adaptA twoA [] key p = (zs, e)) (v1 v2 : Value) (ada : Option Addr) (ca : Nat) (μ : Mem) (w : World) (hμ : Imm μ w) (hl : Sl μ ada ca twoA) :
    Calls Try.prog 17 #[.agg #[.slice ada 2 ca, v1, v2], .slice none 0 0, .int .u8 key.toNat, ptV p] w (RetV w μ (IsA2 zs e)) :=
  (adapt_c twoA [] key p v1 v2 ada none ca 0 μ w hμ hl (Sl.nil _ _ _ (by simp [maxLen])) twoA_b (fun t ht => by cases ht) List.Pairwise.nil (by decide) (by decide)).mono fun e w' hr => RetV.imp hr fun μ v hv => by
    unfold IsAdapt at hv
    rw [h] at hv; exact hv
set_option maxRecDepth 100000 in
theorem ptEq (a b : Pt) (w : World) : (Op.equal 36 (ptV a) (ptV b)).run Try.prog w = .ok (decide (a = b)) w := by
  have h := eqStruct (P := Try.prog) (xs := #[.int .i64 a.X, .int .i64 a.Y]) (ys := #[.int .i64 b.X, .int .i64 b.Y]) Try.underlying36 (by kernel_rfl) (eqF_int rfl ti3 rfl rfl (eqF_int rfl ti3 rfl rfl eqF_nil)) w
  rw [h]; congr 1
  obtain ⟨a1, a2⟩ := a
  obtain ⟨c1, c2⟩ := b
  rw [Bool.eq_iff_iff]; simp

set_option maxRecDepth 100000 in
set_option maxHeartbeats 2000000 in
theorem sanity_c (w : World) : Calls Try.prog 11 #[] w (RetS w (.bool true)) := by
  have hbd : ∀ t ∈ ([⟨97, 13, -9, 4⟩] : List Tap), TapB t := fun t ht => by simp only [List.mem_singleton] at ht; subst ht; exact ⟨by decide, by decide, by decide⟩
  have hbd2 : ∀ t ∈ ([⟨97, 3, -2, 1⟩] : List Tap), TapB t := fun t ht => by simp only [List.mem_singleton] at ht; subst ht; exact ⟨by decide, by decide, by decide⟩
  have hS := St.start w (fun _ => none) (fun _ _ h => by cases h)
  refine calls_start 122 [] Try.func11 rfl Try.ntmps11 rfl rfl ?_
  refine CW.seq fun K1 hK1 => ?_
  refine CW.region [0] rfl ?_
  refine LW.ex rfl rfl rfl rfl (Ex.assign rfl) hS.rd ?_
  refine LW.nil fun aa ha => hK1 _ _ _ ?_ aa ha
  refine CW.seq fun K2 hK2 => ?_
  refine CW.region [0, 1, 2] rfl ?_
  refine LW.hv rfl rfl rfl rfl (Hv.callV hS rfl rfl rfl cb30 (two_c _ _ hS.imm)) fun v w16 ⟨μ16, hv16, hm16, hS⟩ => ?_
  obtain ⟨a0, c0, a1, c1, a2, c2, hv, hd0, hd1, hd2⟩ := hv16
  subst hv
  simp only [twoB, List.length_nil] at hd0 hd1 hd2
  refine LW.hv rfl rfl rfl rfl (Hv.alloc ti31 hS) fun v w1 ⟨b1, hv, hb1, hS⟩ => ?_
  subst hv
  refine LW.hu rfl rfl rfl (Hv.storeN (k := 0) ti31 hS rfl rfl rfl rfl (by simp [Value.oneCell'])) fun _ w_2 hS => ?_
  dsimp only [List.set] at hS
  refine LW.nil fun aa ha => hK2 _ _ _ ?_ aa ha
  refine CW.seq fun K3 hK3 => ?_
  have hS := hS.drew
  refine CW.draw 8 (.ex 0 <| .one 1 <| .one 2 <| .ex 3 <| .ex 4 <| .ex 5 <| .ex 6 <| .ex 7 <| .done) [] (Rd _ _) mixed (by kernel_rfl) rfl rfl hS.rd ?_
  refine PW.ex rfl rfl rfl rfl (Ex.load3c ti31 rfl rfl (by first | exact Rd.obj (k := 0) rfl rfl | exact Rd.obj (k := 1) rfl rfl | exact Rd.obj (k := 2) rfl rfl | exact Rd.obj (k := 3) rfl rfl | exact Rd.obj (k := 4) rfl rfl | exact Rd.imm (by assumption) | exact Rd.sl (k := 0) rfl (by assumption) | exact Rd.sl (k := 1) rfl (by assumption) | exact Rd.sl (k := 2) rfl (by assumption) | exact Rd.sl (k := 3) rfl (by assumption)) (by first | exact Rd.obj (k := 0) rfl rfl | exact Rd.obj (k := 1) rfl rfl | exact Rd.obj (k := 2) rfl rfl | exact Rd.obj (k := 3) rfl rfl | exact Rd.obj (k := 4) rfl rfl | exact Rd.imm (by assumption) | exact Rd.sl (k := 0) rfl (by assumption) | exact Rd.sl (k := 1) rfl (by assumption) | exact Rd.sl (k := 2) rfl (by assumption) | exact Rd.sl (k := 3) rfl (by assumption)) (by first | exact Rd.obj (k := 0) rfl rfl | exact Rd.obj (k := 1) rfl rfl | exact Rd.obj (k := 2) rfl rfl | exact Rd.obj (k := 3) rfl rfl | exact Rd.obj (k := 4) rfl rfl | exact Rd.imm (by assumption) | exact Rd.sl (k := 0) rfl (by assumption) | exact Rd.sl (k := 1) rfl (by assumption) | exact Rd.sl (k := 2) rfl (by assumption) | exact Rd.sl (k := 3) rfl (by assumption))) ?_
  refine PW.hv rfl rfl rfl rfl (Hv.callS hS rfl rfl rfl cb14 (point_c _ _ _)) (fun _ _ h => h.2.rd) fun v w19 ⟨hv, hS⟩ => ?_
  subst hv
  refine PW.hv rfl rfl rfl rfl (Hv.callV hS rfl rfl rfl cb15 (touch2_c ⟨4, 4⟩ [⟨97, 0⟩, ⟨98, 2⟩] 0 (by decide) _ _ _ _ _ _ hS.imm hd0)) (fun _ _ ⟨_, _, hm, h⟩ => Rd.le hm h.rd) fun v w20 ⟨μ20, hv20, hm20, hS⟩ => ?_
  obtain ⟨ad20, c20, hv, hs20⟩ := hv20
  subst hv
  have hd0 := hd0.mono hm20
  have hd1 := hd1.mono hm20
  have hd2 := hd2.mono hm20
  refine PW.ex rfl rfl rfl rfl (Ex.move rfl) ?_
  refine PW.ex rfl rfl rfl rfl (Ex.extract rfl rfl) ?_
  refine PW.ex rfl rfl rfl rfl (Ex.extract rfl rfl) ?_
  refine PW.ex rfl rfl rfl rfl (Ex.assign rfl) ?_
  refine PW.ex rfl rfl rfl rfl (Ex.assign rfl) ?_
  refine PW.nil ?_
  refine LW.nil fun aa ha => hK3 _ _ _ ?_ aa ha
  refine CW.seq fun K4 hK4 => ?_
  have hS := hS.drew
  refine CW.draw 8 (.ex 0 <| .one 1 <| .one 2 <| .ex 3 <| .ex 4 <| .ex 5 <| .ex 6 <| .ex 7 <| .done) [] (Rd _ _) mixed (by kernel_rfl) rfl rfl hS.rd ?_
  refine PW.ex rfl rfl rfl rfl (Ex.load3c ti31 rfl rfl (by first | exact Rd.obj (k := 0) rfl rfl | exact Rd.obj (k := 1) rfl rfl | exact Rd.obj (k := 2) rfl rfl | exact Rd.obj (k := 3) rfl rfl | exact Rd.obj (k := 4) rfl rfl | exact Rd.imm (by assumption) | exact Rd.sl (k := 0) rfl (by assumption) | exact Rd.sl (k := 1) rfl (by assumption) | exact Rd.sl (k := 2) rfl (by assumption) | exact Rd.sl (k := 3) rfl (by assumption)) (by first | exact Rd.obj (k := 0) rfl rfl | exact Rd.obj (k := 1) rfl rfl | exact Rd.obj (k := 2) rfl rfl | exact Rd.obj (k := 3) rfl rfl | exact Rd.obj (k := 4) rfl rfl | exact Rd.imm (by assumption) | exact Rd.sl (k := 0) rfl (by assumption) | exact Rd.sl (k := 1) rfl (by assumption) | exact Rd.sl (k := 2) rfl (by assumption) | exact Rd.sl (k := 3) rfl (by assumption)) (by first | exact Rd.obj (k := 0) rfl rfl | exact Rd.obj (k := 1) rfl rfl | exact Rd.obj (k := 2) rfl rfl | exact Rd.obj (k := 3) rfl rfl | exact Rd.obj (k := 4) rfl rfl | exact Rd.imm (by assumption) | exact Rd.sl (k := 0) rfl (by assumption) | exact Rd.sl (k := 1) rfl (by assumption) | exact Rd.sl (k := 2) rfl (by assumption) | exact Rd.sl (k := 3) rfl (by assumption))) ?_
  refine PW.hv rfl rfl rfl rfl (Hv.callS hS rfl rfl rfl cb14 (point_c _ _ _)) (fun _ _ h => h.2.rd) fun v w25 ⟨hv, hS⟩ => ?_
  subst hv
  refine PW.hv rfl rfl rfl rfl (Hv.callV hS rfl rfl rfl cb15 (touch2_c ⟨30, 5⟩ [⟨97, 27⟩, ⟨98, 7⟩] 0 (by decide) _ _ _ _ _ _ hS.imm hd0)) (fun _ _ ⟨_, _, hm, h⟩ => Rd.le hm h.rd) fun v w26 ⟨μ26, hv26, hm26, hS⟩ => ?_
  obtain ⟨ad26, c26, hv, hs26⟩ := hv26
  subst hv
  have hd0 := hd0.mono hm26
  have hd1 := hd1.mono hm26
  have hd2 := hd2.mono hm26
  have hs20 := hs20.mono hm26
  refine PW.ex rfl rfl rfl rfl (Ex.move rfl) ?_
  refine PW.ex rfl rfl rfl rfl (Ex.extract rfl rfl) ?_
  refine PW.ex rfl rfl rfl rfl (Ex.extract rfl rfl) ?_
  refine PW.ex rfl rfl rfl rfl (Ex.assign rfl) ?_
  refine PW.ex rfl rfl rfl rfl (Ex.assign rfl) ?_
  refine PW.nil ?_
  refine LW.nil fun aa ha => hK4 _ _ _ ?_ aa ha
  refine CW.seq fun K5 hK5 => ?_
  have hS := hS.drew
  refine CW.draw 8 (.ex 0 <| .one 1 <| .one 2 <| .ex 3 <| .ex 4 <| .ex 5 <| .ex 6 <| .ex 7 <| .done) [] (Rd _ _) mixed (by kernel_rfl) rfl rfl hS.rd ?_
  refine PW.ex rfl rfl rfl rfl (Ex.load3c ti31 rfl rfl (by first | exact Rd.obj (k := 0) rfl rfl | exact Rd.obj (k := 1) rfl rfl | exact Rd.obj (k := 2) rfl rfl | exact Rd.obj (k := 3) rfl rfl | exact Rd.obj (k := 4) rfl rfl | exact Rd.imm (by assumption) | exact Rd.sl (k := 0) rfl (by assumption) | exact Rd.sl (k := 1) rfl (by assumption) | exact Rd.sl (k := 2) rfl (by assumption) | exact Rd.sl (k := 3) rfl (by assumption)) (by first | exact Rd.obj (k := 0) rfl rfl | exact Rd.obj (k := 1) rfl rfl | exact Rd.obj (k := 2) rfl rfl | exact Rd.obj (k := 3) rfl rfl | exact Rd.obj (k := 4) rfl rfl | exact Rd.imm (by assumption) | exact Rd.sl (k := 0) rfl (by assumption) | exact Rd.sl (k := 1) rfl (by assumption) | exact Rd.sl (k := 2) rfl (by assumption) | exact Rd.sl (k := 3) rfl (by assumption)) (by first | exact Rd.obj (k := 0) rfl rfl | exact Rd.obj (k := 1) rfl rfl | exact Rd.obj (k := 2) rfl rfl | exact Rd.obj (k := 3) rfl rfl | exact Rd.obj (k := 4) rfl rfl | exact Rd.imm (by assumption) | exact Rd.sl (k := 0) rfl (by assumption) | exact Rd.sl (k := 1) rfl (by assumption) | exact Rd.sl (k := 2) rfl (by assumption) | exact Rd.sl (k := 3) rfl (by assumption))) ?_
  refine PW.hv rfl rfl rfl rfl (Hv.callS hS rfl rfl rfl cb14 (point_c _ _ _)) (fun _ _ h => h.2.rd) fun v w31 ⟨hv, hS⟩ => ?_
  subst hv
  refine PW.hv rfl rfl rfl rfl (Hv.callV hS rfl rfl rfl cb15 (touch2_c ⟨1001, 0⟩ [] 1 (by decide) _ _ _ _ _ _ hS.imm hd0)) (fun _ _ ⟨_, _, hm, h⟩ => Rd.le hm h.rd) fun v w32 ⟨μ32, hv32, hm32, hS⟩ => ?_
  obtain ⟨ad32, c32, hv, hs32⟩ := hv32
  subst hv
  have hd0 := hd0.mono hm32
  have hd1 := hd1.mono hm32
  have hd2 := hd2.mono hm32
  have hs20 := hs20.mono hm32
  have hs26 := hs26.mono hm32
  refine PW.ex rfl rfl rfl rfl (Ex.move rfl) ?_
  refine PW.ex rfl rfl rfl rfl (Ex.extract rfl rfl) ?_
  refine PW.ex rfl rfl rfl rfl (Ex.extract rfl rfl) ?_
  refine PW.ex rfl rfl rfl rfl (Ex.assign rfl) ?_
  refine PW.ex rfl rfl rfl rfl (Ex.assign rfl) ?_
  refine PW.nil ?_
  refine LW.nil fun aa ha => hK5 _ _ _ ?_ aa ha
  refine CW.seq fun K6 hK6 => ?_
  have hS := hS.drew
  refine CW.draw 8 (.ex 0 <| .one 1 <| .one 2 <| .ex 3 <| .ex 4 <| .ex 5 <| .ex 6 <| .ex 7 <| .done) [] (Rd _ _) mixed (by kernel_rfl) rfl rfl hS.rd ?_
  refine PW.ex rfl rfl rfl rfl (Ex.load3c ti31 rfl rfl (by first | exact Rd.obj (k := 0) rfl rfl | exact Rd.obj (k := 1) rfl rfl | exact Rd.obj (k := 2) rfl rfl | exact Rd.obj (k := 3) rfl rfl | exact Rd.obj (k := 4) rfl rfl | exact Rd.imm (by assumption) | exact Rd.sl (k := 0) rfl (by assumption) | exact Rd.sl (k := 1) rfl (by assumption) | exact Rd.sl (k := 2) rfl (by assumption) | exact Rd.sl (k := 3) rfl (by assumption)) (by first | exact Rd.obj (k := 0) rfl rfl | exact Rd.obj (k := 1) rfl rfl | exact Rd.obj (k := 2) rfl rfl | exact Rd.obj (k := 3) rfl rfl | exact Rd.obj (k := 4) rfl rfl | exact Rd.imm (by assumption) | exact Rd.sl (k := 0) rfl (by assumption) | exact Rd.sl (k := 1) rfl (by assumption) | exact Rd.sl (k := 2) rfl (by assumption) | exact Rd.sl (k := 3) rfl (by assumption)) (by first | exact Rd.obj (k := 0) rfl rfl | exact Rd.obj (k := 1) rfl rfl | exact Rd.obj (k := 2) rfl rfl | exact Rd.obj (k := 3) rfl rfl | exact Rd.obj (k := 4) rfl rfl | exact Rd.imm (by assumption) | exact Rd.sl (k := 0) rfl (by assumption) | exact Rd.sl (k := 1) rfl (by assumption) | exact Rd.sl (k := 2) rfl (by assumption) | exact Rd.sl (k := 3) rfl (by assumption))) ?_
  refine PW.hv rfl rfl rfl rfl (Hv.callS hS rfl rfl rfl cb14 (point_c _ _ _)) (fun _ _ h => h.2.rd) fun v w37 ⟨hv, hS⟩ => ?_
  subst hv
  refine PW.hv rfl rfl rfl rfl (Hv.callV hS rfl rfl rfl cb15 (touch2_c ⟨1000, 1000⟩ [] 210 (by decide) _ _ _ _ _ _ hS.imm hd0)) (fun _ _ ⟨_, _, hm, h⟩ => Rd.le hm h.rd) fun v w38 ⟨μ38, hv38, hm38, hS⟩ => ?_
  obtain ⟨ad38, c38, hv, hs38⟩ := hv38
  subst hv
  have hd0 := hd0.mono hm38
  have hd1 := hd1.mono hm38
  have hd2 := hd2.mono hm38
  have hs20 := hs20.mono hm38
  have hs26 := hs26.mono hm38
  refine PW.ex rfl rfl rfl rfl (Ex.move rfl) ?_
  refine PW.ex rfl rfl rfl rfl (Ex.extract rfl rfl) ?_
  refine PW.ex rfl rfl rfl rfl (Ex.extract rfl rfl) ?_
  refine PW.ex rfl rfl rfl rfl (Ex.assign rfl) ?_
  refine PW.ex rfl rfl rfl rfl (Ex.assign rfl) ?_
  refine PW.nil ?_
  refine LW.nil fun aa ha => hK6 _ _ _ ?_ aa ha
  refine CW.seq fun K7 hK7 => ?_
  have hS := hS.drew
  refine CW.draw 8 (.ex 0 <| .one 1 <| .one 2 <| .ex 3 <| .ex 4 <| .ex 5 <| .ex 6 <| .ex 7 <| .done) [] (Rd _ _) mixed (by kernel_rfl) rfl rfl hS.rd ?_
  refine PW.ex rfl rfl rfl rfl (Ex.load3c ti31 rfl rfl (by first | exact Rd.obj (k := 0) rfl rfl | exact Rd.obj (k := 1) rfl rfl | exact Rd.obj (k := 2) rfl rfl | exact Rd.obj (k := 3) rfl rfl | exact Rd.obj (k := 4) rfl rfl | exact Rd.imm (by assumption) | exact Rd.sl (k := 0) rfl (by assumption) | exact Rd.sl (k := 1) rfl (by assumption) | exact Rd.sl (k := 2) rfl (by assumption) | exact Rd.sl (k := 3) rfl (by assumption)) (by first | exact Rd.obj (k := 0) rfl rfl | exact Rd.obj (k := 1) rfl rfl | exact Rd.obj (k := 2) rfl rfl | exact Rd.obj (k := 3) rfl rfl | exact Rd.obj (k := 4) rfl rfl | exact Rd.imm (by assumption) | exact Rd.sl (k := 0) rfl (by assumption) | exact Rd.sl (k := 1) rfl (by assumption) | exact Rd.sl (k := 2) rfl (by assumption) | exact Rd.sl (k := 3) rfl (by assumption)) (by first | exact Rd.obj (k := 0) rfl rfl | exact Rd.obj (k := 1) rfl rfl | exact Rd.obj (k := 2) rfl rfl | exact Rd.obj (k := 3) rfl rfl | exact Rd.obj (k := 4) rfl rfl | exact Rd.imm (by assumption) | exact Rd.sl (k := 0) rfl (by assumption) | exact Rd.sl (k := 1) rfl (by assumption) | exact Rd.sl (k := 2) rfl (by assumption) | exact Rd.sl (k := 3) rfl (by assumption))) ?_
  refine PW.hv rfl rfl rfl rfl (Hv.callS hS rfl rfl rfl cb14 (point_c _ _ _)) (fun _ _ h => h.2.rd) fun v w43 ⟨hv, hS⟩ => ?_
  subst hv
  refine PW.hv rfl rfl rfl rfl (Hv.callV hS rfl rfl rfl cb17 (adapt2_c 97 ⟨7, 2⟩ [⟨97, 3, -2, 1⟩] 0 (by decide) _ _ _ _ _ _ hS.imm hd0)) (fun _ _ ⟨_, _, hm, h⟩ => Rd.le hm h.rd) fun v w44 ⟨μ44, hv44, hm44, hS⟩ => ?_
  obtain ⟨ad44, c44, hv, hs44⟩ := hv44
  subst hv
  have hd0 := hd0.mono hm44
  have hd1 := hd1.mono hm44
  have hd2 := hd2.mono hm44
  have hs20 := hs20.mono hm44
  have hs26 := hs26.mono hm44
  refine PW.ex rfl rfl rfl rfl (Ex.move rfl) ?_
  refine PW.ex rfl rfl rfl rfl (Ex.extract rfl rfl) ?_
  refine PW.ex rfl rfl rfl rfl (Ex.extract rfl rfl) ?_
  refine PW.ex rfl rfl rfl rfl (Ex.assign rfl) ?_
  refine PW.ex rfl rfl rfl rfl (Ex.assign rfl) ?_
  refine PW.nil ?_
  refine LW.nil fun aa ha => hK7 _ _ _ ?_ aa ha
  refine CW.seq fun K8 hK8 => ?_
  have hS := hS.drew
  refine CW.draw 8 (.ex 0 <| .one 1 <| .one 2 <| .ex 3 <| .ex 4 <| .ex 5 <| .ex 6 <| .ex 7 <| .done) [] (Rd _ _) mixed (by kernel_rfl) rfl rfl hS.rd ?_
  refine PW.ex rfl rfl rfl rfl (Ex.load3c ti31 rfl rfl (by first | exact Rd.obj (k := 0) rfl rfl | exact Rd.obj (k := 1) rfl rfl | exact Rd.obj (k := 2) rfl rfl | exact Rd.obj (k := 3) rfl rfl | exact Rd.obj (k := 4) rfl rfl | exact Rd.imm (by assumption) | exact Rd.sl (k := 0) rfl (by assumption) | exact Rd.sl (k := 1) rfl (by assumption) | exact Rd.sl (k := 2) rfl (by assumption) | exact Rd.sl (k := 3) rfl (by assumption)) (by first | exact Rd.obj (k := 0) rfl rfl | exact Rd.obj (k := 1) rfl rfl | exact Rd.obj (k := 2) rfl rfl | exact Rd.obj (k := 3) rfl rfl | exact Rd.obj (k := 4) rfl rfl | exact Rd.imm (by assumption) | exact Rd.sl (k := 0) rfl (by assumption) | exact Rd.sl (k := 1) rfl (by assumption) | exact Rd.sl (k := 2) rfl (by assumption) | exact Rd.sl (k := 3) rfl (by assumption)) (by first | exact Rd.obj (k := 0) rfl rfl | exact Rd.obj (k := 1) rfl rfl | exact Rd.obj (k := 2) rfl rfl | exact Rd.obj (k := 3) rfl rfl | exact Rd.obj (k := 4) rfl rfl | exact Rd.imm (by assumption) | exact Rd.sl (k := 0) rfl (by assumption) | exact Rd.sl (k := 1) rfl (by assumption) | exact Rd.sl (k := 2) rfl (by assumption) | exact Rd.sl (k := 3) rfl (by assumption))) ?_
  refine PW.hv rfl rfl rfl rfl (Hv.callS hS rfl rfl rfl cb14 (point_c _ _ _)) (fun _ _ h => h.2.rd) fun v w49 ⟨hv, hS⟩ => ?_
  subst hv
  refine PW.hv rfl rfl rfl rfl (Hv.callV hS rfl rfl rfl cb17 (adapt2_c 99 ⟨7, 2⟩ [] 210 (by decide) _ _ _ _ _ _ hS.imm hd0)) (fun _ _ ⟨_, _, hm, h⟩ => Rd.le hm h.rd) fun v w50 ⟨μ50, hv50, hm50, hS⟩ => ?_
  obtain ⟨ad50, c50, hv, hs50⟩ := hv50
  subst hv
  have hd0 := hd0.mono hm50
  have hd1 := hd1.mono hm50
  have hd2 := hd2.mono hm50
  have hs20 := hs20.mono hm50
  have hs26 := hs26.mono hm50
  have hs44 := hs44.mono hm50
  refine PW.ex rfl rfl rfl rfl (Ex.move rfl) ?_
  refine PW.ex rfl rfl rfl rfl (Ex.extract rfl rfl) ?_
  refine PW.ex rfl rfl rfl rfl (Ex.extract rfl rfl) ?_
  refine PW.ex rfl rfl rfl rfl (Ex.assign rfl) ?_
  refine PW.ex rfl rfl rfl rfl (Ex.assign rfl) ?_
  refine PW.nil ?_
  refine LW.nil fun aa ha => hK8 _ _ _ ?_ aa ha
  refine CW.seq fun K9 hK9 => ?_
  refine CW.region [0, 1, 2, 3, 4, 5, 6, 7, 8, 9, 10, 11, 12, 13, 14, 15, 16, 17, 18, 19, 20, 21, 22, 23, 24, 25, 26, 27, 28] rfl ?_
  refine LW.ex rfl rfl rfl rfl (Ex.move rfl) hS.rd ?_
  refine LW.ex rfl rfl rfl rfl (Ex.eql rfl rfl rfl) hS.rd ?_
  refine LW.splitB (fun h8_1 => ?_) (fun h8_1 => ?_)
  · have h8_1 := of_decide_eq_true h8_1
    refine LW.ex rfl rfl rfl rfl (Ex.move rfl) hS.rd ?_
    refine LW.ex rfl rfl rfl rfl (Ex.move rfl) hS.rd ?_
    refine LW.ex rfl rfl rfl rfl (Ex.buildS st67 rfl rfl rfl) hS.rd ?_
    refine LW.ex rfl rfl rfl rfl (Ex.buildS st67 rfl rfl rfl) hS.rd ?_
    refine LW.hv rfl rfl rfl rfl (Hv.buildSl hS Try.underlying39 ti67 rfl rfl rfl rfl rfl rfl) fun v w59 ⟨b59, hv, hb59, hS⟩ => ?_
    subst hv
    refine LW.hv rfl rfl rfl rfl (Hv.callS hS rfl rfl rfl cb19 (sameS_c [⟨97, 0⟩, ⟨98, 2⟩] [⟨97, 0⟩, ⟨98, 2⟩] _ _ _ _ (memOf _) _ (imm_memOf _) (hs20.mono hS.imm.ext) (hS.lend_obj (k := 0) rfl (chReps _ [⟨97, 0⟩, ⟨98, 2⟩]) (by simp [maxLen])))) fun v w60 ⟨hv, hS⟩ => ?_
    subst hv
    refine LW.splitB (fun h8_7 => ?_) (fun h8_7 => ?_)
    · skip
      refine LW.ex rfl rfl rfl rfl (by first | exact Ex.pick_yes rfl rfl | exact Ex.pick_no rfl rfl) hS.rd ?_
      refine LW.ex rfl rfl rfl rfl (Ex.move rfl) hS.rd ?_
      refine LW.ex rfl rfl rfl rfl (Ex.move rfl) hS.rd ?_
      refine LW.ex rfl rfl rfl rfl (Ex.eql rfl rfl rfl) hS.rd ?_
      refine LW.splitB (fun h8_11 => ?_) (fun h8_11 => ?_)
      · have h8_11 := of_decide_eq_true h8_11
        refine LW.ex rfl rfl rfl rfl (by first | exact Ex.pick_yes rfl rfl | exact Ex.pick_no rfl rfl) hS.rd ?_
        refine LW.ex rfl rfl rfl rfl (Ex.move rfl) hS.rd ?_
        refine LW.ex rfl rfl rfl rfl (Ex.move rfl) hS.rd ?_
        refine LW.ex rfl rfl rfl rfl (Ex.buildS st67 rfl rfl rfl) hS.rd ?_
        refine LW.ex rfl rfl rfl rfl (Ex.buildS st67 rfl rfl rfl) hS.rd ?_
        refine LW.hv rfl rfl rfl rfl (Hv.buildSl hS Try.underlying39 ti67 rfl rfl rfl rfl rfl rfl) fun v w70 ⟨b70, hv, hb70, hS⟩ => ?_
        subst hv
        refine LW.hv rfl rfl rfl rfl (Hv.callS hS rfl rfl rfl cb19 (sameS_c [⟨97, 27⟩, ⟨98, 7⟩] [⟨97, 27⟩, ⟨98, 7⟩] _ _ _ _ (memOf _) _ (imm_memOf _) (hs26.mono hS.imm.ext) (hS.lend_obj (k := 0) rfl (chReps _ [⟨97, 27⟩, ⟨98, 7⟩]) (by simp [maxLen])))) fun v w71 ⟨hv, hS⟩ => ?_
        subst hv
        refine LW.splitB (fun h8_18 => ?_) (fun h8_18 => ?_)
        · skip
          refine LW.ex rfl rfl rfl rfl (by first | exact Ex.pick_yes rfl rfl | exact Ex.pick_no rfl rfl) hS.rd ?_
          refine LW.ex rfl rfl rfl rfl (Ex.move rfl) hS.rd ?_
          refine LW.ex rfl rfl rfl rfl (Ex.move rfl) hS.rd ?_
          refine LW.ex rfl rfl rfl rfl (Ex.eql rfl rfl rfl) hS.rd ?_
          refine LW.splitB (fun h8_22 => ?_) (fun h8_22 => ?_)
          · have h8_22 := of_decide_eq_true h8_22
            refine LW.ex rfl rfl rfl rfl (by first | exact Ex.pick_yes rfl rfl | exact Ex.pick_no rfl rfl) hS.rd ?_
            refine LW.ex rfl rfl rfl rfl (Ex.move rfl) hS.rd ?_
            refine LW.ex rfl rfl rfl rfl (Ex.move rfl) hS.rd ?_
            refine LW.ex rfl rfl rfl rfl (Ex.eql rfl rfl rfl) hS.rd ?_
            refine LW.splitB (fun h8_26 => ?_) (fun h8_26 => ?_)
            · have h8_26 := of_decide_eq_true h8_26
              refine LW.ex rfl rfl rfl rfl (by first | exact Ex.pick_yes rfl rfl | exact Ex.pick_no rfl rfl) hS.rd ?_
              refine LW.ex rfl rfl rfl rfl (Ex.assign rfl) hS.rd ?_
              refine LW.nil fun aa ha => hK9 _ _ _ ?_ aa ha
              refine CW.seq fun K10 hK10 => ?_
              refine CW.region [0, 1, 2, 3, 4, 5, 6, 7, 8, 9, 10, 11, 12] rfl ?_
              refine LW.ex rfl rfl rfl rfl (Ex.move rfl) hS.rd ?_
              refine LW.ex rfl rfl rfl rfl (Ex.eql rfl rfl rfl) hS.rd ?_
              refine LW.splitB (fun h9_1 => ?_) (fun h9_1 => ?_)
              · have h9_1 := of_decide_eq_true h9_1
                refine LW.ex rfl rfl rfl rfl (Ex.move rfl) hS.rd ?_
                refine LW.ex rfl rfl rfl rfl (Ex.move rfl) hS.rd ?_
                refine LW.ex rfl rfl rfl rfl (Ex.buildS st82 rfl rfl rfl) hS.rd ?_
                refine LW.hv rfl rfl rfl rfl (Hv.buildSl hS Try.underlying33 ti82 rfl rfl rfl rfl rfl rfl) fun v w86 ⟨b86, hv, hb86, hS⟩ => ?_
                subst hv
                refine LW.hv rfl rfl rfl rfl (Hv.callS hS rfl rfl rfl cb20 (sameT_c [⟨97, 3, -2, 1⟩] [⟨97, 3, -2, 1⟩] _ _ _ _ (memOf _) _ (imm_memOf _) (hs44.mono hS.imm.ext) (hS.lend_obj (k := 0) rfl (tapReps _ [⟨97, 3, -2, 1⟩]) (by simp [maxLen])))) fun v w87 ⟨hv, hS⟩ => ?_
                subst hv
                refine LW.splitB (fun h9_6 => ?_) (fun h9_6 => ?_)
                · skip
                  refine LW.ex rfl rfl rfl rfl (by first | exact Ex.pick_yes rfl rfl | exact Ex.pick_no rfl rfl) hS.rd ?_
                  refine LW.ex rfl rfl rfl rfl (Ex.move rfl) hS.rd ?_
                  refine LW.ex rfl rfl rfl rfl (Ex.move rfl) hS.rd ?_
                  refine LW.ex rfl rfl rfl rfl (Ex.eql rfl rfl rfl) hS.rd ?_
                  refine LW.splitB (fun h9_10 => ?_) (fun h9_10 => ?_)
                  · have h9_10 := of_decide_eq_true h9_10
                    refine LW.ex rfl rfl rfl rfl (by first | exact Ex.pick_yes rfl rfl | exact Ex.pick_no rfl rfl) hS.rd ?_
                    refine LW.ex rfl rfl rfl rfl (Ex.assign rfl) hS.rd ?_
                    refine LW.nil fun aa ha => hK10 _ _ _ ?_ aa ha
                    refine CW.seq fun K11 hK11 => ?_
                    refine CW.region [0, 1, 2, 3, 4, 5, 6, 7, 8, 9, 10, 11, 12, 13, 14, 15, 16, 17, 18, 19, 20, 21, 22, 23, 24, 25, 26, 27, 28, 29] rfl ?_
                    refine LW.ex rfl rfl rfl rfl (Ex.move rfl) hS.rd ?_
                    refine LW.ex rfl rfl rfl rfl (Ex.move rfl) hS.rd ?_
                    refine LW.ex rfl rfl rfl rfl (Ex.move rfl) hS.rd ?_
                    refine LW.ex rfl rfl rfl rfl (by first | exact Ex.pick_yes rfl rfl | exact Ex.pick_no rfl rfl) hS.rd ?_
                    refine LW.ex rfl rfl rfl rfl (Ex.move rfl) hS.rd ?_
                    refine LW.ex rfl rfl rfl rfl (Ex.buildS st82 rfl rfl rfl) hS.rd ?_
                    refine LW.hv rfl rfl rfl rfl (Hv.buildSl hS Try.underlying33 ti82 rfl rfl rfl rfl rfl rfl) fun v w99 ⟨b99, hv, hb99, hS⟩ => ?_
                    subst hv
                    refine LW.hv rfl rfl rfl rfl (Hv.callS hS rfl rfl rfl cb21 (shiftR_c [⟨97, 13, -9, 4⟩] 97 _ _ (memOf _) _ (imm_memOf _) (hS.lend_obj (k := 0) rfl (tapReps _ [⟨97, 13, -9, 4⟩]) (by simp [maxLen])) hbd (List.pairwise_singleton ..) (by decide))) fun v w100 ⟨hv, hS⟩ => ?_
                    subst hv
                    refine LW.hv rfl rfl rfl rfl (Hv.callS hS rfl rfl rfl cb14 (point_c _ _ _)) fun v w101 ⟨hv, hS⟩ => ?_
                    subst hv
                    refine LW.ex rfl rfl rfl rfl (Ex.eqlSt (by kernel_rfl) rfl rfl (ptEq (shiftOf [⟨97, 13, -9, 4⟩] 97) ⟨3, -2⟩)) hS.rd ?_
                    refine LW.splitB (fun h10_9 => ?_) (fun h10_9 => ?_)
                    · skip
                      refine LW.ex rfl rfl rfl rfl (by first | exact Ex.pick_yes rfl rfl | exact Ex.pick_no rfl rfl) hS.rd ?_
                      refine LW.ex rfl rfl rfl rfl (Ex.move rfl) hS.rd ?_
                      refine LW.ex rfl rfl rfl rfl (Ex.move rfl) hS.rd ?_
                      refine LW.hv rfl rfl rfl rfl (Hv.callS hS rfl rfl rfl cb21 (shiftR_c [⟨97, 3, -2, 1⟩] 97 _ _ _ _ hS.imm hs44 hbd2 (List.pairwise_singleton ..) (by decide))) fun v w106 ⟨hv, hS⟩ => ?_
                      subst hv
                      refine LW.hv rfl rfl rfl rfl (Hv.callS hS rfl rfl rfl cb14 (point_c _ _ _)) fun v w107 ⟨hv, hS⟩ => ?_
                      subst hv
                      refine LW.ex rfl rfl rfl rfl (Ex.eqlSt (by kernel_rfl) rfl rfl (ptEq (shiftOf [⟨97, 3, -2, 1⟩] 97) ⟨0, 0⟩)) hS.rd ?_
                      refine LW.splitB (fun h10_15 => ?_) (fun h10_15 => ?_)
                      · skip
                        refine LW.ex rfl rfl rfl rfl (by first | exact Ex.pick_yes rfl rfl | exact Ex.pick_no rfl rfl) hS.rd ?_
                        refine LW.ex rfl rfl rfl rfl (Ex.move rfl) hS.rd ?_
                        refine LW.ex rfl rfl rfl rfl (Ex.load3c ti31 rfl rfl (by first | exact Rd.obj (k := 0) rfl rfl | exact Rd.obj (k := 1) rfl rfl | exact Rd.obj (k := 2) rfl rfl | exact Rd.obj (k := 3) rfl rfl | exact Rd.obj (k := 4) rfl rfl | exact Rd.imm (by assumption) | exact Rd.sl (k := 0) rfl (by assumption) | exact Rd.sl (k := 1) rfl (by assumption) | exact Rd.sl (k := 2) rfl (by assumption) | exact Rd.sl (k := 3) rfl (by assumption)) (by first | exact Rd.obj (k := 0) rfl rfl | exact Rd.obj (k := 1) rfl rfl | exact Rd.obj (k := 2) rfl rfl | exact Rd.obj (k := 3) rfl rfl | exact Rd.obj (k := 4) rfl rfl | exact Rd.imm (by assumption) | exact Rd.sl (k := 0) rfl (by assumption) | exact Rd.sl (k := 1) rfl (by assumption) | exact Rd.sl (k := 2) rfl (by assumption) | exact Rd.sl (k := 3) rfl (by assumption)) (by first | exact Rd.obj (k := 0) rfl rfl | exact Rd.obj (k := 1) rfl rfl | exact Rd.obj (k := 2) rfl rfl | exact Rd.obj (k := 3) rfl rfl | exact Rd.obj (k := 4) rfl rfl | exact Rd.imm (by assumption) | exact Rd.sl (k := 0) rfl (by assumption) | exact Rd.sl (k := 1) rfl (by assumption) | exact Rd.sl (k := 2) rfl (by assumption) | exact Rd.sl (k := 3) rfl (by assumption))) hS.rd ?_
                        refine LW.hv rfl rfl rfl rfl (Hv.callS hS rfl rfl rfl cb23 (valid_c twoB _ _ _ _ _ _ _ _ hS.imm hd0 hd1 hd2)) fun v w112 ⟨hv, hS⟩ => ?_
                        subst hv
                        refine LW.splitB (fun h10_19 => ?_) (fun h10_19 => ?_)
                        · skip
                          refine LW.ex rfl rfl rfl rfl (by first | exact Ex.pick_yes rfl rfl | exact Ex.pick_no rfl rfl) hS.rd ?_
                          refine LW.ex rfl rfl rfl rfl (Ex.move rfl) hS.rd ?_
                          refine LW.ex rfl rfl rfl rfl (Ex.buildS st57 rfl rfl rfl) hS.rd ?_
                          refine LW.ex rfl rfl rfl rfl (Ex.buildS st57 rfl rfl rfl) hS.rd ?_
                          refine LW.hv rfl rfl rfl rfl (Hv.buildSl hS Try.underlying27 ti57 rfl rfl rfl rfl rfl rfl) fun v w117 ⟨b117, hv, hb117, hS⟩ => ?_
                          subst hv
                          refine LW.ex rfl rfl rfl rfl (Ex.buildS st31 rfl rfl rfl) hS.rd ?_
                          refine LW.hv rfl rfl rfl rfl (Hv.callS hS rfl rfl rfl cb23 (valid_c ⟨[⟨97, 0, 0, 9, 0⟩, ⟨98, 9, 0, 12, 0⟩], [], []⟩ _ _ _ _ _ _ (memOf _) _ (imm_memOf _) (hS.lend_obj (k := 0) rfl (areaReps _ [⟨97, 0, 0, 9, 0⟩, ⟨98, 9, 0, 12, 0⟩]) (by simp [maxLen])) (Sl.nil _ _ _ (by simp [maxLen])) (Sl.nil _ _ _ (by simp [maxLen])))) fun v w119 ⟨hv, hS⟩ => ?_
                          subst hv
                          refine LW.ex rfl rfl rfl rfl (Ex.not rfl rfl) hS.rd ?_
                          refine LW.ex rfl rfl rfl rfl (by first | exact Ex.pick_yes rfl rfl | exact Ex.pick_no rfl rfl) hS.rd ?_
                          refine LW.ex rfl rfl rfl rfl (Ex.assign rfl) hS.rd ?_
                          refine LW.nil fun aa ha => hK11 _ _ _ ?_ aa ha
                          refine CW.ret fun aa ha => ?_
                          refine ret_one ha Try.results11 rfl ?_
                          exact hS.retB (by decide)
                        · exact absurd h10_19 (by decide)
                      · exact absurd h10_15 (by decide)
                    · exact absurd h10_9 (by decide)
                  · have h9_10 := of_decide_eq_false h9_10
                    omega
                · exact absurd h9_6 (by decide)
              · have h9_1 := of_decide_eq_false h9_1
                omega
            · have h8_26 := of_decide_eq_false h8_26
              omega
          · have h8_22 := of_decide_eq_false h8_22
            omega
        · exact absurd h8_18 (by decide)
      · have h8_11 := of_decide_eq_false h8_11
        omega
    · exact absurd h8_7 (by decide)
  · have h8_1 := of_decide_eq_false h8_1
    omega
end Go.Proofs.Ytphgjongflkolaa

