/-
  Areas: comparing choices.
-/
import Derived.Test.YtphgjongflkolaaArF
import Derived.Test.YtphgjongflkolaaLay
namespace Go.Proofs.Ytphgjongflkolaa
open Go.RowKit Sy Go.Sort

def byCost (x y : Ch) : Int := orL [cmpI x.Cost y.Cost, cmpI x.Key.toNat y.Key.toNat]
def byKey (x y : Ch) : Int := cmpI x.Key.toNat y.Key.toNat
theorem byKey_c (x y : Ch) (w : World) : Calls Try.prog 33 #[chV x, chV y] w (RetS w (.int .i64 (byKey x y))) := by
  have hS := St.start w (fun _ => none) (fun _ _ h => by cases h)
  refine calls_start 10 [chV x, chV y] Try.func33 rfl Try.ntmps33 rfl rfl ?_
  refine CW.seq fun K0 hK0 => ?_
  refine CW.region [0, 1, 2] rfl ?_
  refine LW.hv rfl rfl rfl rfl (Hv.box hS rfl) fun v w2 ⟨b2, hv, hb2, hS⟩ => ?_
  subst hv
  refine LW.hv rfl rfl rfl rfl (Hv.box hS rfl) fun v w3 ⟨b3, hv, hb3, hS⟩ => ?_
  subst hv
  refine LW.ex rfl rfl rfl rfl (Ex.assign rfl) hS.rd ?_
  refine LW.nil fun aa ha => hK0 _ _ _ ?_ aa ha
  refine CW.seq fun K1 hK1 => ?_
  refine CW.region [0, 1, 2, 3, 4, 5] rfl ?_
  refine LW.ex rfl rfl rfl rfl (Ex.fieldA Try.underlying67 rfl ti5 rfl) hS.rd ?_
  refine LW.ex rfl rfl rfl rfl (Ex.load1 ti5 rfl rfl (by first | exact Rd.obj (k := 0) rfl rfl | exact Rd.obj (k := 1) rfl rfl | exact Rd.obj (k := 2) rfl rfl | exact Rd.obj (k := 3) rfl rfl | exact Rd.obj (k := 4) rfl rfl | exact Rd.imm (by assumption) | exact Rd.sl (k := 0) rfl (by assumption) | exact Rd.sl (k := 1) rfl (by assumption) | exact Rd.sl (k := 2) rfl (by assumption) | exact Rd.sl (k := 3) rfl (by assumption))) hS.rd ?_
  refine LW.ex rfl rfl rfl rfl (Ex.fieldA Try.underlying67 rfl ti5 rfl) hS.rd ?_
  refine LW.ex rfl rfl rfl rfl (Ex.load1 ti5 rfl rfl (by first | exact Rd.obj (k := 0) rfl rfl | exact Rd.obj (k := 1) rfl rfl | exact Rd.obj (k := 2) rfl rfl | exact Rd.obj (k := 3) rfl rfl | exact Rd.obj (k := 4) rfl rfl | exact Rd.imm (by assumption) | exact Rd.sl (k := 0) rfl (by assumption) | exact Rd.sl (k := 1) rfl (by assumption) | exact Rd.sl (k := 2) rfl (by assumption) | exact Rd.sl (k := 3) rfl (by assumption))) hS.rd ?_
  refine LW.hv rfl rfl rfl rfl (Hv.callS hS rfl rfl rfl cb34 (cmpB_c _ _ _)) fun v w9 ⟨hv, hS⟩ => ?_
  subst hv
  refine LW.ex rfl rfl rfl rfl (Ex.assign rfl) hS.rd ?_
  refine LW.nil fun aa ha => hK1 _ _ _ ?_ aa ha
  refine CW.ret fun aa ha => ?_
  exact ret_one ha Try.results33 rfl hS.retS
set_option maxRecDepth 100000 in
theorem byCost_c (x y : Ch) (b12 : Nat) (w : World) (hb : w.cell? ⟨b12, 0, none⟩ = some (.func (.func 33) #[] #[])) : Calls Try.prog 36 #[chV x, chV y, .pointer (some ⟨b12, 0, none⟩)] w (RetS w (.int .i64 (byCost x y))) := by
  have hS := St.start w (memOf w) (imm_memOf w)
  have hcell := memOf_cell hb
  refine calls_start 17 [chV x, chV y, .pointer (some ⟨b12, 0, none⟩)] Try.func36 rfl Try.ntmps36 rfl rfl ?_
  refine CW.seq fun K0 hK0 => ?_
  refine CW.region [0, 1, 2] rfl ?_
  refine LW.hv rfl rfl rfl rfl (Hv.box hS rfl) fun v w3 ⟨b3, hv, hb3, hS⟩ => ?_
  subst hv
  refine LW.hv rfl rfl rfl rfl (Hv.box hS rfl) fun v w4 ⟨b4, hv, hb4, hS⟩ => ?_
  subst hv
  refine LW.ex rfl rfl rfl rfl (Ex.assign rfl) hS.rd ?_
  refine LW.nil fun aa ha => hK0 _ _ _ ?_ aa ha
  refine CW.seq fun K1 hK1 => ?_
  have hS := hS.drew
  refine CW.draw 12 (.ex 0 <| .ex 1 <| .ex 2 <| .ex 3 <| .ex 5 <| .ex 6 <| .ex 7 <| .one 4 <| .one 8 <| .one 9 <| .one 10 <| .ex 11 <| .done) [] (Rd _ _) mixed (by kernel_rfl) rfl rfl hS.rd ?_
  refine PW.ex rfl rfl rfl rfl (Ex.fieldA Try.underlying67 rfl ti3 rfl) ?_
  refine PW.ex rfl rfl rfl rfl (Ex.load1 ti3 rfl rfl (by first | exact Rd.obj (k := 0) rfl rfl | exact Rd.obj (k := 1) rfl rfl | exact Rd.obj (k := 2) rfl rfl | exact Rd.obj (k := 3) rfl rfl | exact Rd.obj (k := 4) rfl rfl | exact Rd.imm (by assumption) | exact Rd.sl (k := 0) rfl (by assumption) | exact Rd.sl (k := 1) rfl (by assumption) | exact Rd.sl (k := 2) rfl (by assumption) | exact Rd.sl (k := 3) rfl (by assumption))) ?_
  refine PW.ex rfl rfl rfl rfl (Ex.fieldA Try.underlying67 rfl ti3 rfl) ?_
  refine PW.ex rfl rfl rfl rfl (Ex.load1 ti3 rfl rfl (by first | exact Rd.obj (k := 0) rfl rfl | exact Rd.obj (k := 1) rfl rfl | exact Rd.obj (k := 2) rfl rfl | exact Rd.obj (k := 3) rfl rfl | exact Rd.obj (k := 4) rfl rfl | exact Rd.imm (by assumption) | exact Rd.sl (k := 0) rfl (by assumption) | exact Rd.sl (k := 1) rfl (by assumption) | exact Rd.sl (k := 2) rfl (by assumption) | exact Rd.sl (k := 3) rfl (by assumption))) ?_
  refine PW.ex rfl rfl rfl rfl (Ex.load1 ti87 rfl rfl (by first | exact Rd.obj (k := 0) rfl rfl | exact Rd.obj (k := 1) rfl rfl | exact Rd.obj (k := 2) rfl rfl | exact Rd.obj (k := 3) rfl rfl | exact Rd.obj (k := 4) rfl rfl | exact Rd.imm (by assumption) | exact Rd.sl (k := 0) rfl (by assumption) | exact Rd.sl (k := 1) rfl (by assumption) | exact Rd.sl (k := 2) rfl (by assumption) | exact Rd.sl (k := 3) rfl (by assumption))) ?_
  refine PW.ex rfl rfl rfl rfl (Ex.load2c ti67 rfl rfl (by first | exact Rd.obj (k := 0) rfl rfl | exact Rd.obj (k := 1) rfl rfl | exact Rd.obj (k := 2) rfl rfl | exact Rd.obj (k := 3) rfl rfl | exact Rd.obj (k := 4) rfl rfl | exact Rd.imm (by assumption) | exact Rd.sl (k := 0) rfl (by assumption) | exact Rd.sl (k := 1) rfl (by assumption) | exact Rd.sl (k := 2) rfl (by assumption) | exact Rd.sl (k := 3) rfl (by assumption)) (by first | exact Rd.obj (k := 0) rfl rfl | exact Rd.obj (k := 1) rfl rfl | exact Rd.obj (k := 2) rfl rfl | exact Rd.obj (k := 3) rfl rfl | exact Rd.obj (k := 4) rfl rfl | exact Rd.imm (by assumption) | exact Rd.sl (k := 0) rfl (by assumption) | exact Rd.sl (k := 1) rfl (by assumption) | exact Rd.sl (k := 2) rfl (by assumption) | exact Rd.sl (k := 3) rfl (by assumption))) ?_
  refine PW.ex rfl rfl rfl rfl (Ex.load2c ti67 rfl rfl (by first | exact Rd.obj (k := 0) rfl rfl | exact Rd.obj (k := 1) rfl rfl | exact Rd.obj (k := 2) rfl rfl | exact Rd.obj (k := 3) rfl rfl | exact Rd.obj (k := 4) rfl rfl | exact Rd.imm (by assumption) | exact Rd.sl (k := 0) rfl (by assumption) | exact Rd.sl (k := 1) rfl (by assumption) | exact Rd.sl (k := 2) rfl (by assumption) | exact Rd.sl (k := 3) rfl (by assumption)) (by first | exact Rd.obj (k := 0) rfl rfl | exact Rd.obj (k := 1) rfl rfl | exact Rd.obj (k := 2) rfl rfl | exact Rd.obj (k := 3) rfl rfl | exact Rd.obj (k := 4) rfl rfl | exact Rd.imm (by assumption) | exact Rd.sl (k := 0) rfl (by assumption) | exact Rd.sl (k := 1) rfl (by assumption) | exact Rd.sl (k := 2) rfl (by assumption) | exact Rd.sl (k := 3) rfl (by assumption))) ?_
  refine PW.hv rfl rfl rfl rfl (Hv.callS hS rfl rfl rfl cb38 (cmp_c _ _ _)) (fun _ _ h => h.2.rd) fun v w10 ⟨hv, hS⟩ => ?_
  subst hv
  refine PW.hv rfl rfl rfl rfl (Hv.callS hS rfl rfl rfl cb33 (byKey_c _ _ _)) (fun _ _ h => h.2.rd) fun v w14 ⟨hv, hS⟩ => ?_
  subst hv
  refine PW.hv rfl rfl rfl rfl (Hv.buildSl hS Try.underlying117 ti3 rfl rfl rfl rfl rfl rfl) (fun _ _ ⟨_, _, _, h⟩ => h.rd.tail) fun v w15 ⟨b15, hv, hb15, hS⟩ => ?_
  subst hv
  refine PW.hv rfl rfl rfl rfl (Hv.callS hS rfl rfl rfl cb37 (or_c [cmpI x.Cost y.Cost, byKey x y] _ _ (memOf _) _ (imm_memOf _) (hS.lend_obj (k := 0) rfl (RepL.ints2 _ _ _) (by simp [maxLen])))) (fun _ _ h => h.2.rd.tail) fun v w16 ⟨hv, hS⟩ => ?_
  subst hv
  refine PW.ex rfl rfl rfl rfl (Ex.assign rfl) ?_
  refine PW.nil ?_
  refine LW.nil fun aa ha => hK1 _ _ _ ?_ aa ha
  refine CW.ret fun aa ha => ?_
  exact ret_one ha Try.results36 rfl hS.retS
end Go.Proofs.Ytphgjongflkolaa
