import Derived.Test.YtgbdfgifgngijaaL11
import Derived.Shelf.SlSortCmp.NoneTotal
import Derived.Shelf.Small.Bits
import Derived.Ground.SlsfProg
import Derived.Ground.NamesProg
import Derived.Test.YtgbdfgifgngijaaProg

/-
  DERIVED: THE SHELF's CONTRACTS AT THIS DUMP, IN PLAIN WORDS (tools/lay-plain.mjs out of 'YtgbdfgifgngijaaLay0.lean', which tools/lay-shelf.mjs wrote): THE SAME DECLARATIONS UNDER THE SAME NAMES: 'import', 'namespace', 'open', 'def', 'theorem' AND NOTHING ELSE: no command of the shelf's: FOR A HAND-IN. Each laying: the table of numbers ('.._ren') and one theorem, a field a fact of the dump's own or the kernel's comparison; each contract: ONE APPLICATION.
-/
namespace Go.Proofs
open Go.Shelf
def Try.pdqL_ren : Go.Shelf.Ren := ⟨fun | 14 => 58 | 20 => 74 | 21 => 75 | 22 => 76 | 23 => 77 | 24 => 78 | 25 => 79 | 26 => 80 | 27 => 81 | 46 => 96 | 47 => 97 | 48 => 98 | 49 => 99 | 50 => 100 | 15 => 59 | 57 => 105 | 28 => 82 | 29 => 83 | n => n, fun | 24 => 47 | 22 => 37 | 3 => 3 | 25 => 92 | 4 => 4 | 0 => 0 | 46 => 134 | 45 => 133 | 50 => 77 | 66 => 155 | 39 => 123 | 55 => 142 | 70 => 159 | 76 => 168 | 77 => 169 | 53 => 140 | 5 => 5 | 9 => 9 | n => n, fun | n => n⟩
theorem Try.pdqL : Go.Proofs.SlLaysF0.n14 Try.prog Try.pdqL_ren := {
  mixed := by kernel_rfl
  f14 := ⟨Try.f58.name, by decide, Try.func58.trans (congrArg some (by kernel_rfl))⟩
  f15 := Try.func59.trans (congrArg some (by kernel_rfl))
  f20 := ⟨Try.f74.name, by decide, Try.func74.trans (congrArg some (by kernel_rfl))⟩
  f21 := ⟨Try.f75.name, by decide, Try.func75.trans (congrArg some (by kernel_rfl))⟩
  f22 := ⟨Try.f76.name, by decide, Try.func76.trans (congrArg some (by kernel_rfl))⟩
  f23 := ⟨Try.f77.name, by decide, Try.func77.trans (congrArg some (by kernel_rfl))⟩
  f24 := ⟨Try.f78.name, by decide, Try.func78.trans (congrArg some (by kernel_rfl))⟩
  f25 := ⟨Try.f79.name, by decide, Try.func79.trans (congrArg some (by kernel_rfl))⟩
  f26 := ⟨Try.f80.name, by decide, Try.func80.trans (congrArg some (by kernel_rfl))⟩
  f27 := ⟨Try.f81.name, by decide, Try.func81.trans (congrArg some (by kernel_rfl))⟩
  f28 := Try.func82.trans (congrArg some (by kernel_rfl))
  f29 := Try.func83.trans (congrArg some (by kernel_rfl))
  f46 := ⟨Try.f96.name, by decide, Try.func96.trans (congrArg some (by kernel_rfl))⟩
  f47 := Try.func97.trans (congrArg some (by kernel_rfl))
  f48 := Try.func98.trans (congrArg some (by kernel_rfl))
  f49 := ⟨Try.f99.name, by decide, Try.func99.trans (congrArg some (by kernel_rfl))⟩
  f50 := ⟨Try.f100.name, by decide, Try.func100.trans (congrArg some (by kernel_rfl))⟩
  f57 := ⟨Try.f105.name, by decide, Try.func105.trans (congrArg some (by kernel_rfl))⟩
  t0 := Try.underlying0
  a0 := Try.isAgg0
  z0 := Try.sizeOf0
  v0 := Try.zeroValue0
  t3 := Try.underlying3
  a3 := Try.isAgg3
  z3 := Try.sizeOf3
  v3 := Try.zeroValue3
  t4 := Try.underlying4
  a4 := Try.isAgg4
  z4 := Try.sizeOf4
  v4 := Try.zeroValue4
  t5 := Try.underlying5
  a5 := Try.isAgg5
  z5 := Try.sizeOf5
  v5 := Try.zeroValue5
  t9 := Try.underlying9
  a9 := Try.isAgg9
  z9 := Try.sizeOf9
  v9 := Try.zeroValue9
  t22 := Try.underlying37
  a22 := Try.isAgg37
  z22 := Try.sizeOf37
  v22 := Try.zeroValue37
  t25 := Try.underlying92
  a25 := Try.isAgg92
  z25 := Try.sizeOf92
  v25 := Try.zeroValue92
  t39 := Try.underlying123
  a39 := Try.isAgg123
  z39 := Try.sizeOf123
  v39 := Try.zeroValue123
  t45 := Try.underlying133
  a45 := Try.isAgg133
  z45 := Try.sizeOf133
  v45 := Try.zeroValue133
  t46 := Try.underlying134
  a46 := Try.isAgg134
  z46 := Try.sizeOf134
  v46 := Try.zeroValue134
  t50 := Try.underlying77
  a50 := Try.isAgg77
  z50 := Try.sizeOf77
  v50 := Try.zeroValue77
  t53 := Try.underlying140
  a53 := Try.isAgg140
  z53 := Try.sizeOf140
  v53 := Try.zeroValue140
  t55 := Try.underlying142
  a55 := Try.isAgg142
  z55 := Try.sizeOf142
  v55 := Try.zeroValue142
  t66 := Try.underlying155
  a66 := Try.isAgg155
  z66 := Try.sizeOf155
  v66 := Try.zeroValue155
  t70 := Try.underlying159
  a70 := Try.isAgg159
  z70 := Try.sizeOf159
  v70 := Try.zeroValue159
  t76 := Try.underlying168
  a76 := Try.isAgg168
  z76 := Try.sizeOf168
  v76 := Try.zeroValue168
  t77 := Try.underlying169
  a77 := Try.isAgg169
  z77 := Try.sizeOf169
  v77 := Try.zeroValue169 }
def Try.bitsL_ren : Go.Shelf.Ren := ⟨fun | 125 => 59 | 128 => 82 | 129 => 83 | n => n, fun | 46 => 123 | 3 => 3 | 51 => 140 | 53 => 142 | 4 => 4 | 5 => 5 | 9 => 9 | n => n, fun | n => n⟩
theorem Try.bitsL : Go.Proofs.Lays.n125 Try.prog Try.bitsL_ren := {
  mixed := by kernel_rfl
  f125 := Try.func59.trans (congrArg some (by kernel_rfl))
  f128 := Try.func82.trans (congrArg some (by kernel_rfl))
  f129 := Try.func83.trans (congrArg some (by kernel_rfl))
  t3 := Try.underlying3
  a3 := Try.isAgg3
  z3 := Try.sizeOf3
  v3 := Try.zeroValue3
  t4 := Try.underlying4
  a4 := Try.isAgg4
  z4 := Try.sizeOf4
  v4 := Try.zeroValue4
  t5 := Try.underlying5
  a5 := Try.isAgg5
  z5 := Try.sizeOf5
  v5 := Try.zeroValue5
  t9 := Try.underlying9
  a9 := Try.isAgg9
  z9 := Try.sizeOf9
  v9 := Try.zeroValue9
  t46 := Try.underlying123
  a46 := Try.isAgg123
  z46 := Try.sizeOf123
  v46 := Try.zeroValue123
  t51 := Try.underlying140
  a51 := Try.isAgg140
  z51 := Try.sizeOf140
  v51 := Try.zeroValue140
  t53 := Try.underlying142
  a53 := Try.isAgg142
  z53 := Try.sizeOf142
  v53 := Try.zeroValue142 }
end Go.Proofs

/-
  Output: the order of results: the walks of cmp.Compare of strings, of Best's closure and of slices.SortFunc.
-/
namespace Go.Proofs.Ytgbdfgifgngijaa
open Go.RowKit Sy Go.Maps Go.Sort Go.Shelf

theorem wrapU {n : Nat} (h : n < 4611686018427387904) : IntKind.u64.wrap (n : Int) = n := by simp [IntKind.wrap, IntKind.bits, IntKind.signed]; omega

def cmpS (a b : ByteArray) : Int := if bl a < bl b then -1 else if bl b < bl a then 1 else 0
instance : Inhabited Rsl := ⟨⟨⟨#[]⟩, 0⟩⟩
theorem lex_tri (a b : List UInt8) : a < b ∨ a = b ∨ b < a := Std.lt_trichotomy a b
theorem nle_lt (x y : ByteArray) : (!sLe x y) = decide (bl y < bl x) := by
  unfold sLe
  rw [bl_eq]
  rcases lex_tri (bl x) (bl y) with h | h | h
  · rw [decide_eq_true h, decide_eq_false (List.lt_asymm h)]; rfl
  · rw [h, decide_eq_false (List.lt_irrefl _), decide_eq_true rfl]; rfl
  · rw [decide_eq_true h, decide_eq_false (List.lt_asymm h), decide_eq_false (fun e => List.lt_irrefl _ (by rw [e] at h; exact h))]; rfl
theorem nanS_c (a : ByteArray) (w : World) : Calls Try.prog 61 #[.string a] w (RetS w (.bool false)) := by
  have hS := St.start w (fun _ => none) (fun _ _ h => by cases h)
  refine calls_start 6 [.string a] Try.func61 rfl Try.ntmps61 rfl rfl ?_
  refine CW.seq fun K1 hK1 => ?_
  refine CW.region [0] rfl ?_
  refine LW.ex rfl rfl rfl rfl (Ex.assign rfl) hS.rd ?_
  refine LW.nil fun aa ha => hK1 _ _ _ ?_ aa ha
  refine CW.seq fun K2 hK2 => ?_
  refine CW.region [0, 1, 2, 3] rfl ?_
  refine LW.ex rfl rfl rfl rfl (Ex.move rfl) hS.rd ?_
  refine LW.ex rfl rfl rfl rfl (Ex.move rfl) hS.rd ?_
  refine LW.ex rfl rfl rfl rfl (Ex.neqS (b := false) rfl rfl (by show (!(a == a)) = false; rw [bl_eq, decide_eq_true rfl]; rfl)) hS.rd ?_
  refine LW.ex rfl rfl rfl rfl (Ex.assign rfl) hS.rd ?_
  refine LW.nil fun aa ha => hK2 _ _ _ ?_ aa ha
  refine CW.ret fun aa ha => ?_
  refine ret_one ha Try.results61 rfl ?_
  exact hS.retS
theorem cmpS_c (x y : ByteArray) (w : World) : Calls Try.prog 38 #[.string x, .string y] w (RetS w (.int .i64 (cmpS x y))) := by
  have hS := St.start w (fun _ => none) (fun _ _ h => by cases h)
  refine calls_start 20 [.string x, .string y] Try.func38 rfl Try.ntmps38 rfl rfl ?_
  refine CW.seq fun K3 hK3 => ?_
  refine CW.region [0] rfl ?_
  refine LW.ex rfl rfl rfl rfl (Ex.assign rfl) hS.rd ?_
  refine LW.nil fun aa ha => hK3 _ _ _ ?_ aa ha
  refine CW.seq fun K4 hK4 => ?_
  refine CW.region [0, 1, 2] rfl ?_
  refine LW.ex rfl rfl rfl rfl (Ex.move rfl) hS.rd ?_
  refine LW.hv rfl rfl rfl rfl (Hv.callS hS rfl rfl rfl cb61 (nanS_c _ _)) fun v w8 ⟨hv, hS⟩ => ?_
  subst hv
  refine LW.ex rfl rfl rfl rfl (Ex.assign rfl) hS.rd ?_
  refine LW.nil fun aa ha => hK4 _ _ _ ?_ aa ha
  refine CW.seq fun K5 hK5 => ?_
  refine CW.region [0, 1, 2] rfl ?_
  refine LW.ex rfl rfl rfl rfl (Ex.move rfl) hS.rd ?_
  refine LW.hv rfl rfl rfl rfl (Hv.callS hS rfl rfl rfl cb61 (nanS_c _ _)) fun v w10 ⟨hv, hS⟩ => ?_
  subst hv
  refine LW.ex rfl rfl rfl rfl (Ex.assign rfl) hS.rd ?_
  refine LW.nil fun aa ha => hK5 _ _ _ ?_ aa ha
  refine CW.seq fun K6 hK6 => ?_
  refine CW.seq fun K7 hK7 => ?_
  refine CW.region [0] rfl ?_
  refine LW.ex rfl rfl rfl rfl (Ex.move rfl) hS.rd ?_
  refine LW.nil fun aa ha => hK7 _ _ _ ?_ aa ha
  refine CW.no rfl ?_
  refine CW.skip fun aa ha => hK6 _ _ _ ?_ aa ha
  refine CW.seq fun K8 hK8 => ?_
  refine CW.seq fun K9 hK9 => ?_
  refine CW.region [0] rfl ?_
  refine LW.ex rfl rfl rfl rfl (Ex.move rfl) hS.rd ?_
  refine LW.nil fun aa ha => hK9 _ _ _ ?_ aa ha
  refine CW.no rfl ?_
  refine CW.skip fun aa ha => hK8 _ _ _ ?_ aa ha
  refine CW.seq fun K10 hK10 => ?_
  refine CW.seq fun K11 hK11 => ?_
  refine CW.region [0, 1, 2] rfl ?_
  refine LW.ex rfl rfl rfl rfl (Ex.move rfl) hS.rd ?_
  refine LW.ex rfl rfl rfl rfl (Ex.move rfl) hS.rd ?_
  refine LW.ex rfl rfl rfl rfl (Ex.lssS rfl rfl rfl) hS.rd ?_
  refine LW.splitB (fun h9_2 => ?_) (fun h9_2 => ?_)
  · skip
    refine LW.nil fun aa ha => hK11 _ _ _ ?_ aa ha
    refine CW.yes rfl ?_
    refine CW.seq fun K12 hK12 => ?_
    refine CW.region [0] rfl ?_
    refine LW.ex rfl rfl rfl rfl (Ex.assign rfl) hS.rd ?_
    refine LW.nil fun aa ha => hK12 _ _ _ ?_ aa ha
    refine CW.ret fun aa ha => ?_
    refine ret_one ha Try.results38 rfl ?_
    have h := of_decide_eq_true h9_2
    exact hS.retI (by unfold cmpS; rw [if_pos h])
  · skip
    refine LW.nil fun aa ha => hK11 _ _ _ ?_ aa ha
    refine CW.no rfl ?_
    refine CW.skip fun aa ha => hK10 _ _ _ ?_ aa ha
    refine CW.seq fun K13 hK13 => ?_
    refine CW.seq fun K14 hK14 => ?_
    refine CW.region [0, 1, 2] rfl ?_
    refine LW.ex rfl rfl rfl rfl (Ex.move rfl) hS.rd ?_
    refine LW.ex rfl rfl rfl rfl (Ex.move rfl) hS.rd ?_
    refine LW.ex rfl rfl rfl rfl (Ex.gtrS rfl rfl (nle_lt x y)) hS.rd ?_
    refine LW.splitB (fun h11_2 => ?_) (fun h11_2 => ?_)
    · skip
      refine LW.nil fun aa ha => hK14 _ _ _ ?_ aa ha
      refine CW.yes rfl ?_
      refine CW.seq fun K15 hK15 => ?_
      refine CW.region [0] rfl ?_
      refine LW.ex rfl rfl rfl rfl (Ex.assign rfl) hS.rd ?_
      refine LW.nil fun aa ha => hK15 _ _ _ ?_ aa ha
      refine CW.ret fun aa ha => ?_
      refine ret_one ha Try.results38 rfl ?_
      have h := of_decide_eq_false h9_2
      have h2 := of_decide_eq_true h11_2
      exact hS.retI (by unfold cmpS; rw [if_neg h, if_pos h2])
    · skip
      refine LW.nil fun aa ha => hK14 _ _ _ ?_ aa ha
      refine CW.no rfl ?_
      refine CW.skip fun aa ha => hK13 _ _ _ ?_ aa ha
      refine CW.seq fun K16 hK16 => ?_
      refine CW.region [0] rfl ?_
      refine LW.ex rfl rfl rfl rfl (Ex.assign rfl) hS.rd ?_
      refine LW.nil fun aa ha => hK16 _ _ _ ?_ aa ha
      refine CW.ret fun aa ha => ?_
      refine ret_one ha Try.results38 rfl ?_
      have h := of_decide_eq_false h9_2
      have h2 := of_decide_eq_false h11_2
      exact hS.retI (by unfold cmpS; rw [if_neg h, if_neg h2])
def resCmp (x y : Rsl) : Int := orL [cmpI x.Cost y.Cost, cmpS x.Text y.Text]
def resLt (x y : Rsl) : Prop := x.Cost < y.Cost ∨ (x.Cost = y.Cost ∧ bl x.Text < bl y.Text)
instance (x y : Rsl) : Decidable (resLt x y) := by unfold resLt; infer_instance
theorem cmpI_z {a b : Int} : cmpI a b = 0 ↔ a = b := by unfold cmpI; split <;> (try split) <;> omega
theorem cmpI_n {a b : Int} : cmpI a b < 0 ↔ a < b := by unfold cmpI; split <;> (try split) <;> omega
theorem cmpS_n {a b : ByteArray} : cmpS a b < 0 ↔ bl a < bl b := by
  unfold cmpS
  split
  · rename_i h; simp [h]
  · rename_i h; split <;> simp [h]
theorem resCmp_lt {x y : Rsl} : resCmp x y < 0 ↔ resLt x y := by
  unfold resCmp resLt
  simp only [orL]
  by_cases h1 : cmpI x.Cost y.Cost = 0
  · rw [if_pos h1]
    have e1 := cmpI_z.1 h1
    by_cases h2 : cmpS x.Text y.Text = 0
    · rw [if_pos h2]
      have : ¬ bl x.Text < bl y.Text := fun h => by have := cmpS_n.2 h; omega
      constructor
      · intro h; omega
      · rintro (h | h)
        · omega
        · exact absurd h.2 this
    · rw [if_neg h2, cmpS_n]
      constructor
      · exact fun h => .inr ⟨e1, h⟩
      · rintro (h | h)
        · omega
        · exact h.2
  · rw [if_neg h1, cmpI_n]
    have e1 := (not_congr cmpI_z).1 h1
    omega
theorem resLtOf (x y : Rsl) : ltOf resCmp x y = decide (resLt x y) := by
  unfold ltOf
  by_cases h : resLt x y
  · rw [decide_eq_true h]; exact decide_eq_true (resCmp_lt.2 h)
  · rw [decide_eq_false h]; exact decide_eq_false (fun e => h (resCmp_lt.1 e))
theorem resLt.trans {x y z : Rsl} (h1 : resLt x y) (h2 : resLt y z) : resLt x z := by
  unfold resLt at *
  rcases h1 with h1 | ⟨h1, h3⟩ <;> rcases h2 with h2 | ⟨h2, h4⟩
  · exact .inl (by omega)
  · exact .inl (by omega)
  · exact .inl (by omega)
  · exact .inr ⟨by omega, List.lt_trans h3 h4⟩
theorem resLt.irrefl (x : Rsl) : ¬ resLt x x := by
  unfold resLt
  rintro (h | h)
  · omega
  · exact List.lt_irrefl _ h.2
theorem resLt.tri {x y : Rsl} (h1 : ¬ resLt x y) (h2 : ¬ resLt y x) : x.Cost = y.Cost ∧ x.Text = y.Text := by
  unfold resLt at *
  have e : x.Cost = y.Cost := by omega
  refine ⟨e, ?_⟩
  rcases lex_tri (bl x.Text) (bl y.Text) with h | h | h
  · exact absurd (.inr ⟨e, h⟩) h1
  · exact bl_inj h
  · exact absurd (.inr ⟨e.symm, h⟩) h2
theorem swoRes : SWO (ltOf resCmp) where
  irrefl x := by rw [resLtOf]; exact decide_eq_false (resLt.irrefl x)
  trans x y z h1 h2 := by rw [resLtOf, decide_eq_true_eq] at *; exact h1.trans h2
  ntrans x y z h1 h2 := by
    rw [resLtOf, decide_eq_false_iff_not] at *
    intro h
    by_cases h3 : resLt y x
    · exact h2 (h3.trans h)
    · obtain ⟨e1, e2⟩ := resLt.tri h1 h3
      apply h2
      unfold resLt at h ⊢
      rw [← e1, ← e2]; exact h
set_option maxRecDepth 100000 in
theorem resCmp_c (x y : Rsl) (w : World) : Calls Try.prog 35 #[rslV x, rslV y] w (RetS w (.int .i64 (resCmp x y))) := by
  have hS := St.start w (fun _ => none) (fun _ _ h => by cases h)
  refine calls_start 17 [rslV x, rslV y] Try.func35 rfl Try.ntmps35 rfl rfl ?_
  refine CW.seq fun K17 hK17 => ?_
  refine CW.region [0, 1, 2] rfl ?_
  refine LW.hv rfl rfl rfl rfl (Hv.boxS hS rfl rfl) fun v w2 ⟨b2, hv, hb2, hS⟩ => ?_
  subst hv
  refine LW.hv rfl rfl rfl rfl (Hv.boxS hS rfl rfl) fun v w3 ⟨b3, hv, hb3, hS⟩ => ?_
  subst hv
  refine LW.ex rfl rfl rfl rfl (Ex.assign rfl) hS.rd ?_
  refine LW.nil fun aa ha => hK17 _ _ _ ?_ aa ha
  refine CW.seq fun K18 hK18 => ?_
  have hS := hS.drew
  refine CW.draw 13 (.ex 0 <| .ex 1 <| .ex 2 <| .ex 3 <| .ex 5 <| .ex 6 <| .ex 7 <| .ex 8 <| .one 4 <| .one 9 <| .one 10 <| .one 11 <| .ex 12 <| .done) [] (Rd _ _) mixed (by kernel_rfl) rfl rfl hS.rd ?_
  refine PW.ex rfl rfl rfl rfl (Ex.fieldO 1 Try.underlying47 rfl rfl ti3 rfl) ?_
  refine PW.ex rfl rfl rfl rfl (Ex.load1 ti3 rfl rfl (by first | exact obT rfl | exact Rd.imm ‹_› | exact slT ‹_›)) ?_
  refine PW.ex rfl rfl rfl rfl (Ex.fieldO 1 Try.underlying47 rfl rfl ti3 rfl) ?_
  refine PW.ex rfl rfl rfl rfl (Ex.load1 ti3 rfl rfl (by first | exact obT rfl | exact Rd.imm ‹_› | exact slT ‹_›)) ?_
  refine PW.ex rfl rfl rfl rfl (Ex.fieldO 0 Try.underlying47 rfl rfl ti9 rfl) ?_
  refine PW.ex rfl rfl rfl rfl (Ex.load1 ti9 rfl rfl (by first | exact obT rfl | exact Rd.imm ‹_› | exact slT ‹_›)) ?_
  refine PW.ex rfl rfl rfl rfl (Ex.fieldO 0 Try.underlying47 rfl rfl ti9 rfl) ?_
  refine PW.ex rfl rfl rfl rfl (Ex.load1 ti9 rfl rfl (by first | exact obT rfl | exact Rd.imm ‹_› | exact slT ‹_›)) ?_
  refine PW.hv rfl rfl rfl rfl (Hv.callS hS rfl rfl rfl cb37 (cmp_c _ _ _)) (fun _ _ h => h.2.rd) fun v w9 ⟨hv, hS⟩ => ?_
  subst hv
  refine PW.hv rfl rfl rfl rfl (Hv.callS hS rfl rfl rfl cb38 (cmpS_c _ _ _)) (fun _ _ h => h.2.rd) fun v w14 ⟨hv, hS⟩ => ?_
  subst hv
  refine PW.hv rfl rfl rfl rfl (Hv.buildSl hS Try.underlying68 ti3 rfl rfl rfl rfl rfl rfl) (fun _ _ ⟨_, _, _, h⟩ => h.rd.tail) fun v w15 ⟨b15, hv, hb15, hS⟩ => ?_
  subst hv
  refine PW.hv rfl rfl rfl rfl (Hv.callS hS rfl rfl rfl cb36 (or_c [cmpI x.Cost y.Cost, cmpS x.Text y.Text] _ _ (memOf _) _ (imm_memOf _) (hS.lend_obj (k := 0) rfl (RepL.ints2 _ _ _) (by simp [maxLen])))) (fun _ _ h => h.2.rd.tail) fun v w16 ⟨hv, hS⟩ => ?_
  subst hv
  refine PW.ex rfl rfl rfl rfl (Ex.assign rfl) ?_
  refine PW.nil ?_
  refine LW.nil fun aa ha => hK18 _ _ _ ?_ aa ha
  refine CW.ret fun aa ha => ?_
  refine ret_one ha Try.results35 rfl ?_
  exact hS.retS
theorem sortRes_c (blk cap : Nat) (d : Array Rsl) (w : World) (hH : HoldsK rslL 2 w blk 0 d) (hblk : blk < w.heap.size) (hsz : d.size < 4611686018427387904) :
    Calls Try.prog 34 #[.slice (some ⟨blk, 0, none⟩) d.size cap, .func (.func 35) #[] #[]] w fun e w' => e = .returned (.tuple #[]) ∧ ∃ d' n os, PermIn 0 d.size d d' ∧ SortedIn (ltOf resCmp) 0 d.size d' ∧ w' = sortWorldK rslL 2 w blk 0 n d' os := by
  have hlim : Lib.bitLen d.size < 4611686018427387904 := Nat.lt_of_le_of_lt (Lib.bitLen_le d.size 62 (by omega) (by omega)) (by omega)
  have hp := AnyQ.pdqsortCmpFunc_all (P := Try.prog) (ρ := Try.pdqL_ren) Try.pdqL 2 Try.isAgg47 Try.sizeOf47 rslL resCmp 35 #[] swoRes blk 0 cap d w (fun args w => cb35.run args w) (cmpLays_of resCmp_c) ⟨fun _ => rfl, fun x v hv => by simp [rslL] at hv; rcases hv with rfl | rfl <;> rfl, hH, hblk⟩
    (d.size + 1) 0 d.size (Lib.bitLen d.size) d w (by omega) rfl (SWK.start hH) (Nat.zero_le _) (Nat.le_refl _) hsz hlim (Or.inl rfl)
  have hb : Calls Try.prog 59 #[.int .u64 (d.size : Int)] w fun e w' => ∃ v, e = .returned v ∧ (v = .int .i64 (Lib.bitLen d.size) ∧ w' = w) := by
    have h := Any.bits_Len Try.bitsL (d.size : Int) w (by omega) (by omega)
    rw [Int.toNat_natCast] at h
    exact h.mono fun e w' ⟨he, hw⟩ => ⟨_, he, rfl, hw⟩
  have hq : Calls Try.prog 58 #[.slice (some ⟨blk, 0, none⟩) d.size cap, .int .i64 0, .int .i64 d.size, .int .i64 (Lib.bitLen d.size), .func (.func 35) #[] #[]] w fun e w' => ∃ v, e = .returned v ∧ (v = .tuple #[] ∧ ∃ d' n os, PermIn 0 d.size d d' ∧ SortedIn (ltOf resCmp) 0 d.size d' ∧ w' = sortWorldK rslL 2 w blk 0 n d' os) := by
    refine hp.mono fun e w' ⟨he, n, os, hw⟩ => ⟨_, he, rfl, ?_⟩
    have h := pdq_sorts (ltOf resCmp) swoRes d 0 d.size (Lib.bitLen d.size) true true (Nat.zero_le _) (Nat.le_refl _) (Or.inl rfl)
    exact ⟨_, n, os, h.1, h.2, hw⟩
  have hS := St.start w (fun _ => none) (fun _ _ h => by cases h)
  refine calls_start 14 [.slice (some ⟨blk, 0, none⟩) d.size cap, .func (.func 35) #[] #[]] Try.func34 rfl Try.ntmps34 rfl rfl ?_
  refine CW.seq fun K0 hK0 => ?_
  refine CW.region [0, 1, 2] rfl ?_
  refine LW.ex rfl rfl rfl rfl (Ex.move rfl) hS.rd ?_
  refine LW.ex rfl rfl rfl rfl (Ex.lenSl rfl Try.underlying37 rfl) hS.rd ?_
  refine LW.ex rfl rfl rfl rfl (Ex.assign rfl) hS.rd ?_
  refine LW.nil fun aa ha => hK0 _ _ _ ?_ aa ha
  refine CW.region [0, 1, 2, 3, 4, 5, 6] rfl ?_
  refine LW.ex rfl rfl rfl rfl (Ex.move rfl) hS.rd ?_
  refine LW.ex rfl rfl rfl rfl (Ex.move rfl) hS.rd ?_
  refine LW.ex rfl rfl rfl rfl (Ex.move rfl) hS.rd ?_
  refine LW.ex rfl rfl rfl rfl (Ex.conv Try.underlying3 Try.underlying123 rfl (wrapU hsz)) hS.rd ?_
  refine LW.hv rfl rfl rfl rfl (Hv.call rfl rfl rfl cb59 hb) fun v w11 hv => ?_
  obtain ⟨rfl, rfl⟩ := hv
  refine LW.ex rfl rfl rfl rfl (Ex.move rfl) hS.rd ?_
  refine LW.hv rfl rfl rfl rfl (Hv.call rfl rfl rfl cb58 hq) fun v w13 hv => ?_
  obtain ⟨rfl, hv⟩ := hv
  refine LW.nil fun aa ha => ?_
  exact end_none ha Try.results34 ⟨rfl, hv⟩
end Go.Proofs.Ytgbdfgifgngijaa

/-
  Output: the least costs of texts; the walk of Best.
-/
namespace Go.Proofs.Ytgbdfgifgngijaa
open Go.RowKit Sy Go.Maps

/-! ### Plain -/
def emptyO : KO := ⟨(0, ⟨#[]⟩), by decide⟩
def xO (s : Sch) (inp : ByteArray) : WX KO := ⟨s.Rules, inp, emptyO, nvO, ftO⟩
/-- All rules take something. -/
def Fed (s : Sch) : Prop := ∀ r ∈ s.Rules, 1 ≤ r.In.size
theorem SchOk.rule {s : Sch} (hs : SchOk s) {r : Rule} (hr : r ∈ s.Rules) : (0 ≤ r.From ∧ r.From ≤ 7) ∧ (0 ≤ r.To ∧ r.To ≤ 7) ∧ (0 ≤ r.Cost ∧ r.Cost ≤ 1000) ∧ r.In.size ≤ 4 ∧ r.Out.size ≤ 4 := by
  obtain ⟨i, hi, rfl⟩ := List.getElem_of_mem hr
  have h := (hs.ru i hi).1
  have := hs.m2
  unfold rightB at h
  simp only [Bool.and_eq_true, decide_eq_true_eq] at h
  omega
theorem takesO {s : Sch} (hs : SchOk s) (hf : Fed s) (inp : ByteArray) : Takes (xO s inp) := fun r hr => by
  have := hs.rule (show r ∈ s.Rules from hr)
  exact ⟨hf r hr, by omega, by omega⟩
theorem nvO_of {k : KO} {r : Rule} (h : k.1.2.size + r.Out.size ≤ 9223372036854775807) : (nvO k r).1 = (modeF r.To, k.1.2 ++ r.Out) := by
  have h' : (k.1.2 ++ r.Out).size ≤ 9223372036854775807 := by rw [ByteArray.size_append]; exact h
  have e : nvO k r = ⟨(modeF r.To, k.1.2 ++ r.Out), h'⟩ := dif_pos _
  rw [e]
theorem nvO_size (k : KO) (r : Rule) : (nvO k r).1.2.size ≤ k.1.2.size + r.Out.size := by
  by_cases h : (k.1.2 ++ r.Out).size ≤ 9223372036854775807
  · have e : nvO k r = ⟨(modeF r.To, k.1.2 ++ r.Out), h⟩ := dif_pos h
    rw [e]
    show (k.1.2 ++ r.Out).size ≤ _
    rw [ByteArray.size_append]; omega
  · have e : nvO k r = k := dif_neg h
    rw [e]; omega
theorem outSize {s : Sch} (hs : SchOk s) (hf : Fed s) {inp : ByteArray} {p : Nat} {k : KO} {c : Int} (h : Rt (xO s inp) p k c) : k.1.2.size ≤ 4 * p := by
  induction h with
  | nil => exact Nat.zero_le _
  | @snoc p k c h r hr h1 h2 ih =>
    have h3 := hs.rule (show r ∈ s.Rules from hr)
    have h4 := hf r hr
    have h5 := nvO_size k r
    show (nvO k r).1.2.size ≤ _
    omega
def KS : Type := { s : ByteArray // s.size ≤ 9223372036854775807 }
instance : DecidableEq KS := fun a b => decidable_of_iff (a.1 = b.1) Subtype.ext_iff.symm
def ksV (k : KS) : Value := .string k.1
def outK (k : KO) : KS := ⟨k.1.2, k.2⟩
theorem encKS : EncK Try.prog 9 ksV := ⟨Maps.string_keyed Try.underlying9, fun a => by
  have h := a.2
  have h' : a.1.size ≤ maxLen := by simp only [maxLen]; exact h
  simp [ksV, keyOf, Try.underlying9, mapKey, h'], fun a b h => by
  simp only [ksV, Value.string.injEq] at h
  exact Subtype.ext h⟩
/-- While the least costs are taken. -/
structure Bs (acc : Nat) (kv left : List (KO × Int)) (le : List (KS × Int)) : Prop where
  a : ∀ p ∈ kv, p ∈ left ∨ acc.testBit p.1.1.1.val = false ∨ ∃ c', c' ≤ p.2 ∧ aget le (outK p.1) = some c'
  b : ∀ t c, aget le t = some c → ∃ p ∈ kv, acc.testBit p.1.1.1.val = true ∧ outK p.1 = t ∧ p.2 = c
  c : ∀ p ∈ left, p ∈ kv
  n : le.length + left.length ≤ kv.length
theorem Bs.start (acc : Nat) (kv : List (KO × Int)) : Bs acc kv kv [] := ⟨fun p hp => .inl hp, (fun t c h => by cases h), fun p hp => hp, by simp⟩
theorem len_erase {γ : Type} {l : List γ} {j : Nat} {p : γ} (hj : l[j]? = some p) : (l.eraseIdx j).length + 1 = l.length := by
  obtain ⟨h, _⟩ := List.getElem?_eq_some_iff.1 hj
  rw [List.length_eraseIdx, if_pos h]; omega
theorem Bs.skip {acc : Nat} {kv left : List (KO × Int)} {le : List (KS × Int)} (h : Bs acc kv left le) {j : Nat} {p : KO × Int} (hj : left[j]? = some p) (hn : acc.testBit p.1.1.1.val = false ∨ ∃ c', c' ≤ p.2 ∧ aget le (outK p.1) = some c') : Bs acc kv (left.eraseIdx j) le := by
  refine ⟨fun q hq => ?_, h.b, fun q hq => h.c q ((List.eraseIdx_sublist _ _).subset hq), by have := h.n; have := len_erase hj; omega⟩
  rcases h.a q hq with h1 | h1
  · rcases mem_erase_idx hj h1 with rfl | h2
    · exact .inr hn
    · exact .inl h2
  · exact .inr h1
theorem Bs.put {acc : Nat} {kv left : List (KO × Int)} {le : List (KS × Int)} (h : Bs acc kv left le) {j : Nat} {p : KO × Int} (hj : left[j]? = some p) (ha : acc.testBit p.1.1.1.val = true) (hn : ∀ c', aget le (outK p.1) = some c' → ¬ c' ≤ p.2) : Bs acc kv (left.eraseIdx j) (aset le (outK p.1) p.2) := by
  have e : aset le (outK p.1) p.2 = putM le (outK p.1) p.2 := by
    unfold putM
    cases h2 : aget le (outK p.1) with
    | none => rfl
    | some c' => simp only; rw [if_neg (hn c' h2)]
  have hl := aset_len le (outK p.1) p.2
  rw [e] at hl ⊢
  have hp := h.c p (List.mem_of_getElem? hj)
  refine ⟨fun q hq => ?_, fun t c hc => ?_, fun q hq => h.c q ((List.eraseIdx_sublist _ _).subset hq), by have := h.n; have := len_erase hj; omega⟩
  · rcases h.a q hq with h1 | h1 | ⟨c', h1, h2⟩
    · rcases mem_erase_idx hj h1 with rfl | h2
      · exact .inr (.inr (putM_self ..))
      · exact .inl h2
    · exact .inr (.inl h1)
    · obtain ⟨c2, h3, h4⟩ := putM_mono (outK p.1) p.2 h2
      exact .inr (.inr ⟨c2, by omega, h4⟩)
  · rcases putM_src hc with h1 | ⟨rfl, rfl⟩
    · exact h.b t c h1
    · exact ⟨p, hp, ha, rfl, rfl⟩
/-- What is put out by a route that ends in an accepting mode. -/
def Whole (s : Sch) (inp t : ByteArray) (c : Int) : Prop := ∃ k : KO, Rt (xO s inp) inp.size k c ∧ s.Accept.toNat.testBit k.1.1.val = true ∧ k.1.2 = t
def LeastW (s : Sch) (inp : ByteArray) (x : Rsl) : Prop := Whole s inp x.Text x.Cost ∧ ∀ c, Whole s inp x.Text c → x.Cost ≤ c
def resOf (p : KS × Int) : Rsl := ⟨p.1.1, p.2⟩
theorem Bs.least {s : Sch} {inp : ByteArray} (hX : Takes (xO s inp)) {ms : Nat → List (KO × Int)} (hW : WI (xO s inp) ms (inp.size + 1)) (hn : ((ms inp.size).map Prod.fst).Nodup) {le : List (KS × Int)} (h : Bs s.Accept.toNat (ms inp.size) [] le) (hle : (le.map Prod.fst).Nodup) (x : Rsl) :
    x ∈ le.map resOf ↔ LeastW s inp x := by
  have low : ∀ k c, Rt (xO s inp) inp.size k c → s.Accept.toNat.testBit k.1.1.val = true → ∃ c', c' ≤ c ∧ aget le (outK k) = some c' := fun k c hr ha => by
    obtain ⟨c1, h1, h2⟩ := hW.complete hX hr (by show inp.size ≤ _; omega)
    rcases h.a (k, c1) (aget_mem h2) with h3 | h3 | ⟨c2, h3, h4⟩
    · cases h3
    · rw [ha] at h3; cases h3
    · exact ⟨c2, by simp only at h3; omega, h4⟩
  have get : ∀ t c, aget le t = some c → Whole s inp t.1 c := fun t c hc => by
    obtain ⟨p, hp, ha, rfl, rfl⟩ := h.b t c hc
    exact ⟨p.1, hW.snd _ _ _ (aget_of hn hp), ha, rfl⟩
  constructor
  · intro hx
    obtain ⟨p, hp, rfl⟩ := List.mem_map.1 hx
    have hg := aget_of hle hp
    refine ⟨get _ _ hg, fun c ⟨k, h1, h2, h3⟩ => ?_⟩
    obtain ⟨c', h4, h5⟩ := low k c h1 h2
    rw [show outK k = p.1 from Subtype.ext h3, hg] at h5
    obtain rfl := Option.some.inj h5
    exact h4
  · rintro ⟨⟨k, h1, h2, h3⟩, h4⟩
    obtain ⟨c', h5, h6⟩ := low k _ h1 h2
    have h7 := h4 c' (by rw [← h3]; exact get _ _ h6)
    have e : c' = x.Cost := by omega
    exact List.mem_map.2 ⟨(outK k, c'), aget_mem h6, by unfold resOf; simp only [outK, h3, e]⟩
/-- What is listed. -/
def BestR (s : Sch) (inp : ByteArray) (k : Int) (e : Int) (l : List Rsl) : Prop :=
  (e = 1 ∧ l = [] ∧ ¬ (sndB s inp = true ∧ 1 ≤ k ∧ k ≤ 50)) ∨
  ((sndB s inp = true ∧ 1 ≤ k ∧ k ≤ 50) ∧
    ((e = 2 ∧ l = [] ∧ ∃ i ms, i ≤ inp.size ∧ WI (xO s inp) ms i ∧ ((ms i).map Prod.fst).Nodup ∧ 2000 < (ms i).length) ∨
     (∃ ms, WI (xO s inp) ms (inp.size + 1) ∧ (∀ j, j ≤ inp.size → ((ms j).map Prod.fst).Nodup ∧ (ms j).length ≤ 2000) ∧
       ∃ F : List Rsl, F.Pairwise resLt ∧ (∀ x, x ∈ F ↔ LeastW s inp x) ∧ ((F = [] ∧ e = 50 ∧ l = []) ∨ (F ≠ [] ∧ e = 0 ∧ l = F.take k.toNat)))))
def IsBest (s : Sch) (inp : ByteArray) (k : Int) (μ : Mem) (v : Value) : Prop := ∃ (l : List Rsl) (e : Int) (ad : Option Addr) (c : Nat), v = .tuple #[.slice ad l.length c, .int .i64 e] ∧ Sl μ ad c l ∧ BestR s inp k e l
theorem IsBest.none {s : Sch} {inp : ByteArray} {k e : Int} {μ : Mem} (h : BestR s inp k e []) : IsBest s inp k μ (.tuple #[.slice none 0 0, .int .i64 e]) := ⟨[], e, Option.none, 0, rfl, Sl.nil _ _ _ (by simp [maxLen]), h⟩
theorem resStrict {le : List (KS × Int)} (hle : (le.map Prod.fst).Nodup) {ys : List Rsl} (hp : ys.Perm (le.map resOf)) (hw : ys.Pairwise fun x y => ltOf resCmp y x = false) : ys.Pairwise resLt := by
  have h1 : (ys.map Rsl.Text).Nodup := by
    refine (hp.map Rsl.Text).nodup_iff.2 ?_
    rw [List.map_map]
    refine List.pairwise_map.2 ?_
    exact (List.pairwise_map.1 hle).imp fun {a b} hab h => hab (Subtype.ext h)
  have h2 : ys.Pairwise fun x y => x.Text ≠ y.Text := List.pairwise_map.1 h1
  refine (hw.and h2).imp fun {a b} ⟨h3, h4⟩ => ?_
  rw [resLtOf, decide_eq_false_iff_not] at h3
  by_cases h5 : resLt a b
  · exact h5
  · exact absurd (resLt.tri h5 h3).2 h4
section
variable {L : List Own} {α : Type} [DecidableEq α] {P : Program} {m : List (Nat × Value)} {x y : Operand} {t k e : TypeId} {μ : Mem} {ek : α → Value} {b : Nat} {kv : List (α × Int)}
theorem lookupI {a : α} {d : TypeDesc} {sz by_ : Nat} (ht : P.underlying t = some (.map k e)) (he : TI P e d (.int .i64 0) sz by_) (hK : EncK P k ek) (i : Nat) (hi : L[i]? = some (Own.mp ek iV b kv)) (hx : Sy.ev m x = some (.map (some b))) (hy : Sy.ev m y = some (ek a)) :
    Ex P (Rd μ L) m (.lookup t x y true) (.tuple #[.int .i64 ((aget kv a).getD 0), .bool (aget kv a).isSome]) := by
  have h := Ex.lookupOk (P := P) (m := m) (μ := μ) (a := a) ht he hK i hi hx hy
  cases hg : aget kv a with
  | none => rw [hg] at h; exact h
  | some c => rw [hg] at h; exact h
end
end Go.Proofs.Ytgbdfgifgngijaa

/-
  Output: the walk of Best.
-/
namespace Go.Proofs.Ytgbdfgifgngijaa
open Go.RowKit Sy Go.Maps

theorem perm_last {α : Type} {e : α} {M : List α} : (M ++ [e]).Perm (e :: (M ++ [])) := by rw [List.append_nil]; exact List.perm_append_singleton e M
theorem exEq {P : Program} {S : World → Prop} {m : List (Nat × Value)} {o : Op} {v u : Value} (h : Ex P S m o v) (e : v = u) : Ex P S m o u := e ▸ h
theorem own_cells {w0 w : World} {μ : Mem} {L : List Own} {ad : Option Addr} {l c k : Nat} {E : TypeId} {us vs : List Value} (hS : St w0 w μ (Own.sl ad l c E k us :: L)) (e : us = vs) : St w0 w μ (Own.sl ad l c E k vs :: L) := e ▸ hS
theorem getD_le {o : Option Int} {c : Int} (h : o.isSome = true) (h2 : ¬ c < o.getD 0) : ∃ c', c' ≤ c ∧ o = some c' := by
  cases o with
  | none => cases h
  | some c' => exact ⟨c', by simp at h2; omega, rfl⟩
theorem best1_x {s : Sch} (hs : SchOk s) (hf : Fed s) {inp : ByteArray} (hin : inp.size ≤ 40) : ∀ p k c, Rt (xO s inp) p k c → ∀ r ∈ (xO s inp).rules, ∀ (μ : Mem) w', Imm μ w' → Calls Try.prog 33 #[koV k, ruleV r] w' (RetS w' (.tuple #[koV ((xO s inp).nv k r), .bool ((xO s inp).ft k r)])) := fun p k c h r hr μ w' _ => by
  have h1 := outSize hs hf h
  have h2 := (h.cost (takesO hs hf inp)).1
  have h3 := hs.rule (show r ∈ s.Rules from hr)
  have h4 : p ≤ 40 := Nat.le_trans h2 hin
  exact best1_c k r (by omega) (by omega) h3.2.1 w'
set_option maxRecDepth 100000 in
set_option maxHeartbeats 4000000 in
theorem best_c (s : Sch) (hs : SSmall s) (inp : ByteArray) (hin : inp.size ≤ 40) (k : Int) (hk : -9223372036854775808 ≤ k ∧ k ≤ 9223372036854775807) (hfed : sndB s inp = true → Fed s) (a0 : Option Addr) (c0 : Nat) (μ : Mem) (w : World) (hμ : Imm μ w) (h0 : Sl μ a0 c0 s.Rules) :
    Calls Try.prog 13 #[.agg #[.int .i64 s.Modes, .int .u8 s.Accept.toNat, .slice a0 s.Rules.length c0], .string inp, .int .i64 k] w (RetV w μ (IsBest s inp k)) := by
  have hS := St.start w μ hμ
  refine calls_start 100 [.agg #[.int .i64 s.Modes, .int .u8 s.Accept.toNat, .slice a0 s.Rules.length c0], .string inp, .int .i64 k] Try.func13 rfl Try.ntmps13 rfl rfl ?_
  refine CW.seq fun K1 hK1 => ?_
  refine CW.region [0, 1, 2] rfl ?_
  refine LW.hv rfl rfl rfl rfl (Hv.boxS hS rfl rfl) fun v w3 ⟨b3, hv, hb3, hS⟩ => ?_
  subst hv
  refine LW.ex rfl rfl rfl rfl (Ex.assign rfl) hS.rd ?_
  refine LW.ex rfl rfl rfl rfl (Ex.assign rfl) hS.rd ?_
  refine LW.nil fun aa ha => hK1 _ _ _ ?_ aa ha
  refine CW.seq fun K2 hK2 => ?_
  refine CW.seq fun K3 hK3 => ?_
  refine CW.region [0, 1, 2, 3, 4, 5, 6, 7, 8, 9, 10, 11] rfl ?_
  refine LW.ex rfl rfl rfl rfl (Ex.load3c ti29 rfl rfl (by first | exact obT rfl | exact Rd.imm ‹_› | exact slT ‹_›) (by first | exact obT rfl | exact Rd.imm ‹_› | exact slT ‹_›) (by first | exact obT rfl | exact Rd.imm ‹_› | exact slT ‹_›)) hS.rd ?_
  refine LW.ex rfl rfl rfl rfl (Ex.move rfl) hS.rd ?_
  refine LW.hv rfl rfl rfl rfl (Hv.callS hS rfl rfl rfl cb27 (osound_c s hs inp (by omega) _ _ μ _ hS.imm h0)) fun v w20 ⟨hv, hS⟩ => ?_
  subst hv
  refine LW.splitB (fun h1_2 => ?_) (fun h1_2 => ?_)
  · skip
    refine LW.ex rfl rfl rfl rfl (Ex.not rfl rfl) hS.rd ?_
    refine LW.ex rfl rfl rfl rfl (Ex.move rfl) hS.rd ?_
    refine LW.ex rfl rfl rfl rfl (Ex.move rfl) hS.rd ?_
    refine LW.ex rfl rfl rfl rfl (Ex.lss rfl rfl rfl) hS.rd ?_
    refine LW.splitB (fun h1_6 => ?_) (fun h1_6 => ?_)
    · have h1_6 := of_decide_eq_true h1_6
      refine LW.ex rfl rfl rfl rfl (by first | exact Ex.pick_yes rfl rfl | exact Ex.pick_no rfl rfl) hS.rd ?_
      refine LW.ex rfl rfl rfl rfl (Ex.move rfl) hS.rd ?_
      refine LW.skip rfl rfl rfl rfl ?_
      refine LW.skip rfl rfl rfl rfl ?_
      refine LW.ex rfl rfl rfl rfl (by first | exact Ex.pick_yes rfl rfl | exact Ex.pick_no rfl rfl) hS.rd ?_
      refine LW.nil fun aa ha => hK3 _ _ _ ?_ aa ha
      refine CW.yes rfl ?_
      refine CW.seq fun K4 hK4 => ?_
      refine CW.region [0, 1] rfl ?_
      refine LW.ex rfl rfl rfl rfl (Ex.assign rfl) hS.rd ?_
      refine LW.ex rfl rfl rfl rfl (Ex.assign rfl) hS.rd ?_
      refine LW.nil fun aa ha => hK4 _ _ _ ?_ aa ha
      refine CW.ret fun aa ha => ?_
      refine ret_two ha Try.results13 rfl rfl ?_
      exact ⟨_, μ, rfl, hS.below, Mem.ext.refl _ _, hS.imm, IsBest.none (.inl ⟨rfl, rfl, fun h => by first | (simp_all; done) | (simp_all; omega)⟩)⟩
    · have h1_6 := of_decide_eq_false h1_6
      refine LW.ex rfl rfl rfl rfl (by first | exact Ex.pick_yes rfl rfl | exact Ex.pick_no rfl rfl) hS.rd ?_
      refine LW.ex rfl rfl rfl rfl (Ex.move rfl) hS.rd ?_
      refine LW.ex rfl rfl rfl rfl (Ex.move rfl) hS.rd ?_
      refine LW.ex rfl rfl rfl rfl (Ex.gtr rfl rfl rfl) hS.rd ?_
      refine LW.splitB (fun h1_10 => ?_) (fun h1_10 => ?_)
      · have h1_10 := of_decide_eq_true h1_10
        refine LW.ex rfl rfl rfl rfl (by first | exact Ex.pick_yes rfl rfl | exact Ex.pick_no rfl rfl) hS.rd ?_
        refine LW.nil fun aa ha => hK3 _ _ _ ?_ aa ha
        refine CW.yes rfl ?_
        refine CW.seq fun K5 hK5 => ?_
        refine CW.region [0, 1] rfl ?_
        refine LW.ex rfl rfl rfl rfl (Ex.assign rfl) hS.rd ?_
        refine LW.ex rfl rfl rfl rfl (Ex.assign rfl) hS.rd ?_
        refine LW.nil fun aa ha => hK5 _ _ _ ?_ aa ha
        refine CW.ret fun aa ha => ?_
        refine ret_two ha Try.results13 rfl rfl ?_
        exact ⟨_, μ, rfl, hS.below, Mem.ext.refl _ _, hS.imm, IsBest.none (.inl ⟨rfl, rfl, fun h => by first | (simp_all; done) | (simp_all; omega)⟩)⟩
      · have h1_10 := of_decide_eq_false h1_10
        refine LW.ex rfl rfl rfl rfl (by first | exact Ex.pick_yes rfl rfl | exact Ex.pick_no rfl rfl) hS.rd ?_
        refine LW.nil fun aa ha => hK3 _ _ _ ?_ aa ha
        refine CW.no rfl ?_
        refine CW.skip fun aa ha => hK2 _ _ _ ?_ aa ha
        refine CW.seq fun K6 hK6 => ?_
        have hgood : sndB s inp = true ∧ 1 ≤ k ∧ k ≤ 50 := ⟨by assumption, by omega, by omega⟩
        have hok := (sndB_iff.1 hgood.1).1
        have hf := hfed hgood.1
        have hi2 : inp.size < inp.size + 1 := by omega
        refine CW.region [0, 1, 2, 3, 4, 5, 6, 7, 8, 9] rfl ?_
        refine LW.ex rfl rfl rfl rfl (Ex.move rfl) hS.rd ?_
        refine LW.ex rfl rfl rfl rfl (Ex.fieldO 2 Try.underlying29 rfl rfl ti27 rfl) hS.rd ?_
        refine LW.ex rfl rfl rfl rfl (Ex.load1 ti27 rfl rfl (by first | exact obT rfl | exact Rd.imm ‹_› | exact slT ‹_›)) hS.rd ?_
        refine LW.ex rfl rfl rfl rfl (Ex.buildS st84 rfl rfl rfl) hS.rd ?_
        refine LW.hv rfl rfl rfl rfl (Hv.callM rfl rfl rfl cb32 (walkO_m (xO s inp) (takesO hok hf inp) 2000 33 cb33 hS a0 c0 h0 hok.rl hin hok.small (fun p k c h r hr w' hi => best1_x hok hf hin p k c h r hr μ w' hi))) fun v w35 ⟨g, ok, ms, bs, hv, hW, hS⟩ => ?_
        subst hv
        have hS := st_perm' hS (List.Perm.cons _ perm_last)
        refine LW.ex rfl rfl rfl rfl (Ex.move rfl) hS.rd ?_
        refine LW.ex rfl rfl rfl rfl (Ex.extract rfl rfl) hS.rd ?_
        refine LW.ex rfl rfl rfl rfl (Ex.extract rfl rfl) hS.rd ?_
        refine LW.splitB (fun h3_7 => ?_) (fun h3_7 => ?_)
        · skip
          refine LW.ex rfl rfl rfl rfl (Ex.assign rfl) hS.rd ?_
          refine LW.ex rfl rfl rfl rfl (Ex.assign rfl) hS.rd ?_
          refine LW.nil fun aa ha => hK6 _ _ _ ?_ aa ha
          refine CW.seq fun K7 hK7 => ?_
          refine CW.seq fun K8 hK8 => ?_
          refine CW.region [0, 1] rfl ?_
          refine LW.ex rfl rfl rfl rfl (Ex.move rfl) hS.rd ?_
          refine LW.ex rfl rfl rfl rfl (Ex.not rfl rfl) hS.rd ?_
          refine LW.nil fun aa ha => hK8 _ _ _ ?_ aa ha
          refine CW.no rfl ?_
          refine CW.skip fun aa ha => hK7 _ _ _ ?_ aa ha
          refine CW.seq fun K9 hK9 => ?_
          refine CW.region [0, 1] rfl ?_
          refine LW.hv rfl rfl rfl rfl (Hv.makeMap ksV iV hS) fun v w40 ⟨b40, hv, hb40, hS⟩ => ?_
          subst hv
          refine LW.ex rfl rfl rfl rfl (Ex.assign rfl) hS.rd ?_
          refine LW.nil fun aa ha => hK9 _ _ _ ?_ aa ha
          refine CW.seq fun K10 hK10 => ?_
          refine CW.seq fun K11 hK11 => ?_
          have hW2 : WI (xO s inp) ms (inp.size + 1) ∧ ∀ j, j ≤ inp.size → ((ms j).length : Int) ≤ 2000 := by have h := hW; unfold WRes at h; rw [if_pos (by assumption)] at h; exact h
          have hnd : ∀ j, j ≤ inp.size → ((ms j).map Prod.fst).Nodup := fun j hj => st_nodup hS (maps_get [_, _, _] (show j < inp.size + 1 by omega))
          have hml : (ms inp.size).length ≤ 2000 := by have := hW2.2 inp.size (Nat.le_refl _); omega
          refine CW.region [0, 1, 2, 3, 4, 5] rfl ?_
          refine LW.ex rfl rfl rfl rfl (Ex.move rfl) hS.rd ?_
          refine LW.ex rfl rfl rfl rfl (Ex.move rfl) hS.rd ?_
          refine LW.ex rfl rfl rfl rfl (Ex.lenS rfl Try.underlying9 rfl) hS.rd ?_
          refine LW.ex rfl rfl rfl rfl (Ex.indexSl Try.underlying80 ti87 rfl rfl rfl (by show inp.size < inp.size + 1; omega)) hS.rd ?_
          refine LW.ex rfl rfl rfl rfl (Ex.load1 ti87 rfl rfl (Rd.sl (k := 1) rfl (by rw [Nat.zero_add, Nat.mul_one]; exact cellsF_get hi2 hi2))) hS.rd ?_
          refine LW.hv rfl rfl rfl rfl (Hv.range Try.underlying87 (inp.size + 3) hS (maps_get [_, _, _] hi2) rfl) fun v w46 ⟨r46, hv, hr46, hS⟩ => ?_
          subst hv
          have hS := st_rng0 [_, _, _] _ hi2 hS
          dsimp only [List.cons_append, List.nil_append] at hS
          refine LW.nil fun aa ha => hK11 _ _ _ ?_ aa ha
          refine CW.block ?_
          refine CW.loop (fun qq frm wl8 => ∃ (left : List (KO × Int)) (le : List (KS × Int)) (cur : Option (KO × Int)), qq = left.length ∧ frm = [(2, .int .i64 k), (3, .pointer (some ⟨b3, 0, none⟩)), (10, .map (some b40)), (46, .pointer (some ⟨r46, 0, none⟩))] ∧ St w wl8 μ (Own.mp ksV iV b40 le :: Own.sl (some ⟨g, 0, none⟩) (inp.size + 1) (inp.size + 1) 87 1 (cellsF bs (inp.size + 1) (inp.size + 1)) :: Own.obj b3 [.int .i64 s.Modes, .int .u8 s.Accept.toNat, .slice a0 s.Rules.length c0] 29 :: ((mapsO koV iV bs ms (inp.size + 1)).set inp.size (Own.rng koV iV (bs inp.size) r46 (ms inp.size) left cur) ++ [])) ∧ (Bs s.Accept.toNat (ms inp.size) left le)) _ ⟨ms inp.size, [], none, rfl, rfl, hS, Bs.start _ _⟩ ⟨rfl, rfl, rfl, rfl, trivial⟩ ?_
          clear hS
          rintro qq frm wl8 ⟨left, le, cur, hq, rfl, hS, hB⟩
          refine CW.seq fun K12 hK12 => ?_
          refine CW.region [0, 1] rfl ?_
          refine LW.hv rfl rfl rfl rfl (Hv.nextAny (inp.size + 3) hS (rng_get [_, _, _] _ hi2) rfl) fun v w47 ⟨bo, rest, left', cur', hv, hF, hT, hS⟩ => ?_
          subst hv
          have hS := st_rng1 [_, _, _] _ _ hi2 hS
          dsimp only [List.cons_append, List.nil_append] at hS
          refine LW.ex rfl rfl rfl rfl (extract0 rfl) hS.rd ?_
          refine LW.splitB (fun h8_1 => ?_) (fun h8_1 => ?_)
          · obtain ⟨jj, p, hj, hl2, hc2⟩ := hT h8_1
            subst hl2 hc2
            have hq8 := hq
            refine LW.nil fun aa ha => hK12 _ _ _ ?_ aa ha
            refine CW.seq fun K13 hK13 => ?_
            refine CW.yes rfl ?_
            refine CW.skip fun aa ha => hK13 _ _ _ ?_ aa ha
            refine CW.block ?_
            refine CW.seq fun K14 hK14 => ?_
            refine CW.region [0, 1, 2, 3, 4, 5] rfl ?_
            refine LW.ex rfl rfl rfl rfl (Ex.entry (inp.size + 3) (rng_get [_, _, _] _ hi2) rfl) hS.rd ?_
            refine LW.ex rfl rfl rfl rfl (Ex.extract rfl rfl) hS.rd ?_
            refine LW.ex rfl rfl rfl rfl (Ex.extract rfl rfl) hS.rd ?_
            refine LW.hv rfl rfl rfl rfl (Hv.alloc ti84 hS) fun v w11 ⟨b11, hv, hb11, hS⟩ => ?_
            subst hv
            refine LW.hu rfl rfl rfl (Hv.storeN (k := 0) ti84 hS rfl rfl rfl rfl (by simp [Value.oneCell'])) fun _ w_4 hS => ?_
            dsimp only [List.set] at hS
            refine LW.ex rfl rfl rfl rfl (Ex.assign rfl) hS.rd ?_
            refine LW.nil fun aa ha => hK14 _ _ _ ?_ aa ha
            refine CW.seq fun K15 hK15 => ?_
            refine CW.region [0, 1, 2, 3, 4, 5, 6, 7, 8] rfl ?_
            refine LW.ex rfl rfl rfl rfl (Ex.move rfl) hS.rd ?_
            refine LW.ex rfl rfl rfl rfl (Ex.fieldO 1 Try.underlying84 rfl rfl ti9 rfl) hS.rd ?_
            refine LW.ex rfl rfl rfl rfl (Ex.load1 ti9 rfl rfl (by first | exact obT rfl | exact Rd.imm ‹_› | exact slT ‹_›)) hS.rd ?_
            refine LW.ex rfl rfl rfl rfl (lookupI (a := outK p.1) Try.underlying86 ti3 encKS 1 rfl rfl rfl) hS.rd ?_
            refine LW.ex rfl rfl rfl rfl (Ex.move rfl) hS.rd ?_
            refine LW.ex rfl rfl rfl rfl (Ex.extract rfl rfl) hS.rd ?_
            refine LW.ex rfl rfl rfl rfl (Ex.extract rfl rfl) hS.rd ?_
            refine LW.splitB (fun h10_6 => ?_) (fun h10_6 => ?_)
            · skip
              refine LW.ex rfl rfl rfl rfl (Ex.assign rfl) hS.rd ?_
              refine LW.ex rfl rfl rfl rfl (Ex.assign rfl) hS.rd ?_
              refine LW.nil fun aa ha => hK15 _ _ _ ?_ aa ha
              refine CW.seq fun K16 hK16 => ?_
              refine CW.region [0, 1, 2, 3, 4, 5, 6, 7, 8, 9, 10, 11, 12] rfl ?_
              refine LW.ex rfl rfl rfl rfl (Ex.load3c ti29 rfl rfl (by first | exact obT rfl | exact Rd.imm ‹_› | exact slT ‹_›) (by first | exact obT rfl | exact Rd.imm ‹_› | exact slT ‹_›) (by first | exact obT rfl | exact Rd.imm ‹_› | exact slT ‹_›)) hS.rd ?_
              refine LW.ex rfl rfl rfl rfl (Ex.fieldO 0 Try.underlying84 rfl rfl ti3 rfl) hS.rd ?_
              refine LW.ex rfl rfl rfl rfl (Ex.load1 ti3 rfl rfl (by first | exact obT rfl | exact Rd.imm ‹_› | exact slT ‹_›)) hS.rd ?_
              refine LW.hv rfl rfl rfl rfl (Hv.callS hS rfl rfl rfl cb31 (acc_c s p.1.1.1.val (by have := p.1.1.1.isLt; omega) _ _ μ _ hS.imm h0)) fun v w62 ⟨hv, hS⟩ => ?_
              subst hv
              refine LW.splitB (fun h11_3 => ?_) (fun h11_3 => ?_)
              · skip
                refine LW.ex rfl rfl rfl rfl (Ex.move rfl) hS.rd ?_
                refine LW.ex rfl rfl rfl rfl (Ex.move rfl) hS.rd ?_
                refine LW.ex rfl rfl rfl rfl (Ex.not rfl rfl) hS.rd ?_
                refine LW.ex rfl rfl rfl rfl (Ex.move rfl) hS.rd ?_
                refine LW.ex rfl rfl rfl rfl (Ex.move rfl) hS.rd ?_
                refine LW.ex rfl rfl rfl rfl (Ex.move rfl) hS.rd ?_
                refine LW.ex rfl rfl rfl rfl (Ex.lss rfl rfl rfl) hS.rd ?_
                refine LW.splitB (fun h11_10 => ?_) (fun h11_10 => ?_)
                · have h11_10 := of_decide_eq_true h11_10
                  refine LW.ex rfl rfl rfl rfl (by first | exact Ex.pick_yes rfl rfl | exact Ex.pick_no rfl rfl) hS.rd ?_
                  refine LW.ex rfl rfl rfl rfl (by first | exact Ex.pick_yes rfl rfl | exact Ex.pick_no rfl rfl) hS.rd ?_
                  refine LW.nil fun aa ha => hK16 _ _ _ ?_ aa ha
                  refine CW.yes rfl ?_
                  refine CW.region [0, 1, 2, 3, 4] rfl ?_
                  refine LW.ex rfl rfl rfl rfl (Ex.move rfl) hS.rd ?_
                  refine LW.ex rfl rfl rfl rfl (Ex.fieldO 1 Try.underlying84 rfl rfl ti9 rfl) hS.rd ?_
                  refine LW.ex rfl rfl rfl rfl (Ex.load1 ti9 rfl rfl (by first | exact obT rfl | exact Rd.imm ‹_› | exact slT ‹_›)) hS.rd ?_
                  refine LW.ex rfl rfl rfl rfl (Ex.move rfl) hS.rd ?_
                  refine LW.hu rfl rfl rfl (Hv.mapUpdate (a := outK p.1) (c := p.2) Try.underlying86 encKS 1 hS rfl rfl rfl rfl) fun _ w_3 hS => ?_
                  dsimp only [List.set] at hS
                  refine LW.nil fun aa ha => ?_
                  have hS := hS.drop 0 rfl
                  dsimp only [List.eraseIdx] at hS
                  refine ⟨_, _, ?m8, ⟨left.eraseIdx jj, aset le (outK p.1) p.2, some p, rfl, rfl, hS, hB.put hj ‹_› (fun c' hc => by simp_all)⟩, ha.sub ⟨rfl, rfl, rfl, rfl, trivial⟩⟩
                  case m8 => (rw [hq8]; exact er_lt hj)
                · have h11_10 := of_decide_eq_false h11_10
                  refine LW.ex rfl rfl rfl rfl (by first | exact Ex.pick_yes rfl rfl | exact Ex.pick_no rfl rfl) hS.rd ?_
                  refine LW.ex rfl rfl rfl rfl (by first | exact Ex.pick_yes rfl rfl | exact Ex.pick_no rfl rfl) hS.rd ?_
                  refine LW.nil fun aa ha => hK16 _ _ _ ?_ aa ha
                  refine CW.no rfl ?_
                  refine CW.skip fun aa ha => ?_
                  have hS := hS.drop 0 rfl
                  dsimp only [List.eraseIdx] at hS
                  refine ⟨_, _, ?m8, ⟨left.eraseIdx jj, le, some p, rfl, rfl, hS, by first | exact hB.skip hj (.inl ‹_›) | exact hB.skip hj (.inr (getD_le ‹_› ‹_›))⟩, ha.sub ⟨rfl, rfl, rfl, rfl, trivial⟩⟩
                  case m8 => (rw [hq8]; exact er_lt hj)
              · skip
                refine LW.ex rfl rfl rfl rfl (Ex.move rfl) hS.rd ?_
                refine LW.skip rfl rfl rfl rfl ?_
                refine LW.skip rfl rfl rfl rfl ?_
                refine LW.skip rfl rfl rfl rfl ?_
                refine LW.skip rfl rfl rfl rfl ?_
                refine LW.skip rfl rfl rfl rfl ?_
                refine LW.skip rfl rfl rfl rfl ?_
                refine LW.skip rfl rfl rfl rfl ?_
                refine LW.ex rfl rfl rfl rfl (by first | exact Ex.pick_yes rfl rfl | exact Ex.pick_no rfl rfl) hS.rd ?_
                refine LW.nil fun aa ha => hK16 _ _ _ ?_ aa ha
                refine CW.no rfl ?_
                refine CW.skip fun aa ha => ?_
                have hS := hS.drop 0 rfl
                dsimp only [List.eraseIdx] at hS
                refine ⟨_, _, ?m8, ⟨left.eraseIdx jj, le, some p, rfl, rfl, hS, by first | exact hB.skip hj (.inl ‹_›) | exact hB.skip hj (.inr (getD_le ‹_› ‹_›))⟩, ha.sub ⟨rfl, rfl, rfl, rfl, trivial⟩⟩
                case m8 => (rw [hq8]; exact er_lt hj)
            · skip
              refine LW.ex rfl rfl rfl rfl (Ex.assign rfl) hS.rd ?_
              refine LW.ex rfl rfl rfl rfl (Ex.assign rfl) hS.rd ?_
              refine LW.nil fun aa ha => hK15 _ _ _ ?_ aa ha
              refine CW.seq fun K17 hK17 => ?_
              refine CW.region [0, 1, 2, 3, 4, 5, 6, 7, 8, 9, 10, 11, 12] rfl ?_
              refine LW.ex rfl rfl rfl rfl (Ex.load3c ti29 rfl rfl (by first | exact obT rfl | exact Rd.imm ‹_› | exact slT ‹_›) (by first | exact obT rfl | exact Rd.imm ‹_› | exact slT ‹_›) (by first | exact obT rfl | exact Rd.imm ‹_› | exact slT ‹_›)) hS.rd ?_
              refine LW.ex rfl rfl rfl rfl (Ex.fieldO 0 Try.underlying84 rfl rfl ti3 rfl) hS.rd ?_
              refine LW.ex rfl rfl rfl rfl (Ex.load1 ti3 rfl rfl (by first | exact obT rfl | exact Rd.imm ‹_› | exact slT ‹_›)) hS.rd ?_
              refine LW.hv rfl rfl rfl rfl (Hv.callS hS rfl rfl rfl cb31 (acc_c s p.1.1.1.val (by have := p.1.1.1.isLt; omega) _ _ μ _ hS.imm h0)) fun v w62 ⟨hv, hS⟩ => ?_
              subst hv
              refine LW.splitB (fun h11_3 => ?_) (fun h11_3 => ?_)
              · skip
                refine LW.ex rfl rfl rfl rfl (Ex.move rfl) hS.rd ?_
                refine LW.ex rfl rfl rfl rfl (Ex.move rfl) hS.rd ?_
                refine LW.ex rfl rfl rfl rfl (Ex.not rfl rfl) hS.rd ?_
                refine LW.ex rfl rfl rfl rfl (Ex.move rfl) hS.rd ?_
                refine LW.skip rfl rfl rfl rfl ?_
                refine LW.skip rfl rfl rfl rfl ?_
                refine LW.skip rfl rfl rfl rfl ?_
                refine LW.ex rfl rfl rfl rfl (by first | exact Ex.pick_yes rfl rfl | exact Ex.pick_no rfl rfl) hS.rd ?_
                refine LW.ex rfl rfl rfl rfl (by first | exact Ex.pick_yes rfl rfl | exact Ex.pick_no rfl rfl) hS.rd ?_
                refine LW.nil fun aa ha => hK17 _ _ _ ?_ aa ha
                refine CW.yes rfl ?_
                refine CW.region [0, 1, 2, 3, 4] rfl ?_
                refine LW.ex rfl rfl rfl rfl (Ex.move rfl) hS.rd ?_
                refine LW.ex rfl rfl rfl rfl (Ex.fieldO 1 Try.underlying84 rfl rfl ti9 rfl) hS.rd ?_
                refine LW.ex rfl rfl rfl rfl (Ex.load1 ti9 rfl rfl (by first | exact obT rfl | exact Rd.imm ‹_› | exact slT ‹_›)) hS.rd ?_
                refine LW.ex rfl rfl rfl rfl (Ex.move rfl) hS.rd ?_
                refine LW.hu rfl rfl rfl (Hv.mapUpdate (a := outK p.1) (c := p.2) Try.underlying86 encKS 1 hS rfl rfl rfl rfl) fun _ w_3 hS => ?_
                dsimp only [List.set] at hS
                refine LW.nil fun aa ha => ?_
                have hS := hS.drop 0 rfl
                dsimp only [List.eraseIdx] at hS
                refine ⟨_, _, ?m8, ⟨left.eraseIdx jj, aset le (outK p.1) p.2, some p, rfl, rfl, hS, hB.put hj ‹_› (fun c' hc => by simp_all)⟩, ha.sub ⟨rfl, rfl, rfl, rfl, trivial⟩⟩
                case m8 => (rw [hq8]; exact er_lt hj)
              · skip
                refine LW.ex rfl rfl rfl rfl (Ex.move rfl) hS.rd ?_
                refine LW.skip rfl rfl rfl rfl ?_
                refine LW.skip rfl rfl rfl rfl ?_
                refine LW.skip rfl rfl rfl rfl ?_
                refine LW.skip rfl rfl rfl rfl ?_
                refine LW.skip rfl rfl rfl rfl ?_
                refine LW.skip rfl rfl rfl rfl ?_
                refine LW.skip rfl rfl rfl rfl ?_
                refine LW.ex rfl rfl rfl rfl (by first | exact Ex.pick_yes rfl rfl | exact Ex.pick_no rfl rfl) hS.rd ?_
                refine LW.nil fun aa ha => hK17 _ _ _ ?_ aa ha
                refine CW.no rfl ?_
                refine CW.skip fun aa ha => ?_
                have hS := hS.drop 0 rfl
                dsimp only [List.eraseIdx] at hS
                refine ⟨_, _, ?m8, ⟨left.eraseIdx jj, le, some p, rfl, rfl, hS, by first | exact hB.skip hj (.inl ‹_›) | exact hB.skip hj (.inr (getD_le ‹_› ‹_›))⟩, ha.sub ⟨rfl, rfl, rfl, rfl, trivial⟩⟩
                case m8 => (rw [hq8]; exact er_lt hj)
          · have hSl := hS
            obtain ⟨hl1, hl2⟩ := hF h8_1
            subst hl1 hl2
            have hS := hSl
            refine LW.nil fun aa ha => hK12 _ _ _ ?_ aa ha
            refine CW.seq fun K18 hK18 => ?_
            refine CW.no rfl ?_
            refine CW.exit fun aa ha => hK10 _ _ _ ?_ aa ha
            refine CW.seq fun K19 hK19 => ?_
            refine CW.seq fun K20 hK20 => ?_
            have hS := st_unrngM [_, _, _] hi2 hS
            dsimp only [List.cons_append, List.nil_append] at hS
            refine CW.region [0, 1, 2] rfl ?_
            refine LW.ex rfl rfl rfl rfl (Ex.move rfl) hS.rd ?_
            refine LW.ex rfl rfl rfl rfl (Ex.lenMap rfl Try.underlying86 0 rfl rfl) hS.rd ?_
            refine LW.ex rfl rfl rfl rfl (Ex.eql rfl rfl rfl) hS.rd ?_
            refine LW.splitB (fun h13_2 => ?_) (fun h13_2 => ?_)
            · have h13_2 := of_decide_eq_true h13_2
              refine LW.nil fun aa ha => hK20 _ _ _ ?_ aa ha
              refine CW.yes rfl ?_
              refine CW.seq fun K21 hK21 => ?_
              have hle := st_nodup hS (i := 0) rfl
              have hmem := Bs.least (takesO hok hf inp) hW2.1 (hnd inp.size (Nat.le_refl _)) hB hle
              have hms : ∀ j, j ≤ inp.size → ((ms j).map Prod.fst).Nodup ∧ (ms j).length ≤ 2000 := fun j hj => ⟨hnd j hj, by have := hW2.2 j hj; omega⟩
              refine CW.region [0, 1] rfl ?_
              refine LW.ex rfl rfl rfl rfl (Ex.assign rfl) hS.rd ?_
              refine LW.ex rfl rfl rfl rfl (Ex.assign rfl) hS.rd ?_
              refine LW.nil fun aa ha => hK21 _ _ _ ?_ aa ha
              refine CW.ret fun aa ha => ?_
              refine ret_two ha Try.results13 rfl rfl ?_
              have hl0 : le = [] := List.eq_nil_of_length_eq_zero (by omega)
              subst hl0
              exact ⟨_, μ, rfl, hS.below, Mem.ext.refl _ _, hS.imm, IsBest.none (.inr ⟨hgood, .inr ⟨ms, hW2.1, hms, [], List.Pairwise.nil, hmem, .inl ⟨rfl, rfl, rfl⟩⟩⟩)⟩
            · have h13_2 := of_decide_eq_false h13_2
              refine LW.nil fun aa ha => hK20 _ _ _ ?_ aa ha
              refine CW.no rfl ?_
              refine CW.skip fun aa ha => hK19 _ _ _ ?_ aa ha
              refine CW.seq fun K22 hK22 => ?_
              have hle := st_nodup hS (i := 0) rfl
              have hmem := Bs.least (takesO hok hf inp) hW2.1 (hnd inp.size (Nat.le_refl _)) hB hle
              have hms : ∀ j, j ≤ inp.size → ((ms j).map Prod.fst).Nodup ∧ (ms j).length ≤ 2000 := fun j hj => ⟨hnd j hj, by have := hW2.2 j hj; omega⟩
              have hlen0 : 0 < le.length := by omega
              have hlen1 : le.length ≤ 2000 := by have := hB.n; omega
              refine CW.region [0] rfl ?_
              refine LW.ex rfl rfl rfl rfl (Ex.assign rfl) hS.rd ?_
              refine LW.nil fun aa ha => hK22 _ _ _ ?_ aa ha
              refine CW.seq fun K23 hK23 => ?_
              refine CW.seq fun K24 hK24 => ?_
              refine CW.region [0, 1] rfl ?_
              refine LW.ex rfl rfl rfl rfl (Ex.move rfl) hS.rd ?_
              refine LW.hv rfl rfl rfl rfl (Hv.range Try.underlying86 0 hS rfl rfl) fun v w80 ⟨r80, hv, hr80, hS⟩ => ?_
              subst hv
              dsimp only [List.set] at hS
              refine LW.nil fun aa ha => hK24 _ _ _ ?_ aa ha
              refine CW.block ?_
              have hS := nil_sl 47 2 hS
              refine CW.loop (fun qq frm wl17 => ∃ (left2 dn : List (KS × Int)) (cur2 : Option (KS × Int)) (ad : Option Addr) (c l : Nat), l = dn.length ∧ qq = left2.length ∧ frm = [(2, .int .i64 k), (15, .slice ad l c), (80, .pointer (some ⟨r80, 0, none⟩))] ∧ St w wl17 μ (Own.sl ad l c 47 2 ((dn.map resOf).flatMap rslL) :: Own.rng ksV iV b40 r80 le left2 cur2 :: Own.sl (some ⟨g, 0, none⟩) (inp.size + 1) (inp.size + 1) 87 1 (cellsF bs (inp.size + 1) (inp.size + 1)) :: Own.obj b3 [.int .i64 s.Modes, .int .u8 s.Accept.toNat, .slice a0 s.Rules.length c0] 29 :: (mapsO koV iV bs ms (inp.size + 1) ++ [])) ∧ ((dn ++ left2).Perm le)) _ ⟨le, [], none, none, 0, 0, (by first | omega | (simp; done) | (simp; omega)), rfl, rfl, hS, List.Perm.refl _⟩ ⟨rfl, rfl, rfl, trivial⟩ ?_
              clear hS
              rintro qq frm wl17 ⟨left2, dn, cur2, ad, c, l, hll, hq, rfl, hS, hP⟩
              refine CW.seq fun K25 hK25 => ?_
              refine CW.region [0, 1] rfl ?_
              refine LW.hv rfl rfl rfl rfl (Hv.nextAny 1 hS rfl rfl) fun v w81 ⟨bo2, rest2, left3, cur3, hv, hF2, hT2, hS⟩ => ?_
              subst hv
              dsimp only [List.set] at hS
              refine LW.ex rfl rfl rfl rfl (extract0 rfl) hS.rd ?_
              refine LW.splitB (fun h17_1 => ?_) (fun h17_1 => ?_)
              · obtain ⟨j2, p, hj2, hl3, hc3⟩ := hT2 h17_1
                subst hl3 hc3
                have hq17 := hq
                refine LW.nil fun aa ha => hK25 _ _ _ ?_ aa ha
                refine CW.seq fun K26 hK26 => ?_
                refine CW.yes rfl ?_
                refine CW.skip fun aa ha => hK26 _ _ _ ?_ aa ha
                refine CW.block ?_
                refine CW.seq fun K27 hK27 => ?_
                refine CW.region [0, 1, 2, 3, 4] rfl ?_
                refine LW.ex rfl rfl rfl rfl (exEq (u := .tuple #[.string p.1.1, .int .i64 p.2]) (Ex.entry 1 rfl rfl) rfl) hS.rd ?_
                refine LW.ex rfl rfl rfl rfl (Ex.extract rfl rfl) hS.rd ?_
                refine LW.ex rfl rfl rfl rfl (Ex.extract rfl rfl) hS.rd ?_
                refine LW.ex rfl rfl rfl rfl (Ex.assign rfl) hS.rd ?_
                refine LW.ex rfl rfl rfl rfl (Ex.assign rfl) hS.rd ?_
                refine LW.nil fun aa ha => hK27 _ _ _ ?_ aa ha
                have hdl : dn.length ≤ 2000 := by have := hP.length_eq; rw [List.length_append] at this; omega
                refine CW.region [0, 1, 2, 3, 4, 5, 6] rfl ?_
                refine LW.ex rfl rfl rfl rfl (Ex.move rfl) hS.rd ?_
                refine LW.ex rfl rfl rfl rfl (Ex.move rfl) hS.rd ?_
                refine LW.ex rfl rfl rfl rfl (Ex.move rfl) hS.rd ?_
                refine LW.ex rfl rfl rfl rfl (Ex.buildS st47 rfl rfl rfl) hS.rd ?_
                refine LW.hv rfl rfl rfl rfl (Hv.buildSl hS Try.underlying37 ti47 rfl rfl rfl rfl rfl rfl) fun v w90 ⟨b90, hv, hb90, hS⟩ => ?_
                subst hv
                refine LW.hv rfl rfl rfl rfl (Hv.append (k := 1) rfl Try.underlying37 ti47 rfl hS rfl rfl rfl rfl (Rd.objAll (k := 0) rfl hS.rd) (by simp [Value.oneCell']) (by unfold maxLen; omega) (by omega)) fun v w91 ⟨ad91, c91, hv, hS⟩ => ?_
                subst hv
                dsimp only [List.set] at hS
                have hS := hS.drop 0 rfl
                dsimp only [List.eraseIdx] at hS
                have hS := own_cells hS (vs := ((dn ++ [p]).map resOf).flatMap rslL) (by rw [List.map_append, List.flatMap_append]; rfl)
                refine LW.ex rfl rfl rfl rfl (Ex.assign rfl) hS.rd ?_
                refine LW.nil fun aa ha => ?_
                obtain ⟨g91, rfl⟩ := hS.sl_some 0 rfl (by omega)
                refine ⟨_, _, ?m17, ⟨left2.eraseIdx j2, dn ++ [p], some p, (some ⟨g91, 0, none⟩), c91, l + 1, (by first | omega | (simp; done) | (simp; omega)), rfl, rfl, hS, List.Perm.trans (by rw [List.append_assoc]; exact List.Perm.append_left _ (erase_perm hj2)) hP⟩, ha.sub ⟨rfl, rfl, rfl, trivial⟩⟩
                case m17 => (rw [hq17]; exact er_lt hj2)
              · have hSl := hS
                obtain ⟨hl1, hl2⟩ := hF2 h17_1
                subst hl1 hl2
                have hS := hSl
                refine LW.nil fun aa ha => hK25 _ _ _ ?_ aa ha
                refine CW.seq fun K28 hK28 => ?_
                refine CW.no rfl ?_
                refine CW.exit fun aa ha => hK23 _ _ _ ?_ aa ha
                refine CW.seq fun K29 hK29 => ?_
                rw [List.append_nil] at hP
                have hdn := hP.length_eq
                subst hll
                obtain ⟨g2, rfl⟩ := hS.sl_some 0 rfl (by omega)
                refine CW.region [0, 1] rfl ?_
                refine LW.ex rfl rfl rfl rfl (Ex.move rfl) hS.rd ?_
                refine LW.hv rfl rfl rfl rfl (Hv.sortBy (lt := ltOf resCmp) (enc := rslL) (k := 2) (xs := dn.map resOf) 0 hS rfl (fun _ => rfl) (by omega) rfl (by rw [List.length_map]) rfl rfl rfl cb34 (fun hH hg => by have h := sortRes_c g2 c (dn.map resOf).toArray _ hH hg (by simp; omega); simpa using h)) fun v w93 ⟨hv93, ys, hyp, hyw, hS⟩ => ?_
                subst hv93
                dsimp only [List.set] at hS
                refine LW.nil fun aa ha => hK29 _ _ _ ?_ aa ha
                refine CW.seq fun K30 hK30 => ?_
                have hyl := hyp.length_eq
                rw [List.length_map] at hyl
                have hyq := hyp.trans (hP.map resOf)
                have hys := resStrict hle hyq hyw
                obtain ⟨hcap1, hcap2⟩ := hS.sl_cap 0 rfl
                obtain ⟨mn, hmn⟩ : ∃ mn : Nat, (min k (dn.length : Int)) = mn ∧ mn = (ys.take k.toNat).length := ⟨(ys.take k.toNat).length, by rw [List.length_take]; omega, rfl⟩
                refine CW.region [0, 1, 2, 3, 4, 5, 6, 7] rfl ?_
                refine LW.ex rfl rfl rfl rfl (Ex.move rfl) hS.rd ?_
                refine LW.ex rfl rfl rfl rfl (Ex.move rfl) hS.rd ?_
                refine LW.ex rfl rfl rfl rfl (Ex.move rfl) hS.rd ?_
                refine LW.ex rfl rfl rfl rfl (Ex.lenSl rfl Try.underlying37 rfl) hS.rd ?_
                refine LW.ex rfl rfl rfl rfl (Ex.min2 rfl rfl rfl) hS.rd ?_
                refine LW.ex rfl rfl rfl rfl (Ex.sliceTo Try.underlying37 ti47 rfl rfl hmn.1 (by omega)) hS.rd ?_
                refine LW.ex rfl rfl rfl rfl (Ex.assign rfl) hS.rd ?_
                refine LW.ex rfl rfl rfl rfl (Ex.assign rfl) hS.rd ?_
                refine LW.nil fun aa ha => hK30 _ _ _ ?_ aa ha
                refine CW.ret fun aa ha => ?_
                refine ret_two ha Try.results13 rfl rfl ?_
                obtain ⟨bs2, μ2, hm2, hS, hφ⟩ := hS.shut 0 rfl
                rw [hmn.2]
                have hL : Sl μ2 (some ⟨g2, 0, none⟩) c ys := Sl.of_own hφ (rslReps _ ys) hyl.symm
                refine ⟨_, μ2, rfl, hS.below, hm2, hS.imm, ys.take k.toNat, 0, _, _, rfl, hL.take _, .inr ⟨hgood, .inr ⟨ms, hW2.1, hms, ys, hys, fun x => (hyq.mem_iff).trans (hmem x), .inr ⟨fun h => ?_, rfl, rfl⟩⟩⟩⟩
                rw [h] at hyl; simp at hyl; omega
        · skip
          refine LW.ex rfl rfl rfl rfl (Ex.assign rfl) hS.rd ?_
          refine LW.ex rfl rfl rfl rfl (Ex.assign rfl) hS.rd ?_
          refine LW.nil fun aa ha => hK6 _ _ _ ?_ aa ha
          refine CW.seq fun K31 hK31 => ?_
          refine CW.seq fun K32 hK32 => ?_
          refine CW.region [0, 1] rfl ?_
          refine LW.ex rfl rfl rfl rfl (Ex.move rfl) hS.rd ?_
          refine LW.ex rfl rfl rfl rfl (Ex.not rfl rfl) hS.rd ?_
          refine LW.nil fun aa ha => hK32 _ _ _ ?_ aa ha
          refine CW.yes rfl ?_
          refine CW.seq fun K33 hK33 => ?_
          refine CW.region [0, 1] rfl ?_
          refine LW.ex rfl rfl rfl rfl (Ex.assign rfl) hS.rd ?_
          refine LW.ex rfl rfl rfl rfl (Ex.assign rfl) hS.rd ?_
          refine LW.nil fun aa ha => hK33 _ _ _ ?_ aa ha
          refine CW.ret fun aa ha => ?_
          refine ret_two ha Try.results13 rfl rfl ?_
          have hW3 := hW
          unfold WRes at hW3
          rw [if_neg (by rw [h3_7]; decide)] at hW3
          obtain ⟨i, hi, hwi, hgt⟩ := hW3
          have hi3 : i ≤ inp.size := hi
          have hnd := st_nodup hS (maps_get [_, _] (show i < inp.size + 1 by omega))
          exact ⟨_, μ, rfl, hS.below, Mem.ext.refl _ _, hS.imm, IsBest.none (.inr ⟨hgood, .inl ⟨rfl, rfl, i, ms, hi3, hwi, hnd, by omega⟩⟩)⟩
  · skip
    refine LW.ex rfl rfl rfl rfl (Ex.not rfl rfl) hS.rd ?_
    refine LW.ex rfl rfl rfl rfl (Ex.move rfl) hS.rd ?_
    refine LW.skip rfl rfl rfl rfl ?_
    refine LW.skip rfl rfl rfl rfl ?_
    refine LW.ex rfl rfl rfl rfl (by first | exact Ex.pick_yes rfl rfl | exact Ex.pick_no rfl rfl) hS.rd ?_
    refine LW.ex rfl rfl rfl rfl (Ex.move rfl) hS.rd ?_
    refine LW.skip rfl rfl rfl rfl ?_
    refine LW.skip rfl rfl rfl rfl ?_
    refine LW.ex rfl rfl rfl rfl (by first | exact Ex.pick_yes rfl rfl | exact Ex.pick_no rfl rfl) hS.rd ?_
    refine LW.nil fun aa ha => hK3 _ _ _ ?_ aa ha
    refine CW.yes rfl ?_
    refine CW.seq fun K34 hK34 => ?_
    refine CW.region [0, 1] rfl ?_
    refine LW.ex rfl rfl rfl rfl (Ex.assign rfl) hS.rd ?_
    refine LW.ex rfl rfl rfl rfl (Ex.assign rfl) hS.rd ?_
    refine LW.nil fun aa ha => hK34 _ _ _ ?_ aa ha
    refine CW.ret fun aa ha => ?_
    refine ret_two ha Try.results13 rfl rfl ?_
    exact ⟨_, μ, rfl, hS.below, Mem.ext.refl _ _, hS.imm, IsBest.none (.inl ⟨rfl, rfl, fun h => by first | (simp_all; done) | (simp_all; omega)⟩)⟩
end Go.Proofs.Ytgbdfgifgngijaa

/-
  Output: the least cost of an output; the walk of Cost.
-/
namespace Go.Proofs.Ytgbdfgifgngijaa
open Go.RowKit Sy Go.Maps

def startP : KP := ⟨(0, 0), by decide⟩
def xP (s : Sch) (inp out : ByteArray) : WX KP := ⟨s.Rules, inp, startP, nvP, ftP out⟩
theorem takesP {s : Sch} (hs : SchOk s) (hf : Fed s) (inp out : ByteArray) : Takes (xP s inp out) := fun r hr => by
  have := hs.rule (show r ∈ s.Rules from hr)
  exact ⟨hf r hr, by omega, by omega⟩
theorem preD_len {out s : ByteArray} {p : Nat} (h : preD out p s = true) (hp : p ≤ out.size) : p + s.size ≤ out.size := by
  unfold preD at h
  have h2 := (List.isPrefixOf_iff_prefix.1 h).length_le
  rw [List.length_drop, bl_len, bl_len] at h2
  omega
theorem nvP_of {k : KP} {r : Rule} (h : k.1.2 + r.Out.size ≤ 9223372036854775807) : (nvP k r).1 = (modeF r.To, k.1.2 + r.Out.size) := by
  have e : nvP k r = ⟨(modeF r.To, k.1.2 + r.Out.size), h⟩ := dif_pos _
  rw [e]
theorem ftP_iff {out : ByteArray} {k : KP} {r : Rule} : ftP out k r = true ↔ (k.1.1.val : Int) = r.From ∧ preD out k.1.2 r.Out = true := by
  unfold ftP
  rw [Bool.and_eq_true, decide_eq_true_eq]
theorem atSize {s : Sch} (hs : SchOk s) (hf : Fed s) {inp out : ByteArray} (ho : out.size ≤ 9223372036854775807) {p : Nat} {k : KP} {c : Int} (h : Rt (xP s inp out) p k c) : k.1.2 ≤ out.size ∧ k.1.2 ≤ 4 * p := by
  induction h with
  | nil => exact ⟨Nat.zero_le _, Nat.zero_le _⟩
  | @snoc p k c h r hr h1 h2 ih =>
    have h3 := hs.rule (show r ∈ s.Rules from hr)
    have h4 := hf r hr
    have h5 := preD_len (ftP_iff.1 h1).2 ih.1
    show (nvP k r).1.2 ≤ _ ∧ (nvP k r).1.2 ≤ _
    rw [nvP_of (by omega)]
    exact ⟨h5, by simp only; omega⟩
/-- An output has a cost. -/
def Has (s : Sch) (inp out : ByteArray) (c : Int) : Prop := ∃ k : KP, Rt (xP s inp out) inp.size k c ∧ k.1.2 = out.size ∧ s.Accept.toNat.testBit k.1.1.val = true
def CostR (s : Sch) (inp out : ByteArray) (z : Int) : Prop :=
  (sndB s inp = false ∧ z = -1) ∨ (sndB s inp = true ∧ ((z = -1 ∧ ∀ c, ¬ Has s inp out c) ∨ (0 ≤ z ∧ Has s inp out z ∧ ∀ c, Has s inp out c → z ≤ c)))
def IsCost (s : Sch) (inp out : ByteArray) (_ : Mem) (v : Value) : Prop := ∃ z : Int, v = .int .i64 z ∧ CostR s inp out z
def keyP (j : Fin 8) (n : Nat) (h : n ≤ 9223372036854775807) : KP := ⟨(j, n), h⟩
/-- The modes before i that have a cost. -/
def Cand (acc : Nat) (kv : List (KP × Int)) (n : Nat) (i : Nat) (c : Int) : Prop := ∃ k : KP, k.1.1.val < i ∧ k.1.2 = n ∧ acc.testBit k.1.1.val = true ∧ aget kv k = some c
def CI (acc : Nat) (kv : List (KP × Int)) (n : Nat) (i : Nat) (z : Int) : Prop := (z = -1 ∧ ∀ c, ¬ Cand acc kv n i c) ∨ (0 ≤ z ∧ Cand acc kv n i z ∧ ∀ c, Cand acc kv n i c → z ≤ c)
theorem CI.start (acc : Nat) (kv : List (KP × Int)) (n : Nat) : CI acc kv n 0 (-1) := .inl ⟨rfl, fun c ⟨k, h, _⟩ => by omega⟩
theorem Cand.mono {acc : Nat} {kv : List (KP × Int)} {n i : Nat} {c : Int} : Cand acc kv n i c → Cand acc kv n (i + 1) c := fun ⟨k, h, h2⟩ => ⟨k, by omega, h2⟩
theorem Cand.last {acc : Nat} {kv : List (KP × Int)} {n i : Nat} {c : Int} (hi : i < 8) (hn : n ≤ 9223372036854775807) (h : Cand acc kv n (i + 1) c) : Cand acc kv n i c ∨ acc.testBit i = true ∧ aget kv (keyP ⟨i, hi⟩ n hn) = some c := by
  obtain ⟨k, h1, h2, h3, h4⟩ := h
  by_cases e : k.1.1.val = i
  · have : k = keyP ⟨i, hi⟩ n hn := Subtype.ext (Prod.ext (Fin.ext e) h2)
    rw [this] at h3 h4
    exact .inr ⟨h3, h4⟩
  · exact .inl ⟨k, by omega, h2, h3, h4⟩
theorem CI.skip {acc : Nat} {kv : List (KP × Int)} {n i : Nat} {z : Int} (h : CI acc kv n i z) (hi : i < 8) (hn : n ≤ 9223372036854775807) (hs : ∀ c, acc.testBit i = true → aget kv (keyP ⟨i, hi⟩ n hn) = some c → 0 ≤ z ∧ z ≤ c) : CI acc kv n (i + 1) z := by
  rcases h with ⟨h1, h2⟩ | ⟨h1, h2, h3⟩
  · refine .inl ⟨h1, fun c hc => ?_⟩
    rcases hc.last hi hn with hc | ⟨hc1, hc2⟩
    · exact h2 c hc
    · have := hs c hc1 hc2; omega
  · refine .inr ⟨h1, h2.mono, fun c hc => ?_⟩
    rcases hc.last hi hn with hc | ⟨hc1, hc2⟩
    · exact h3 c hc
    · exact (hs c hc1 hc2).2
theorem CI.put {acc : Nat} {kv : List (KP × Int)} {n i : Nat} {z c : Int} (h : CI acc kv n i z) (hi : i < 8) (hn : n ≤ 9223372036854775807) (ha : acc.testBit i = true) (hg : aget kv (keyP ⟨i, hi⟩ n hn) = some c) (hc0 : 0 ≤ c) (hz : z < 0 ∨ c < z) : CI acc kv n (i + 1) c := by
  refine .inr ⟨hc0, ⟨keyP ⟨i, hi⟩ n hn, by show i < i + 1; omega, rfl, ha, hg⟩, fun c' hc => ?_⟩
  rcases hc.last hi hn with hc | ⟨hc1, hc2⟩
  · rcases h with ⟨h1, h2⟩ | ⟨h1, h2, h3⟩
    · exact absurd hc (h2 c')
    · have := h3 c' hc; omega
  · rw [hg] at hc2
    obtain rfl := Option.some.inj hc2
    exact Int.le_refl _
theorem CI.putG {acc : Nat} {kv : List (KP × Int)} {n i : Nat} {z : Int} (h : CI acc kv n i z) (hi : i < 8) (hn : n ≤ 9223372036854775807) (hs : (aget kv (keyP ⟨i, hi⟩ n hn)).isSome = true) (ha : acc.testBit i = true) (hc0 : ∀ c, aget kv (keyP ⟨i, hi⟩ n hn) = some c → 0 ≤ c) (hz : z < 0 ∨ (aget kv (keyP ⟨i, hi⟩ n hn)).getD 0 < z) : CI acc kv n (i + 1) ((aget kv (keyP ⟨i, hi⟩ n hn)).getD 0) := by
  obtain ⟨c, hc⟩ := Option.isSome_iff_exists.1 hs
  rw [hc] at hz ⊢
  exact h.put hi hn ha hc (hc0 c hc) hz
theorem rt_mode {s : Sch} (hs : SchOk s) {inp out : ByteArray} (ho : out.size ≤ 9223372036854775807) (hf : Fed s) {p : Nat} {k : KP} {c : Int} (h : Rt (xP s inp out) p k c) : (k.1.1.val : Int) < s.Modes := by
  cases h with
  | nil => have := hs.m1; show ((0 : Nat) : Int) < _; omega
  | @snoc p k c h r hr h1 h2 =>
    have h3 := hs.rule (show r ∈ s.Rules from hr)
    have h5 := atSize hs hf ho h
    have h6 := preD_len (ftP_iff.1 h1).2 h5.1
    show (((nvP k r).1.1).val : Int) < _
    rw [nvP_of (by omega)]
    simp only [modeF_val h3.2.1]
    obtain ⟨i, hi, rfl⟩ := List.getElem_of_mem (show r ∈ s.Rules from hr)
    have h := (hs.ru i hi).1
    unfold rightB at h
    simp only [Bool.and_eq_true, decide_eq_true_eq] at h
    omega
theorem CI.cost {s : Sch} {inp out : ByteArray} (hs : SchOk s) (hf : Fed s) (ho : out.size ≤ 9223372036854775807) (hg : sndB s inp = true) {ms : Nat → List (KP × Int)} (hW : WI (xP s inp out) ms (inp.size + 1)) {i : Nat} (hi : (i : Int) = s.Modes) {z : Int} (h : CI s.Accept.toNat (ms inp.size) out.size i z) : CostR s inp out z := by
  have get : ∀ c, Cand s.Accept.toNat (ms inp.size) out.size i c → Has s inp out c := fun c ⟨k, h1, h2, h3, h4⟩ => ⟨k, hW.snd _ _ _ h4, h2, h3⟩
  have low : ∀ c, Has s inp out c → ∃ c', c' ≤ c ∧ Cand s.Accept.toNat (ms inp.size) out.size i c' := fun c ⟨k, h1, h2, h3⟩ => by
    obtain ⟨c', h4, h5⟩ := hW.complete (takesP hs hf inp out) h1 (by show inp.size ≤ _; omega)
    have := rt_mode hs ho hf h1
    exact ⟨c', h4, k, by omega, h2, h3, h5⟩
  refine .inr ⟨hg, ?_⟩
  rcases h with ⟨h1, h2⟩ | ⟨h1, h2, h3⟩
  · exact .inl ⟨h1, fun c hc => by obtain ⟨c', _, h4⟩ := low c hc; exact h2 c' h4⟩
  · exact .inr ⟨h1, get z h2, fun c hc => by obtain ⟨c', h4, h5⟩ := low c hc; have := h3 c' h5; omega⟩

theorem nodup_len : ∀ (N : Nat) (l : List Nat), l.Nodup → (∀ x ∈ l, x < N) → l.length ≤ N
  | 0, l, _, hl => by
    cases l with
    | nil => simp
    | cons a r => have := hl a (List.mem_cons_self ..); omega
  | N + 1, l, hn, hl => by
    have h3 := nodup_len N (l.erase N) (hn.erase N) (fun x hx => by
      have h4 := hl x (List.mem_of_mem_erase hx)
      have h5 : x ≠ N := fun e => (List.Nodup.not_mem_erase hn) (by rw [e] at hx; exact hx)
      omega)
    rw [List.length_erase] at h3
    split at h3 <;> omega
theorem lenP {s : Sch} (hs : SchOk s) (hf : Fed s) {inp out : ByteArray} (ho : out.size ≤ 1000000) {kv : List (KP × Int)} {p : Nat} (hr : ∀ k c, aget kv k = some c → Rt (xP s inp out) p k c) (hn : (kv.map Prod.fst).Nodup) : kv.length ≤ 8 * (out.size + 1) := by
  have hb : ∀ q ∈ kv, q.1.1.2 ≤ out.size := fun q hq => (atSize hs hf (by omega) (hr q.1 q.2 (aget_of hn hq))).1
  have h := nodup_len (8 * (out.size + 1)) (kv.map fun q => q.1.1.1.val * (out.size + 1) + q.1.1.2) (by
    refine List.pairwise_map.2 ?_
    refine (List.Pairwise.and_mem.1 (List.pairwise_map.1 hn)).imp fun {a b} ⟨h1, h2, h3⟩ e => h3 ?_
    have h4 := hb a h1
    have h5 := hb b h2
    have e1 : a.1.1.1.val = b.1.1.1.val := by
      have g1 : (a.1.1.1.val * (out.size + 1) + a.1.1.2) / (out.size + 1) = a.1.1.1.val := by rw [Nat.mul_comm, Nat.mul_add_div (by omega), Nat.div_eq_of_lt (by omega)]; omega
      have g2 : (b.1.1.1.val * (out.size + 1) + b.1.1.2) / (out.size + 1) = b.1.1.1.val := by rw [Nat.mul_comm, Nat.mul_add_div (by omega), Nat.div_eq_of_lt (by omega)]; omega
      rw [e] at g1
      omega
    have e2 : a.1.1.2 = b.1.1.2 := by rw [e1] at e; omega
    exact Subtype.ext (Prod.ext (Fin.ext e1) e2)) (fun x hx => by
    obtain ⟨q, hq, rfl⟩ := List.mem_map.1 hx
    have h1 := hb q hq
    have h2 := q.1.1.1.isLt
    have h3 : q.1.1.1.val * (out.size + 1) ≤ 7 * (out.size + 1) := Nat.mul_le_mul_right _ (by omega)
    omega)
  rw [List.length_map] at h
  exact h

theorem cost1_x {s : Sch} (hs : SchOk s) (hf : Fed s) {inp out : ByteArray} (ho : out.size ≤ 9223372036854775807) (hin : inp.size ≤ 40) {μ : Mem} {bp : Nat} (hb : μ.cell bp 0 = some (.string out)) : ∀ p k c, Rt (xP s inp out) p k c → ∀ r ∈ (xP s inp out).rules, ∀ w', Imm μ w' → Calls Try.prog 29 #[kpV k, ruleV r, .pointer (some ⟨bp, 0, none⟩)] w' (RetS w' (.tuple #[kpV ((xP s inp out).nv k r), .bool ((xP s inp out).ft k r)])) := fun p k c h r hr w' hμ => by
  have h1 := atSize hs hf ho h
  have h2 := (h.cost (takesP hs hf inp out)).1
  have h3 := hs.rule (show r ∈ s.Rules from hr)
  have h4 : p ≤ 40 := Nat.le_trans h2 hin
  exact cost1_c out bp k r ho h1.1 (by omega) (by omega) h3.2.1 μ w' hμ hb
set_option maxRecDepth 100000 in
set_option maxHeartbeats 4000000 in
theorem cost_c (s : Sch) (hs : SSmall s) (inp out : ByteArray) (hin : inp.size ≤ 40) (ho : out.size ≤ 1000000) (hfed : sndB s inp = true → Fed s) (a0 : Option Addr) (c0 : Nat) (μ : Mem) (w : World) (hμ : Imm μ w) (h0 : Sl μ a0 c0 s.Rules) :
    Calls Try.prog 12 #[.agg #[.int .i64 s.Modes, .int .u8 s.Accept.toNat, .slice a0 s.Rules.length c0], .string inp, .string out] w (RetV w μ (IsCost s inp out)) := by
  have hS := St.start w μ hμ
  refine calls_start 62 [.agg #[.int .i64 s.Modes, .int .u8 s.Accept.toNat, .slice a0 s.Rules.length c0], .string inp, .string out] Try.func12 rfl Try.ntmps12 rfl rfl ?_
  refine CW.seq fun K1 hK1 => ?_
  refine CW.region [0, 1, 2] rfl ?_
  refine LW.hv rfl rfl rfl rfl (Hv.boxS hS rfl rfl) fun v w3 ⟨b3, hv, hb3, hS⟩ => ?_
  subst hv
  refine LW.hv rfl rfl rfl rfl (Hv.boxS hS rfl rfl) fun v w5 ⟨b5, hv, hb5, hS⟩ => ?_
  subst hv
  refine LW.ex rfl rfl rfl rfl (Ex.assign rfl) hS.rd ?_
  refine LW.nil fun aa ha => hK1 _ _ _ ?_ aa ha
  refine CW.seq fun K2 hK2 => ?_
  refine CW.seq fun K3 hK3 => ?_
  refine CW.region [0, 1, 2, 3] rfl ?_
  refine LW.ex rfl rfl rfl rfl (Ex.load3c ti29 rfl rfl (by first | exact obT rfl | exact Rd.imm ‹_› | exact slT ‹_›) (by first | exact obT rfl | exact Rd.imm ‹_› | exact slT ‹_›) (by first | exact obT rfl | exact Rd.imm ‹_› | exact slT ‹_›)) hS.rd ?_
  refine LW.ex rfl rfl rfl rfl (Ex.move rfl) hS.rd ?_
  refine LW.hv rfl rfl rfl rfl (Hv.callS hS rfl rfl rfl cb27 (osound_c s hs inp (by omega) _ _ μ _ hS.imm h0)) fun v w15 ⟨hv, hS⟩ => ?_
  subst hv
  refine LW.splitB (fun h1_2 => ?_) (fun h1_2 => ?_)
  · skip
    refine LW.ex rfl rfl rfl rfl (Ex.not rfl rfl) hS.rd ?_
    refine LW.nil fun aa ha => hK3 _ _ _ ?_ aa ha
    refine CW.no rfl ?_
    refine CW.skip fun aa ha => hK2 _ _ _ ?_ aa ha
    refine CW.seq fun K4 hK4 => ?_
    have hgood : sndB s inp = true := by assumption
    have hok := (sndB_iff.1 hgood).1
    have hf := hfed hgood
    have hi2 : inp.size < inp.size + 1 := by omega
    have hm2 := hok.m2
    have hm1 := hok.m1
    obtain ⟨bs1, μ2, hmm, hS, hφ⟩ := hS.shut 0 rfl
    dsimp only [List.eraseIdx] at hS
    have hcell := obj_cell hφ
    have h0 := h0.mono hmm
    refine CW.region [0, 1, 2, 3, 4, 5, 6, 7, 8, 9, 10] rfl ?_
    refine LW.ex rfl rfl rfl rfl (Ex.move rfl) hS.rd ?_
    refine LW.ex rfl rfl rfl rfl (Ex.fieldO 2 Try.underlying29 rfl rfl ti27 rfl) hS.rd ?_
    refine LW.ex rfl rfl rfl rfl (Ex.load1 ti27 rfl rfl (by first | exact obT rfl | exact Rd.imm ‹_› | exact slT ‹_›)) hS.rd ?_
    refine LW.ex rfl rfl rfl rfl (Ex.buildS st74 rfl rfl rfl) hS.rd ?_
    refine LW.ex rfl rfl rfl rfl (Ex.makeFunc rfl) hS.rd ?_
    refine LW.hv rfl rfl rfl rfl (Hv.callM rfl rfl rfl cb28 (walkP_m (xP s inp out) (takesP hok hf inp out) 9223372036854775807 29 b5 cb29 hS a0 c0 h0 hok.rl hin hok.small (cost1_x hok hf (by omega) hin hcell))) fun v w23 ⟨g, ok, ms, bs, hv, hW, hS⟩ => ?_
    subst hv
    have hS := st_perm' hS (List.Perm.cons _ perm_last)
    refine LW.ex rfl rfl rfl rfl (Ex.move rfl) hS.rd ?_
    refine LW.ex rfl rfl rfl rfl (Ex.extract rfl rfl) hS.rd ?_
    refine LW.ex rfl rfl rfl rfl (Ex.extract rfl rfl) hS.rd ?_
    refine LW.ex rfl rfl rfl rfl (Ex.assign rfl) hS.rd ?_
    refine LW.ex rfl rfl rfl rfl (Ex.assign rfl) hS.rd ?_
    refine LW.nil fun aa ha => hK4 _ _ _ ?_ aa ha
    refine CW.seq fun K5 hK5 => ?_
    have hok2 : ok = true := by
      cases ok with
      | true => rfl
      | false =>
        unfold WRes at hW
        rw [if_neg (by decide)] at hW
        obtain ⟨i, hi, hwi, hgt⟩ := hW
        have hi3 : i ≤ inp.size := hi
        have hnd := st_nodup hS (maps_get [_, _] (show i < inp.size + 1 by omega))
        have := lenP hok hf ho (fun k c h => hwi.snd _ k c h) hnd
        omega
    subst hok2
    have hW2 : WI (xP s inp out) ms (inp.size + 1) := by have h := hW; unfold WRes at h; rw [if_pos rfl] at h; exact h.1
    refine CW.region [0] rfl ?_
    refine LW.ex rfl rfl rfl rfl (Ex.assign rfl) hS.rd ?_
    refine LW.nil fun aa ha => hK5 _ _ _ ?_ aa ha
    refine CW.seq fun K6 hK6 => ?_
    refine CW.seq fun K7 hK7 => ?_
    refine CW.region [0, 1, 2] rfl ?_
    refine LW.ex rfl rfl rfl rfl (Ex.fieldO 0 Try.underlying29 rfl rfl ti3 rfl) hS.rd ?_
    refine LW.ex rfl rfl rfl rfl (Ex.load1 ti3 rfl rfl (by first | exact obT rfl | exact Rd.imm ‹_› | exact slT ‹_›)) hS.rd ?_
    refine LW.ex rfl rfl rfl rfl (Ex.move rfl) hS.rd ?_
    refine LW.nil fun aa ha => hK7 _ _ _ ?_ aa ha
    refine CW.block ?_
    refine CW.loop (fun qq frm wl6 => ∃ (i : Nat) (z : Int), (i : Int) ≤ s.Modes ∧ qq = s.Modes.toNat - i ∧ frm = [(1, .string inp), (3, .pointer (some ⟨b3, 0, none⟩)), (5, .pointer (some ⟨b5, 0, none⟩)), (7, .slice (some ⟨g, 0, none⟩) (inp.size + 1) (inp.size + 1)), (9, .int .i64 z), (27, .int .i64 s.Modes), (28, .int .i64 i)] ∧ St w wl6 μ2 (Own.sl (some ⟨g, 0, none⟩) (inp.size + 1) (inp.size + 1) 78 1 (cellsF bs (inp.size + 1) (inp.size + 1)) :: Own.obj b3 [.int .i64 s.Modes, .int .u8 s.Accept.toNat, .slice a0 s.Rules.length c0] 29 :: (mapsO kpV iV bs ms (inp.size + 1) ++ [])) ∧ (CI s.Accept.toNat (ms inp.size) out.size i z)) _ ⟨0, -1, (by first | omega | (simp; done) | (simp; omega)), rfl, rfl, hS, CI.start _ _ _⟩ ⟨rfl, rfl, rfl, rfl, rfl, rfl, rfl, trivial⟩ ?_
    clear hS
    rintro qq frm wl6 ⟨i, z, hi, hq, rfl, hS, hC⟩
    refine CW.seq fun K8 hK8 => ?_
    refine CW.region [0] rfl ?_
    refine LW.ex rfl rfl rfl rfl (Ex.lss rfl rfl rfl) hS.rd ?_
    refine LW.splitB (fun h6_0 => ?_) (fun h6_0 => ?_)
    · have h6_0 := of_decide_eq_true h6_0
      refine LW.nil fun aa ha => hK8 _ _ _ ?_ aa ha
      refine CW.seq fun K9 hK9 => ?_
      refine CW.yes rfl ?_
      refine CW.skip fun aa ha => hK9 _ _ _ ?_ aa ha
      refine CW.seq fun K10 hK10 => ?_
      refine CW.block ?_
      refine CW.seq fun K11 hK11 => ?_
      refine CW.region [0, 1] rfl ?_
      refine LW.ex rfl rfl rfl rfl (Ex.move rfl) hS.rd ?_
      refine LW.ex rfl rfl rfl rfl (Ex.assign rfl) hS.rd ?_
      refine LW.nil fun aa ha => hK11 _ _ _ ?_ aa ha
      refine CW.seq fun K12 hK12 => ?_
      have hi8 : i < 8 := by omega
      have hS := hS.drew
      refine CW.draw 15 (.ex 0 <| .ex 1 <| .ex 2 <| .ex 3 <| .ex 4 <| .ex 5 <| .ex 6 <| .ex 7 <| .ex 8 <| .ex 9 <| .ex 10 <| .ex 11 <| .ex 12 <| .ex 13 <| .ex 14 <| .done) [] (Rd _ _) mixed (by kernel_rfl) rfl rfl hS.rd ?_
      refine PW.ex rfl rfl rfl rfl (Ex.move rfl) ?_
      refine PW.ex rfl rfl rfl rfl (Ex.move rfl) ?_
      refine PW.ex rfl rfl rfl rfl (Ex.lenS rfl Try.underlying9 rfl) ?_
      refine PW.ex rfl rfl rfl rfl (Ex.indexSl Try.underlying70 ti78 rfl rfl rfl (by show inp.size < inp.size + 1; omega)) ?_
      refine PW.ex rfl rfl rfl rfl (Ex.load1 ti78 rfl rfl (Rd.sl (k := 0) rfl (by rw [Nat.zero_add, Nat.mul_one]; exact cellsF_get hi2 hi2))) ?_
      refine PW.ex rfl rfl rfl rfl (Ex.move rfl) ?_
      refine PW.ex rfl rfl rfl rfl (Ex.load1 ti9 rfl rfl (by first | exact obT rfl | exact Rd.imm ‹_› | exact slT ‹_›)) ?_
      refine PW.ex rfl rfl rfl rfl (Ex.lenS rfl Try.underlying9 rfl) ?_
      refine PW.ex rfl rfl rfl rfl (Ex.buildS st74 rfl rfl rfl) ?_
      refine PW.ex rfl rfl rfl rfl (lookupI (a := keyP ⟨i, hi8⟩ out.size (by omega)) Try.underlying78 ti3 encKP (inp.size + 2) (maps_get [_, _] hi2) rfl rfl) ?_
      refine PW.ex rfl rfl rfl rfl (Ex.move rfl) ?_
      refine PW.ex rfl rfl rfl rfl (Ex.extract rfl rfl) ?_
      refine PW.ex rfl rfl rfl rfl (Ex.extract rfl rfl) ?_
      refine PW.splitB (fun h8_12 => ?_) (fun h8_12 => ?_)
      · skip
        refine PW.ex rfl rfl rfl rfl (Ex.assign rfl) ?_
        refine PW.ex rfl rfl rfl rfl (Ex.assign rfl) ?_
        refine PW.nil ?_
        refine LW.nil fun aa ha => hK12 _ _ _ ?_ aa ha
        refine CW.seq fun K13 hK13 => ?_
        refine CW.region [0, 1, 2, 3, 4, 5, 6, 7, 8, 9, 10, 11, 12, 13, 14] rfl ?_
        refine LW.ex rfl rfl rfl rfl (Ex.move rfl) hS.rd ?_
        refine LW.ex rfl rfl rfl rfl (Ex.move rfl) hS.rd ?_
        refine LW.ex rfl rfl rfl rfl (Ex.load3c ti29 rfl rfl (by first | exact obT rfl | exact Rd.imm ‹_› | exact slT ‹_›) (by first | exact obT rfl | exact Rd.imm ‹_› | exact slT ‹_›) (by first | exact obT rfl | exact Rd.imm ‹_› | exact slT ‹_›)) hS.rd ?_
        refine LW.ex rfl rfl rfl rfl (Ex.move rfl) hS.rd ?_
        refine LW.hv rfl rfl rfl rfl (Hv.callS hS rfl rfl rfl cb31 (acc_c s i (by omega) _ _ μ2 _ hS.imm h0)) fun v w48 ⟨hv, hS⟩ => ?_
        subst hv
        refine LW.splitB (fun h9_4 => ?_) (fun h9_4 => ?_)
        · skip
          refine LW.ex rfl rfl rfl rfl (by first | exact Ex.pick_yes rfl rfl | exact Ex.pick_no rfl rfl) hS.rd ?_
          refine LW.ex rfl rfl rfl rfl (Ex.move rfl) hS.rd ?_
          refine LW.ex rfl rfl rfl rfl (Ex.move rfl) hS.rd ?_
          refine LW.ex rfl rfl rfl rfl (Ex.lss rfl rfl rfl) hS.rd ?_
          refine LW.splitB (fun h9_8 => ?_) (fun h9_8 => ?_)
          · have h9_8 := of_decide_eq_true h9_8
            refine LW.ex rfl rfl rfl rfl (Ex.move rfl) hS.rd ?_
            refine LW.skip rfl rfl rfl rfl ?_
            refine LW.skip rfl rfl rfl rfl ?_
            refine LW.skip rfl rfl rfl rfl ?_
            refine LW.ex rfl rfl rfl rfl (by first | exact Ex.pick_yes rfl rfl | exact Ex.pick_no rfl rfl) hS.rd ?_
            refine LW.ex rfl rfl rfl rfl (by first | exact Ex.pick_yes rfl rfl | exact Ex.pick_no rfl rfl) hS.rd ?_
            refine LW.nil fun aa ha => hK13 _ _ _ ?_ aa ha
            refine CW.yes rfl ?_
            refine CW.region [0, 1] rfl ?_
            refine LW.ex rfl rfl rfl rfl (Ex.move rfl) hS.rd ?_
            refine LW.ex rfl rfl rfl rfl (Ex.assign rfl) hS.rd ?_
            refine LW.nil fun aa ha => hK10 _ _ _ ?_ aa ha
            refine CW.region [0, 1] rfl ?_
            refine LW.ex rfl rfl rfl rfl (Ex.add rfl rfl (by first | exact inc64 (by omega) | exact addN (by omega) | exact w64 (by omega) (by omega))) hS.rd ?_
            refine LW.ex rfl rfl rfl rfl (Ex.move rfl) hS.rd ?_
            refine LW.nil fun aa ha => ?_
            refine ⟨_, _, ?m6, ⟨i + 1, (aget (ms inp.size) (keyP ⟨i, hi8⟩ out.size (by omega))).getD 0, (by first | omega | (simp; done) | (simp; omega)), rfl, rfl, hS, by exact CI.putG hC hi8 (by omega) ‹_› ‹_› (fun c h => ((hW2.snd _ _ _ h).cost (takesP hok hf inp out)).2.1) (by omega)⟩, ha.sub ⟨rfl, rfl, rfl, rfl, rfl, rfl, rfl, trivial⟩⟩
            case m6 => omega
          · have h9_8 := of_decide_eq_false h9_8
            refine LW.ex rfl rfl rfl rfl (Ex.move rfl) hS.rd ?_
            refine LW.ex rfl rfl rfl rfl (Ex.move rfl) hS.rd ?_
            refine LW.ex rfl rfl rfl rfl (Ex.move rfl) hS.rd ?_
            refine LW.ex rfl rfl rfl rfl (Ex.lss rfl rfl rfl) hS.rd ?_
            refine LW.splitB (fun h9_12 => ?_) (fun h9_12 => ?_)
            · have h9_12 := of_decide_eq_true h9_12
              refine LW.ex rfl rfl rfl rfl (by first | exact Ex.pick_yes rfl rfl | exact Ex.pick_no rfl rfl) hS.rd ?_
              refine LW.ex rfl rfl rfl rfl (by first | exact Ex.pick_yes rfl rfl | exact Ex.pick_no rfl rfl) hS.rd ?_
              refine LW.nil fun aa ha => hK13 _ _ _ ?_ aa ha
              refine CW.yes rfl ?_
              refine CW.region [0, 1] rfl ?_
              refine LW.ex rfl rfl rfl rfl (Ex.move rfl) hS.rd ?_
              refine LW.ex rfl rfl rfl rfl (Ex.assign rfl) hS.rd ?_
              refine LW.nil fun aa ha => hK10 _ _ _ ?_ aa ha
              refine CW.region [0, 1] rfl ?_
              refine LW.ex rfl rfl rfl rfl (Ex.add rfl rfl (by first | exact inc64 (by omega) | exact addN (by omega) | exact w64 (by omega) (by omega))) hS.rd ?_
              refine LW.ex rfl rfl rfl rfl (Ex.move rfl) hS.rd ?_
              refine LW.nil fun aa ha => ?_
              refine ⟨_, _, ?m6, ⟨i + 1, (aget (ms inp.size) (keyP ⟨i, hi8⟩ out.size (by omega))).getD 0, (by first | omega | (simp; done) | (simp; omega)), rfl, rfl, hS, by exact CI.putG hC hi8 (by omega) ‹_› ‹_› (fun c h => ((hW2.snd _ _ _ h).cost (takesP hok hf inp out)).2.1) (by omega)⟩, ha.sub ⟨rfl, rfl, rfl, rfl, rfl, rfl, rfl, trivial⟩⟩
              case m6 => omega
            · have h9_12 := of_decide_eq_false h9_12
              refine LW.ex rfl rfl rfl rfl (by first | exact Ex.pick_yes rfl rfl | exact Ex.pick_no rfl rfl) hS.rd ?_
              refine LW.ex rfl rfl rfl rfl (by first | exact Ex.pick_yes rfl rfl | exact Ex.pick_no rfl rfl) hS.rd ?_
              refine LW.nil fun aa ha => hK13 _ _ _ ?_ aa ha
              refine CW.no rfl ?_
              refine CW.skip fun aa ha => hK10 _ _ _ ?_ aa ha
              refine CW.region [0, 1] rfl ?_
              refine LW.ex rfl rfl rfl rfl (Ex.add rfl rfl (by first | exact inc64 (by omega) | exact addN (by omega) | exact w64 (by omega) (by omega))) hS.rd ?_
              refine LW.ex rfl rfl rfl rfl (Ex.move rfl) hS.rd ?_
              refine LW.nil fun aa ha => ?_
              refine ⟨_, _, ?m6, ⟨i + 1, z, (by first | omega | (simp; done) | (simp; omega)), rfl, rfl, hS, by exact hC.skip hi8 (by omega) (fun c h1 h2 => by first | (simp_all; done) | (simp_all; omega))⟩, ha.sub ⟨rfl, rfl, rfl, rfl, rfl, rfl, rfl, trivial⟩⟩
              case m6 => omega
        · skip
          refine LW.ex rfl rfl rfl rfl (by first | exact Ex.pick_yes rfl rfl | exact Ex.pick_no rfl rfl) hS.rd ?_
          refine LW.ex rfl rfl rfl rfl (Ex.move rfl) hS.rd ?_
          refine LW.skip rfl rfl rfl rfl ?_
          refine LW.skip rfl rfl rfl rfl ?_
          refine LW.skip rfl rfl rfl rfl ?_
          refine LW.skip rfl rfl rfl rfl ?_
          refine LW.skip rfl rfl rfl rfl ?_
          refine LW.skip rfl rfl rfl rfl ?_
          refine LW.skip rfl rfl rfl rfl ?_
          refine LW.ex rfl rfl rfl rfl (by first | exact Ex.pick_yes rfl rfl | exact Ex.pick_no rfl rfl) hS.rd ?_
          refine LW.nil fun aa ha => hK13 _ _ _ ?_ aa ha
          refine CW.no rfl ?_
          refine CW.skip fun aa ha => hK10 _ _ _ ?_ aa ha
          refine CW.region [0, 1] rfl ?_
          refine LW.ex rfl rfl rfl rfl (Ex.add rfl rfl (by first | exact inc64 (by omega) | exact addN (by omega) | exact w64 (by omega) (by omega))) hS.rd ?_
          refine LW.ex rfl rfl rfl rfl (Ex.move rfl) hS.rd ?_
          refine LW.nil fun aa ha => ?_
          refine ⟨_, _, ?m6, ⟨i + 1, z, (by first | omega | (simp; done) | (simp; omega)), rfl, rfl, hS, by exact hC.skip hi8 (by omega) (fun c h1 h2 => by first | (simp_all; done) | (simp_all; omega))⟩, ha.sub ⟨rfl, rfl, rfl, rfl, rfl, rfl, rfl, trivial⟩⟩
          case m6 => omega
      · skip
        refine PW.ex rfl rfl rfl rfl (Ex.assign rfl) ?_
        refine PW.ex rfl rfl rfl rfl (Ex.assign rfl) ?_
        refine PW.nil ?_
        refine LW.nil fun aa ha => hK12 _ _ _ ?_ aa ha
        refine CW.seq fun K14 hK14 => ?_
        refine CW.region [0, 1, 2, 3, 4, 5, 6, 7, 8, 9, 10, 11, 12, 13, 14] rfl ?_
        refine LW.ex rfl rfl rfl rfl (Ex.move rfl) hS.rd ?_
        refine LW.ex rfl rfl rfl rfl (Ex.move rfl) hS.rd ?_
        refine LW.skip rfl rfl rfl rfl ?_
        refine LW.skip rfl rfl rfl rfl ?_
        refine LW.skip rfl rfl rfl rfl ?_
        refine LW.ex rfl rfl rfl rfl (by first | exact Ex.pick_yes rfl rfl | exact Ex.pick_no rfl rfl) hS.rd ?_
        refine LW.ex rfl rfl rfl rfl (Ex.move rfl) hS.rd ?_
        refine LW.skip rfl rfl rfl rfl ?_
        refine LW.skip rfl rfl rfl rfl ?_
        refine LW.skip rfl rfl rfl rfl ?_
        refine LW.skip rfl rfl rfl rfl ?_
        refine LW.skip rfl rfl rfl rfl ?_
        refine LW.skip rfl rfl rfl rfl ?_
        refine LW.skip rfl rfl rfl rfl ?_
        refine LW.ex rfl rfl rfl rfl (by first | exact Ex.pick_yes rfl rfl | exact Ex.pick_no rfl rfl) hS.rd ?_
        refine LW.nil fun aa ha => hK14 _ _ _ ?_ aa ha
        refine CW.no rfl ?_
        refine CW.skip fun aa ha => hK10 _ _ _ ?_ aa ha
        refine CW.region [0, 1] rfl ?_
        refine LW.ex rfl rfl rfl rfl (Ex.add rfl rfl (by first | exact inc64 (by omega) | exact addN (by omega) | exact w64 (by omega) (by omega))) hS.rd ?_
        refine LW.ex rfl rfl rfl rfl (Ex.move rfl) hS.rd ?_
        refine LW.nil fun aa ha => ?_
        refine ⟨_, _, ?m6, ⟨i + 1, z, (by first | omega | (simp; done) | (simp; omega)), rfl, rfl, hS, by exact hC.skip hi8 (by omega) (fun c h1 h2 => by first | (simp_all; done) | (simp_all; omega))⟩, ha.sub ⟨rfl, rfl, rfl, rfl, rfl, rfl, rfl, trivial⟩⟩
        case m6 => omega
    · have h6_0 := of_decide_eq_false h6_0
      refine LW.nil fun aa ha => hK8 _ _ _ ?_ aa ha
      refine CW.seq fun K15 hK15 => ?_
      refine CW.no rfl ?_
      refine CW.exit fun aa ha => hK6 _ _ _ ?_ aa ha
      refine CW.seq fun K16 hK16 => ?_
      refine CW.region [0, 1] rfl ?_
      refine LW.ex rfl rfl rfl rfl (Ex.move rfl) hS.rd ?_
      refine LW.ex rfl rfl rfl rfl (Ex.assign rfl) hS.rd ?_
      refine LW.nil fun aa ha => hK16 _ _ _ ?_ aa ha
      refine CW.ret fun aa ha => ?_
      refine ret_one ha Try.results12 rfl ?_
      exact ⟨_, μ2, rfl, hS.below, hmm, hS.imm, z, rfl, CI.cost hok hf (by omega) hgood hW2 (i := i) (by omega) hC⟩
  · skip
    refine LW.ex rfl rfl rfl rfl (Ex.not rfl rfl) hS.rd ?_
    refine LW.nil fun aa ha => hK3 _ _ _ ?_ aa ha
    refine CW.yes rfl ?_
    refine CW.seq fun K17 hK17 => ?_
    refine CW.region [0] rfl ?_
    refine LW.ex rfl rfl rfl rfl (Ex.assign rfl) hS.rd ?_
    refine LW.nil fun aa ha => hK17 _ _ _ ?_ aa ha
    refine CW.ret fun aa ha => ?_
    refine ret_one ha Try.results12 rfl ?_
    exact ⟨_, μ, rfl, hS.below, Mem.ext.refl _ _, hS.imm, -1, rfl, .inl ⟨by assumption, rfl⟩⟩
end Go.Proofs.Ytgbdfgifgngijaa
